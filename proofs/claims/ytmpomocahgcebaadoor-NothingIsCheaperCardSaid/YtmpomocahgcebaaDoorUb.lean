/- The price of a piece, as the reference has it. -/
import Derived.Test.YtmpomocahgcebaaDoorUa
import Derived.Test.YtmpomocahgcebaaDoorTn
namespace Go.Proofs.YtmpomocahgcebaaDoor
open Go.RowKit

set_option maxRecDepth 100000 in
/-- Rates of different first days differ. -/
theorem diff_rate (x0 y0 : ByteArray) (x1 x2 x3 x4 x5 x6 y1 y2 y3 y4 y5 y6 : Int) (hne : x1 ≠ y1) (w : World) : (binOp .eql 61 (.agg #[.string x0, .int .i64 x1, .int .i64 x2, .int .i64 x3, .int .i64 x4, .int .i64 x5, .int .i64 x6]) (.agg #[.string y0, .int .i64 y1, .int .i64 y2, .int .i64 y3, .int .i64 y4, .int .i64 y5, .int .i64 y6])).run Tryd.prog w = .ok (.bool false) w := by
  have hS : Tryd.prog.underlying 61 = some (.struct (Tryd.prog.fieldsOf 61)) := by kernel_rfl
  have hp : Tryd.prog.stoodInHeld 61 = false := by kernel_rfl
  rw [run_eql_struct, show (10000 : Nat) = 9999 + 1 from rfl, run_equalIn_agg w 9999 61 _ _ hS hp]
  simp only [Program.fieldsOf, Tryd.underlying61]
  have u3 := Tryd.underlying3
  have u9 := Tryd.underlying9
  clear hS hp
  go_simp
/-- Two seasons of one class are the same rate if they lie at one place. -/
theorem rate_same {l : List Rt} {c : ByteArray} {d e : Int} {j k : Nat} {x y : Rt} (h0 : ratesE l = 0) (hj : l[j]? = some x) (hk : l[k]? = some y) (hx : rateP c d x = true) (hy : rateP c e y = true) : j = k ∨ x.fr ≠ y.fr := by
  by_cases h : j = k
  · exact .inl h
  · refine .inr fun e1 => ?_
    have hp := (ratesE_ok h0).2.1
    obtain ⟨hj1, rfl⟩ := List.getElem?_eq_some_iff.1 hj
    obtain ⟨hk1, rfl⟩ := List.getElem?_eq_some_iff.1 hk
    have ec : l[j].cls.toList = l[k].cls.toList := by
      unfold rateP at hx hy
      simp only [Bool.and_eq_true, beq_iff_eq] at hx hy
      rw [hx.1, hy.1]
    have no : ∀ a b : Rt, a.cls.toList = b.cls.toList → a.fr = b.fr → rtLt a b = false := fun a b e2 e3 => by
      unfold rtLt ltS eqS
      rw [e2, e3, bl_irrefl]; simp
    rcases Nat.lt_or_gt_of_ne h with hlt | hlt
    · have := List.pairwise_iff_getElem.1 hp j k hj1 hk1 hlt
      rw [no _ _ ec e1] at this; cases this
    · have := List.pairwise_iff_getElem.1 hp k j hk1 hj1 hlt
      rw [no _ _ ec.symm e1.symm] at this; cases this

theorem mul_small {a : Int} {k : Nat} (h1 : -1 ≤ a) (h2 : a ≤ 1000000) (h3 : k ≤ 24) : -24 ≤ a * ((k : Nat) : Int) ∧ a * ((k : Nat) : Int) ≤ 24000000 := by
  by_cases h : 0 ≤ a
  · have h4 := Int.mul_nonneg h (show 0 ≤ (k : Int) by omega)
    have h5 := Int.mul_le_mul h2 (show (k : Int) ≤ 24 by omega) (by omega) (by omega)
    omega
  · have e : a = -1 := by omega
    subst e
    omega

set_option maxRecDepth 100000 in
set_option maxHeartbeats 2000000 in
theorem rprice_any (l : List Rt) (A : Option Addr) (n c0 : Nat) (c : ByteArray) (fr tt : Int) (D : Nat) (kd : Int) (i : Nat) (mv pc : Int) (w : World) (hl : SlT rtEnc 7 61 w A n l) (hn : n ≤ 1000000) (hr0 : ratesE l = 0) (h0 : 0 ≤ fr) (h00 : fr ≤ 5761439) (ht1 : tt ≤ 5761439) (hi : i ≤ 200) (hD : D ≤ 120) (hm1 : -1000000000 ≤ mv) (hm2 : mv ≤ 1000000000) (hto : ∀ j, j < D → begV fr j < tt) :
    Calls Tryd.prog 114 #[.agg #[.slice A n c0, .string c, .int .i64 fr, .int .i64 tt, .int .i64 ((D : Nat) : Int)], .int .i64 ((i : Nat) : Int), .agg #[.int .i64 kd, .int .i64 mv, .int .i64 pc]] w (fun e w' => ∃ v : Int, e = .returned (.tuple #[.int .i64 v, .bool (priceO l (seasons l c fr D) fr tt kd i mv).isSome]) ∧ (∀ v0, priceO l (seasons l c fr D) fr tt kd i mv = some v0 → v = v0) ∧ w.grownBy w' none) := by
  refine gw_enter ⟨169, w, none, []⟩ Tryd.func114 rfl Tryd.ntmps114 rfl (mem0 (X := [SlOld rtEnc 7 61 w.heap.size none A n l]) (allF_cons hl.old allF_nil) (allL_cons SlOld.lasts allL_nil)) ?_
  refine gw_seq ?_
  refine gw_region ?_
  have hlen := hl.len
  have hpos := rt_pos hr0
  obtain ⟨SB, hSB⟩ : ∃ B, B = seaB l c fr D i := ⟨_, rfl⟩
  obtain ⟨SR, hSR⟩ : ∃ R, R = seaR l c fr D i := ⟨_, rfl⟩
  obtain ⟨cl, rf, rt, ho, dd, we, wk⟩ := SR
  refine wl_box rfl rfl rfl fun g1 => ?_
  refine wl_box rfl rfl rfl fun g2 => ?_
  refine wl_ov (ov_assign rfl) rfl ?_
  refine wl_ov (ov_assign rfl) rfl ?_
  refine wl_nil ?_
  refine nx_then ?_
  refine gw_seq ?_
  refine gw_region ?_
  refine wl_ov (ov_loads rz170 rfl (fun _ hm => hm.blkI 1 rfl) rfl rfl) rfl ?_
  refine wl_ov (ov_move rfl) rfl ?_
  refine wl_callv (v := .tuple #[.agg #[.string cl, .int .i64 rf, .int .i64 rt, .int .i64 ho, .int .i64 dd, .int .i64 we, .int .i64 wk], .bool SB]) rfl cb119 rfl rfl (fun wx hm => (by have h := season_any l A n c0 c fr tt D i wx (hm.fact 0 rfl).1 hn hpos h0 h00 (by omega) (by omega); rw [← hSB, ← hSR] at h; exact h)) ?_
  refine wl_ov (ov_move rfl) rfl ?_
  refine wl_ov (ov_extract rfl rfl) rfl ?_
  refine wl_ov (ov_extract rfl rfl) rfl ?_
  refine wl_alloc zc61 rfl fun g3 => ?_
  refine wl_stores (cs' := [.string cl, .int .i64 rf, .int .i64 rt, .int .i64 ho, .int .i64 dd, .int .i64 we, .int .i64 wk]) 0 rz61 rfl rfl rfl rfl rfl rfl rfl rfl ?_
  refine wl_ov (ov_assign rfl) rfl ?_
  refine wl_nil ?_
  refine nx_then ?_
  refine gw_seq ?_
  refine gw_region ?_
  refine wl_ov (ov_move rfl) rfl ?_
  refine wl_ov (ov_field fo79_1 rfl rfl) rfl ?_
  refine wl_ov (ov_load sc3 rfl (fun _ hm => hm.blkI 1 rfl) rfl) rfl ?_
  refine wl_ov (ov_add rfl rfl (by omega) (by omega)) rfl ?_
  refine wl_ov (ov_sub rfl rfl (by omega) (by omega)) rfl ?_
  refine wl_ov (ov_assign rfl) rfl ?_
  refine wl_nil ?_
  refine nx_then ?_
  refine gw_seq ?_
  refine gw_seq ?_
  refine gw_region ?_
  refine wl_ov (ov_move rfl) rfl ?_
  refine wl_ov (ov_un_not rfl) rfl ?_
  refine wl_ov (ov_move rfl) rfl ?_
  rcases Bool.eq_false_or_eq_true (!SB) with hb | hb
  · refine wl_set 35 rfl (congrArg Value.bool hb) ?_
    refine wl_guard_off rfl rfl rfl (by decide) rfl ?_
    refine wl_guard_off rfl rfl rfl (by decide) rfl ?_
    refine wl_guard_off rfl rfl rfl (by decide) rfl ?_
    refine wl_ov (ov_pick_t rfl rfl) rfl ?_
    refine wl_ov (ov_move rfl) rfl ?_
    refine wl_guard_off rfl rfl rfl (by decide) rfl ?_
    refine wl_guard_off rfl rfl rfl (by decide) rfl ?_
    refine wl_guard_off rfl rfl rfl (by decide) rfl ?_
    refine wl_guard_off rfl rfl rfl (by decide) rfl ?_
    refine wl_ov (ov_pick_t rfl rfl) rfl ?_
    refine wl_nil ?_
    refine nx_then ?_
    refine gw_cond rfl (fun _ => ?_) (fun hh => by cases hh)
    refine gw_seq ?_
    refine gw_region ?_
    refine wl_ov (ov_assign rfl) rfl ?_
    refine wl_ov (ov_assign rfl) rfl ?_
    refine wl_nil ?_
    refine nx_then ?_
    refine gw_ret ?_
    refine nx_then_ret ?_
    refine nx_ret2 rfl rfl rfl fun wx hm => ?_
    have hP : priceO l (seasons l c fr D) fr tt kd i mv = none := by
      have hb : seaB l c fr D i = false := by rw [← hSB]; simpa using hb
      by_cases hm1 : mv < 1
      · exact price_no (.inl hm1)
      · by_cases hi : i < D
        · exact price_no (.inr (.inr (sea_take (j := 0) (seaB_no hb hi) (by omega) hi)))
        · exact price_no (.inr (.inl (by rw [seasons_len]; omega)))
    exact ⟨0, by rw [hP]; rfl, fun v0 h => (by rw [hP] at h; cases h), hm.g⟩
  · refine wl_set 35 rfl (congrArg Value.bool hb) ?_
    have hb : seaB l c fr D i = true := by rw [← hSB]; simpa using hb
    obtain ⟨hiD, k0, y, hk0, hy, hyp, hyR⟩ := seaB_yes hb
    rw [← hSR] at hyR
    subst hyR
    refine wl_guard_on rfl rfl rfl ?_
    refine wl_ov (ov_field fo79_1 rfl rfl) rfl ?_
    refine wl_guard_on rfl rfl rfl ?_
    refine wl_ov (ov_load sc3 rfl (fun _ hm => hm.blkI 1 rfl) rfl) rfl ?_
    refine wl_guard_on rfl rfl rfl ?_
    refine wl_ov (ov_lss rfl rfl) rfl ?_
    refine wl_ov (ov_pick_f rfl rfl) rfl ?_
    refine wl_ov (ov_move rfl) rfl ?_
    rcases Bool.eq_false_or_eq_true (decide (mv < 1)) with h1 | h1
    · refine wl_set 40 rfl (congrArg Value.bool h1) ?_
      refine wl_guard_off rfl rfl rfl (by decide) rfl ?_
      refine wl_guard_off rfl rfl rfl (by decide) rfl ?_
      refine wl_guard_off rfl rfl rfl (by decide) rfl ?_
      refine wl_guard_off rfl rfl rfl (by decide) rfl ?_
      refine wl_ov (ov_pick_t rfl rfl) rfl ?_
      refine wl_nil ?_
      refine nx_then ?_
      refine gw_cond rfl (fun _ => ?_) (fun hh => by cases hh)
      refine gw_seq ?_
      refine gw_region ?_
      refine wl_ov (ov_assign rfl) rfl ?_
      refine wl_ov (ov_assign rfl) rfl ?_
      refine wl_nil ?_
      refine nx_then ?_
      refine gw_ret ?_
      refine nx_then_ret ?_
      refine nx_ret2 rfl rfl rfl fun wx hm => ?_
      have hP : priceO l (seasons l c fr D) fr tt kd i mv = none := price_no (.inl (of_decide_eq_true h1))
      exact ⟨0, by rw [hP]; rfl, fun v0 h => (by rw [hP] at h; cases h), hm.g⟩
    · refine wl_set 40 rfl (congrArg Value.bool h1) ?_
      have h1 := of_decide_eq_false h1
      obtain ⟨mm, hmm⟩ := Int.eq_ofNat_of_zero_le (show 0 ≤ mv by omega)
      subst hmm
      have hm1 : 0 < mm := by omega
      refine wl_guard_on rfl rfl rfl ?_
      refine wl_ov (ov_move rfl) rfl ?_
      refine wl_guard_on rfl rfl rfl ?_
      refine wl_ov (ov_field fo170_3 rfl rfl) rfl ?_
      refine wl_guard_on rfl rfl rfl ?_
      refine wl_ov (ov_load sc3 rfl (fun _ hm => hm.blkI 2 rfl) rfl) rfl ?_
      refine wl_guard_on rfl rfl rfl ?_
      refine wl_ov (ov_geq rfl rfl) rfl ?_
      refine wl_ov (ov_pick_f rfl rfl) rfl ?_
      refine wl_nil ?_
      refine nx_then ?_
      refine gw_cond rfl (fun hh => ?_) (fun hh => ?_)
      · have h2 : ((D : Nat) : Int) ≤ (((i : Nat) : Int) + ((mm : Nat) : Int)) - 1 := by simpa using hh
        clear hh
        refine gw_seq ?_
        refine gw_region ?_
        refine wl_ov (ov_assign rfl) rfl ?_
        refine wl_ov (ov_assign rfl) rfl ?_
        refine wl_nil ?_
        refine nx_then ?_
        refine gw_ret ?_
        refine nx_then_ret ?_
        refine nx_ret2 rfl rfl rfl fun wx hm => ?_
        have hP : priceO l (seasons l c fr D) fr tt kd i ((mm : Nat) : Int) = none := price_no (.inr (.inl (by rw [seasons_len]; omega)))
        exact ⟨0, by rw [hP]; rfl, fun v0 h => (by rw [hP] at h; cases h), hm.g⟩
      · have h2 : ¬ (((D : Nat) : Int) ≤ (((i : Nat) : Int) + ((mm : Nat) : Int)) - 1) := by simpa using hh
        clear hh
        refine gw_skip ?_
        refine nx_then ?_
        refine gw_seq ?_
        refine gw_seq ?_
        refine gw_region ?_
        have himm : i + mm ≤ D := by omega
        refine wl_ov (ov_move rfl) rfl ?_
        refine wl_ov (ov_assign rfl) rfl ?_
        refine wl_nil ?_
        refine nx_then ?_
        refine gw_block ?_
        refine gw_set 10 (v' := .int .i64 (((i + mm : Nat) : Int) - 1)) rfl (congrArg (Value.int .i64) (by omega)) ?_
        refine gw_loop (γ := Nat) (fun (k : Nat) => k ≤ mm ∧ ∀ j, j < k → 0 ≤ seaV l c fr (i + j)) (fun (k : Nat) => [(1, .int .i64 ((i : Nat) : Int)), (3, .pointer (some ⟨g1, 0, none⟩)), (5, .pointer (some ⟨g2, 0, none⟩)), (8, .pointer (some ⟨g3, 0, none⟩)), (10, .int .i64 (((i + mm : Nat) : Int) - 1)), (11, .int .i64 ((i + k : Nat) : Int))]) (fun (k : Nat) => fun _ => True) (fun (k : Nat) => [(g3, 61, [.string cl, .int .i64 rf, .int .i64 rt, .int .i64 ho, .int .i64 dd, .int .i64 we, .int .i64 wk]), (g2, 79, [.int .i64 kd, .int .i64 ((mm : Nat) : Int), .int .i64 pc]), (g1, 170, [.slice A n c0, .string c, .int .i64 fr, .int .i64 tt, .int .i64 ((D : Nat) : Int)])]) (fun (k : Nat) => []) (fun (k : Nat) => [SlOld rtEnc 7 61 w.heap.size none A n l]) (fun (k : Nat) => mm - k) 0 ⟨Nat.zero_le _, fun j h => absurd h (by omega)⟩ ⟨rfl, rfl, rfl, rfl, rfl, rfl, trivial⟩ (fun _ hm => hm.pick [0, 1, 2] [] [0] rfl rfl) ?_
        intro k hinv
        replace hinv : k ≤ mm ∧ ∀ j, j < k → 0 ≤ seaV l c fr (i + j) := hinv
        refine gw_seq ?_
        refine gw_seq ?_
        refine gw_region ?_
        refine wl_ov (ov_move rfl) rfl ?_
        refine wl_ov (ov_move rfl) rfl ?_
        refine wl_ov (ov_leq rfl rfl) rfl ?_
        refine wl_nil ?_
        refine nx_then ?_
        refine gw_cond rfl (fun hh => ?_) (fun hh => ?_)
        · have hk : ((i + k : Nat) : Int) ≤ ((i + mm : Nat) : Int) - 1 := by simpa using hh
          clear hh
          refine gw_skip ?_
          refine nx_then ?_
          refine gw_seq ?_
          refine gw_block ?_
          refine gw_seq ?_
          refine gw_region ?_
          have hkm : k < mm := by omega
          obtain ⟨SB2, hSB2⟩ : ∃ B, B = seaB l c fr D (i + k) := ⟨_, rfl⟩
          obtain ⟨SR2, hSR2⟩ : ∃ R, R = seaR l c fr D (i + k) := ⟨_, rfl⟩
          obtain ⟨z0, z1, z2, z3, z4, z5, z6⟩ := SR2
          refine wl_ov (ov_loads rz170 rfl (fun _ hm => hm.blkI 2 rfl) rfl rfl) rfl ?_
          refine wl_ov (ov_move rfl) rfl ?_
          refine wl_callv (v := .tuple #[.agg #[.string z0, .int .i64 z1, .int .i64 z2, .int .i64 z3, .int .i64 z4, .int .i64 z5, .int .i64 z6], .bool SB2]) rfl cb119 rfl rfl (fun wx hm => (by have h := season_any l A n c0 c fr tt D (i + k) wx (hm.fact 0 rfl).1 hn hpos h0 h00 (by omega) (by omega); rw [← hSB2, ← hSR2] at h; exact h)) ?_
          refine wl_ov (ov_move rfl) rfl ?_
          refine wl_ov (ov_extract rfl rfl) rfl ?_
          refine wl_ov (ov_extract rfl rfl) rfl ?_
          refine wl_alloc zc61 rfl fun g4 => ?_
          refine wl_stores (cs' := [.string z0, .int .i64 z1, .int .i64 z2, .int .i64 z3, .int .i64 z4, .int .i64 z5, .int .i64 z6]) 0 rz61 rfl rfl rfl rfl rfl rfl rfl rfl ?_
          refine wl_ov (ov_assign rfl) rfl ?_
          refine wl_nil ?_
          refine nx_then ?_
          refine gw_seq ?_
          refine gw_region ?_
          refine wl_ov (ov_move rfl) rfl ?_
          refine wl_ov (ov_un_not rfl) rfl ?_
          refine wl_nil ?_
          refine nx_then ?_
          refine gw_cond rfl (fun hh => ?_) (fun hh => ?_)
          · have hs : SB2 = false := by simpa using hh
            clear hh
            refine gw_seq ?_
            refine gw_region ?_
            refine wl_ov (ov_assign rfl) rfl ?_
            refine wl_ov (ov_assign rfl) rfl ?_
            refine wl_nil ?_
            refine nx_then ?_
            refine gw_ret ?_
            refine nx_blk_ret ?_
            refine nx_then_ret ?_
            refine nx_then_ret ?_
            refine nx_blk_ret ?_
            refine nx_then_ret ?_
            refine nx_ret2 rfl rfl rfl fun wx hm => ?_
            have hP : priceO l (seasons l c fr D) fr tt kd i ((mm : Nat) : Int) = none := price_no (.inr (.inr (by rw [Int.toNat_natCast]; exact sea_take (seaB_no (by rw [← hSB2]; simpa using hs) (by omega)) hkm (by omega))))
            exact ⟨0, by rw [hP]; rfl, fun v0 h => (by rw [hP] at h; cases h), hm.g⟩
          · have hs : SB2 = true := by simpa using hh
            clear hh
            refine gw_skip ?_
            refine nx_blk_nrm ?_
            refine nx_then ?_
            refine gw_region ?_
            have hsk := (of_decide_eq_true (show seaB l c fr D (i + k) = true by rw [← hSB2]; simpa using hs)).2
            refine wl_ov (ov_move rfl) rfl ?_
            refine wl_ov (ov_add rfl rfl (by omega) (by omega)) rfl ?_
            refine wl_ov (ov_assign rfl) rfl ?_
            refine wl_nil ?_
            exact nx_round (k + 1) ⟨by omega, fun j hj => by
              by_cases e : j = k
              · rw [e]; exact hsk
              · exact hinv.2 j (by omega)⟩ (by omega) ⟨rfl, rfl, rfl, rfl, rfl, (some_int (by omega)), trivial⟩ (fun _ hm => hm.pick [1, 2, 3] [] [0] rfl rfl)
        · have hk : ¬ (((i + k : Nat) : Int) ≤ ((i + mm : Nat) : Int) - 1) := by simpa using hh
          clear hh
          refine gw_exit ?_
          refine nx_then_exit ?_
          refine nx_then_exit ?_
          refine nx_blk_here ?_
          refine nx_then ?_
          refine gw_seq ?_
          refine gw_seq ?_
          refine gw_region ?_
          have hall : ∀ j, j < mm → 0 ≤ seaV l c fr (i + j) := fun j hj => hinv.2 j (by omega)
          have hno := sea_none (l := l) (c := c) (fr := fr) (D := D) hall
          have hbad : ¬ (((mm : Nat) : Int) < 1 ∨ ((seasons l c fr D).length : Int) - (i : Int) < ((mm : Nat) : Int) ∨ (-1 : Int) ∈ ((seasons l c fr D).drop i).take (((mm : Nat) : Int)).toNat) := by
            rw [Int.toNat_natCast, seasons_len]
            rintro (h | h | h)
            · omega
            · omega
            · exact hno h
          have hgi : (seasons l c fr D)[i]? = some ((k0 : Nat) : Int) := by rw [seasons_get hiD, hk0]
          have hgo := price_go (fr := fr) (to_ := tt) (kind := kd) hbad hgi (by rw [Int.toNat_natCast]; exact hy)
          obtain ⟨⟨q1, q2⟩, ⟨q3, q4⟩, ⟨q5, q6⟩, ⟨q7, q8⟩⟩ := rate_ok hr0 _ (List.mem_of_getElem? hy)
          dsimp only at q1 q2 q3 q4 q5 q6 q7 q8
          clear hinv hk
          refine wl_ov (ov_field fo79_0 rfl rfl) rfl ?_
          refine wl_ov (ov_load sc3 rfl (fun _ hm => hm.blkI 1 rfl) rfl) rfl ?_
          refine wl_nil ?_
          refine nx_then ?_
          refine gw_block ?_
          refine gw_seq ?_
          refine gw_region ?_
          refine wl_ov (ov_eql rfl rfl) rfl ?_
          refine wl_ov (ov_assign rfl) rfl ?_
          refine wl_nil ?_
          refine nx_then ?_
          refine gw_cond rfl (fun hh => ?_) (fun hh => ?_)
          · have hkd : kd = 1 := by simpa using hh
            clear hh
            refine gw_seq ?_
            refine gw_region ?_
            obtain ⟨E, hE⟩ : ∃ E, E = endV fr tt i := ⟨_, rfl⟩
            obtain ⟨G, hG⟩ : ∃ E, E = begV fr i := ⟨_, rfl⟩
            have hEG : 0 < E - G ∧ E - G ≤ 1440 := by have hto2 := hto i hiD; rw [hE, hG]; unfold endV; unfold begV at hto2 ⊢; omega
            have hG0 : 0 ≤ G := by rw [hG]; unfold begV; omega
            have hE0 : E ≤ 10000000 := by rw [hE]; unfold endV; omega
            have hEG0 := hEG.1
            have hEG1 := hEG.2
            obtain ⟨HN, hHN⟩ := Int.eq_ofNat_of_zero_le (show 0 ≤ (E - G + 59) / 60 by omega)
            have hHN2 : HN ≤ 24 := by omega
            refine wl_ov (ov_assign rfl) rfl ?_
            refine wl_nil ?_
            refine nx_then ?_
            refine gw_seq ?_
            refine gw_seq ?_
            refine gw_region ?_
            refine wl_ov (ov_loads rz170 rfl (fun _ hm => hm.blkI 2 rfl) rfl rfl) rfl ?_
            refine wl_ov (ov_move rfl) rfl ?_
            refine wl_callv (v := .int .i64 G) rfl cb155 rfl rfl (fun wx hm => (by rw [hG]; exact rbegin_any A n c0 c fr tt D i wx h0 h00 (by omega))) ?_
            refine wl_ov (ov_assign rfl) rfl ?_
            refine wl_nil ?_
            refine nx_then ?_
            refine gw_block ?_
            refine gw_loop (γ := Nat) (fun (k : Nat) => k ≤ HN) (fun (k : Nat) => [(1, .int .i64 ((i : Nat) : Int)), (3, .pointer (some ⟨g1, 0, none⟩)), (5, .pointer (some ⟨g2, 0, none⟩)), (8, .pointer (some ⟨g3, 0, none⟩)), (14, .int .i64 ((k : Nat) : Int)), (15, .int .i64 (G + ((k : Nat) : Int) * 60))]) (fun (k : Nat) => fun _ => True) (fun (k : Nat) => [(g3, 61, [.string cl, .int .i64 rf, .int .i64 rt, .int .i64 ho, .int .i64 dd, .int .i64 we, .int .i64 wk]), (g2, 79, [.int .i64 kd, .int .i64 ((mm : Nat) : Int), .int .i64 pc]), (g1, 170, [.slice A n c0, .string c, .int .i64 fr, .int .i64 tt, .int .i64 ((D : Nat) : Int)])]) (fun (k : Nat) => []) (fun (k : Nat) => [SlOld rtEnc 7 61 w.heap.size none A n l]) (fun (k : Nat) => HN - k) 0 (Nat.zero_le _) ⟨rfl, rfl, rfl, rfl, rfl, (some_int (by omega)), trivial⟩ (fun _ hm => hm.pick [0, 1, 2] [] [0] rfl rfl) ?_
            intro k hinv
            replace hinv : k ≤ HN := hinv
            refine gw_seq ?_
            refine gw_seq ?_
            refine gw_region ?_
            refine wl_ov (ov_move rfl) rfl ?_
            refine wl_ov (ov_loads rz170 rfl (fun _ hm => hm.blkI 2 rfl) rfl rfl) rfl ?_
            refine wl_ov (ov_move rfl) rfl ?_
            refine wl_callv (v := .int .i64 E) rfl cb156 rfl rfl (fun wx hm => (by rw [hE]; exact rend_any A n c0 c fr tt D i wx h0 h00 (by omega))) ?_
            refine wl_ov (ov_lss rfl rfl) rfl ?_
            refine wl_nil ?_
            refine nx_then ?_
            refine gw_cond rfl (fun hh => ?_) (fun hh => ?_)
            · have hh1 : G + ((k : Nat) : Int) * 60 < E := by simpa using hh
              clear hh
              refine gw_skip ?_
              refine nx_then ?_
              refine gw_seq ?_
              refine gw_block ?_
              refine gw_region ?_
              refine wl_ov (ov_move rfl) rfl ?_
              refine wl_ov (ov_add rfl rfl (by omega) (by omega)) rfl ?_
              refine wl_ov (ov_assign rfl) rfl ?_
              refine wl_nil ?_
              refine nx_blk_nrm ?_
              refine nx_then ?_
              refine gw_region ?_
              refine wl_ov (ov_move rfl) rfl ?_
              refine wl_ov (ov_add rfl rfl (by omega) (by omega)) rfl ?_
              refine wl_ov (ov_assign rfl) rfl ?_
              refine wl_nil ?_
              exact nx_round (k + 1) (by omega) (by omega) ⟨rfl, rfl, rfl, rfl, (some_int (by omega)), (some_int (by omega)), trivial⟩ (fun _ hm => hm.pick [0, 1, 2] [] [0] rfl rfl)
            · have hh1 : ¬ (G + ((k : Nat) : Int) * 60 < E) := by simpa using hh
              clear hh
              refine gw_exit ?_
              refine nx_then_exit ?_
              refine nx_then_exit ?_
              refine nx_blk_here ?_
              refine nx_then ?_
              refine gw_seq ?_
              have hkH : k = HN := by omega
              subst hkH
              have hml0 : -24 ≤ ho * ((k : Nat) : Int) ∧ ho * ((k : Nat) : Int) ≤ 24000000 := mul_small q1 q2 hHN2
              have hml1 := hml0.1
              have hml2 := hml0.2
              refine gw_draw (fun wz => Blk wz g3 61 [.string cl, .int .i64 rf, .int .i64 rt, .int .i64 ho, .int .i64 dd, .int .i64 we, .int .i64 wk] ∧ Blk wz g2 79 [.int .i64 kd, .int .i64 ((mm : Nat) : Int), .int .i64 pc] ∧ Blk wz g1 170 [.slice A n c0, .string c, .int .i64 fr, .int .i64 tt, .int .i64 ((D : Nat) : Int)] ∧ (SlOld rtEnc 7 61 w.heap.size none A n l) wz ∧ True) mixed ?_
              refine wa_take 0 rfl (by kernel_rfl) (by kernel_rfl) (by kernel_rfl) (listed' := #[true, false, false, false, false, false, false, false, false, false, false, false, false, false, false, false, false, false, false, false, false]) rfl (fun _ _ _ h => h) (fun _ hm => ⟨hm.blkI 0 rfl, hm.blkI 1 rfl, hm.blkI 2 rfl, hm.fact 0 rfl, trivial⟩) (ov_field fo61_3 rfl rfl) rfl ?_
              refine wa_take 1 rfl (by kernel_rfl) (by kernel_rfl) (by kernel_rfl) (listed' := #[true, true, false, false, false, false, false, false, false, false, false, false, false, false, false, false, false, false, false, false, false]) rfl (fun _ _ _ h => h) (fun _ hm => ⟨hm.blkI 0 rfl, hm.blkI 1 rfl, hm.blkI 2 rfl, hm.fact 0 rfl, trivial⟩) (ov_load sc3 rfl (fun _ hm => hm.1) rfl) rfl ?_
              refine wa_take 2 rfl (by kernel_rfl) (by kernel_rfl) (by kernel_rfl) (listed' := #[true, true, true, false, false, false, false, false, false, false, false, false, false, false, false, false, false, false, false, false, false]) rfl (fun _ _ _ h => h) (fun _ hm => ⟨hm.blkI 0 rfl, hm.blkI 1 rfl, hm.blkI 2 rfl, hm.fact 0 rfl, trivial⟩) (ov_move rfl) rfl ?_
              refine wa_take 3 rfl (by kernel_rfl) (by kernel_rfl) (by kernel_rfl) (listed' := #[true, true, true, true, false, false, false, false, false, false, false, false, false, false, false, false, false, false, false, false, false]) rfl (fun _ _ _ h => h) (fun _ hm => ⟨hm.blkI 0 rfl, hm.blkI 1 rfl, hm.blkI 2 rfl, hm.fact 0 rfl, trivial⟩) (ov_mul rfl rfl (by omega) (by omega)) rfl ?_
              refine wa_take 4 rfl (by kernel_rfl) (by kernel_rfl) (by kernel_rfl) (listed' := #[true, true, true, true, true, false, false, false, false, false, false, false, false, false, false, false, false, false, false, false, false]) rfl (fun _ _ _ h => h) (fun _ hm => ⟨hm.blkI 0 rfl, hm.blkI 1 rfl, hm.blkI 2 rfl, hm.fact 0 rfl, trivial⟩) (ov_field fo79_1 rfl rfl) rfl ?_
              refine wa_take 5 rfl (by kernel_rfl) (by kernel_rfl) (by kernel_rfl) (listed' := #[true, true, true, true, true, true, false, false, false, false, false, false, false, false, false, false, false, false, false, false, false]) rfl (fun _ _ _ h => h) (fun _ hm => ⟨hm.blkI 0 rfl, hm.blkI 1 rfl, hm.blkI 2 rfl, hm.fact 0 rfl, trivial⟩) (ov_load sc3 rfl (fun _ hm => hm.2.1) rfl) rfl ?_
              refine wa_take 6 rfl (by kernel_rfl) (by kernel_rfl) (by kernel_rfl) (listed' := #[true, true, true, true, true, true, true, false, false, false, false, false, false, false, false, false, false, false, false, false, false]) rfl (fun _ _ _ h => h) (fun _ hm => ⟨hm.blkI 0 rfl, hm.blkI 1 rfl, hm.blkI 2 rfl, hm.fact 0 rfl, trivial⟩) (ov_eql rfl rfl) rfl ?_
              refine wa_take 7 rfl (by kernel_rfl) (by kernel_rfl) (by kernel_rfl) (listed' := #[true, true, true, true, true, true, true, true, false, false, false, false, false, false, false, false, false, false, false, false, false]) rfl (fun _ _ _ h => h) (fun _ hm => ⟨hm.blkI 0 rfl, hm.blkI 1 rfl, hm.blkI 2 rfl, hm.fact 0 rfl, trivial⟩) (ov_move rfl) rfl ?_
              rcases Bool.eq_false_or_eq_true (decide (((mm : Nat) : Int) = 1)) with hmm1 | hmm1
              · refine wa_set 83 rfl (congrArg Value.bool hmm1) ?_
                refine wa_take_on 8 rfl rfl rfl (by kernel_rfl) (by kernel_rfl) (by kernel_rfl) (listed' := #[true, true, true, true, true, true, true, true, true, false, false, false, false, false, false, false, false, false, false, false, false]) rfl (fun _ _ _ h => h) (fun _ hm => ⟨hm.blkI 0 rfl, hm.blkI 1 rfl, hm.blkI 2 rfl, hm.fact 0 rfl, trivial⟩) (ov_move rfl) rfl ?_
                refine wa_take_on 9 rfl rfl rfl (by kernel_rfl) (by kernel_rfl) (by kernel_rfl) (listed' := #[true, true, true, true, true, true, true, true, true, true, false, false, false, false, false, false, false, false, false, false, false]) rfl (fun _ _ _ h => h) (fun _ hm => ⟨hm.blkI 0 rfl, hm.blkI 1 rfl, hm.blkI 2 rfl, hm.fact 0 rfl, trivial⟩) (ov_field fo170_3 rfl rfl) rfl ?_
                refine wa_take_on 10 rfl rfl rfl (by kernel_rfl) (by kernel_rfl) (by kernel_rfl) (listed' := #[true, true, true, true, true, true, true, true, true, true, true, false, false, false, false, false, false, false, false, false, false]) rfl (fun _ _ _ h => h) (fun _ hm => ⟨hm.blkI 0 rfl, hm.blkI 1 rfl, hm.blkI 2 rfl, hm.fact 0 rfl, trivial⟩) (ov_load sc3 rfl (fun _ hm => hm.2.2.1) rfl) rfl ?_
                refine wa_take_on 11 rfl rfl rfl (by kernel_rfl) (by kernel_rfl) (by kernel_rfl) (listed' := #[true, true, true, true, true, true, true, true, true, true, true, true, false, false, false, false, false, false, false, false, false]) rfl (fun _ _ _ h => h) (fun _ hm => ⟨hm.blkI 0 rfl, hm.blkI 1 rfl, hm.blkI 2 rfl, hm.fact 0 rfl, trivial⟩) (ov_sub rfl rfl (by omega) (by omega)) rfl ?_
                refine wa_take_on 12 rfl rfl rfl (by kernel_rfl) (by kernel_rfl) (by kernel_rfl) (listed' := #[true, true, true, true, true, true, true, true, true, true, true, true, true, false, false, false, false, false, false, false, false]) rfl (fun _ _ _ h => h) (fun _ hm => ⟨hm.blkI 0 rfl, hm.blkI 1 rfl, hm.blkI 2 rfl, hm.fact 0 rfl, trivial⟩) (ov_eql rfl rfl) rfl ?_
                refine wa_take 13 rfl (by kernel_rfl) (by kernel_rfl) (by kernel_rfl) (listed' := #[true, true, true, true, true, true, true, true, true, true, true, true, true, true, false, false, false, false, false, false, false]) rfl (fun _ _ _ h => h) (fun _ hm => ⟨hm.blkI 0 rfl, hm.blkI 1 rfl, hm.blkI 2 rfl, hm.fact 0 rfl, trivial⟩) (ov_pick_t rfl rfl) rfl ?_
                refine wa_take 14 rfl (by kernel_rfl) (by kernel_rfl) (by kernel_rfl) (listed' := #[true, true, true, true, true, true, true, true, true, true, true, true, true, true, true, false, false, false, false, false, false]) rfl (fun _ _ _ h => h) (fun _ hm => ⟨hm.blkI 0 rfl, hm.blkI 1 rfl, hm.blkI 2 rfl, hm.fact 0 rfl, trivial⟩) (ov_move rfl) rfl ?_
                rcases Bool.eq_false_or_eq_true (decide (((i : Nat) : Int) = ((D : Nat) : Int) - 1)) with hL | hL
                · refine wa_set 90 rfl (congrArg Value.bool hL) ?_
                  by_cases hz : 0 ≤ ho
                  · refine wa_take_on 15 rfl rfl rfl (by kernel_rfl) (by kernel_rfl) (by kernel_rfl) (listed' := #[true, true, true, true, true, true, true, true, true, true, true, true, true, true, true, true, false, false, false, false, false]) rfl (fun _ _ _ h => h) (fun _ hm => ⟨hm.blkI 0 rfl, hm.blkI 1 rfl, hm.blkI 2 rfl, hm.fact 0 rfl, trivial⟩) (ov_field fo61_3 rfl rfl) rfl ?_
                    refine wa_take_on 16 rfl rfl rfl (by kernel_rfl) (by kernel_rfl) (by kernel_rfl) (listed' := #[true, true, true, true, true, true, true, true, true, true, true, true, true, true, true, true, true, false, false, false, false]) rfl (fun _ _ _ h => h) (fun _ hm => ⟨hm.blkI 0 rfl, hm.blkI 1 rfl, hm.blkI 2 rfl, hm.fact 0 rfl, trivial⟩) (ov_load sc3 rfl (fun _ hm => hm.1) rfl) rfl ?_
                    refine wa_take_on 17 rfl rfl rfl (by kernel_rfl) (by kernel_rfl) (by kernel_rfl) (listed' := #[true, true, true, true, true, true, true, true, true, true, true, true, true, true, true, true, true, true, false, false, false]) rfl (fun _ _ _ h => h) (fun _ hm => ⟨hm.blkI 0 rfl, hm.blkI 1 rfl, hm.blkI 2 rfl, hm.fact 0 rfl, trivial⟩) (ov_geq rfl rfl) rfl ?_
                    refine wa_set 93 (v' := .bool true) rfl (congrArg Value.bool (decide_eq_true hz)) ?_
                    refine wa_take 18 rfl (by kernel_rfl) (by kernel_rfl) (by kernel_rfl) (listed' := #[true, true, true, true, true, true, true, true, true, true, true, true, true, true, true, true, true, true, true, false, false]) rfl (fun _ _ _ h => h) (fun _ hm => ⟨hm.blkI 0 rfl, hm.blkI 1 rfl, hm.blkI 2 rfl, hm.fact 0 rfl, trivial⟩) (ov_pick_t rfl rfl) rfl ?_
                    refine wa_take 19 rfl (by kernel_rfl) (by kernel_rfl) (by kernel_rfl) (listed' := #[true, true, true, true, true, true, true, true, true, true, true, true, true, true, true, true, true, true, true, true, false]) rfl (fun _ _ _ h => h) (fun _ hm => ⟨hm.blkI 0 rfl, hm.blkI 1 rfl, hm.blkI 2 rfl, hm.fact 0 rfl, trivial⟩) (ov_assign rfl) rfl ?_
                    refine wa_take 20 rfl (by kernel_rfl) (by kernel_rfl) (by kernel_rfl) (listed' := #[true, true, true, true, true, true, true, true, true, true, true, true, true, true, true, true, true, true, true, true, true]) rfl (fun _ _ _ h => h) (fun _ hm => ⟨hm.blkI 0 rfl, hm.blkI 1 rfl, hm.blkI 2 rfl, hm.fact 0 rfl, trivial⟩) (ov_assign rfl) rfl ?_
                    refine wa_done (by kernel_rfl) ?_
                    refine nx_then ?_
                    refine gw_ret ?_
                    refine nx_blk_ret ?_
                    refine nx_then_ret ?_
                    refine nx_ret2 rfl rfl rfl fun wx hm => ?_
                    have hP : priceK ⟨cl, rf, rt, ho, dd, we, wk⟩ (seasons l c fr D) fr tt kd i ((mm : Nat) : Int) = some (ho * ((k : Nat) : Int)) := by
                      unfold priceK
                      rw [if_pos hkd, if_pos ⟨of_decide_eq_true hmm1, by rw [seasons_len]; have h := of_decide_eq_true hL; omega, hz⟩, ← hE, ← hG, hHN]
                    exact ⟨ho * ((k : Nat) : Int), by rw [hgo, hP]; rfl, fun v0 h => (by rw [hgo, hP] at h; injection h), hm.g⟩
                  · refine wa_take_on 15 rfl rfl rfl (by kernel_rfl) (by kernel_rfl) (by kernel_rfl) (listed' := #[true, true, true, true, true, true, true, true, true, true, true, true, true, true, true, true, false, false, false, false, false]) rfl (fun _ _ _ h => h) (fun _ hm => ⟨hm.blkI 0 rfl, hm.blkI 1 rfl, hm.blkI 2 rfl, hm.fact 0 rfl, trivial⟩) (ov_field fo61_3 rfl rfl) rfl ?_
                    refine wa_take_on 16 rfl rfl rfl (by kernel_rfl) (by kernel_rfl) (by kernel_rfl) (listed' := #[true, true, true, true, true, true, true, true, true, true, true, true, true, true, true, true, true, false, false, false, false]) rfl (fun _ _ _ h => h) (fun _ hm => ⟨hm.blkI 0 rfl, hm.blkI 1 rfl, hm.blkI 2 rfl, hm.fact 0 rfl, trivial⟩) (ov_load sc3 rfl (fun _ hm => hm.1) rfl) rfl ?_
                    refine wa_take_on 17 rfl rfl rfl (by kernel_rfl) (by kernel_rfl) (by kernel_rfl) (listed' := #[true, true, true, true, true, true, true, true, true, true, true, true, true, true, true, true, true, true, false, false, false]) rfl (fun _ _ _ h => h) (fun _ hm => ⟨hm.blkI 0 rfl, hm.blkI 1 rfl, hm.blkI 2 rfl, hm.fact 0 rfl, trivial⟩) (ov_geq rfl rfl) rfl ?_
                    refine wa_set 93 (v' := .bool false) rfl (congrArg Value.bool (decide_eq_false hz)) ?_
                    refine wa_take 18 rfl (by kernel_rfl) (by kernel_rfl) (by kernel_rfl) (listed' := #[true, true, true, true, true, true, true, true, true, true, true, true, true, true, true, true, true, true, true, false, false]) rfl (fun _ _ _ h => h) (fun _ hm => ⟨hm.blkI 0 rfl, hm.blkI 1 rfl, hm.blkI 2 rfl, hm.fact 0 rfl, trivial⟩) (ov_pick_t rfl rfl) rfl ?_
                    refine wa_take 19 rfl (by kernel_rfl) (by kernel_rfl) (by kernel_rfl) (listed' := #[true, true, true, true, true, true, true, true, true, true, true, true, true, true, true, true, true, true, true, true, false]) rfl (fun _ _ _ h => h) (fun _ hm => ⟨hm.blkI 0 rfl, hm.blkI 1 rfl, hm.blkI 2 rfl, hm.fact 0 rfl, trivial⟩) (ov_assign rfl) rfl ?_
                    refine wa_take 20 rfl (by kernel_rfl) (by kernel_rfl) (by kernel_rfl) (listed' := #[true, true, true, true, true, true, true, true, true, true, true, true, true, true, true, true, true, true, true, true, true]) rfl (fun _ _ _ h => h) (fun _ hm => ⟨hm.blkI 0 rfl, hm.blkI 1 rfl, hm.blkI 2 rfl, hm.fact 0 rfl, trivial⟩) (ov_assign rfl) rfl ?_
                    refine wa_done (by kernel_rfl) ?_
                    refine nx_then ?_
                    refine gw_ret ?_
                    refine nx_blk_ret ?_
                    refine nx_then_ret ?_
                    refine nx_ret2 rfl rfl rfl fun wx hm => ?_
                    have hP : priceK ⟨cl, rf, rt, ho, dd, we, wk⟩ (seasons l c fr D) fr tt kd i ((mm : Nat) : Int) = none := by
                      unfold priceK
                      rw [if_pos hkd, if_neg (fun h => hz h.2.2)]
                    exact ⟨ho * ((k : Nat) : Int), by rw [hgo, hP]; rfl, fun v0 h => (by rw [hgo, hP] at h; cases h), hm.g⟩
                · refine wa_set 90 rfl (congrArg Value.bool hL) ?_
                  refine wa_take_off 15 rfl rfl rfl (by decide) (by kernel_rfl) (by kernel_rfl) (by kernel_rfl) (listed' := #[true, true, true, true, true, true, true, true, true, true, true, true, true, true, true, true, false, false, false, false, false]) rfl (fun _ _ _ h => h) (fun _ hm => ⟨hm.blkI 0 rfl, hm.blkI 1 rfl, hm.blkI 2 rfl, hm.fact 0 rfl, trivial⟩) rfl ?_
                  refine wa_take_off 16 rfl rfl rfl (by decide) (by kernel_rfl) (by kernel_rfl) (by kernel_rfl) (listed' := #[true, true, true, true, true, true, true, true, true, true, true, true, true, true, true, true, true, false, false, false, false]) rfl (fun _ _ _ h => h) (fun _ hm => ⟨hm.blkI 0 rfl, hm.blkI 1 rfl, hm.blkI 2 rfl, hm.fact 0 rfl, trivial⟩) rfl ?_
                  refine wa_take_off 17 rfl rfl rfl (by decide) (by kernel_rfl) (by kernel_rfl) (by kernel_rfl) (listed' := #[true, true, true, true, true, true, true, true, true, true, true, true, true, true, true, true, true, true, false, false, false]) rfl (fun _ _ _ h => h) (fun _ hm => ⟨hm.blkI 0 rfl, hm.blkI 1 rfl, hm.blkI 2 rfl, hm.fact 0 rfl, trivial⟩) rfl ?_
                  refine wa_take 18 rfl (by kernel_rfl) (by kernel_rfl) (by kernel_rfl) (listed' := #[true, true, true, true, true, true, true, true, true, true, true, true, true, true, true, true, true, true, true, false, false]) rfl (fun _ _ _ h => h) (fun _ hm => ⟨hm.blkI 0 rfl, hm.blkI 1 rfl, hm.blkI 2 rfl, hm.fact 0 rfl, trivial⟩) (ov_pick_f rfl rfl) rfl ?_
                  refine wa_take 19 rfl (by kernel_rfl) (by kernel_rfl) (by kernel_rfl) (listed' := #[true, true, true, true, true, true, true, true, true, true, true, true, true, true, true, true, true, true, true, true, false]) rfl (fun _ _ _ h => h) (fun _ hm => ⟨hm.blkI 0 rfl, hm.blkI 1 rfl, hm.blkI 2 rfl, hm.fact 0 rfl, trivial⟩) (ov_assign rfl) rfl ?_
                  refine wa_take 20 rfl (by kernel_rfl) (by kernel_rfl) (by kernel_rfl) (listed' := #[true, true, true, true, true, true, true, true, true, true, true, true, true, true, true, true, true, true, true, true, true]) rfl (fun _ _ _ h => h) (fun _ hm => ⟨hm.blkI 0 rfl, hm.blkI 1 rfl, hm.blkI 2 rfl, hm.fact 0 rfl, trivial⟩) (ov_assign rfl) rfl ?_
                  refine wa_done (by kernel_rfl) ?_
                  refine nx_then ?_
                  refine gw_ret ?_
                  refine nx_blk_ret ?_
                  refine nx_then_ret ?_
                  refine nx_ret2 rfl rfl rfl fun wx hm => ?_
                  have hP : priceK ⟨cl, rf, rt, ho, dd, we, wk⟩ (seasons l c fr D) fr tt kd i ((mm : Nat) : Int) = none := by
                    unfold priceK
                    rw [if_pos hkd, if_neg (fun h => of_decide_eq_false hL (by have h := h.2.1; rw [seasons_len] at h; omega))]
                  exact ⟨ho * ((k : Nat) : Int), by rw [hgo, hP]; rfl, fun v0 h => (by rw [hgo, hP] at h; cases h), hm.g⟩
              · refine wa_set 83 rfl (congrArg Value.bool hmm1) ?_
                refine wa_take_off 8 rfl rfl rfl (by decide) (by kernel_rfl) (by kernel_rfl) (by kernel_rfl) (listed' := #[true, true, true, true, true, true, true, true, true, false, false, false, false, false, false, false, false, false, false, false, false]) rfl (fun _ _ _ h => h) (fun _ hm => ⟨hm.blkI 0 rfl, hm.blkI 1 rfl, hm.blkI 2 rfl, hm.fact 0 rfl, trivial⟩) rfl ?_
                refine wa_take_off 9 rfl rfl rfl (by decide) (by kernel_rfl) (by kernel_rfl) (by kernel_rfl) (listed' := #[true, true, true, true, true, true, true, true, true, true, false, false, false, false, false, false, false, false, false, false, false]) rfl (fun _ _ _ h => h) (fun _ hm => ⟨hm.blkI 0 rfl, hm.blkI 1 rfl, hm.blkI 2 rfl, hm.fact 0 rfl, trivial⟩) rfl ?_
                refine wa_take_off 10 rfl rfl rfl (by decide) (by kernel_rfl) (by kernel_rfl) (by kernel_rfl) (listed' := #[true, true, true, true, true, true, true, true, true, true, true, false, false, false, false, false, false, false, false, false, false]) rfl (fun _ _ _ h => h) (fun _ hm => ⟨hm.blkI 0 rfl, hm.blkI 1 rfl, hm.blkI 2 rfl, hm.fact 0 rfl, trivial⟩) rfl ?_
                refine wa_take_off 11 rfl rfl rfl (by decide) (by kernel_rfl) (by kernel_rfl) (by kernel_rfl) (listed' := #[true, true, true, true, true, true, true, true, true, true, true, true, false, false, false, false, false, false, false, false, false]) rfl (fun _ _ _ h => h) (fun _ hm => ⟨hm.blkI 0 rfl, hm.blkI 1 rfl, hm.blkI 2 rfl, hm.fact 0 rfl, trivial⟩) rfl ?_
                refine wa_take_off 12 rfl rfl rfl (by decide) (by kernel_rfl) (by kernel_rfl) (by kernel_rfl) (listed' := #[true, true, true, true, true, true, true, true, true, true, true, true, true, false, false, false, false, false, false, false, false]) rfl (fun _ _ _ h => h) (fun _ hm => ⟨hm.blkI 0 rfl, hm.blkI 1 rfl, hm.blkI 2 rfl, hm.fact 0 rfl, trivial⟩) rfl ?_
                refine wa_take 13 rfl (by kernel_rfl) (by kernel_rfl) (by kernel_rfl) (listed' := #[true, true, true, true, true, true, true, true, true, true, true, true, true, true, false, false, false, false, false, false, false]) rfl (fun _ _ _ h => h) (fun _ hm => ⟨hm.blkI 0 rfl, hm.blkI 1 rfl, hm.blkI 2 rfl, hm.fact 0 rfl, trivial⟩) (ov_pick_f rfl rfl) rfl ?_
                refine wa_take 14 rfl (by kernel_rfl) (by kernel_rfl) (by kernel_rfl) (listed' := #[true, true, true, true, true, true, true, true, true, true, true, true, true, true, true, false, false, false, false, false, false]) rfl (fun _ _ _ h => h) (fun _ hm => ⟨hm.blkI 0 rfl, hm.blkI 1 rfl, hm.blkI 2 rfl, hm.fact 0 rfl, trivial⟩) (ov_move rfl) rfl ?_
                refine wa_take_off 15 rfl rfl rfl (by decide) (by kernel_rfl) (by kernel_rfl) (by kernel_rfl) (listed' := #[true, true, true, true, true, true, true, true, true, true, true, true, true, true, true, true, false, false, false, false, false]) rfl (fun _ _ _ h => h) (fun _ hm => ⟨hm.blkI 0 rfl, hm.blkI 1 rfl, hm.blkI 2 rfl, hm.fact 0 rfl, trivial⟩) rfl ?_
                refine wa_take_off 16 rfl rfl rfl (by decide) (by kernel_rfl) (by kernel_rfl) (by kernel_rfl) (listed' := #[true, true, true, true, true, true, true, true, true, true, true, true, true, true, true, true, true, false, false, false, false]) rfl (fun _ _ _ h => h) (fun _ hm => ⟨hm.blkI 0 rfl, hm.blkI 1 rfl, hm.blkI 2 rfl, hm.fact 0 rfl, trivial⟩) rfl ?_
                refine wa_take_off 17 rfl rfl rfl (by decide) (by kernel_rfl) (by kernel_rfl) (by kernel_rfl) (listed' := #[true, true, true, true, true, true, true, true, true, true, true, true, true, true, true, true, true, true, false, false, false]) rfl (fun _ _ _ h => h) (fun _ hm => ⟨hm.blkI 0 rfl, hm.blkI 1 rfl, hm.blkI 2 rfl, hm.fact 0 rfl, trivial⟩) rfl ?_
                refine wa_take 18 rfl (by kernel_rfl) (by kernel_rfl) (by kernel_rfl) (listed' := #[true, true, true, true, true, true, true, true, true, true, true, true, true, true, true, true, true, true, true, false, false]) rfl (fun _ _ _ h => h) (fun _ hm => ⟨hm.blkI 0 rfl, hm.blkI 1 rfl, hm.blkI 2 rfl, hm.fact 0 rfl, trivial⟩) (ov_pick_f rfl rfl) rfl ?_
                refine wa_take 19 rfl (by kernel_rfl) (by kernel_rfl) (by kernel_rfl) (listed' := #[true, true, true, true, true, true, true, true, true, true, true, true, true, true, true, true, true, true, true, true, false]) rfl (fun _ _ _ h => h) (fun _ hm => ⟨hm.blkI 0 rfl, hm.blkI 1 rfl, hm.blkI 2 rfl, hm.fact 0 rfl, trivial⟩) (ov_assign rfl) rfl ?_
                refine wa_take 20 rfl (by kernel_rfl) (by kernel_rfl) (by kernel_rfl) (listed' := #[true, true, true, true, true, true, true, true, true, true, true, true, true, true, true, true, true, true, true, true, true]) rfl (fun _ _ _ h => h) (fun _ hm => ⟨hm.blkI 0 rfl, hm.blkI 1 rfl, hm.blkI 2 rfl, hm.fact 0 rfl, trivial⟩) (ov_assign rfl) rfl ?_
                refine wa_done (by kernel_rfl) ?_
                refine nx_then ?_
                refine gw_ret ?_
                refine nx_blk_ret ?_
                refine nx_then_ret ?_
                refine nx_ret2 rfl rfl rfl fun wx hm => ?_
                have hP : priceK ⟨cl, rf, rt, ho, dd, we, wk⟩ (seasons l c fr D) fr tt kd i ((mm : Nat) : Int) = none := by
                  unfold priceK
                  rw [if_pos hkd, if_neg (fun h => of_decide_eq_false hmm1 h.1)]
                exact ⟨ho * ((k : Nat) : Int), by rw [hgo, hP]; rfl, fun v0 h => (by rw [hgo, hP] at h; cases h), hm.g⟩
          · have hkd : ¬ (kd = 1) := by simpa using hh
            clear hh
            refine gw_seq ?_
            refine gw_region ?_
            refine wl_ov (ov_eql rfl rfl) rfl ?_
            refine wl_ov (ov_assign rfl) rfl ?_
            refine wl_nil ?_
            refine nx_then ?_
            refine gw_cond rfl (fun hh => ?_) (fun hh => ?_)
            · have hkd : kd = 2 := by simpa using hh
              clear hh
              refine gw_seq ?_
              have hk1 : ¬ kd = 1 := by omega
              refine gw_draw (fun wz => Blk wz g3 61 [.string cl, .int .i64 rf, .int .i64 rt, .int .i64 ho, .int .i64 dd, .int .i64 we, .int .i64 wk] ∧ Blk wz g2 79 [.int .i64 kd, .int .i64 ((mm : Nat) : Int), .int .i64 pc] ∧ Blk wz g1 170 [.slice A n c0, .string c, .int .i64 fr, .int .i64 tt, .int .i64 ((D : Nat) : Int)] ∧ (SlOld rtEnc 7 61 w.heap.size none A n l) wz ∧ True) mixed ?_
              refine wa_take 0 rfl (by kernel_rfl) (by kernel_rfl) (by kernel_rfl) (listed' := #[true, false, false, false, false, false, false, false, false, false, false, false]) rfl (fun _ _ _ h => h) (fun _ hm => ⟨hm.blkI 0 rfl, hm.blkI 1 rfl, hm.blkI 2 rfl, hm.fact 0 rfl, trivial⟩) (ov_field fo61_4 rfl rfl) rfl ?_
              refine wa_take 1 rfl (by kernel_rfl) (by kernel_rfl) (by kernel_rfl) (listed' := #[true, true, false, false, false, false, false, false, false, false, false, false]) rfl (fun _ _ _ h => h) (fun _ hm => ⟨hm.blkI 0 rfl, hm.blkI 1 rfl, hm.blkI 2 rfl, hm.fact 0 rfl, trivial⟩) (ov_load sc3 rfl (fun _ hm => hm.1) rfl) rfl ?_
              refine wa_take 2 rfl (by kernel_rfl) (by kernel_rfl) (by kernel_rfl) (listed' := #[true, true, true, false, false, false, false, false, false, false, false, false]) rfl (fun _ _ _ h => h) (fun _ hm => ⟨hm.blkI 0 rfl, hm.blkI 1 rfl, hm.blkI 2 rfl, hm.fact 0 rfl, trivial⟩) (ov_field fo79_1 rfl rfl) rfl ?_
              refine wa_take 3 rfl (by kernel_rfl) (by kernel_rfl) (by kernel_rfl) (listed' := #[true, true, true, true, false, false, false, false, false, false, false, false]) rfl (fun _ _ _ h => h) (fun _ hm => ⟨hm.blkI 0 rfl, hm.blkI 1 rfl, hm.blkI 2 rfl, hm.fact 0 rfl, trivial⟩) (ov_load sc3 rfl (fun _ hm => hm.2.1) rfl) rfl ?_
              refine wa_take 4 rfl (by kernel_rfl) (by kernel_rfl) (by kernel_rfl) (listed' := #[true, true, true, true, true, false, false, false, false, false, false, false]) rfl (fun _ _ _ h => h) (fun _ hm => ⟨hm.blkI 0 rfl, hm.blkI 1 rfl, hm.blkI 2 rfl, hm.fact 0 rfl, trivial⟩) (ov_eql rfl rfl) rfl ?_
              refine wa_take 5 rfl (by kernel_rfl) (by kernel_rfl) (by kernel_rfl) (listed' := #[true, true, true, true, true, true, false, false, false, false, false, false]) rfl (fun _ _ _ h => h) (fun _ hm => ⟨hm.blkI 0 rfl, hm.blkI 1 rfl, hm.blkI 2 rfl, hm.fact 0 rfl, trivial⟩) (ov_move rfl) rfl ?_
              rcases Bool.eq_false_or_eq_true (decide (((mm : Nat) : Int) = 1)) with hmm1 | hmm1
              · refine wa_set 102 rfl (congrArg Value.bool hmm1) ?_
                by_cases hz : 0 ≤ dd
                · refine wa_take_on 6 rfl rfl rfl (by kernel_rfl) (by kernel_rfl) (by kernel_rfl) (listed' := #[true, true, true, true, true, true, true, false, false, false, false, false]) rfl (fun _ _ _ h => h) (fun _ hm => ⟨hm.blkI 0 rfl, hm.blkI 1 rfl, hm.blkI 2 rfl, hm.fact 0 rfl, trivial⟩) (ov_field fo61_4 rfl rfl) rfl ?_
                  refine wa_take_on 7 rfl rfl rfl (by kernel_rfl) (by kernel_rfl) (by kernel_rfl) (listed' := #[true, true, true, true, true, true, true, true, false, false, false, false]) rfl (fun _ _ _ h => h) (fun _ hm => ⟨hm.blkI 0 rfl, hm.blkI 1 rfl, hm.blkI 2 rfl, hm.fact 0 rfl, trivial⟩) (ov_load sc3 rfl (fun _ hm => hm.1) rfl) rfl ?_
                  refine wa_take_on 8 rfl rfl rfl (by kernel_rfl) (by kernel_rfl) (by kernel_rfl) (listed' := #[true, true, true, true, true, true, true, true, true, false, false, false]) rfl (fun _ _ _ h => h) (fun _ hm => ⟨hm.blkI 0 rfl, hm.blkI 1 rfl, hm.blkI 2 rfl, hm.fact 0 rfl, trivial⟩) (ov_geq rfl rfl) rfl ?_
                  refine wa_set 105 (v' := .bool true) rfl (congrArg Value.bool (decide_eq_true hz)) ?_
                  refine wa_take 9 rfl (by kernel_rfl) (by kernel_rfl) (by kernel_rfl) (listed' := #[true, true, true, true, true, true, true, true, true, true, false, false]) rfl (fun _ _ _ h => h) (fun _ hm => ⟨hm.blkI 0 rfl, hm.blkI 1 rfl, hm.blkI 2 rfl, hm.fact 0 rfl, trivial⟩) (ov_pick_t rfl rfl) rfl ?_
                  refine wa_take 10 rfl (by kernel_rfl) (by kernel_rfl) (by kernel_rfl) (listed' := #[true, true, true, true, true, true, true, true, true, true, true, false]) rfl (fun _ _ _ h => h) (fun _ hm => ⟨hm.blkI 0 rfl, hm.blkI 1 rfl, hm.blkI 2 rfl, hm.fact 0 rfl, trivial⟩) (ov_assign rfl) rfl ?_
                  refine wa_take 11 rfl (by kernel_rfl) (by kernel_rfl) (by kernel_rfl) (listed' := #[true, true, true, true, true, true, true, true, true, true, true, true]) rfl (fun _ _ _ h => h) (fun _ hm => ⟨hm.blkI 0 rfl, hm.blkI 1 rfl, hm.blkI 2 rfl, hm.fact 0 rfl, trivial⟩) (ov_assign rfl) rfl ?_
                  refine wa_done (by kernel_rfl) ?_
                  refine nx_then ?_
                  refine gw_ret ?_
                  refine nx_blk_ret ?_
                  refine nx_then_ret ?_
                  refine nx_ret2 rfl rfl rfl fun wx hm => ?_
                  have hP : priceK ⟨cl, rf, rt, ho, dd, we, wk⟩ (seasons l c fr D) fr tt kd i ((mm : Nat) : Int) = some (dd) := by
                    unfold priceK
                    rw [if_neg hk1, if_pos hkd, if_pos ⟨of_decide_eq_true hmm1, hz⟩]
                  exact ⟨dd, by rw [hgo, hP]; rfl, fun v0 h => (by rw [hgo, hP] at h; injection h), hm.g⟩
                · refine wa_take_on 6 rfl rfl rfl (by kernel_rfl) (by kernel_rfl) (by kernel_rfl) (listed' := #[true, true, true, true, true, true, true, false, false, false, false, false]) rfl (fun _ _ _ h => h) (fun _ hm => ⟨hm.blkI 0 rfl, hm.blkI 1 rfl, hm.blkI 2 rfl, hm.fact 0 rfl, trivial⟩) (ov_field fo61_4 rfl rfl) rfl ?_
                  refine wa_take_on 7 rfl rfl rfl (by kernel_rfl) (by kernel_rfl) (by kernel_rfl) (listed' := #[true, true, true, true, true, true, true, true, false, false, false, false]) rfl (fun _ _ _ h => h) (fun _ hm => ⟨hm.blkI 0 rfl, hm.blkI 1 rfl, hm.blkI 2 rfl, hm.fact 0 rfl, trivial⟩) (ov_load sc3 rfl (fun _ hm => hm.1) rfl) rfl ?_
                  refine wa_take_on 8 rfl rfl rfl (by kernel_rfl) (by kernel_rfl) (by kernel_rfl) (listed' := #[true, true, true, true, true, true, true, true, true, false, false, false]) rfl (fun _ _ _ h => h) (fun _ hm => ⟨hm.blkI 0 rfl, hm.blkI 1 rfl, hm.blkI 2 rfl, hm.fact 0 rfl, trivial⟩) (ov_geq rfl rfl) rfl ?_
                  refine wa_set 105 (v' := .bool false) rfl (congrArg Value.bool (decide_eq_false hz)) ?_
                  refine wa_take 9 rfl (by kernel_rfl) (by kernel_rfl) (by kernel_rfl) (listed' := #[true, true, true, true, true, true, true, true, true, true, false, false]) rfl (fun _ _ _ h => h) (fun _ hm => ⟨hm.blkI 0 rfl, hm.blkI 1 rfl, hm.blkI 2 rfl, hm.fact 0 rfl, trivial⟩) (ov_pick_t rfl rfl) rfl ?_
                  refine wa_take 10 rfl (by kernel_rfl) (by kernel_rfl) (by kernel_rfl) (listed' := #[true, true, true, true, true, true, true, true, true, true, true, false]) rfl (fun _ _ _ h => h) (fun _ hm => ⟨hm.blkI 0 rfl, hm.blkI 1 rfl, hm.blkI 2 rfl, hm.fact 0 rfl, trivial⟩) (ov_assign rfl) rfl ?_
                  refine wa_take 11 rfl (by kernel_rfl) (by kernel_rfl) (by kernel_rfl) (listed' := #[true, true, true, true, true, true, true, true, true, true, true, true]) rfl (fun _ _ _ h => h) (fun _ hm => ⟨hm.blkI 0 rfl, hm.blkI 1 rfl, hm.blkI 2 rfl, hm.fact 0 rfl, trivial⟩) (ov_assign rfl) rfl ?_
                  refine wa_done (by kernel_rfl) ?_
                  refine nx_then ?_
                  refine gw_ret ?_
                  refine nx_blk_ret ?_
                  refine nx_then_ret ?_
                  refine nx_ret2 rfl rfl rfl fun wx hm => ?_
                  have hP : priceK ⟨cl, rf, rt, ho, dd, we, wk⟩ (seasons l c fr D) fr tt kd i ((mm : Nat) : Int) = none := by
                    unfold priceK
                    rw [if_neg hk1, if_pos hkd, if_neg (fun h => hz h.2)]
                  exact ⟨dd, by rw [hgo, hP]; rfl, fun v0 h => (by rw [hgo, hP] at h; cases h), hm.g⟩
              · refine wa_set 102 rfl (congrArg Value.bool hmm1) ?_
                refine wa_take_off 6 rfl rfl rfl (by decide) (by kernel_rfl) (by kernel_rfl) (by kernel_rfl) (listed' := #[true, true, true, true, true, true, true, false, false, false, false, false]) rfl (fun _ _ _ h => h) (fun _ hm => ⟨hm.blkI 0 rfl, hm.blkI 1 rfl, hm.blkI 2 rfl, hm.fact 0 rfl, trivial⟩) rfl ?_
                refine wa_take_off 7 rfl rfl rfl (by decide) (by kernel_rfl) (by kernel_rfl) (by kernel_rfl) (listed' := #[true, true, true, true, true, true, true, true, false, false, false, false]) rfl (fun _ _ _ h => h) (fun _ hm => ⟨hm.blkI 0 rfl, hm.blkI 1 rfl, hm.blkI 2 rfl, hm.fact 0 rfl, trivial⟩) rfl ?_
                refine wa_take_off 8 rfl rfl rfl (by decide) (by kernel_rfl) (by kernel_rfl) (by kernel_rfl) (listed' := #[true, true, true, true, true, true, true, true, true, false, false, false]) rfl (fun _ _ _ h => h) (fun _ hm => ⟨hm.blkI 0 rfl, hm.blkI 1 rfl, hm.blkI 2 rfl, hm.fact 0 rfl, trivial⟩) rfl ?_
                refine wa_take 9 rfl (by kernel_rfl) (by kernel_rfl) (by kernel_rfl) (listed' := #[true, true, true, true, true, true, true, true, true, true, false, false]) rfl (fun _ _ _ h => h) (fun _ hm => ⟨hm.blkI 0 rfl, hm.blkI 1 rfl, hm.blkI 2 rfl, hm.fact 0 rfl, trivial⟩) (ov_pick_f rfl rfl) rfl ?_
                refine wa_take 10 rfl (by kernel_rfl) (by kernel_rfl) (by kernel_rfl) (listed' := #[true, true, true, true, true, true, true, true, true, true, true, false]) rfl (fun _ _ _ h => h) (fun _ hm => ⟨hm.blkI 0 rfl, hm.blkI 1 rfl, hm.blkI 2 rfl, hm.fact 0 rfl, trivial⟩) (ov_assign rfl) rfl ?_
                refine wa_take 11 rfl (by kernel_rfl) (by kernel_rfl) (by kernel_rfl) (listed' := #[true, true, true, true, true, true, true, true, true, true, true, true]) rfl (fun _ _ _ h => h) (fun _ hm => ⟨hm.blkI 0 rfl, hm.blkI 1 rfl, hm.blkI 2 rfl, hm.fact 0 rfl, trivial⟩) (ov_assign rfl) rfl ?_
                refine wa_done (by kernel_rfl) ?_
                refine nx_then ?_
                refine gw_ret ?_
                refine nx_blk_ret ?_
                refine nx_then_ret ?_
                refine nx_ret2 rfl rfl rfl fun wx hm => ?_
                have hP : priceK ⟨cl, rf, rt, ho, dd, we, wk⟩ (seasons l c fr D) fr tt kd i ((mm : Nat) : Int) = none := by
                  unfold priceK
                  rw [if_neg hk1, if_pos hkd, if_neg (fun h => of_decide_eq_false hmm1 h.1)]
                exact ⟨dd, by rw [hgo, hP]; rfl, fun v0 h => (by rw [hgo, hP] at h; cases h), hm.g⟩
            · have hkd : ¬ (kd = 2) := by simpa using hh
              clear hh
              refine gw_seq ?_
              refine gw_region ?_
              refine wl_ov (ov_eql rfl rfl) rfl ?_
              refine wl_ov (ov_assign rfl) rfl ?_
              refine wl_nil ?_
              refine nx_then ?_
              refine gw_cond rfl (fun hh => ?_) (fun hh => ?_)
              · have hkd : kd = 3 := by simpa using hh
                clear hh
                refine gw_seq ?_
                refine gw_region ?_
                have hk1 : ¬ kd = 1 := by omega
                have hk2 : ¬ kd = 2 := by omega
                obtain ⟨G, hG⟩ : ∃ E, E = begV fr i := ⟨_, rfl⟩
                have hG0 : 0 ≤ G := by rw [hG]; unfold begV; omega
                have hG1 : G ≤ 10000000 := by rw [hG]; unfold begV; omega
                obtain ⟨E2, hE2⟩ : ∃ E, E = endV fr tt (i + mm - 1) := ⟨_, rfl⟩
                refine wl_ov (ov_loads rz170 rfl (fun _ hm => hm.blkI 2 rfl) rfl rfl) rfl ?_
                refine wl_ov (ov_move rfl) rfl ?_
                refine wl_callv (v := .int .i64 G) rfl cb155 rfl rfl (fun wx hm => (by rw [hG]; exact rbegin_any A n c0 c fr tt D i wx h0 h00 (by omega))) ?_
                refine wl_callx (γ := Int) (val := (fun (g : Int) => .tuple #[.int .i64 g, .bool (decide (5760 ≤ (G + 10080 - 720) % 10080))])) (φ := (fun (g : Int) => (5760 ≤ (G + 10080 - 720) % 10080 ∧ 0 ≤ wkE G ∧ g = wkE G) ∨ (¬ 5760 ≤ (G + 10080 - 720) % 10080 ∧ ¬ 0 ≤ wkE G))) (Y := (fun (g : Int) => fun _ => True)) rfl cb157 rfl rfl (fun wx hm => (rweekend_any G wx hG0 (by omega)).mono fun _ _ ⟨v, he, hv, hg⟩ => ⟨v, he, hv, hg, trivial⟩) (fun _ => Lasts2.true_) ?_
                rintro W hW
                refine wl_ov (ov_move rfl) rfl ?_
                refine wl_ov (ov_extract rfl rfl) rfl ?_
                refine wl_ov (ov_extract rfl rfl) rfl ?_
                refine wl_ov (ov_assign rfl) rfl ?_
                refine wl_ov (ov_assign rfl) rfl ?_
                refine wl_nil ?_
                refine nx_then ?_
                refine gw_seq ?_
                refine gw_draw (fun wz => Blk wz g3 61 [.string cl, .int .i64 rf, .int .i64 rt, .int .i64 ho, .int .i64 dd, .int .i64 we, .int .i64 wk] ∧ Blk wz g2 79 [.int .i64 kd, .int .i64 ((mm : Nat) : Int), .int .i64 pc] ∧ Blk wz g1 170 [.slice A n c0, .string c, .int .i64 fr, .int .i64 tt, .int .i64 ((D : Nat) : Int)] ∧ (fun _ => True) wz ∧ (SlOld rtEnc 7 61 w.heap.size none A n l) wz ∧ True) mixed ?_
                refine wa_take 0 rfl (by kernel_rfl) (by kernel_rfl) (by kernel_rfl) (listed' := #[true, false, false, false, false, false, false, false, false, false, false, false, false, false, false, false, false]) rfl (fun _ _ _ h => h) (fun _ hm => ⟨hm.blkI 0 rfl, hm.blkI 1 rfl, hm.blkI 2 rfl, hm.fact 0 rfl, hm.fact 1 rfl, trivial⟩) (ov_field fo61_5 rfl rfl) rfl ?_
                refine wa_take 1 rfl (by kernel_rfl) (by kernel_rfl) (by kernel_rfl) (listed' := #[true, true, false, false, false, false, false, false, false, false, false, false, false, false, false, false, false]) rfl (fun _ _ _ h => h) (fun _ hm => ⟨hm.blkI 0 rfl, hm.blkI 1 rfl, hm.blkI 2 rfl, hm.fact 0 rfl, hm.fact 1 rfl, trivial⟩) (ov_load sc3 rfl (fun _ hm => hm.1) rfl) rfl ?_
                refine wa_take 2 rfl (by kernel_rfl) (by kernel_rfl) (by kernel_rfl) (listed' := #[true, true, true, false, false, false, false, false, false, false, false, false, false, false, false, false, false]) rfl (fun _ _ _ h => h) (fun _ hm => ⟨hm.blkI 0 rfl, hm.blkI 1 rfl, hm.blkI 2 rfl, hm.fact 0 rfl, hm.fact 1 rfl, trivial⟩) (ov_move rfl) rfl ?_
                refine wa_take 3 rfl (by kernel_rfl) (by kernel_rfl) (by kernel_rfl) (listed' := #[true, true, true, true, false, false, false, false, false, false, false, false, false, false, false, false, false]) rfl (fun _ _ _ h => h) (fun _ hm => ⟨hm.blkI 0 rfl, hm.blkI 1 rfl, hm.blkI 2 rfl, hm.fact 0 rfl, hm.fact 1 rfl, trivial⟩) (ov_move rfl) rfl ?_
                rcases Bool.eq_false_or_eq_true (decide (5760 ≤ (G + 10080 - 720) % 10080)) with hw1 | hw1
                · refine wa_set 119 rfl (congrArg Value.bool hw1) ?_
                  obtain ⟨hw2, rfl⟩ : 0 ≤ wkE G ∧ W = wkE G := by
                    have h := of_decide_eq_true hw1
                    rcases hW with h2 | h2
                    · exact h2.2
                    · exact absurd h h2.1
                  refine wa_take_on 4 rfl rfl rfl (by kernel_rfl) (by kernel_rfl) (by kernel_rfl) (listed' := #[true, true, true, true, true, false, false, false, false, false, false, false, false, false, false, false, false]) rfl (fun _ _ _ h => h) (fun _ hm => ⟨hm.blkI 0 rfl, hm.blkI 1 rfl, hm.blkI 2 rfl, hm.fact 0 rfl, hm.fact 1 rfl, trivial⟩) (ov_loads rz170 rfl (fun _ hm => hm.2.2.1) rfl rfl) rfl ?_
                  refine wa_take_on 5 rfl rfl rfl (by kernel_rfl) (by kernel_rfl) (by kernel_rfl) (listed' := #[true, true, true, true, true, true, false, false, false, false, false, false, false, false, false, false, false]) rfl (fun _ _ _ h => h) (fun _ hm => ⟨hm.blkI 0 rfl, hm.blkI 1 rfl, hm.blkI 2 rfl, hm.fact 0 rfl, hm.fact 1 rfl, trivial⟩) (ov_move rfl) rfl ?_
                  refine wa_set 121 (v' := .int .i64 ((i + mm - 1 : Nat) : Int)) rfl (congrArg (Value.int .i64) (by omega)) ?_
                  refine wa_take_on 7 rfl rfl rfl (by kernel_rfl) (by kernel_rfl) (by kernel_rfl) (listed' := #[true, true, true, true, true, true, false, true, false, false, false, false, false, false, false, false, false]) rfl (fun _ _ _ h => h) (fun _ hm => ⟨hm.blkI 0 rfl, hm.blkI 1 rfl, hm.blkI 2 rfl, hm.fact 0 rfl, hm.fact 1 rfl, trivial⟩) (ov_move rfl) rfl ?_
                  refine wa_all [6] (by kernel_rfl) rfl ⟨⟨_, rfl, ?_⟩, trivial⟩
                  refine wl_guard_on rfl rfl rfl ?_
                  refine wl_callv (v := .int .i64 E2) rfl cb156 rfl rfl (fun wx hm => (by rw [hE2]; exact rend_any A n c0 c fr tt D (i + mm - 1) wx h0 h00 (by omega))) ?_
                  refine wl_nil ?_
                  refine nx_wa0 (listed' := #[true, true, true, true, true, true, true, true, false, false, false, false, false, false, false, false, false]) rfl (fun _ hm => ⟨hm.blkI 0 rfl, hm.blkI 1 rfl, hm.blkI 2 rfl, hm.fact 0 rfl, hm.fact 1 rfl, trivial⟩) ?_
                  refine wa_take_on 8 rfl rfl rfl (by kernel_rfl) (by kernel_rfl) (by kernel_rfl) (listed' := #[true, true, true, true, true, true, true, true, true, false, false, false, false, false, false, false, false]) rfl (fun _ _ _ h => h) (fun _ hm => ⟨hm.blkI 0 rfl, hm.blkI 1 rfl, hm.blkI 2 rfl, hm.fact 0 rfl, hm.fact 1 rfl, trivial⟩) (ov_leq rfl rfl) rfl ?_
                  refine wa_take 9 rfl (by kernel_rfl) (by kernel_rfl) (by kernel_rfl) (listed' := #[true, true, true, true, true, true, true, true, true, true, false, false, false, false, false, false, false]) rfl (fun _ _ _ h => h) (fun _ hm => ⟨hm.blkI 0 rfl, hm.blkI 1 rfl, hm.blkI 2 rfl, hm.fact 0 rfl, hm.fact 1 rfl, trivial⟩) (ov_pick_t rfl rfl) rfl ?_
                  refine wa_take 10 rfl (by kernel_rfl) (by kernel_rfl) (by kernel_rfl) (listed' := #[true, true, true, true, true, true, true, true, true, true, true, false, false, false, false, false, false]) rfl (fun _ _ _ h => h) (fun _ hm => ⟨hm.blkI 0 rfl, hm.blkI 1 rfl, hm.blkI 2 rfl, hm.fact 0 rfl, hm.fact 1 rfl, trivial⟩) (ov_move rfl) rfl ?_
                  rcases Bool.eq_false_or_eq_true (decide (E2 ≤ (wkE G))) with hw3 | hw3
                  · refine wa_set 126 rfl (congrArg Value.bool hw3) ?_
                    by_cases hz : 0 ≤ we
                    · refine wa_take_on 11 rfl rfl rfl (by kernel_rfl) (by kernel_rfl) (by kernel_rfl) (listed' := #[true, true, true, true, true, true, true, true, true, true, true, true, false, false, false, false, false]) rfl (fun _ _ _ h => h) (fun _ hm => ⟨hm.blkI 0 rfl, hm.blkI 1 rfl, hm.blkI 2 rfl, hm.fact 0 rfl, hm.fact 1 rfl, trivial⟩) (ov_field fo61_5 rfl rfl) rfl ?_
                      refine wa_take_on 12 rfl rfl rfl (by kernel_rfl) (by kernel_rfl) (by kernel_rfl) (listed' := #[true, true, true, true, true, true, true, true, true, true, true, true, true, false, false, false, false]) rfl (fun _ _ _ h => h) (fun _ hm => ⟨hm.blkI 0 rfl, hm.blkI 1 rfl, hm.blkI 2 rfl, hm.fact 0 rfl, hm.fact 1 rfl, trivial⟩) (ov_load sc3 rfl (fun _ hm => hm.1) rfl) rfl ?_
                      refine wa_take_on 13 rfl rfl rfl (by kernel_rfl) (by kernel_rfl) (by kernel_rfl) (listed' := #[true, true, true, true, true, true, true, true, true, true, true, true, true, true, false, false, false]) rfl (fun _ _ _ h => h) (fun _ hm => ⟨hm.blkI 0 rfl, hm.blkI 1 rfl, hm.blkI 2 rfl, hm.fact 0 rfl, hm.fact 1 rfl, trivial⟩) (ov_geq rfl rfl) rfl ?_
                      refine wa_set 129 (v' := .bool true) rfl (congrArg Value.bool (decide_eq_true hz)) ?_
                      refine wa_take 14 rfl (by kernel_rfl) (by kernel_rfl) (by kernel_rfl) (listed' := #[true, true, true, true, true, true, true, true, true, true, true, true, true, true, true, false, false]) rfl (fun _ _ _ h => h) (fun _ hm => ⟨hm.blkI 0 rfl, hm.blkI 1 rfl, hm.blkI 2 rfl, hm.fact 0 rfl, hm.fact 1 rfl, trivial⟩) (ov_pick_t rfl rfl) rfl ?_
                      refine wa_take 15 rfl (by kernel_rfl) (by kernel_rfl) (by kernel_rfl) (listed' := #[true, true, true, true, true, true, true, true, true, true, true, true, true, true, true, true, false]) rfl (fun _ _ _ h => h) (fun _ hm => ⟨hm.blkI 0 rfl, hm.blkI 1 rfl, hm.blkI 2 rfl, hm.fact 0 rfl, hm.fact 1 rfl, trivial⟩) (ov_assign rfl) rfl ?_
                      refine wa_take 16 rfl (by kernel_rfl) (by kernel_rfl) (by kernel_rfl) (listed' := #[true, true, true, true, true, true, true, true, true, true, true, true, true, true, true, true, true]) rfl (fun _ _ _ h => h) (fun _ hm => ⟨hm.blkI 0 rfl, hm.blkI 1 rfl, hm.blkI 2 rfl, hm.fact 0 rfl, hm.fact 1 rfl, trivial⟩) (ov_assign rfl) rfl ?_
                      refine wa_done (by kernel_rfl) ?_
                      refine nx_then ?_
                      refine gw_ret ?_
                      refine nx_blk_ret ?_
                      refine nx_then_ret ?_
                      refine nx_ret2 rfl rfl rfl fun wx hm => ?_
                      have hP : priceK ⟨cl, rf, rt, ho, dd, we, wk⟩ (seasons l c fr D) fr tt kd i ((mm : Nat) : Int) = some (we) := by
                        unfold priceK
                        rw [if_neg hk1, if_neg hk2, if_pos hkd, Int.toNat_natCast, ← hE2, ← hG]; rw [if_pos ⟨⟨hw2, of_decide_eq_true hw3⟩, hz⟩]
                      exact ⟨we, by rw [hgo, hP]; rfl, fun v0 h => (by rw [hgo, hP] at h; injection h), hm.g⟩
                    · refine wa_take_on 11 rfl rfl rfl (by kernel_rfl) (by kernel_rfl) (by kernel_rfl) (listed' := #[true, true, true, true, true, true, true, true, true, true, true, true, false, false, false, false, false]) rfl (fun _ _ _ h => h) (fun _ hm => ⟨hm.blkI 0 rfl, hm.blkI 1 rfl, hm.blkI 2 rfl, hm.fact 0 rfl, hm.fact 1 rfl, trivial⟩) (ov_field fo61_5 rfl rfl) rfl ?_
                      refine wa_take_on 12 rfl rfl rfl (by kernel_rfl) (by kernel_rfl) (by kernel_rfl) (listed' := #[true, true, true, true, true, true, true, true, true, true, true, true, true, false, false, false, false]) rfl (fun _ _ _ h => h) (fun _ hm => ⟨hm.blkI 0 rfl, hm.blkI 1 rfl, hm.blkI 2 rfl, hm.fact 0 rfl, hm.fact 1 rfl, trivial⟩) (ov_load sc3 rfl (fun _ hm => hm.1) rfl) rfl ?_
                      refine wa_take_on 13 rfl rfl rfl (by kernel_rfl) (by kernel_rfl) (by kernel_rfl) (listed' := #[true, true, true, true, true, true, true, true, true, true, true, true, true, true, false, false, false]) rfl (fun _ _ _ h => h) (fun _ hm => ⟨hm.blkI 0 rfl, hm.blkI 1 rfl, hm.blkI 2 rfl, hm.fact 0 rfl, hm.fact 1 rfl, trivial⟩) (ov_geq rfl rfl) rfl ?_
                      refine wa_set 129 (v' := .bool false) rfl (congrArg Value.bool (decide_eq_false hz)) ?_
                      refine wa_take 14 rfl (by kernel_rfl) (by kernel_rfl) (by kernel_rfl) (listed' := #[true, true, true, true, true, true, true, true, true, true, true, true, true, true, true, false, false]) rfl (fun _ _ _ h => h) (fun _ hm => ⟨hm.blkI 0 rfl, hm.blkI 1 rfl, hm.blkI 2 rfl, hm.fact 0 rfl, hm.fact 1 rfl, trivial⟩) (ov_pick_t rfl rfl) rfl ?_
                      refine wa_take 15 rfl (by kernel_rfl) (by kernel_rfl) (by kernel_rfl) (listed' := #[true, true, true, true, true, true, true, true, true, true, true, true, true, true, true, true, false]) rfl (fun _ _ _ h => h) (fun _ hm => ⟨hm.blkI 0 rfl, hm.blkI 1 rfl, hm.blkI 2 rfl, hm.fact 0 rfl, hm.fact 1 rfl, trivial⟩) (ov_assign rfl) rfl ?_
                      refine wa_take 16 rfl (by kernel_rfl) (by kernel_rfl) (by kernel_rfl) (listed' := #[true, true, true, true, true, true, true, true, true, true, true, true, true, true, true, true, true]) rfl (fun _ _ _ h => h) (fun _ hm => ⟨hm.blkI 0 rfl, hm.blkI 1 rfl, hm.blkI 2 rfl, hm.fact 0 rfl, hm.fact 1 rfl, trivial⟩) (ov_assign rfl) rfl ?_
                      refine wa_done (by kernel_rfl) ?_
                      refine nx_then ?_
                      refine gw_ret ?_
                      refine nx_blk_ret ?_
                      refine nx_then_ret ?_
                      refine nx_ret2 rfl rfl rfl fun wx hm => ?_
                      have hP : priceK ⟨cl, rf, rt, ho, dd, we, wk⟩ (seasons l c fr D) fr tt kd i ((mm : Nat) : Int) = none := by
                        unfold priceK
                        rw [if_neg hk1, if_neg hk2, if_pos hkd, Int.toNat_natCast, ← hE2, ← hG]; rw [if_neg (fun h => hz h.2)]
                      exact ⟨we, by rw [hgo, hP]; rfl, fun v0 h => (by rw [hgo, hP] at h; cases h), hm.g⟩
                  · refine wa_set 126 rfl (congrArg Value.bool hw3) ?_
                    refine wa_take_off 11 rfl rfl rfl (by decide) (by kernel_rfl) (by kernel_rfl) (by kernel_rfl) (listed' := #[true, true, true, true, true, true, true, true, true, true, true, true, false, false, false, false, false]) rfl (fun _ _ _ h => h) (fun _ hm => ⟨hm.blkI 0 rfl, hm.blkI 1 rfl, hm.blkI 2 rfl, hm.fact 0 rfl, hm.fact 1 rfl, trivial⟩) rfl ?_
                    refine wa_take_off 12 rfl rfl rfl (by decide) (by kernel_rfl) (by kernel_rfl) (by kernel_rfl) (listed' := #[true, true, true, true, true, true, true, true, true, true, true, true, true, false, false, false, false]) rfl (fun _ _ _ h => h) (fun _ hm => ⟨hm.blkI 0 rfl, hm.blkI 1 rfl, hm.blkI 2 rfl, hm.fact 0 rfl, hm.fact 1 rfl, trivial⟩) rfl ?_
                    refine wa_take_off 13 rfl rfl rfl (by decide) (by kernel_rfl) (by kernel_rfl) (by kernel_rfl) (listed' := #[true, true, true, true, true, true, true, true, true, true, true, true, true, true, false, false, false]) rfl (fun _ _ _ h => h) (fun _ hm => ⟨hm.blkI 0 rfl, hm.blkI 1 rfl, hm.blkI 2 rfl, hm.fact 0 rfl, hm.fact 1 rfl, trivial⟩) rfl ?_
                    refine wa_take 14 rfl (by kernel_rfl) (by kernel_rfl) (by kernel_rfl) (listed' := #[true, true, true, true, true, true, true, true, true, true, true, true, true, true, true, false, false]) rfl (fun _ _ _ h => h) (fun _ hm => ⟨hm.blkI 0 rfl, hm.blkI 1 rfl, hm.blkI 2 rfl, hm.fact 0 rfl, hm.fact 1 rfl, trivial⟩) (ov_pick_f rfl rfl) rfl ?_
                    refine wa_take 15 rfl (by kernel_rfl) (by kernel_rfl) (by kernel_rfl) (listed' := #[true, true, true, true, true, true, true, true, true, true, true, true, true, true, true, true, false]) rfl (fun _ _ _ h => h) (fun _ hm => ⟨hm.blkI 0 rfl, hm.blkI 1 rfl, hm.blkI 2 rfl, hm.fact 0 rfl, hm.fact 1 rfl, trivial⟩) (ov_assign rfl) rfl ?_
                    refine wa_take 16 rfl (by kernel_rfl) (by kernel_rfl) (by kernel_rfl) (listed' := #[true, true, true, true, true, true, true, true, true, true, true, true, true, true, true, true, true]) rfl (fun _ _ _ h => h) (fun _ hm => ⟨hm.blkI 0 rfl, hm.blkI 1 rfl, hm.blkI 2 rfl, hm.fact 0 rfl, hm.fact 1 rfl, trivial⟩) (ov_assign rfl) rfl ?_
                    refine wa_done (by kernel_rfl) ?_
                    refine nx_then ?_
                    refine gw_ret ?_
                    refine nx_blk_ret ?_
                    refine nx_then_ret ?_
                    refine nx_ret2 rfl rfl rfl fun wx hm => ?_
                    have hP : priceK ⟨cl, rf, rt, ho, dd, we, wk⟩ (seasons l c fr D) fr tt kd i ((mm : Nat) : Int) = none := by
                      unfold priceK
                      rw [if_neg hk1, if_neg hk2, if_pos hkd, Int.toNat_natCast, ← hE2, ← hG]; rw [if_neg (fun h => of_decide_eq_false hw3 h.1.2)]
                    exact ⟨we, by rw [hgo, hP]; rfl, fun v0 h => (by rw [hgo, hP] at h; cases h), hm.g⟩
                · refine wa_set 119 rfl (congrArg Value.bool hw1) ?_
                  have hw2 : ¬ 0 ≤ wkE G := by
                    have h := of_decide_eq_false hw1
                    rcases hW with h2 | h2
                    · exact absurd h2.1 h
                    · exact h2.2
                  refine wa_take_off 4 rfl rfl rfl (by decide) (by kernel_rfl) (by kernel_rfl) (by kernel_rfl) (listed' := #[true, true, true, true, true, false, false, false, false, false, false, false, false, false, false, false, false]) rfl (fun _ _ _ h => h) (fun _ hm => ⟨hm.blkI 0 rfl, hm.blkI 1 rfl, hm.blkI 2 rfl, hm.fact 0 rfl, hm.fact 1 rfl, trivial⟩) rfl ?_
                  refine wa_take_off 5 rfl rfl rfl (by decide) (by kernel_rfl) (by kernel_rfl) (by kernel_rfl) (listed' := #[true, true, true, true, true, true, false, false, false, false, false, false, false, false, false, false, false]) rfl (fun _ _ _ h => h) (fun _ hm => ⟨hm.blkI 0 rfl, hm.blkI 1 rfl, hm.blkI 2 rfl, hm.fact 0 rfl, hm.fact 1 rfl, trivial⟩) rfl ?_
                  refine wa_take_off 6 rfl rfl rfl (by decide) (by kernel_rfl) (by kernel_rfl) (by kernel_rfl) (listed' := #[true, true, true, true, true, true, true, false, false, false, false, false, false, false, false, false, false]) rfl (fun _ _ _ h => h) (fun _ hm => ⟨hm.blkI 0 rfl, hm.blkI 1 rfl, hm.blkI 2 rfl, hm.fact 0 rfl, hm.fact 1 rfl, trivial⟩) rfl ?_
                  refine wa_take_off 7 rfl rfl rfl (by decide) (by kernel_rfl) (by kernel_rfl) (by kernel_rfl) (listed' := #[true, true, true, true, true, true, true, true, false, false, false, false, false, false, false, false, false]) rfl (fun _ _ _ h => h) (fun _ hm => ⟨hm.blkI 0 rfl, hm.blkI 1 rfl, hm.blkI 2 rfl, hm.fact 0 rfl, hm.fact 1 rfl, trivial⟩) rfl ?_
                  refine wa_take_off 8 rfl rfl rfl (by decide) (by kernel_rfl) (by kernel_rfl) (by kernel_rfl) (listed' := #[true, true, true, true, true, true, true, true, true, false, false, false, false, false, false, false, false]) rfl (fun _ _ _ h => h) (fun _ hm => ⟨hm.blkI 0 rfl, hm.blkI 1 rfl, hm.blkI 2 rfl, hm.fact 0 rfl, hm.fact 1 rfl, trivial⟩) rfl ?_
                  refine wa_take 9 rfl (by kernel_rfl) (by kernel_rfl) (by kernel_rfl) (listed' := #[true, true, true, true, true, true, true, true, true, true, false, false, false, false, false, false, false]) rfl (fun _ _ _ h => h) (fun _ hm => ⟨hm.blkI 0 rfl, hm.blkI 1 rfl, hm.blkI 2 rfl, hm.fact 0 rfl, hm.fact 1 rfl, trivial⟩) (ov_pick_f rfl rfl) rfl ?_
                  refine wa_take 10 rfl (by kernel_rfl) (by kernel_rfl) (by kernel_rfl) (listed' := #[true, true, true, true, true, true, true, true, true, true, true, false, false, false, false, false, false]) rfl (fun _ _ _ h => h) (fun _ hm => ⟨hm.blkI 0 rfl, hm.blkI 1 rfl, hm.blkI 2 rfl, hm.fact 0 rfl, hm.fact 1 rfl, trivial⟩) (ov_move rfl) rfl ?_
                  refine wa_take_off 11 rfl rfl rfl (by decide) (by kernel_rfl) (by kernel_rfl) (by kernel_rfl) (listed' := #[true, true, true, true, true, true, true, true, true, true, true, true, false, false, false, false, false]) rfl (fun _ _ _ h => h) (fun _ hm => ⟨hm.blkI 0 rfl, hm.blkI 1 rfl, hm.blkI 2 rfl, hm.fact 0 rfl, hm.fact 1 rfl, trivial⟩) rfl ?_
                  refine wa_take_off 12 rfl rfl rfl (by decide) (by kernel_rfl) (by kernel_rfl) (by kernel_rfl) (listed' := #[true, true, true, true, true, true, true, true, true, true, true, true, true, false, false, false, false]) rfl (fun _ _ _ h => h) (fun _ hm => ⟨hm.blkI 0 rfl, hm.blkI 1 rfl, hm.blkI 2 rfl, hm.fact 0 rfl, hm.fact 1 rfl, trivial⟩) rfl ?_
                  refine wa_take_off 13 rfl rfl rfl (by decide) (by kernel_rfl) (by kernel_rfl) (by kernel_rfl) (listed' := #[true, true, true, true, true, true, true, true, true, true, true, true, true, true, false, false, false]) rfl (fun _ _ _ h => h) (fun _ hm => ⟨hm.blkI 0 rfl, hm.blkI 1 rfl, hm.blkI 2 rfl, hm.fact 0 rfl, hm.fact 1 rfl, trivial⟩) rfl ?_
                  refine wa_take 14 rfl (by kernel_rfl) (by kernel_rfl) (by kernel_rfl) (listed' := #[true, true, true, true, true, true, true, true, true, true, true, true, true, true, true, false, false]) rfl (fun _ _ _ h => h) (fun _ hm => ⟨hm.blkI 0 rfl, hm.blkI 1 rfl, hm.blkI 2 rfl, hm.fact 0 rfl, hm.fact 1 rfl, trivial⟩) (ov_pick_f rfl rfl) rfl ?_
                  refine wa_take 15 rfl (by kernel_rfl) (by kernel_rfl) (by kernel_rfl) (listed' := #[true, true, true, true, true, true, true, true, true, true, true, true, true, true, true, true, false]) rfl (fun _ _ _ h => h) (fun _ hm => ⟨hm.blkI 0 rfl, hm.blkI 1 rfl, hm.blkI 2 rfl, hm.fact 0 rfl, hm.fact 1 rfl, trivial⟩) (ov_assign rfl) rfl ?_
                  refine wa_take 16 rfl (by kernel_rfl) (by kernel_rfl) (by kernel_rfl) (listed' := #[true, true, true, true, true, true, true, true, true, true, true, true, true, true, true, true, true]) rfl (fun _ _ _ h => h) (fun _ hm => ⟨hm.blkI 0 rfl, hm.blkI 1 rfl, hm.blkI 2 rfl, hm.fact 0 rfl, hm.fact 1 rfl, trivial⟩) (ov_assign rfl) rfl ?_
                  refine wa_done (by kernel_rfl) ?_
                  refine nx_then ?_
                  refine gw_ret ?_
                  refine nx_blk_ret ?_
                  refine nx_then_ret ?_
                  refine nx_ret2 rfl rfl rfl fun wx hm => ?_
                  have hP : priceK ⟨cl, rf, rt, ho, dd, we, wk⟩ (seasons l c fr D) fr tt kd i ((mm : Nat) : Int) = none := by
                    unfold priceK
                    rw [if_neg hk1, if_neg hk2, if_pos hkd, Int.toNat_natCast, ← hE2, ← hG]; rw [if_neg (fun h => hw2 h.1.1)]
                  exact ⟨we, by rw [hgo, hP]; rfl, fun v0 h => (by rw [hgo, hP] at h; cases h), hm.g⟩
              · have hkd : ¬ (kd = 3) := by simpa using hh
                clear hh
                refine gw_seq ?_
                refine gw_region ?_
                refine wl_ov (ov_eql rfl rfl) rfl ?_
                refine wl_ov (ov_assign rfl) rfl ?_
                refine wl_nil ?_
                refine nx_then ?_
                refine gw_cond rfl (fun hh => ?_) (fun hh => ?_)
                · have hkd : kd = 4 := by simpa using hh
                  clear hh
                  refine gw_seq ?_
                  refine gw_region ?_
                  have hk1 : ¬ kd = 1 := by omega
                  have hk2 : ¬ kd = 2 := by omega
                  have hk3 : ¬ kd = 3 := by omega
                  refine wl_ov (ov_assign rfl) rfl ?_
                  refine wl_nil ?_
                  refine nx_then ?_
                  refine gw_seq ?_
                  refine gw_seq ?_
                  refine gw_region ?_
                  refine wl_ov (ov_move rfl) rfl ?_
                  refine wl_ov (ov_assign rfl) rfl ?_
                  refine wl_nil ?_
                  refine nx_then ?_
                  refine gw_block ?_
                  refine gw_loop (γ := Nat × Bool) (fun (g : Nat × Bool) => g.1 ≤ mm ∧ g.2 = ((((seasons l c fr D).drop i).take g.1).all (fun y => decide (y = ((k0 : Nat) : Int))))) (fun (g : Nat × Bool) => [(1, .int .i64 ((i : Nat) : Int)), (3, .pointer (some ⟨g1, 0, none⟩)), (5, .pointer (some ⟨g2, 0, none⟩)), (8, .pointer (some ⟨g3, 0, none⟩)), (10, .int .i64 (((i + mm : Nat) : Int) - 1)), (18, .bool g.2), (19, .int .i64 ((i + g.1 : Nat) : Int))]) (fun (g : Nat × Bool) => fun _ => True) (fun (g : Nat × Bool) => [(g3, 61, [.string cl, .int .i64 rf, .int .i64 rt, .int .i64 ho, .int .i64 dd, .int .i64 we, .int .i64 wk]), (g2, 79, [.int .i64 kd, .int .i64 ((mm : Nat) : Int), .int .i64 pc]), (g1, 170, [.slice A n c0, .string c, .int .i64 fr, .int .i64 tt, .int .i64 ((D : Nat) : Int)])]) (fun (g : Nat × Bool) => []) (fun (g : Nat × Bool) => [SlOld rtEnc 7 61 w.heap.size none A n l]) (fun (g : Nat × Bool) => mm - g.1) (0, true) ⟨Nat.zero_le _, by simp⟩ ⟨rfl, rfl, rfl, rfl, rfl, rfl, rfl, trivial⟩ (fun _ hm => hm.pick [0, 1, 2] [] [0] rfl rfl) ?_
                  rintro ⟨k, bb⟩ hinv
                  replace hinv : k ≤ mm ∧ bb = ((((seasons l c fr D).drop i).take k).all (fun y => decide (y = ((k0 : Nat) : Int)))) := hinv
                  dsimp only
                  refine gw_seq ?_
                  refine gw_seq ?_
                  refine gw_region ?_
                  obtain ⟨hk9, hbb⟩ := hinv
                  refine wl_ov (ov_move rfl) rfl ?_
                  refine wl_ov (ov_move rfl) rfl ?_
                  refine wl_ov (ov_leq rfl rfl) rfl ?_
                  refine wl_nil ?_
                  refine nx_then ?_
                  refine gw_cond rfl (fun hh => ?_) (fun hh => ?_)
                  · have hk : ((i + k : Nat) : Int) ≤ ((i + mm : Nat) : Int) - 1 := by simpa using hh
                    clear hh
                    refine gw_skip ?_
                    refine nx_then ?_
                    refine gw_seq ?_
                    refine gw_block ?_
                    refine gw_seq ?_
                    refine gw_region ?_
                    have hkm : k < mm := by omega
                    have hst := same_step (k := ((k0 : Nat) : Int)) (seasons_get (l := l) (c := c) (fr := fr) (show i + k < D by omega))
                    obtain ⟨_, k2, z, hk22, hz, hzp, hzR⟩ := seaB_yes (l := l) (c := c) (fr := fr) (D := D) (i := i + k) (decide_eq_true ⟨by omega, hall k hkm⟩)
                    obtain ⟨z0, z1, z2, z3, z4, z5, z6⟩ := z
                    have hsb : seaB l c fr D (i + k) = true := decide_eq_true ⟨by omega, hall k hkm⟩
                    refine wl_ov (ov_loads rz170 rfl (fun _ hm => hm.blkI 2 rfl) rfl rfl) rfl ?_
                    refine wl_ov (ov_move rfl) rfl ?_
                    refine wl_callv (v := .tuple #[.agg #[.string z0, .int .i64 z1, .int .i64 z2, .int .i64 z3, .int .i64 z4, .int .i64 z5, .int .i64 z6], .bool true]) rfl cb119 rfl rfl (fun wx hm => (by have h := season_any l A n c0 c fr tt D (i + k) wx (hm.fact 0 rfl).1 hn hpos h0 h00 (by omega) (by omega); rw [hsb, hzR] at h; exact h)) ?_
                    refine wl_ov (ov_move rfl) rfl ?_
                    refine wl_ov (ov_extract rfl rfl) rfl ?_
                    refine wl_ov (ov_extract rfl rfl) rfl ?_
                    refine wl_alloc zc61 rfl fun g6 => ?_
                    refine wl_stores (cs' := [.string z0, .int .i64 z1, .int .i64 z2, .int .i64 z3, .int .i64 z4, .int .i64 z5, .int .i64 z6]) 0 rz61 rfl rfl rfl rfl rfl rfl rfl rfl ?_
                    refine wl_ov (ov_assign rfl) rfl ?_
                    refine wl_nil ?_
                    refine nx_then ?_
                    refine gw_region ?_
                    refine wl_ov (ov_move rfl) rfl ?_
                    refine wl_ov (ov_move rfl) rfl ?_
                    rcases Bool.eq_false_or_eq_true bb with hb1 | hb1
                    · refine wl_set 146 rfl (congrArg Value.bool hb1) ?_
                      by_cases hkk : k2 = k0
                      · subst hkk
                        have hzz : (⟨z0, z1, z2, z3, z4, z5, z6⟩ : Rt) = ⟨cl, rf, rt, ho, dd, we, wk⟩ := Option.some.inj (hz.symm.trans hy)
                        obtain ⟨rfl, rfl, rfl, rfl, rfl, rfl, rfl⟩ : z0 = cl ∧ z1 = rf ∧ z2 = rt ∧ z3 = ho ∧ z4 = dd ∧ z5 = we ∧ z6 = wk := by injection hzz with e1 e2 e3 e4 e5 e6 e7; exact ⟨e1, e2, e3, e4, e5, e6, e7⟩
                        refine wl_guard_on rfl rfl rfl ?_
                        refine wl_ov (ov_loads rz61 rfl (fun _ hm => hm.blkI 0 rfl) rfl rfl) rfl ?_
                        refine wl_guard_on rfl rfl rfl ?_
                        refine wl_ov (ov_loads rz61 rfl (fun _ hm => hm.blkI 1 rfl) rfl rfl) rfl ?_
                        refine wl_guard_on rfl rfl rfl ?_
                        refine wl_ov (ov_bin rfl rfl (cmp_agg guard_rate (fun wx => same_rate_eql z0 z1 z2 z3 z4 z5 z6 wx))) rfl ?_
                        refine wl_ov (ov_pick_t rfl rfl) rfl ?_
                        refine wl_ov (ov_assign rfl) rfl ?_
                        refine wl_nil ?_
                        refine nx_blk_nrm ?_
                        refine nx_then ?_
                        refine gw_region ?_
                        refine wl_ov (ov_move rfl) rfl ?_
                        refine wl_ov (ov_add rfl rfl (by omega) (by omega)) rfl ?_
                        refine wl_ov (ov_assign rfl) rfl ?_
                        refine wl_nil ?_
                        exact nx_round (k + 1, true) ⟨by dsimp only; omega, by dsimp only; rw [hst, ← hbb, hb1, hk22, decide_eq_true rfl, Bool.true_and]⟩ (by dsimp only; omega) ⟨rfl, rfl, rfl, rfl, rfl, rfl, (some_int (by omega)), trivial⟩ (fun _ hm => hm.pick [1, 2, 3] [] [0] rfl rfl)
                      · have hne : z1 ≠ rf := by
                          rcases rate_same hr0 hz hy hzp hyp with h | h
                          · exact absurd h hkk
                          · exact h
                        refine wl_guard_on rfl rfl rfl ?_
                        refine wl_ov (ov_loads rz61 rfl (fun _ hm => hm.blkI 0 rfl) rfl rfl) rfl ?_
                        refine wl_guard_on rfl rfl rfl ?_
                        refine wl_ov (ov_loads rz61 rfl (fun _ hm => hm.blkI 1 rfl) rfl rfl) rfl ?_
                        refine wl_guard_on rfl rfl rfl ?_
                        refine wl_ov (ov_bin rfl rfl (cmp_agg guard_rate (fun wx => diff_rate z0 cl z1 z2 z3 z4 z5 z6 rf rt ho dd we wk hne wx))) rfl ?_
                        refine wl_ov (ov_pick_t rfl rfl) rfl ?_
                        refine wl_ov (ov_assign rfl) rfl ?_
                        refine wl_nil ?_
                        refine nx_blk_nrm ?_
                        refine nx_then ?_
                        refine gw_region ?_
                        refine wl_ov (ov_move rfl) rfl ?_
                        refine wl_ov (ov_add rfl rfl (by omega) (by omega)) rfl ?_
                        refine wl_ov (ov_assign rfl) rfl ?_
                        refine wl_nil ?_
                        exact nx_round (k + 1, false) ⟨by dsimp only; omega, by dsimp only; rw [hst, ← hbb, hk22, decide_eq_false (fun e => hkk (by omega)), Bool.and_false]⟩ (by dsimp only; omega) ⟨rfl, rfl, rfl, rfl, rfl, rfl, (some_int (by omega)), trivial⟩ (fun _ hm => hm.pick [1, 2, 3] [] [0] rfl rfl)
                    · refine wl_set 146 rfl (congrArg Value.bool hb1) ?_
                      refine wl_guard_off rfl rfl rfl (by decide) rfl ?_
                      refine wl_guard_off rfl rfl rfl (by decide) rfl ?_
                      refine wl_guard_off rfl rfl rfl (by decide) rfl ?_
                      refine wl_ov (ov_pick_f rfl rfl) rfl ?_
                      refine wl_ov (ov_assign rfl) rfl ?_
                      refine wl_nil ?_
                      refine nx_blk_nrm ?_
                      refine nx_then ?_
                      refine gw_region ?_
                      refine wl_ov (ov_move rfl) rfl ?_
                      refine wl_ov (ov_add rfl rfl (by omega) (by omega)) rfl ?_
                      refine wl_ov (ov_assign rfl) rfl ?_
                      refine wl_nil ?_
                      exact nx_round (k + 1, false) ⟨by dsimp only; omega, by dsimp only; rw [hst, ← hbb, hb1, Bool.false_and]⟩ (by dsimp only; omega) ⟨rfl, rfl, rfl, rfl, rfl, rfl, (some_int (by omega)), trivial⟩ (fun _ hm => hm.pick [1, 2, 3] [] [0] rfl rfl)
                  · have hk : ¬ (((i + k : Nat) : Int) ≤ ((i + mm : Nat) : Int) - 1) := by simpa using hh
                    clear hh
                    refine gw_exit ?_
                    refine nx_then_exit ?_
                    refine nx_then_exit ?_
                    refine nx_blk_here ?_
                    refine nx_then ?_
                    refine gw_seq ?_
                    have hkm : k = mm := by omega
                    subst hkm
                    refine gw_draw (fun wz => Blk wz g3 61 [.string cl, .int .i64 rf, .int .i64 rt, .int .i64 ho, .int .i64 dd, .int .i64 we, .int .i64 wk] ∧ Blk wz g2 79 [.int .i64 kd, .int .i64 ((k : Nat) : Int), .int .i64 pc] ∧ Blk wz g1 170 [.slice A n c0, .string c, .int .i64 fr, .int .i64 tt, .int .i64 ((D : Nat) : Int)] ∧ (SlOld rtEnc 7 61 w.heap.size none A n l) wz ∧ True) mixed ?_
                    refine wa_take 0 rfl (by kernel_rfl) (by kernel_rfl) (by kernel_rfl) (listed' := #[true, false, false, false, false, false, false, false, false, false, false, false, false, false, false, false, false, false, false, false]) rfl (fun _ _ _ h => h) (fun _ hm => ⟨hm.blkI 0 rfl, hm.blkI 1 rfl, hm.blkI 2 rfl, hm.fact 0 rfl, trivial⟩) (ov_field fo61_6 rfl rfl) rfl ?_
                    refine wa_take 1 rfl (by kernel_rfl) (by kernel_rfl) (by kernel_rfl) (listed' := #[true, true, false, false, false, false, false, false, false, false, false, false, false, false, false, false, false, false, false, false]) rfl (fun _ _ _ h => h) (fun _ hm => ⟨hm.blkI 0 rfl, hm.blkI 1 rfl, hm.blkI 2 rfl, hm.fact 0 rfl, trivial⟩) (ov_load sc3 rfl (fun _ hm => hm.1) rfl) rfl ?_
                    refine wa_take 2 rfl (by kernel_rfl) (by kernel_rfl) (by kernel_rfl) (listed' := #[true, true, true, false, false, false, false, false, false, false, false, false, false, false, false, false, false, false, false, false]) rfl (fun _ _ _ h => h) (fun _ hm => ⟨hm.blkI 0 rfl, hm.blkI 1 rfl, hm.blkI 2 rfl, hm.fact 0 rfl, trivial⟩) (ov_field fo79_1 rfl rfl) rfl ?_
                    refine wa_take 3 rfl (by kernel_rfl) (by kernel_rfl) (by kernel_rfl) (listed' := #[true, true, true, true, false, false, false, false, false, false, false, false, false, false, false, false, false, false, false, false]) rfl (fun _ _ _ h => h) (fun _ hm => ⟨hm.blkI 0 rfl, hm.blkI 1 rfl, hm.blkI 2 rfl, hm.fact 0 rfl, trivial⟩) (ov_load sc3 rfl (fun _ hm => hm.2.1) rfl) rfl ?_
                    refine wa_take 4 rfl (by kernel_rfl) (by kernel_rfl) (by kernel_rfl) (listed' := #[true, true, true, true, true, false, false, false, false, false, false, false, false, false, false, false, false, false, false, false]) rfl (fun _ _ _ h => h) (fun _ hm => ⟨hm.blkI 0 rfl, hm.blkI 1 rfl, hm.blkI 2 rfl, hm.fact 0 rfl, trivial⟩) (ov_field fo170_3 rfl rfl) rfl ?_
                    refine wa_take 5 rfl (by kernel_rfl) (by kernel_rfl) (by kernel_rfl) (listed' := #[true, true, true, true, true, true, false, false, false, false, false, false, false, false, false, false, false, false, false, false]) rfl (fun _ _ _ h => h) (fun _ hm => ⟨hm.blkI 0 rfl, hm.blkI 1 rfl, hm.blkI 2 rfl, hm.fact 0 rfl, trivial⟩) (ov_load sc3 rfl (fun _ hm => hm.2.2.1) rfl) rfl ?_
                    refine wa_take 6 rfl (by kernel_rfl) (by kernel_rfl) (by kernel_rfl) (listed' := #[true, true, true, true, true, true, true, false, false, false, false, false, false, false, false, false, false, false, false, false]) rfl (fun _ _ _ h => h) (fun _ hm => ⟨hm.blkI 0 rfl, hm.blkI 1 rfl, hm.blkI 2 rfl, hm.fact 0 rfl, trivial⟩) (ov_move rfl) rfl ?_
                    refine wa_take 7 rfl (by kernel_rfl) (by kernel_rfl) (by kernel_rfl) (listed' := #[true, true, true, true, true, true, true, true, false, false, false, false, false, false, false, false, false, false, false, false]) rfl (fun _ _ _ h => h) (fun _ hm => ⟨hm.blkI 0 rfl, hm.blkI 1 rfl, hm.blkI 2 rfl, hm.fact 0 rfl, trivial⟩) (ov_sub rfl rfl (by omega) (by omega)) rfl ?_
                    refine wa_take 8 rfl (by kernel_rfl) (by kernel_rfl) (by kernel_rfl) (listed' := #[true, true, true, true, true, true, true, true, true, false, false, false, false, false, false, false, false, false, false, false]) rfl (fun _ _ _ h => h) (fun _ hm => ⟨hm.blkI 0 rfl, hm.blkI 1 rfl, hm.blkI 2 rfl, hm.fact 0 rfl, trivial⟩) (ov_min rfl rfl) rfl ?_
                    refine wa_take 9 rfl (by kernel_rfl) (by kernel_rfl) (by kernel_rfl) (listed' := #[true, true, true, true, true, true, true, true, true, true, false, false, false, false, false, false, false, false, false, false]) rfl (fun _ _ _ h => h) (fun _ hm => ⟨hm.blkI 0 rfl, hm.blkI 1 rfl, hm.blkI 2 rfl, hm.fact 0 rfl, trivial⟩) (ov_eql rfl rfl) rfl ?_
                    refine wa_take 10 rfl (by kernel_rfl) (by kernel_rfl) (by kernel_rfl) (listed' := #[true, true, true, true, true, true, true, true, true, true, true, false, false, false, false, false, false, false, false, false]) rfl (fun _ _ _ h => h) (fun _ hm => ⟨hm.blkI 0 rfl, hm.blkI 1 rfl, hm.blkI 2 rfl, hm.fact 0 rfl, trivial⟩) (ov_move rfl) rfl ?_
                    rcases Bool.eq_false_or_eq_true (decide (((k : Nat) : Int) = min 7 (((D : Nat) : Int) - ((i : Nat) : Int)))) with hmn | hmn
                    · refine wa_set 161 rfl (congrArg Value.bool hmn) ?_
                      refine wa_take_on 11 rfl rfl rfl (by kernel_rfl) (by kernel_rfl) (by kernel_rfl) (listed' := #[true, true, true, true, true, true, true, true, true, true, true, true, false, false, false, false, false, false, false, false]) rfl (fun _ _ _ h => h) (fun _ hm => ⟨hm.blkI 0 rfl, hm.blkI 1 rfl, hm.blkI 2 rfl, hm.fact 0 rfl, trivial⟩) (ov_move rfl) rfl ?_
                      refine wa_take 12 rfl (by kernel_rfl) (by kernel_rfl) (by kernel_rfl) (listed' := #[true, true, true, true, true, true, true, true, true, true, true, true, true, false, false, false, false, false, false, false]) rfl (fun _ _ _ h => h) (fun _ hm => ⟨hm.blkI 0 rfl, hm.blkI 1 rfl, hm.blkI 2 rfl, hm.fact 0 rfl, trivial⟩) (ov_pick_t rfl rfl) rfl ?_
                      refine wa_take 13 rfl (by kernel_rfl) (by kernel_rfl) (by kernel_rfl) (listed' := #[true, true, true, true, true, true, true, true, true, true, true, true, true, true, false, false, false, false, false, false]) rfl (fun _ _ _ h => h) (fun _ hm => ⟨hm.blkI 0 rfl, hm.blkI 1 rfl, hm.blkI 2 rfl, hm.fact 0 rfl, trivial⟩) (ov_move rfl) rfl ?_
                      rcases Bool.eq_false_or_eq_true bb with hb1 | hb1
                      · refine wa_set 164 rfl (congrArg Value.bool hb1) ?_
                        by_cases hz : 0 ≤ wk
                        · refine wa_take_on 14 rfl rfl rfl (by kernel_rfl) (by kernel_rfl) (by kernel_rfl) (listed' := #[true, true, true, true, true, true, true, true, true, true, true, true, true, true, true, false, false, false, false, false]) rfl (fun _ _ _ h => h) (fun _ hm => ⟨hm.blkI 0 rfl, hm.blkI 1 rfl, hm.blkI 2 rfl, hm.fact 0 rfl, trivial⟩) (ov_field fo61_6 rfl rfl) rfl ?_
                          refine wa_take_on 15 rfl rfl rfl (by kernel_rfl) (by kernel_rfl) (by kernel_rfl) (listed' := #[true, true, true, true, true, true, true, true, true, true, true, true, true, true, true, true, false, false, false, false]) rfl (fun _ _ _ h => h) (fun _ hm => ⟨hm.blkI 0 rfl, hm.blkI 1 rfl, hm.blkI 2 rfl, hm.fact 0 rfl, trivial⟩) (ov_load sc3 rfl (fun _ hm => hm.1) rfl) rfl ?_
                          refine wa_take_on 16 rfl rfl rfl (by kernel_rfl) (by kernel_rfl) (by kernel_rfl) (listed' := #[true, true, true, true, true, true, true, true, true, true, true, true, true, true, true, true, true, false, false, false]) rfl (fun _ _ _ h => h) (fun _ hm => ⟨hm.blkI 0 rfl, hm.blkI 1 rfl, hm.blkI 2 rfl, hm.fact 0 rfl, trivial⟩) (ov_geq rfl rfl) rfl ?_
                          refine wa_set 167 (v' := .bool true) rfl (congrArg Value.bool (decide_eq_true hz)) ?_
                          refine wa_take 17 rfl (by kernel_rfl) (by kernel_rfl) (by kernel_rfl) (listed' := #[true, true, true, true, true, true, true, true, true, true, true, true, true, true, true, true, true, true, false, false]) rfl (fun _ _ _ h => h) (fun _ hm => ⟨hm.blkI 0 rfl, hm.blkI 1 rfl, hm.blkI 2 rfl, hm.fact 0 rfl, trivial⟩) (ov_pick_t rfl rfl) rfl ?_
                          refine wa_take 18 rfl (by kernel_rfl) (by kernel_rfl) (by kernel_rfl) (listed' := #[true, true, true, true, true, true, true, true, true, true, true, true, true, true, true, true, true, true, true, false]) rfl (fun _ _ _ h => h) (fun _ hm => ⟨hm.blkI 0 rfl, hm.blkI 1 rfl, hm.blkI 2 rfl, hm.fact 0 rfl, trivial⟩) (ov_assign rfl) rfl ?_
                          refine wa_take 19 rfl (by kernel_rfl) (by kernel_rfl) (by kernel_rfl) (listed' := #[true, true, true, true, true, true, true, true, true, true, true, true, true, true, true, true, true, true, true, true]) rfl (fun _ _ _ h => h) (fun _ hm => ⟨hm.blkI 0 rfl, hm.blkI 1 rfl, hm.blkI 2 rfl, hm.fact 0 rfl, trivial⟩) (ov_assign rfl) rfl ?_
                          refine wa_done (by kernel_rfl) ?_
                          refine nx_then ?_
                          refine gw_ret ?_
                          refine nx_blk_ret ?_
                          refine nx_then_ret ?_
                          refine nx_ret2 rfl rfl rfl fun wx hm => ?_
                          have hP : priceK ⟨cl, rf, rt, ho, dd, we, wk⟩ (seasons l c fr D) fr tt kd i ((k : Nat) : Int) = some (wk) := by
                            unfold priceK
                            rw [if_neg hk1, if_neg hk2, if_neg hk3, if_pos hkd, Int.toNat_natCast, hgi, seasons_len]; rw [if_pos ⟨⟨of_decide_eq_true hmn, all_same.1 (hbb.symm.trans hb1)⟩, hz⟩]
                          exact ⟨wk, by rw [hgo, hP]; rfl, fun v0 h => (by rw [hgo, hP] at h; injection h), hm.g⟩
                        · refine wa_take_on 14 rfl rfl rfl (by kernel_rfl) (by kernel_rfl) (by kernel_rfl) (listed' := #[true, true, true, true, true, true, true, true, true, true, true, true, true, true, true, false, false, false, false, false]) rfl (fun _ _ _ h => h) (fun _ hm => ⟨hm.blkI 0 rfl, hm.blkI 1 rfl, hm.blkI 2 rfl, hm.fact 0 rfl, trivial⟩) (ov_field fo61_6 rfl rfl) rfl ?_
                          refine wa_take_on 15 rfl rfl rfl (by kernel_rfl) (by kernel_rfl) (by kernel_rfl) (listed' := #[true, true, true, true, true, true, true, true, true, true, true, true, true, true, true, true, false, false, false, false]) rfl (fun _ _ _ h => h) (fun _ hm => ⟨hm.blkI 0 rfl, hm.blkI 1 rfl, hm.blkI 2 rfl, hm.fact 0 rfl, trivial⟩) (ov_load sc3 rfl (fun _ hm => hm.1) rfl) rfl ?_
                          refine wa_take_on 16 rfl rfl rfl (by kernel_rfl) (by kernel_rfl) (by kernel_rfl) (listed' := #[true, true, true, true, true, true, true, true, true, true, true, true, true, true, true, true, true, false, false, false]) rfl (fun _ _ _ h => h) (fun _ hm => ⟨hm.blkI 0 rfl, hm.blkI 1 rfl, hm.blkI 2 rfl, hm.fact 0 rfl, trivial⟩) (ov_geq rfl rfl) rfl ?_
                          refine wa_set 167 (v' := .bool false) rfl (congrArg Value.bool (decide_eq_false hz)) ?_
                          refine wa_take 17 rfl (by kernel_rfl) (by kernel_rfl) (by kernel_rfl) (listed' := #[true, true, true, true, true, true, true, true, true, true, true, true, true, true, true, true, true, true, false, false]) rfl (fun _ _ _ h => h) (fun _ hm => ⟨hm.blkI 0 rfl, hm.blkI 1 rfl, hm.blkI 2 rfl, hm.fact 0 rfl, trivial⟩) (ov_pick_t rfl rfl) rfl ?_
                          refine wa_take 18 rfl (by kernel_rfl) (by kernel_rfl) (by kernel_rfl) (listed' := #[true, true, true, true, true, true, true, true, true, true, true, true, true, true, true, true, true, true, true, false]) rfl (fun _ _ _ h => h) (fun _ hm => ⟨hm.blkI 0 rfl, hm.blkI 1 rfl, hm.blkI 2 rfl, hm.fact 0 rfl, trivial⟩) (ov_assign rfl) rfl ?_
                          refine wa_take 19 rfl (by kernel_rfl) (by kernel_rfl) (by kernel_rfl) (listed' := #[true, true, true, true, true, true, true, true, true, true, true, true, true, true, true, true, true, true, true, true]) rfl (fun _ _ _ h => h) (fun _ hm => ⟨hm.blkI 0 rfl, hm.blkI 1 rfl, hm.blkI 2 rfl, hm.fact 0 rfl, trivial⟩) (ov_assign rfl) rfl ?_
                          refine wa_done (by kernel_rfl) ?_
                          refine nx_then ?_
                          refine gw_ret ?_
                          refine nx_blk_ret ?_
                          refine nx_then_ret ?_
                          refine nx_ret2 rfl rfl rfl fun wx hm => ?_
                          have hP : priceK ⟨cl, rf, rt, ho, dd, we, wk⟩ (seasons l c fr D) fr tt kd i ((k : Nat) : Int) = none := by
                            unfold priceK
                            rw [if_neg hk1, if_neg hk2, if_neg hk3, if_pos hkd, Int.toNat_natCast, hgi, seasons_len]; rw [if_neg (fun h => hz h.2)]
                          exact ⟨wk, by rw [hgo, hP]; rfl, fun v0 h => (by rw [hgo, hP] at h; cases h), hm.g⟩
                      · refine wa_set 164 rfl (congrArg Value.bool hb1) ?_
                        refine wa_take_off 14 rfl rfl rfl (by decide) (by kernel_rfl) (by kernel_rfl) (by kernel_rfl) (listed' := #[true, true, true, true, true, true, true, true, true, true, true, true, true, true, true, false, false, false, false, false]) rfl (fun _ _ _ h => h) (fun _ hm => ⟨hm.blkI 0 rfl, hm.blkI 1 rfl, hm.blkI 2 rfl, hm.fact 0 rfl, trivial⟩) rfl ?_
                        refine wa_take_off 15 rfl rfl rfl (by decide) (by kernel_rfl) (by kernel_rfl) (by kernel_rfl) (listed' := #[true, true, true, true, true, true, true, true, true, true, true, true, true, true, true, true, false, false, false, false]) rfl (fun _ _ _ h => h) (fun _ hm => ⟨hm.blkI 0 rfl, hm.blkI 1 rfl, hm.blkI 2 rfl, hm.fact 0 rfl, trivial⟩) rfl ?_
                        refine wa_take_off 16 rfl rfl rfl (by decide) (by kernel_rfl) (by kernel_rfl) (by kernel_rfl) (listed' := #[true, true, true, true, true, true, true, true, true, true, true, true, true, true, true, true, true, false, false, false]) rfl (fun _ _ _ h => h) (fun _ hm => ⟨hm.blkI 0 rfl, hm.blkI 1 rfl, hm.blkI 2 rfl, hm.fact 0 rfl, trivial⟩) rfl ?_
                        refine wa_take 17 rfl (by kernel_rfl) (by kernel_rfl) (by kernel_rfl) (listed' := #[true, true, true, true, true, true, true, true, true, true, true, true, true, true, true, true, true, true, false, false]) rfl (fun _ _ _ h => h) (fun _ hm => ⟨hm.blkI 0 rfl, hm.blkI 1 rfl, hm.blkI 2 rfl, hm.fact 0 rfl, trivial⟩) (ov_pick_f rfl rfl) rfl ?_
                        refine wa_take 18 rfl (by kernel_rfl) (by kernel_rfl) (by kernel_rfl) (listed' := #[true, true, true, true, true, true, true, true, true, true, true, true, true, true, true, true, true, true, true, false]) rfl (fun _ _ _ h => h) (fun _ hm => ⟨hm.blkI 0 rfl, hm.blkI 1 rfl, hm.blkI 2 rfl, hm.fact 0 rfl, trivial⟩) (ov_assign rfl) rfl ?_
                        refine wa_take 19 rfl (by kernel_rfl) (by kernel_rfl) (by kernel_rfl) (listed' := #[true, true, true, true, true, true, true, true, true, true, true, true, true, true, true, true, true, true, true, true]) rfl (fun _ _ _ h => h) (fun _ hm => ⟨hm.blkI 0 rfl, hm.blkI 1 rfl, hm.blkI 2 rfl, hm.fact 0 rfl, trivial⟩) (ov_assign rfl) rfl ?_
                        refine wa_done (by kernel_rfl) ?_
                        refine nx_then ?_
                        refine gw_ret ?_
                        refine nx_blk_ret ?_
                        refine nx_then_ret ?_
                        refine nx_ret2 rfl rfl rfl fun wx hm => ?_
                        have hP : priceK ⟨cl, rf, rt, ho, dd, we, wk⟩ (seasons l c fr D) fr tt kd i ((k : Nat) : Int) = none := by
                          unfold priceK
                          rw [if_neg hk1, if_neg hk2, if_neg hk3, if_pos hkd, Int.toNat_natCast, hgi, seasons_len]; rw [if_neg (fun h => by rw [hb1] at hbb; rw [all_same.2 h.1.2] at hbb; cases hbb)]
                        exact ⟨wk, by rw [hgo, hP]; rfl, fun v0 h => (by rw [hgo, hP] at h; cases h), hm.g⟩
                    · refine wa_set 161 rfl (congrArg Value.bool hmn) ?_
                      refine wa_take_off 11 rfl rfl rfl (by decide) (by kernel_rfl) (by kernel_rfl) (by kernel_rfl) (listed' := #[true, true, true, true, true, true, true, true, true, true, true, true, false, false, false, false, false, false, false, false]) rfl (fun _ _ _ h => h) (fun _ hm => ⟨hm.blkI 0 rfl, hm.blkI 1 rfl, hm.blkI 2 rfl, hm.fact 0 rfl, trivial⟩) rfl ?_
                      refine wa_take 12 rfl (by kernel_rfl) (by kernel_rfl) (by kernel_rfl) (listed' := #[true, true, true, true, true, true, true, true, true, true, true, true, true, false, false, false, false, false, false, false]) rfl (fun _ _ _ h => h) (fun _ hm => ⟨hm.blkI 0 rfl, hm.blkI 1 rfl, hm.blkI 2 rfl, hm.fact 0 rfl, trivial⟩) (ov_pick_f rfl rfl) rfl ?_
                      refine wa_take 13 rfl (by kernel_rfl) (by kernel_rfl) (by kernel_rfl) (listed' := #[true, true, true, true, true, true, true, true, true, true, true, true, true, true, false, false, false, false, false, false]) rfl (fun _ _ _ h => h) (fun _ hm => ⟨hm.blkI 0 rfl, hm.blkI 1 rfl, hm.blkI 2 rfl, hm.fact 0 rfl, trivial⟩) (ov_move rfl) rfl ?_
                      refine wa_take_off 14 rfl rfl rfl (by decide) (by kernel_rfl) (by kernel_rfl) (by kernel_rfl) (listed' := #[true, true, true, true, true, true, true, true, true, true, true, true, true, true, true, false, false, false, false, false]) rfl (fun _ _ _ h => h) (fun _ hm => ⟨hm.blkI 0 rfl, hm.blkI 1 rfl, hm.blkI 2 rfl, hm.fact 0 rfl, trivial⟩) rfl ?_
                      refine wa_take_off 15 rfl rfl rfl (by decide) (by kernel_rfl) (by kernel_rfl) (by kernel_rfl) (listed' := #[true, true, true, true, true, true, true, true, true, true, true, true, true, true, true, true, false, false, false, false]) rfl (fun _ _ _ h => h) (fun _ hm => ⟨hm.blkI 0 rfl, hm.blkI 1 rfl, hm.blkI 2 rfl, hm.fact 0 rfl, trivial⟩) rfl ?_
                      refine wa_take_off 16 rfl rfl rfl (by decide) (by kernel_rfl) (by kernel_rfl) (by kernel_rfl) (listed' := #[true, true, true, true, true, true, true, true, true, true, true, true, true, true, true, true, true, false, false, false]) rfl (fun _ _ _ h => h) (fun _ hm => ⟨hm.blkI 0 rfl, hm.blkI 1 rfl, hm.blkI 2 rfl, hm.fact 0 rfl, trivial⟩) rfl ?_
                      refine wa_take 17 rfl (by kernel_rfl) (by kernel_rfl) (by kernel_rfl) (listed' := #[true, true, true, true, true, true, true, true, true, true, true, true, true, true, true, true, true, true, false, false]) rfl (fun _ _ _ h => h) (fun _ hm => ⟨hm.blkI 0 rfl, hm.blkI 1 rfl, hm.blkI 2 rfl, hm.fact 0 rfl, trivial⟩) (ov_pick_f rfl rfl) rfl ?_
                      refine wa_take 18 rfl (by kernel_rfl) (by kernel_rfl) (by kernel_rfl) (listed' := #[true, true, true, true, true, true, true, true, true, true, true, true, true, true, true, true, true, true, true, false]) rfl (fun _ _ _ h => h) (fun _ hm => ⟨hm.blkI 0 rfl, hm.blkI 1 rfl, hm.blkI 2 rfl, hm.fact 0 rfl, trivial⟩) (ov_assign rfl) rfl ?_
                      refine wa_take 19 rfl (by kernel_rfl) (by kernel_rfl) (by kernel_rfl) (listed' := #[true, true, true, true, true, true, true, true, true, true, true, true, true, true, true, true, true, true, true, true]) rfl (fun _ _ _ h => h) (fun _ hm => ⟨hm.blkI 0 rfl, hm.blkI 1 rfl, hm.blkI 2 rfl, hm.fact 0 rfl, trivial⟩) (ov_assign rfl) rfl ?_
                      refine wa_done (by kernel_rfl) ?_
                      refine nx_then ?_
                      refine gw_ret ?_
                      refine nx_blk_ret ?_
                      refine nx_then_ret ?_
                      refine nx_ret2 rfl rfl rfl fun wx hm => ?_
                      have hP : priceK ⟨cl, rf, rt, ho, dd, we, wk⟩ (seasons l c fr D) fr tt kd i ((k : Nat) : Int) = none := by
                        unfold priceK
                        rw [if_neg hk1, if_neg hk2, if_neg hk3, if_pos hkd, Int.toNat_natCast, hgi, seasons_len]; rw [if_neg (fun h => of_decide_eq_false hmn h.1.1)]
                      exact ⟨wk, by rw [hgo, hP]; rfl, fun v0 h => (by rw [hgo, hP] at h; cases h), hm.g⟩
                · have hkd : ¬ (kd = 4) := by simpa using hh
                  clear hh
                  refine gw_skip ?_
                  refine nx_blk_nrm ?_
                  refine nx_then ?_
                  refine gw_seq ?_
                  refine gw_region ?_
                  have hk1 : ¬ kd = 1 := by omega
                  have hk2 : ¬ kd = 2 := by omega
                  have hk3 : ¬ kd = 3 := by omega
                  refine wl_ov (ov_assign rfl) rfl ?_
                  refine wl_ov (ov_assign rfl) rfl ?_
                  refine wl_nil ?_
                  refine nx_then ?_
                  refine gw_ret ?_
                  refine nx_ret2 rfl rfl rfl fun wx hm => ?_
                  have hP : priceK ⟨cl, rf, rt, ho, dd, we, wk⟩ (seasons l c fr D) fr tt kd i ((mm : Nat) : Int) = none := by
                    unfold priceK
                    rw [if_neg hk1, if_neg hk2, if_neg hk3, if_neg hkd]
                  exact ⟨0, by rw [hgo, hP]; rfl, fun v0 h => (by rw [hgo, hP] at h; cases h), hm.g⟩

end Go.Proofs.YtmpomocahgcebaaDoor
