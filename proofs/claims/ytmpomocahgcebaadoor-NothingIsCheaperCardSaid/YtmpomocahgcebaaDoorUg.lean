/- The walk of the law NothingIsCheaper. -/
import Derived.Test.YtmpomocahgcebaaDoorUf
import Derived.Test.YtmpomocahgcebaaDoorRy
namespace Go.Proofs.YtmpomocahgcebaaDoor
open Go.RowKit

theorem wk_bound (x : Int) : wkE x ≤ x + 4320 ∨ wkE x = -1 := by
  have h1 := Int.emod_nonneg x (show (10080 : Int) ≠ 0 by decide)
  unfold wkE
  split
  · left; omega
  · split
    · left; omega
    · right; rfl
theorem price_week {l : List Rt} {c : ByteArray} {fr tt : Int} (ht : timeE fr tt = 0) {k : Int} {i : Nat} {m v : Int} (h : prH l c fr tt k i m = some v) : m ≤ 7 := by
  have hs := price_some h
  rw [seasons_len] at hs
  obtain ⟨hm1, hm2, _⟩ := hs
  obtain ⟨h0, h1, h2, _⟩ := timeE_ok ht
  unfold prH priceO at h
  split at h
  · cases h
  · split at h
    · cases h
    · unfold priceK at h
      split at h
      · split at h
        · omega
        · cases h
      · split at h
        · split at h
          · omega
          · cases h
        · split at h
          · split at h
            · rename_i hc
              obtain ⟨⟨e1, e2⟩, _⟩ := hc
              have hb := wk_bound (begV fr i)
              obtain ⟨mm, rfl⟩ := Int.eq_ofNat_of_zero_le (show 0 ≤ m by omega)
              rw [Int.toNat_natCast] at e2
              have hw : wkE (begV fr i) ≤ begV fr i + 4320 := by omega
              generalize wkE (begV fr i) = W at e1 e2 hw
              have hd : ((i + mm - 1 : Nat) : Int) = (i : Int) + mm - 1 := by omega
              unfold daysN daysV at hm2
              unfold endV at e2
              unfold begV at hw
              rw [hd] at e2
              omega
            · cases h
          · split at h
            · split at h
              · rename_i hc
                have := hc.1.1
                omega
              · cases h
            · cases h
theorem cost_chain {pr : Int → Nat → Int → Option Int} {sb : Nat → Bool} {n : Nat} (hf : ∀ k i m v, pr k i m = some v → (1 ≤ m ∧ (i : Int) + m ≤ (n : Int)) ∧ m ≤ 7) : ∀ {ps : List Pc} {i : Nat} {t v : Int}, i ≤ n → costG pr sb n i t ps = (v, 0) → Chain pr i n ps ∧ v = t + pcSum ps
  | [], i, t, v, hi, h => by
    unfold costG at h
    split at h
    · injection h with _ h; cases h
    · injection h with h _
      simp only [Chain, pcSum]
      exact ⟨by omega, by omega⟩
  | p :: r, i, t, v, hi, h => by
    unfold costG at h
    split at h
    · injection h with _ h; cases h
    · rename_i hk
      split at h
      · injection h with _ h; cases h
      · split at h
        · injection h with _ h; cases h
        · rename_i v0 hp
          split at h
          · rename_i hv
            obtain ⟨⟨h1, h2⟩, h3⟩ := hf _ _ _ _ hp
            obtain ⟨g1, g2⟩ := cost_chain hf (by omega) h
            have hk := inB_iff.1 (by simpa using hk)
            simp only [Chain, pcSum]
            exact ⟨⟨⟨hk.1, hk.2, h1, h3, hv ▸ hp⟩, g1⟩, by omega⟩
          · injection h with _ h; cases h
theorem cost_of {pr : Int → Nat → Int → Option Int} {sb : Nat → Bool} {n : Nat} (hsb : ∀ k i m v, pr k i m = some v → sb i = true) : ∀ {ps : List Pc} {i : Nat} {t : Int}, Chain pr i n ps → costG pr sb n i t ps = (t + pcSum ps, 0)
  | [], i, t, h => by
    simp only [Chain] at h
    rw [cg_end (by omega)]; simp [pcSum]
  | p :: r, i, t, h => by
    obtain ⟨h1, h2, h3, h4, h5⟩ := h.1
    rw [cg_next (inB_iff.2 ⟨h1, h2⟩) (hsb _ _ _ _ h5) h5 rfl, cost_of hsb h.2]
    simp only [pcSum]
    rw [Int.add_assoc]
theorem price_sea {l : List Rt} {c : ByteArray} {fr tt : Int} {k : Int} {i : Nat} {m v : Int} (h : prH l c fr tt k i m = some v) : seaB l c fr (daysN fr tt) i = true := by
  obtain ⟨h1, h2, h3, _⟩ := price_some h
  rw [seasons_len] at h2
  have hi : i < daysN fr tt := by omega
  refine decide_eq_true ⟨hi, ?_⟩
  have hb := ixP_bound (p := rateP c (begV fr i / 1440)) l
  have e : seaV l c fr i = ixP (rateP c (begV fr i / 1440)) l 0 := rfl
  by_cases h4 : seaV l c fr i = -1
  · exact absurd (sea_take (j := 0) h4 (show 0 < m.toNat by omega) (by omega)) h3
  · omega
section
variable {l : List Rt} {c : ByteArray} {fr tt er : Int} {ps qs : List Pc}
theorem cheap_bad (h : DivIs l c fr tt er ps) (he : er ≠ 0) : (costV l c fr tt qs).2 ≠ 0 := by
  unfold costV
  rcases h with ⟨h1, _⟩ | ⟨h1, ⟨_, _, h3⟩ | ⟨h2, _⟩⟩
  · rw [if_neg h1]; exact h1
  · rw [if_pos h1]
    intro e
    have ht := (chkE_ok h1).2.2
    have hf : ∀ k i m v, prH l c fr tt k i m = some v → (1 ≤ m ∧ (i : Int) + m ≤ (daysN fr tt : Int)) ∧ m ≤ 7 := fun k i m v hp => by
      have h4 := price_some hp
      rw [seasons_len] at h4
      exact ⟨⟨h4.1, h4.2.1⟩, price_week ht hp⟩
    exact h3 _ (cost_chain hf (v := (costG (prH l c fr tt) (seaB l c fr (daysN fr tt)) (daysN fr tt) 0 0 qs).1) (Nat.zero_le _) (Prod.ext rfl e)).1
  · exact absurd h2 he
theorem cheap_own (h : DivIs l c fr tt 0 ps) : costV l c fr tt ps = (pcSum ps, 0) ∧ ∀ qs, (costV l c fr tt qs).2 = 0 → pcSum ps ≤ (costV l c fr tt qs).1 := by
  rcases h with ⟨h1, h2, _⟩ | ⟨h1, ⟨h2, _⟩ | ⟨_, hb⟩⟩
  · exact absurd h2.symm h1
  · cases h2
  · refine ⟨?_, fun qs hq => ?_⟩
    · unfold costV
      rw [if_pos h1, cost_of (fun k i m v hp => price_sea hp) hb.1]
      simp
    · unfold costV at hq ⊢
      rw [if_pos h1] at hq ⊢
      have ht := (chkE_ok h1).2.2
      have hf : ∀ k i m v, prH l c fr tt k i m = some v → (1 ≤ m ∧ (i : Int) + m ≤ (daysN fr tt : Int)) ∧ m ≤ 7 := fun k i m v hp => by
        have h4 := price_some hp
        rw [seasons_len] at h4
        exact ⟨⟨h4.1, h4.2.1⟩, price_week ht hp⟩
      obtain ⟨g1, g2⟩ := cost_chain hf (v := (costG (prH l c fr tt) (seaB l c fr (daysN fr tt)) (daysN fr tt) 0 0 qs).1) (Nat.zero_le _) (Prod.ext rfl hq)
      rw [g2]
      rcases hb.2 qs g1 with e | hl
      · rw [e]; omega
      · unfold WLt at hl; omega
end

set_option maxRecDepth 100000 in
set_option maxHeartbeats 2000000 in
theorem cheaper_walk (a0 : Option Addr) (len0 cap0 : Nat) (z0 : List Int) (w : World) (hR : RowIn w a0 len0 cap0 z0) :
    Calls Tryd.prog 13 #[.slice a0 len0 cap0] w fun e w' => e = .returned (.bool true) ∧ Below w.heap.size w w' := by
  refine gw_enter ⟨73, w, none, []⟩ Tryd.func13 rfl Tryd.ntmps13 rfl (mem0 (X := []) allF_nil allL_nil) ?_
  refine gw_seq ?_
  refine gw_region ?_
  refine wl_ov (ov_assign rfl) rfl ?_
  refine wl_nil ?_
  refine nx_then ?_
  refine gw_seq ?_
  refine gw_region ?_
  refine wl_ov (ov_move rfl) rfl ?_
  refine wl_ov (ov_build (cs := [.slice a0 len0 cap0, .int .i64 0]) rfl (by kernel_rfl)) rfl ?_
  refine wl_box rfl rfl rfl fun sb => ?_
  refine wl_ov (ov_assign rfl) rfl ?_
  refine wl_nil ?_
  refine nx_then ?_
  refine gw_seq ?_
  refine gw_region ?_
  refine wl_ov (ov_move rfl) rfl ?_
  refine wl_law [61, 79] hR 0 rfl fun w1 B hg1 hsb => ?_
  refine wl_calls (γ := Option Addr × Nat × Nat × List Rt) (val := (fun (g : Option Addr × Nat × Nat × List Rt) => .slice g.1 g.2.1 g.2.2.1)) (φ := (fun (g : Option Addr × Nat × Nat × List Rt) => (∀ x ∈ g.2.2.2, RtOk x) ∧ g.2.1 ≤ 9 ∧ g.2.2.2.length = g.2.1)) (Y := (fun (g : Option Addr × Nat × Nat × List Rt) => fun wy => SlT rtEnc 7 61 wy g.1 g.2.1 g.2.2.2)) (m' := 0 + 120) rfl cb86 rfl rfl rfl rfl (fun wx hm => (grightRates_any wx B sb _ hm.k (by omega)).mono fun _ _ ⟨A, n, c0, l, he, ho, hok, hl, hn, hS, hg⟩ => ⟨(A, n, c0, l), he, ⟨hok, hn, hl⟩, hS, hg, SlT.ofOwn rt_len ho hl⟩) (fun _ => SlT.lasts2 rfl) ?_
  rintro ⟨A, n, c0, l⟩ hR1
  dsimp only at hR1 ⊢
  obtain ⟨hok, hn10, hlen⟩ := hR1
  refine wl_ov (ov_move rfl) rfl ?_
  refine wl_buildSlice (e := 9) (cs := [.string ⟨#[109, 105, 110, 105]⟩, .string ⟨#[109, 105, 100, 105]⟩, .string ⟨#[109, 97, 120, 105]⟩]) rfl (by kernel_rfl) rfl fun g1 => ?_
  refine wl_got (γ := ByteArray) (val := fun v => .string v) (φ := fun v => v ∈ ([⟨#[109, 105, 110, 105]⟩, ⟨#[109, 105, 100, 105]⟩, ⟨#[109, 97, 120, 105]⟩] : List ByteArray)) rfl cb66 rfl rfl rfl rfl (fun wx hm => (some_any [⟨#[109, 105, 110, 105]⟩, ⟨#[109, 105, 100, 105]⟩, ⟨#[109, 97, 120, 105]⟩] _ _ _ wx B sb _ hm.k (by omega) (by simp) (by simp) (hm.blkI 0 rfl) (hm.neRow 0 rfl rfl))) fun c hc => ?_
  have zc : c.size ≤ 100 := mem_sz hc (by decide)
  refine wl_ov (ov_move rfl) rfl ?_
  refine wl_calls (γ := Int × Int) (val := (fun (g : Int × Int) => .agg #[.int .i64 g.1, .int .i64 g.2])) (φ := (fun (g : Int × Int) => Far g.1 ∧ Far g.2)) (Y := (fun (g : Int × Int) => fun _ => True)) (m' := 0 + 120 + 1 + 10) rfl cb29 rfl rfl rfl rfl (fun wx hm => (gtime_any wx B sb _ hm.k (by omega)).mono fun _ _ ⟨fr, tt, h1, h2, he, hS, hg⟩ => ⟨(fr, tt), he, ⟨h1, h2⟩, hS, hg, trivial⟩) (fun _ => Lasts2.true_) ?_
  rintro ⟨fr, tt⟩ hT1
  dsimp only at hT1 ⊢
  obtain ⟨⟨hf0, hf1⟩, hf2, hf3⟩ := hT1
  refine wl_alloc zc56 rfl fun g3 => ?_
  refine wl_ov (ov_assign rfl) rfl ?_
  refine wl_ov (ov_assign rfl) rfl ?_
  refine wl_stores (cs' := [.int .i64 fr, .int .i64 tt]) 0 rz56 rfl rfl rfl rfl rfl rfl rfl rfl ?_
  refine wl_nil ?_
  refine nx_then ?_
  refine gw_seq ?_
  refine gw_region ?_
  refine wl_ov (ov_move rfl) rfl ?_
  refine wl_ov (ov_move rfl) rfl ?_
  refine wl_ov (ov_loads rz56 rfl (fun _ hm => hm.blkI 0 rfl) rfl rfl) rfl ?_
  refine wl_callx (γ := Option Addr × Nat × Nat × List Pc × Int) (val := (fun (g : Option Addr × Nat × Nat × List Pc × Int) => .tuple #[.slice g.1 g.2.1 g.2.2.1, .int .i64 g.2.2.2.2])) (φ := (fun (g : Option Addr × Nat × Nat × List Pc × Int) => DivIs l c fr tt g.2.2.2.2 g.2.2.2.1 ∧ g.2.1 ≤ 120 ∧ g.2.2.2.1.length = g.2.1)) (Y := (fun (g : Option Addr × Nat × Nat × List Pc × Int) => fun wy => SlT pcEnc 3 79 wy g.1 g.2.1 g.2.2.2.1)) rfl cb42 rfl rfl (fun wx hm => (tDivide_any l A n c0 c fr tt wx (hm.fact 1 rfl) hok (by omega) (by omega)).mono fun _ _ ⟨A3, n3, c3, ps, er, he, hg, hs, hd, hn3⟩ => ⟨(A3, n3, c3, ps, er), he, ⟨hd, hn3, hs.len⟩, hg, hs⟩) (fun _ => SlT.lasts2 rfl) ?_
  rintro ⟨A3, n3, c3, ps, er⟩ hdv
  dsimp only at hdv ⊢
  obtain ⟨hdv, hn3, hps⟩ := hdv
  refine wl_ov (ov_move rfl) rfl ?_
  refine wl_ov (ov_extract rfl rfl) rfl ?_
  refine wl_ov (ov_extract rfl rfl) rfl ?_
  refine wl_ov (ov_assign rfl) rfl ?_
  refine wl_ov (ov_assign rfl) rfl ?_
  refine wl_nil ?_
  refine nx_then ?_
  refine gw_seq ?_
  refine gw_region ?_
  refine wl_ov (ov_move rfl) rfl ?_
  refine wl_ov (ov_move rfl) rfl ?_
  refine wl_ov (ov_move rfl) rfl ?_
  refine wl_ov (ov_loads rz56 rfl (fun _ hm => hm.blkI 0 rfl) rfl rfl) rfl ?_
  refine wl_calls (γ := Option Addr × Nat × Nat × List Pc) (val := (fun (g : Option Addr × Nat × Nat × List Pc) => .slice g.1 g.2.1 g.2.2.1)) (φ := (fun (g : Option Addr × Nat × Nat × List Pc) => (∀ p ∈ g.2.2.2, PcB p) ∧ g.2.1 ≤ 200 ∧ g.2.2.2.length = g.2.1)) (Y := (fun (g : Option Addr × Nat × Nat × List Pc) => fun wy => SlT pcEnc 3 79 wy g.1 g.2.1 g.2.2.2)) (m' := 0 + 120 + 1 + 10 + 50) rfl cb47 rfl rfl rfl rfl (fun wx hm => (gpieces_any l A n c0 c fr tt wx B sb _ hm.k (by omega) (hm.fact 2 rfl) hok (by omega)).mono fun _ _ ⟨A2, n2, c2, ps, he, hs, hb, hn2, hS, hg⟩ => ⟨(A2, n2, c2, ps), he, ⟨hb, hn2, hs.len⟩, hS, hg, hs⟩) (fun _ => SlT.lasts2 rfl) ?_
  rintro ⟨A5, n5, c5, qp⟩ hqp
  dsimp only at hqp ⊢
  obtain ⟨hqb, hqn, hql⟩ := hqp
  obtain ⟨CV, hCV⟩ : ∃ E, E = costV l c fr tt qp := ⟨_, rfl⟩
  obtain ⟨cv, ce⟩ := CV
  have hpsb : ∀ p ∈ ps, PcB p := by
    rcases hdv with ⟨_, _, h⟩ | ⟨_, ⟨_, h, _⟩ | ⟨_, h⟩⟩
    · rw [h]; exact fun _ h => by cases h
    · rw [h]; exact fun _ h => by cases h
    · exact fun p hp => by
        have h3 := chain_small h.1 p hp
        exact ⟨by have := h3.2.1; omega, by have := h3.2.2; omega⟩
  refine wl_ov (ov_assign rfl) rfl ?_
  refine wl_nil ?_
  refine nx_then ?_
  refine gw_seq ?_
  refine gw_region ?_
  refine wl_ov (ov_move rfl) rfl ?_
  refine wl_ov (ov_move rfl) rfl ?_
  refine wl_ov (ov_loads rz56 rfl (fun _ hm => hm.blkI 0 rfl) rfl rfl) rfl ?_
  refine wl_ov (ov_move rfl) rfl ?_
  refine wl_callv (v := .tuple #[.int .i64 cv, .int .i64 ce]) rfl cb48 rfl rfl (fun wx hm => (by have h := tCost_any l A n c0 c fr tt qp A5 n5 c5 wx (hm.fact 3 rfl) hok (by omega) (by omega) (hm.fact 0 rfl) (by omega) hqb; rw [← hCV] at h; exact h)) ?_
  refine wl_ov (ov_move rfl) rfl ?_
  refine wl_ov (ov_extract rfl rfl) rfl ?_
  refine wl_ov (ov_extract rfl rfl) rfl ?_
  refine wl_ov (ov_assign rfl) rfl ?_
  refine wl_ov (ov_assign rfl) rfl ?_
  refine wl_nil ?_
  refine nx_then ?_
  refine gw_seq ?_
  refine gw_seq ?_
  refine gw_region ?_
  refine wl_ov (ov_move rfl) rfl ?_
  refine wl_ov (ov_neq rfl rfl) rfl ?_
  refine wl_nil ?_
  refine nx_then ?_
  refine gw_cond rfl (fun hh => ?_) (fun hh => ?_)
  · have he : ¬ (er = 0) := by simpa using hh
    clear hh
    refine gw_seq ?_
    refine gw_region ?_
    have hce : ce ≠ 0 := by have h := cheap_bad (qs := qp) hdv (by simpa using he); rw [← hCV] at h; exact h
    refine wl_ov (ov_move rfl) rfl ?_
    refine wl_ov (ov_neq rfl rfl) rfl ?_
    refine wl_set 47 (v' := .bool true) rfl (congrArg Value.bool (by rw [decide_eq_false hce]; rfl)) ?_
    refine wl_ov (ov_move rfl) rfl ?_
    refine wl_guard_on rfl rfl rfl ?_
    refine wl_callv rfl cb17 rfl rfl (fun wx hm => (ready_any wx)) ?_
    refine wl_ov (ov_pick_t rfl rfl) rfl ?_
    refine wl_ov (ov_assign rfl) rfl ?_
    refine wl_nil ?_
    refine nx_then ?_
    refine gw_ret ?_
    refine nx_then_ret ?_
    refine nx_ret1 rfl rfl fun wx hm => ?_
    exact ⟨rfl, law_end hg1 hsb hm.g⟩
  · have he : er = 0 := by simpa using hh
    clear hh
    refine gw_skip ?_
    refine nx_then ?_
    refine gw_seq ?_
    refine gw_region ?_
    have he : er = 0 := by simpa using he
    subst he
    obtain ⟨hown, hall⟩ := cheap_own hdv
    have hq := hall qp
    rw [← hCV] at hq
    dsimp only at hq
    refine wl_ov (ov_move rfl) rfl ?_
    refine wl_ov (ov_move rfl) rfl ?_
    refine wl_ov (ov_loads rz56 rfl (fun _ hm => hm.blkI 0 rfl) rfl rfl) rfl ?_
    refine wl_ov (ov_move rfl) rfl ?_
    refine wl_callv (v := .tuple #[.int .i64 (pcSum ps), .int .i64 0]) rfl cb48 rfl rfl (fun wx hm => (by have h := tCost_any l A n c0 c fr tt ps A3 n3 c3 wx (hm.fact 3 rfl) hok (by omega) (by omega) (hm.fact 1 rfl) (by omega) hpsb; rw [hown] at h; exact h)) ?_
    refine wl_ov (ov_move rfl) rfl ?_
    refine wl_ov (ov_extract rfl rfl) rfl ?_
    refine wl_ov (ov_extract rfl rfl) rfl ?_
    refine wl_ov (ov_assign rfl) rfl ?_
    refine wl_ov (ov_assign rfl) rfl ?_
    refine wl_nil ?_
    refine nx_then ?_
    refine gw_seq ?_
    refine gw_region ?_
    refine wl_ov (ov_move rfl) rfl ?_
    refine wl_ov (ov_eql rfl rfl) rfl ?_
    refine wl_set 60 (v' := .bool true) rfl (congrArg Value.bool (by decide)) ?_
    refine wl_ov (ov_move rfl) rfl ?_
    refine wl_guard_on rfl rfl rfl ?_
    refine wl_ov (ov_move rfl) rfl ?_
    refine wl_guard_on rfl rfl rfl ?_
    refine wl_ov (ov_neq rfl rfl) rfl ?_
    refine wl_guard_on rfl rfl rfl ?_
    refine wl_ov (ov_move rfl) rfl ?_
    rcases Bool.eq_false_or_eq_true (!decide (ce = 0)) with hce | hce
    · refine wl_set 64 rfl (congrArg Value.bool hce) ?_
      refine wl_guard_off rfl rfl rfl (by decide) rfl ?_
      refine wl_guard_off rfl rfl rfl (by decide) rfl ?_
      refine wl_guard_off rfl rfl rfl (by decide) rfl ?_
      refine wl_guard_on rfl rfl rfl ?_
      refine wl_ov (ov_pick_t rfl rfl) rfl ?_
      refine wl_ov (ov_pick_t rfl rfl) rfl ?_
      refine wl_ov (ov_move rfl) rfl ?_
      refine wl_guard_on rfl rfl rfl ?_
      refine wl_callv rfl cb17 rfl rfl (fun wx hm => (ready_any wx)) ?_
      refine wl_ov (ov_pick_t rfl rfl) rfl ?_
      refine wl_ov (ov_assign rfl) rfl ?_
      refine wl_nil ?_
      refine nx_then ?_
      refine gw_ret ?_
      refine nx_ret1 rfl rfl fun wx hm => ?_
      exact ⟨rfl, law_end hg1 hsb hm.g⟩
    · refine wl_set 64 rfl (congrArg Value.bool hce) ?_
      have hle : pcSum ps ≤ cv := hq (by simpa using hce)
      refine wl_guard_on rfl rfl rfl ?_
      refine wl_ov (ov_move rfl) rfl ?_
      refine wl_guard_on rfl rfl rfl ?_
      refine wl_ov (ov_move rfl) rfl ?_
      refine wl_guard_on rfl rfl rfl ?_
      refine wl_ov (ov_leq rfl rfl) rfl ?_
      refine wl_set 67 (v' := .bool true) rfl (congrArg Value.bool (decide_eq_true hle)) ?_
      refine wl_guard_on rfl rfl rfl ?_
      refine wl_ov (ov_pick_f rfl rfl) rfl ?_
      refine wl_ov (ov_pick_t rfl rfl) rfl ?_
      refine wl_ov (ov_move rfl) rfl ?_
      refine wl_guard_on rfl rfl rfl ?_
      refine wl_callv rfl cb17 rfl rfl (fun wx hm => (ready_any wx)) ?_
      refine wl_ov (ov_pick_t rfl rfl) rfl ?_
      refine wl_ov (ov_assign rfl) rfl ?_
      refine wl_nil ?_
      refine nx_then ?_
      refine gw_ret ?_
      refine nx_ret1 rfl rfl fun wx hm => ?_
      exact ⟨rfl, law_end hg1 hsb hm.g⟩

end Go.Proofs.YtmpomocahgcebaaDoor
