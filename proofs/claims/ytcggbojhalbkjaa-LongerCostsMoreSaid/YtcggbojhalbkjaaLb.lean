/- A longer hire never costs less: the plain law. -/
import Derived.Test.YtcggbojhalbkjaaUe
import Derived.Test.YtcggbojhalbkjaaUf
namespace Go.Proofs.Ytcggbojhalbkjaa
open Go.RowKit

theorem sea_take {l : List Rt} {c : ByteArray} {fr : Int} {D i j mm : Nat} (h : seaV l c fr (i + j) = -1) (hj : j < mm) (hD : i + j < D) : (-1 : Int) ∈ ((seasons l c fr D).drop i).take mm := by
  apply List.mem_of_getElem? (i := j)
  rw [List.getElem?_take, if_pos hj, List.getElem?_drop, seasons_get hD, h]

theorem wk_bound (x : Int) : wkE x ≤ x + 4320 ∨ wkE x = -1 := by
  have h1 := Int.emod_nonneg x (show (10080 : Int) ≠ 0 by decide)
  unfold wkE
  split
  · left; omega
  · split
    · left; omega
    · right; rfl
theorem price_week {l : List Rt} {c : ByteArray} {fr tt : Int} (ht : timeE fr tt = 0) {k : Int} {i : Nat} {m v : Int} (h : prH l c fr tt k i m = some v) : m ≤ 7 := by
  have hs := price_some h
  rw [seasons_len] at hs
  obtain ⟨hm1, hm2, _⟩ := hs
  obtain ⟨h0, h1, h2, _⟩ := timeE_ok ht
  unfold prH priceO at h
  split at h
  · cases h
  · split at h
    · cases h
    · unfold priceK at h
      split at h
      · split at h
        · omega
        · cases h
      · split at h
        · split at h
          · omega
          · cases h
        · split at h
          · split at h
            · rename_i hc
              obtain ⟨⟨e1, e2⟩, _⟩ := hc
              have hb := wk_bound (begV fr i)
              obtain ⟨mm, rfl⟩ := Int.eq_ofNat_of_zero_le (show 0 ≤ m by omega)
              rw [Int.toNat_natCast] at e2
              have hw : wkE (begV fr i) ≤ begV fr i + 4320 := by omega
              generalize wkE (begV fr i) = W at e1 e2 hw
              have hd : ((i + mm - 1 : Nat) : Int) = (i : Int) + mm - 1 := by omega
              unfold daysN daysV at hm2
              unfold endV at e2
              unfold begV at hw
              rw [hd] at e2
              omega
            · cases h
          · split at h
            · split at h
              · rename_i hc
                have := hc.1.1
                omega
              · cases h
            · cases h
theorem cost_chain {pr : Int → Nat → Int → Option Int} {sb : Nat → Bool} {n : Nat} (hf : ∀ k i m v, pr k i m = some v → (1 ≤ m ∧ (i : Int) + m ≤ (n : Int)) ∧ m ≤ 7) : ∀ {ps : List Pc} {i : Nat} {t v : Int}, i ≤ n → costG pr sb n i t ps = (v, 0) → Chain pr i n ps ∧ v = t + pcSum ps
  | [], i, t, v, hi, h => by
    unfold costG at h
    split at h
    · injection h with _ h; cases h
    · injection h with h _
      simp only [Chain, pcSum]
      exact ⟨by omega, by omega⟩
  | p :: r, i, t, v, hi, h => by
    unfold costG at h
    split at h
    · injection h with _ h; cases h
    · rename_i hk
      split at h
      · injection h with _ h; cases h
      · split at h
        · injection h with _ h; cases h
        · rename_i v0 hp
          split at h
          · rename_i hv
            obtain ⟨⟨h1, h2⟩, h3⟩ := hf _ _ _ _ hp
            obtain ⟨g1, g2⟩ := cost_chain hf (by omega) h
            have hk := inB_iff.1 (by simpa using hk)
            simp only [Chain, pcSum]
            exact ⟨⟨⟨hk.1, hk.2, h1, h3, hv ▸ hp⟩, g1⟩, by omega⟩
          · injection h with _ h; cases h
theorem cost_of {pr : Int → Nat → Int → Option Int} {sb : Nat → Bool} {n : Nat} (hsb : ∀ k i m v, pr k i m = some v → sb i = true) : ∀ {ps : List Pc} {i : Nat} {t : Int}, Chain pr i n ps → costG pr sb n i t ps = (t + pcSum ps, 0)
  | [], i, t, h => by
    simp only [Chain] at h
    rw [cg_end (by omega)]; simp [pcSum]
  | p :: r, i, t, h => by
    obtain ⟨h1, h2, h3, h4, h5⟩ := h.1
    rw [cg_next (inB_iff.2 ⟨h1, h2⟩) (hsb _ _ _ _ h5) h5 rfl, cost_of hsb h.2]
    simp only [pcSum]
    rw [Int.add_assoc]
theorem price_sea {l : List Rt} {c : ByteArray} {fr tt : Int} {k : Int} {i : Nat} {m v : Int} (h : prH l c fr tt k i m = some v) : seaB l c fr (daysN fr tt) i = true := by
  obtain ⟨h1, h2, h3, _⟩ := price_some h
  rw [seasons_len] at h2
  have hi : i < daysN fr tt := by omega
  refine decide_eq_true ⟨hi, ?_⟩
  have hb := ixP_bound (p := rateP c (begV fr i / 1440)) l
  have e : seaV l c fr i = ixP (rateP c (begV fr i / 1440)) l 0 := rfl
  by_cases h4 : seaV l c fr i = -1
  · exact absurd (sea_take (j := 0) h4 (show 0 < m.toNat by omega) (by omega)) h3
  · omega
section
variable {l : List Rt} {c : ByteArray} {fr tt er : Int} {ps qs : List Pc}
theorem cheap_bad (h : DivIs l c fr tt er ps) (he : er ≠ 0) : (costV l c fr tt qs).2 ≠ 0 := by
  unfold costV
  rcases h with ⟨h1, _⟩ | ⟨h1, ⟨_, _, h3⟩ | ⟨h2, _⟩⟩
  · rw [if_neg h1]; exact h1
  · rw [if_pos h1]
    intro e
    have ht := (chkE_ok h1).2.2
    have hf : ∀ k i m v, prH l c fr tt k i m = some v → (1 ≤ m ∧ (i : Int) + m ≤ (daysN fr tt : Int)) ∧ m ≤ 7 := fun k i m v hp => by
      have h4 := price_some hp
      rw [seasons_len] at h4
      exact ⟨⟨h4.1, h4.2.1⟩, price_week ht hp⟩
    exact h3 _ (cost_chain hf (v := (costG (prH l c fr tt) (seaB l c fr (daysN fr tt)) (daysN fr tt) 0 0 qs).1) (Nat.zero_le _) (Prod.ext rfl e)).1
  · exact absurd h2 he
theorem cheap_own (h : DivIs l c fr tt 0 ps) : costV l c fr tt ps = (pcSum ps, 0) ∧ ∀ qs, (costV l c fr tt qs).2 = 0 → pcSum ps ≤ (costV l c fr tt qs).1 := by
  rcases h with ⟨h1, h2, _⟩ | ⟨h1, ⟨h2, _⟩ | ⟨_, hb⟩⟩
  · exact absurd h2.symm h1
  · cases h2
  · refine ⟨?_, fun qs hq => ?_⟩
    · unfold costV
      rw [if_pos h1, cost_of (fun k i m v hp => price_sea hp) hb.1]
      simp
    · unfold costV at hq ⊢
      rw [if_pos h1] at hq ⊢
      have ht := (chkE_ok h1).2.2
      have hf : ∀ k i m v, prH l c fr tt k i m = some v → (1 ≤ m ∧ (i : Int) + m ≤ (daysN fr tt : Int)) ∧ m ≤ 7 := fun k i m v hp => by
        have h4 := price_some hp
        rw [seasons_len] at h4
        exact ⟨⟨h4.1, h4.2.1⟩, price_week ht hp⟩
      obtain ⟨g1, g2⟩ := cost_chain hf (v := (costG (prH l c fr tt) (seaB l c fr (daysN fr tt)) (daysN fr tt) 0 0 qs).1) (Nat.zero_le _) (Prod.ext rfl hq)
      rw [g2]
      rcases hb.2 qs g1 with e | hl
      · rw [e]; omega
      · unfold WLt at hl; omega
end

theorem seasons_take (l : List Rt) (c : ByteArray) (fr : Int) {D E : Nat} (h : D ≤ E) : seasons l c fr D = (seasons l c fr E).take D := by
  unfold seasons
  rw [← List.map_take, List.take_range, Nat.min_eq_left h]
theorem seasons_part (l : List Rt) (c : ByteArray) (fr : Int) {D E i m k : Nat} (h : D ≤ E) (h1 : i + k ≤ D) (h2 : k ≤ m) : ((seasons l c fr D).drop i).take k = (((seasons l c fr E).drop i).take m).take k := by
  rw [seasons_take l c fr h, List.drop_take, List.take_take, List.take_take, Nat.min_eq_left (by omega), Nat.min_eq_left h2]
theorem days_mono {fr t T : Int} (hle : t ≤ T) : daysN fr t ≤ daysN fr T := by unfold daysN daysV; omega
/-- A piece that is cut where a shorter hire ends: it has a price, and one that is no more. -/
theorem price_cut {l : List Rt} {c : ByteArray} {fr t T : Int} (h1 : timeE fr t = 0) (hle : t ≤ T) {k : Int} {i : Nat} {m v : Int} (h : prH l c fr T k i m = some v) (hi : i < daysN fr t) : ∃ v', prH l c fr t k i (min m ((daysN fr t - i : Nat) : Int)) = some v' ∧ v' ≤ v := by
  have hs := price_some h
  rw [seasons_len] at hs
  obtain ⟨hm1, hm2, hn, k0, r, e1, e2⟩ := hs
  obtain ⟨g0, g1, g2, _⟩ := timeE_ok h1
  have hDE := days_mono (fr := fr) hle
  have hD1 : (daysN fr t : Int) = daysV fr t := by unfold daysN daysV; omega
  have hg : priceK r (seasons l c fr (daysN fr T)) fr T k i m = some v := by
    unfold prH at h
    by_cases hb : m < 1 ∨ ((seasons l c fr (daysN fr T)).length : Int) - (i : Int) < m ∨ (-1 : Int) ∈ ((seasons l c fr (daysN fr T)).drop i).take m.toNat
    · rw [price_no hb] at h; cases h
    · rw [price_go hb e1 e2] at h; exact h
  clear h
  obtain ⟨mm, rfl⟩ := Int.eq_ofNat_of_zero_le (show 0 ≤ m by omega)
  unfold daysV at hD1
  unfold prH
  generalize daysN fr t = D at *
  generalize daysN fr T = E at *
  obtain ⟨k', hk'⟩ : ∃ k' : Nat, k' = min mm (D - i) := ⟨_, rfl⟩
  rw [show min (mm : Int) ((D - i : Nat) : Int) = (k' : Int) by omega]
  have hpart := seasons_part l c fr hDE (show i + k' ≤ D by omega) (show k' ≤ mm by omega)
  have hsi : (seasons l c fr D)[i]? = some k0 := by rw [seasons_get hi]; rw [seasons_get (by omega)] at e1; exact e1
  rw [Int.toNat_natCast] at hn
  have hno : ¬ ((k' : Int) < 1 ∨ ((seasons l c fr D).length : Int) - (i : Int) < (k' : Int) ∨ (-1 : Int) ∈ ((seasons l c fr D).drop i).take (k' : Int).toNat) := by
    rw [seasons_len, Int.toNat_natCast, hpart]
    rintro (h | h | h)
    · omega
    · omega
    · exact hn (List.mem_of_mem_take h)
  rw [price_go hno hsi e2]
  unfold priceK at hg ⊢
  by_cases hk1 : k = 1
  · subst hk1
    rw [if_pos rfl] at hg ⊢
    by_cases hc : (mm : Int) = 1 ∧ (seasons l c fr E).length = i + 1 ∧ 0 ≤ r.hr
    · rw [if_pos hc] at hg
      obtain ⟨c1, c2, c3⟩ := hc
      rw [seasons_len] at c2
      rw [if_pos ⟨by omega, by rw [seasons_len]; omega, c3⟩]
      refine ⟨_, rfl, ?_⟩
      injection hg with hg
      rw [← hg]
      exact Int.mul_le_mul_of_nonneg_left (by unfold endV; omega) c3
    · rw [if_neg hc] at hg; cases hg
  rw [if_neg hk1] at hg ⊢
  by_cases hk2 : k = 2
  · subst hk2
    rw [if_pos rfl] at hg ⊢
    by_cases hc : (mm : Int) = 1 ∧ 0 ≤ r.dy
    · rw [if_pos hc] at hg
      rw [if_pos ⟨by omega, hc.2⟩]
      injection hg with hg
      exact ⟨_, rfl, by omega⟩
    · rw [if_neg hc] at hg; cases hg
  rw [if_neg hk2] at hg ⊢
  by_cases hk3 : k = 3
  · subst hk3
    rw [if_pos rfl] at hg ⊢
    by_cases hc : (0 ≤ wkE (begV fr i) ∧ endV fr T (i + ((mm : Int)).toNat - 1) ≤ wkE (begV fr i)) ∧ 0 ≤ r.we
    · rw [if_pos hc] at hg
      obtain ⟨⟨c1, c2⟩, c3⟩ := hc
      have hend : endV fr t (i + ((k' : Int)).toNat - 1) ≤ endV fr T (i + ((mm : Int)).toNat - 1) := by
        rw [Int.toNat_natCast, Int.toNat_natCast]
        unfold endV
        omega
      rw [if_pos ⟨⟨c1, Int.le_trans hend c2⟩, c3⟩]
      injection hg with hg
      exact ⟨_, rfl, by omega⟩
    · rw [if_neg hc] at hg; cases hg
  rw [if_neg hk3] at hg ⊢
  by_cases hk4 : k = 4
  · subst hk4
    rw [if_pos rfl] at hg ⊢
    by_cases hc : ((mm : Int) = min 7 (((seasons l c fr E).length : Int) - (i : Int)) ∧ ∀ x ∈ ((seasons l c fr E).drop i).take ((mm : Int)).toNat, (seasons l c fr E)[i]? = some x) ∧ 0 ≤ r.wk
    · rw [if_pos hc] at hg
      obtain ⟨⟨c1, c2⟩, c3⟩ := hc
      rw [seasons_len] at c1
      rw [Int.toNat_natCast] at c2
      rw [if_pos ⟨⟨by rw [seasons_len]; omega, fun x hx => by
        rw [Int.toNat_natCast, hpart] at hx
        rw [hsi, ← e1]
        exact c2 x (List.mem_of_mem_take hx)⟩, c3⟩]
      injection hg with hg
      exact ⟨_, rfl, by omega⟩
    · rw [if_neg hc] at hg; cases hg
  rw [if_neg hk4] at hg; cases hg
theorem chain_nonneg {pr : Int → Nat → Int → Option Int} (hb : ∀ k i m c, pr k i m = some c → 0 ≤ c ∧ c ≤ 24000000) : ∀ {qs : List Pc} {i j : Nat}, Chain pr i j qs → 0 ≤ pcSum qs
  | [], _, _, _ => Int.le_refl _
  | p :: r, i, j, h => by
    have h1 := (hb _ _ _ _ h.1.2.2.2.2).1
    have h2 := chain_nonneg hb h.2
    unfold pcSum; omega
/-- A division of a longer hire, cut: one of the shorter hire that costs no more. -/
theorem chain_cut {l : List Rt} {c : ByteArray} {fr t T : Int} (hr0 : ratesE l = 0) (h1 : timeE fr t = 0) (h2 : timeE fr T = 0) (hle : t ≤ T) : ∀ {qs : List Pc} {i : Nat}, Chain (prH l c fr T) i (daysN fr T) qs → i ≤ daysN fr t → ∃ ps, Chain (prH l c fr t) i (daysN fr t) ps ∧ pcSum ps ≤ pcSum qs
  | [], i, h, hi => ⟨[], by
      have h3 : i = daysN fr T := h
      have h4 := days_mono (fr := fr) hle
      show i = daysN fr t
      omega, Int.le_refl _⟩
  | p :: r, i, h, hi => by
    have hb := pr_bound (c := c) hr0 h2
    by_cases he : i = daysN fr t
    · exact ⟨[], he, chain_nonneg hb h⟩
    · have hs : StepOk (prH l c fr T) i p := h.1
      obtain ⟨s1, s2, s3, s4, s5⟩ := hs
      obtain ⟨v, hv, hvl⟩ := price_cut h1 hle s5 (show i < daysN fr t by omega)
      have hrest := chain_nonneg hb h.2
      by_cases hf : i + p.days.toNat ≤ daysN fr t
      · obtain ⟨ps, hps, hsum⟩ := chain_cut hr0 h1 h2 hle h.2 hf
        have hmin : min p.days ((daysN fr t - i : Nat) : Int) = p.days := by omega
        rw [hmin] at hv
        exact ⟨⟨p.kind, p.days, v⟩ :: ps, ⟨⟨s1, s2, s3, s4, hv⟩, hps⟩, by simp only [pcSum]; omega⟩
      · refine ⟨[⟨p.kind, min p.days ((daysN fr t - i : Nat) : Int), v⟩], ⟨⟨s1, s2, by dsimp only; omega, by dsimp only; omega, hv⟩, ?_⟩, ?_⟩
        · show i + (min p.days ((daysN fr t - i : Nat) : Int)).toNat = daysN fr t
          omega
        · simp only [pcSum]; omega
theorem best_least {pr : Int → Nat → Int → Option Int} {i j : Nat} {ps qs : List Pc} (h : Best pr i j ps) (g : Chain pr i j qs) : pcSum ps ≤ pcSum qs := by
  rcases h.2 qs g with e | hl
  · rw [e]; exact Int.le_refl _
  · unfold WLt at hl; omega
/-- The search finds the last moment. -/
theorem strF_spec {P : Int → Bool} {top : Int} : ∀ (n : Nat) (lo hi : Int), hi - lo ≤ (n : Int) → lo ≤ hi → hi ≤ top → P lo = true → (hi = top ∨ P (hi + 1) = false) → lo ≤ strF P n lo hi ∧ strF P n lo hi ≤ top ∧ P (strF P n lo hi) = true ∧ (strF P n lo hi = top ∨ P (strF P n lo hi + 1) = false)
  | 0, lo, hi, hn, h1, h2, hp, ht => by
    have e : lo = hi := by omega
    subst e
    exact ⟨Int.le_refl _, h2, hp, ht⟩
  | n + 1, lo, hi, hn, h1, h2, hp, ht => by
    by_cases hl : lo < hi
    · cases hq : P ((lo + hi + 1) / 2) with
      | true =>
        rw [strF_yes hl hq]
        obtain ⟨a1, a2, a3, a4⟩ := strF_spec n ((lo + hi + 1) / 2) hi (by omega) (by omega) h2 hq ht
        exact ⟨by omega, a2, a3, a4⟩
      | false =>
        rw [strF_no hl hq]
        exact strF_spec n lo ((lo + hi + 1) / 2 - 1) (by omega) (by omega) (by omega) hp (.inr (by rw [Int.sub_add_cancel]; exact hq))
    · have e : lo = hi := by omega
      subst e
      rw [strF_end hl]
      exact ⟨Int.le_refl _, h2, hp, ht⟩
/-- What the price of a hire till then is, and whether there is one. -/
def CstIs (l : List Rt) (c : ByteArray) (fr tt n : Int) (ok : Bool) : Prop :=
  (ok = true ∧ chkE l c fr tt = 0 ∧ ∃ ps, Best (prH l c fr tt) 0 (daysN fr tt) ps ∧ n = pcSum ps) ∨ (ok = false ∧ (chkE l c fr tt ≠ 0 ∨ ∀ qs, ¬ Chain (prH l c fr tt) 0 (daysN fr tt) qs))
theorem cst_div {l : List Rt} {c : ByteArray} {fr tt er : Int} {ps : List Pc} (h : DivIs l c fr tt er ps) : ∃ n : Int, ∃ e : Int, costV l c fr tt ps = (n, e) ∧ CstIs l c fr tt n (decide (er = 0) && decide (e = 0)) := by
  by_cases he : er = 0
  · subst he
    refine ⟨pcSum ps, 0, (cheap_own h).1, .inl ⟨rfl, ?_⟩⟩
    rcases h with ⟨h1, h2, _⟩ | ⟨h1, ⟨h2, _⟩ | ⟨_, hb⟩⟩
    · exact absurd h2.symm h1
    · cases h2
    · exact ⟨h1, ps, hb, rfl⟩
  · refine ⟨(costV l c fr tt ps).1, (costV l c fr tt ps).2, rfl, .inr ⟨by rw [decide_eq_false he]; rfl, ?_⟩⟩
    rcases h with ⟨h1, _⟩ | ⟨_, ⟨_, _, h3⟩ | ⟨h2, _⟩⟩
    · exact .inl h1
    · exact .inr h3
    · exact absurd h2 he
section
variable {l : List Rt} {c : ByteArray} {fr t T a b v x y e : Int} {ok is same more : Bool}
theorem chk_swap (h : chkE l c fr T = 0) (ht : timeE fr t = 0) : chkE l c fr t = 0 := by
  obtain ⟨h1, h2, _⟩ := chkE_ok h
  unfold chkE; rw [h1, h2, ht]; rfl
theorem cst_longer (h : CstIs l c fr t a ok) (g : CstIs l c fr T b is) (hle : t ≤ T) (ht : timeE fr t = 0) (hi : is = true) : ok = true ∧ a ≤ b := by
  rcases g with ⟨_, g1, qs, hq, rfl⟩ | ⟨g1, _⟩
  · obtain ⟨hr0, _, hT⟩ := chkE_ok g1
    obtain ⟨ps, hps, hsum⟩ := chain_cut hr0 ht hT hle hq.1 (Nat.zero_le _)
    rcases h with ⟨h1, _, qs2, hq2, rfl⟩ | ⟨h1, h2⟩
    · exact ⟨h1, Int.le_trans (best_least hq2 hps) hsum⟩
    · rcases h2 with h2 | h2
      · exact absurd (chk_swap g1 ht) h2
      · exact absurd hps (h2 ps)
  · rw [g1] at hi; cases hi
theorem str_none (h : CstIs l c fr t a ok) (g : StrIs l c fr t v e) (he : e ≠ 0) : ok = false := by
  rcases h with ⟨_, h1, ps, hps, _⟩ | ⟨h1, _⟩
  · rcases g with ⟨g1, _⟩ | ⟨_, ⟨_, _, g1⟩ | ⟨_, _, g1, _⟩⟩
    · exact absurd h1 g1
    · exact absurd hps.1 (g1 ps)
    · exact absurd g1 he
  · exact h1
theorem str_same (h : CstIs l c fr t a ok) (g : StrIs l c fr t v 0) : (ok = true ∧ t ≤ v ∧ 0 ≤ v ∧ v ≤ 5761439) ∧ (∀ n o, CstIs l c fr v n o → o = true ∧ n = a) ∧ (∀ n o, CstIs l c fr (v + 1) n o → o = true → a < n) := by
  rcases g with ⟨g1, _, g2⟩ | ⟨g0, ⟨g1, _⟩ | ⟨ps, hps, _, hv⟩⟩
  · exact absurd g2.symm g1
  · cases g1
  obtain ⟨hr0, _, ht⟩ := chkE_ok g0
  have htop := top_bound ht
  obtain ⟨t0, t1, t2, _⟩ := timeE_ok ht
  have hPt : strP l c fr (pcSum ps) t = true := by rw [strP_yes hps]; exact decide_eq_true (Int.le_refl _)
  obtain ⟨b1, b2, b3, b4⟩ := strF_spec (P := strP l c fr (pcSum ps)) (top := min (fr + 172800) 5761439) (min (fr + 172800) 5761439 - t).toNat t (min (fr + 172800) 5761439) (by omega) htop (Int.le_refl _) hPt (.inl rfl)
  change t ≤ strW l c fr t (pcSum ps) at b1
  change strW l c fr t (pcSum ps) ≤ _ at b2
  change strP l c fr (pcSum ps) (strW l c fr t (pcSum ps)) = true at b3
  change strW l c fr t (pcSum ps) = _ ∨ strP l c fr (pcSum ps) (strW l c fr t (pcSum ps) + 1) = false at b4
  rw [← hv] at b1 b2 b3 b4
  have hoa : ok = true ∧ a = pcSum ps := by
    rcases h with ⟨h1, _, qs, hq, rfl⟩ | ⟨_, h1 | h1⟩
    · exact ⟨h1, by rw [best_one hq hps]⟩
    · exact absurd g0 h1
    · exact absurd hps.1 (h1 ps)
  obtain ⟨ho, rfl⟩ := hoa
  have htv := mid_time ht b1 b2
  refine ⟨⟨ho, b1, by omega, by omega⟩, fun n o hn => ?_, fun n o hn hoo => ?_⟩
  · unfold strP at b3
    have hb := @of_decide_eq_true _ (Classical.propDecidable _) b3
    obtain ⟨qs, hq, hqs⟩ := hb
    rcases hn with ⟨h1, _, rs, hrs, rfl⟩ | ⟨_, h1 | h1⟩
    · refine ⟨h1, ?_⟩
      rw [best_one hrs hq]
      obtain ⟨us, hus, hul⟩ := chain_cut hr0 ht htv b1 hq.1 (Nat.zero_le _)
      have := best_least hps hus
      omega
    · exact absurd (chk_swap g0 htv) h1
    · exact absurd hq.1 (h1 qs)
  · rcases hn with ⟨_, h1, rs, hrs, rfl⟩ | ⟨h1, _⟩
    · obtain ⟨_, _, ht2⟩ := chkE_ok h1
      have := top_bound ht2
      rcases b4 with b4 | b4
      · omega
      · rw [strP_yes hrs] at b4
        have := of_decide_eq_false b4
        omega
    · rw [h1] at hoo; cases hoo
end

end Go.Proofs.Ytcggbojhalbkjaa
