/- The odds by sets of those who come; fractions compared; the most that can be taken: the plain law. -/
import Derived.Test.YtcggbojhalbkjaaDoorOp
namespace Go.Proofs.YtcggbojhalbkjaaDoor

/-- Set t: what its odds are over the first i percents, and how many of these come. -/
def prodA (P : List Nat) (t : Nat) : Nat → Nat
  | 0 => 1
  | i + 1 => prodA P t i * (if t.testBit i then P.getD i 0 else 100 - P.getD i 0)
def popA (t : Nat) : Nat → Nat
  | 0 => 0
  | i + 1 => popA t i + (if t.testBit i then 1 else 0)
theorem popA_le (t : Nat) : ∀ i, popA t i ≤ i
  | 0 => Nat.le_refl _
  | i + 1 => by
    have := popA_le t i
    unfold popA; split <;> omega
theorem prodA_le {P : List Nat} (h : ∀ p ∈ P, p ≤ 100) (t : Nat) : ∀ i, i ≤ P.length → prodA P t i ≤ 100 ^ i
  | 0, _ => Nat.le_refl _
  | i + 1, hi => by
    have h1 := prodA_le h t i (by omega)
    have h2 : P.getD i 0 ≤ 100 := by
      rw [List.getD_eq_getElem?_getD, List.getElem?_eq_getElem (by omega)]
      exact h _ (List.getElem_mem _)
    unfold prodA
    rw [Nat.pow_succ]
    refine Nat.mul_le_mul h1 ?_
    split <;> omega
/-- What the sets below N with j that come add up to. -/
def cntA (P : List Nat) (i : Nat) : Nat → Nat → Nat
  | 0, _ => 0
  | t + 1, j => cntA P i t j + (if popA t i = j then prodA P t i else 0)
theorem cntA_low (P : List Nat) (i j : Nat) : ∀ N, N ≤ 2 ^ i → cntA P (i + 1) N j = cntA P i N j * (100 - P.getD i 0)
  | 0, _ => by simp [cntA]
  | t + 1, h => by
    have hb : t.testBit i = false := Nat.testBit_lt_two_pow (by omega)
    simp only [cntA, popA, prodA, hb, cntA_low P i j t (by omega)]
    by_cases hp : popA t i = j <;> simp [hp, Nat.add_mul]
theorem popA_hi (i t : Nat) : ∀ k, k ≤ i → popA (2 ^ i + t) k = popA t k
  | 0, _ => rfl
  | k + 1, h => by simp only [popA]; rw [popA_hi i t k (by omega), Nat.testBit_two_pow_add_gt (by omega)]
theorem prodA_hi (P : List Nat) (i t : Nat) : ∀ k, k ≤ i → prodA P (2 ^ i + t) k = prodA P t k
  | 0, _ => rfl
  | k + 1, h => by simp only [prodA]; rw [prodA_hi P i t k (by omega), Nat.testBit_two_pow_add_gt (by omega)]
theorem cntA_hi (P : List Nat) (i j : Nat) : ∀ M, M ≤ 2 ^ i → cntA P (i + 1) (2 ^ i + M) j = cntA P (i + 1) (2 ^ i) j + (if j = 0 then 0 else cntA P i M (j - 1) * P.getD i 0)
  | 0, _ => by simp [cntA]
  | t + 1, h => by
    have hb : (2 ^ i + t).testBit i = true := by rw [Nat.testBit_two_pow_add_eq, Nat.testBit_lt_two_pow (by omega)]; rfl
    rw [show 2 ^ i + (t + 1) = (2 ^ i + t) + 1 from rfl]
    simp only [cntA, popA, prodA, hb, popA_hi i t i (Nat.le_refl _), prodA_hi P i t i (Nat.le_refl _), cntA_hi P i j t (by omega)]
    cases j with
    | zero => simp
    | succ j => by_cases hp : popA t i = j <;> simp [hp, Nat.add_mul, Nat.add_assoc]
theorem nextC_getD (P : Nat) : ∀ (D : List Nat) (c j : Nat), (nextC P c D).getD j 0 = (if j = 0 then c else D.getD (j - 1) 0 * P) + D.getD j 0 * (100 - P)
  | [], c, 0 => by simp [nextC]
  | [], c, j + 1 => by simp [nextC]
  | x :: r, c, 0 => by simp [nextC]
  | x :: r, c, j + 1 => by
    simp only [nextC, List.getD_cons_succ, nextC_getD P r (x * P) j]
    cases j <;> simp
theorem spreadP_cnt {P : List Nat} : ∀ i, i ≤ P.length → ∀ j, (spreadP (P.take i)).getD j 0 = cntA P i (2 ^ i) j
  | 0, _, j => by
    cases j with
    | zero => rfl
    | succ j => simp [spreadP, cntA, popA]
  | i + 1, h, j => by
    have hx : P[i]? = some (P.getD i 0) := by rw [List.getD_eq_getElem?_getD, List.getElem?_eq_getElem (by omega)]; rfl
    rw [spreadP_take hx, nextC_getD, spreadP_cnt i (by omega) j, Nat.pow_succ, Nat.mul_two, cntA_hi P i j (2 ^ i) (Nat.le_refl _), cntA_low P i j (2 ^ i) (Nat.le_refl _)]
    cases j with
    | zero => simp
    | succ j => rw [if_neg (by omega), if_neg (by omega), Nat.add_sub_cancel, spreadP_cnt i (by omega) j, Nat.add_comm]
/-- The counts when the sets below N have been met. -/
def rowA (P : List Nat) (i N : Nat) : List Nat := (List.range (i + 1)).map (cntA P i N)
theorem rowA_len (P : List Nat) (i N : Nat) : (rowA P i N).length = i + 1 := by simp [rowA]
theorem rowA_at (P : List Nat) {i j : Nat} (N : Nat) (h : j ≤ i) : (rowA P i N)[j]? = some (cntA P i N j) := by
  unfold rowA
  rw [List.getElem?_map, List.getElem?_range (by omega)]; rfl
theorem rowA_zero (P : List Nat) (i : Nat) : rowA P i 0 = List.replicate (i + 1) 0 := by
  unfold rowA
  refine List.ext_getElem (by simp) (fun j h1 h2 => ?_)
  simp [cntA]
theorem rowA_step (P : List Nat) (i N : Nat) : (rowA P i N).set (popA N i) (cntA P i N (popA N i) + prodA P N i) = rowA P i (N + 1) := by
  refine List.ext_getElem? fun j => ?_
  by_cases hj : j ≤ i
  · rw [rowA_at P _ hj, List.getElem?_set]
    by_cases h : popA N i = j
    · subst h
      rw [if_pos rfl, if_pos (by rw [rowA_len]; omega)]
      simp [cntA]
    · rw [if_neg h, rowA_at P _ hj]
      simp [cntA, h]
  · rw [List.getElem?_eq_none (by rw [List.length_set, rowA_len]; omega), List.getElem?_eq_none (by rw [rowA_len]; omega)]
theorem rowA_all {P : List Nat} {i : Nat} (h : P.length = i) : rowA P i (2 ^ i) = spreadP P := by
  have hl := spreadP_len P i (by omega)
  rw [List.take_of_length_le (by omega)] at hl
  refine List.ext_getElem? fun j => ?_
  by_cases hj : j ≤ i
  · rw [rowA_at P _ hj, ← spreadP_cnt i (by omega) j, List.take_of_length_le (by omega), List.getD_eq_getElem?_getD, List.getElem?_eq_getElem (by omega)]; rfl
  · rw [List.getElem?_eq_none (by rw [rowA_len]; omega), List.getElem?_eq_none (by omega)]
theorem cntA_mono (P : List Nat) (i j N : Nat) : ∀ d, cntA P i N j ≤ cntA P i (N + d) j
  | 0 => Nat.le_refl _
  | d + 1 => Nat.le_trans (cntA_mono P i j N d) (Nat.le_add_right _ _)
theorem cntA_le {P : List Nat} (h : ∀ p ∈ P, p ≤ 100) {i N : Nat} (j : Nat) (hi : i ≤ P.length) (hN : N ≤ 2 ^ i) : cntA P i N j ≤ 100 ^ i := by
  have h1 := cntA_mono P i j N (2 ^ i - N)
  rw [show N + (2 ^ i - N) = 2 ^ i by omega, ← spreadP_cnt i hi j] at h1
  refine Nat.le_trans h1 ?_
  rw [← spreadP_sum h i hi, List.getD_eq_getElem?_getD]
  cases hx : (spreadP (P.take i))[j]? with
  | none => exact Nat.zero_le _
  | some x => exact mem_sum_le (List.mem_of_getElem? hx)
/-- a/b is at most c/d. -/
theorem most_step {a b c d : Nat} (hq : a / b = c / d) : (a * d ≤ c * b) ↔ (d * (a % b) ≤ b * (c % d)) := by
  have := less_step (a := c) (b := d) (c := a) (d := b) hq.symm
  omega
theorem most_quo {a b c d : Nat} (hb : 0 < b) (hd : 0 < d) (hq : a / b ≠ c / d) : (a * d ≤ c * b) ↔ (a / b < c / d) := by
  have := less_quo (a := c) (b := d) (c := a) (d := b) hd hb (fun h => hq h.symm)
  omega
theorem low_most {a b c d : Nat} (hb : 0 < b) : (a / Nat.gcd a b * d ≤ c * (b / Nat.gcd a b)) ↔ (a * d ≤ c * b) := by
  have g1 : 0 < Nat.gcd a b := Nat.gcd_pos_of_pos_right a hb
  have e1 := Nat.div_mul_cancel (Nat.gcd_dvd_left a b)
  have e2 := Nat.div_mul_cancel (Nat.gcd_dvd_right a b)
  generalize a / Nat.gcd a b = A at *
  generalize b / Nat.gcd a b = B at *
  generalize Nat.gcd a b = G at *
  subst e1 e2
  rw [show A * G * d = G * (A * d) by rw [Nat.mul_comm A G, Nat.mul_assoc], show c * (B * G) = G * (c * B) by rw [Nat.mul_comm B G, Nat.mul_left_comm]]
  exact ⟨fun h => Nat.mul_le_mul_left G h, fun h => Nat.le_of_mul_le_mul_left h g1⟩
/-- Two words' products, by halves. -/
theorem half_le (x y : Nat) : (decide (x / 18446744073709551616 < y / 18446744073709551616) || (decide (x / 18446744073709551616 = y / 18446744073709551616) && decide (x % 18446744073709551616 ≤ y % 18446744073709551616))) = decide (x ≤ y) := by
  rw [← Bool.decide_and, ← Bool.decide_or]
  exact decide_eq_decide.2 (by omega)
/-- The last number below n for which f holds, else 0. -/
def mostF (f : Nat → Bool) : Nat → Nat
  | 0 => 0
  | k + 1 => if f k then k else mostF f k
theorem mostF_le (f : Nat → Bool) : ∀ n, mostF f n ≤ n
  | 0 => Nat.le_refl _
  | k + 1 => by
    have := mostF_le f k
    unfold mostF; split <;> omega
theorem bit_at (t i : Nat) : t / 2 ^ i % 2 = if t.testBit i then 1 else 0 := by
  rw [Nat.testBit_eq_decide_div_mod_eq]
  have : t / 2 ^ i % 2 < 2 := Nat.mod_lt _ (by decide)
  by_cases h : t / 2 ^ i % 2 = 1
  · rw [h]; rfl
  · rw [if_neg (by simpa using h)]; omega

end Go.Proofs.YtcggbojhalbkjaaDoor
