/- The odds of a number of those who come: the plain law. -/
import Derived.Test.YtcggbojhalbkjaaDoorSpec
namespace Go.Proofs.YtcggbojhalbkjaaDoor

/-- One more booking that comes with P in a hundred: c is what comes from one place lower. -/
def nextC (P : Nat) : Nat → List Nat → List Nat
  | c, [] => [c]
  | c, x :: r => (c + x * (100 - P)) :: nextC P (x * P) r
theorem nextC_len (P : Nat) : ∀ (D : List Nat) (c : Nat), (nextC P c D).length = D.length + 1
  | [], _ => rfl
  | x :: r, c => by simp only [nextC, List.length_cons, nextC_len P r]
theorem part_sum {P : Nat} (h : P ≤ 100) (x : Nat) : x * (100 - P) + x * P = 100 * x := by
  rw [← Nat.mul_add, Nat.sub_add_cancel h, Nat.mul_comm]
theorem nextC_sum {P : Nat} (h : P ≤ 100) : ∀ (D : List Nat) (c : Nat), (nextC P c D).sum = c + 100 * D.sum
  | [], c => by simp [nextC]
  | x :: r, c => by
    simp only [nextC, List.sum_cons, nextC_sum h r]
    have := part_sum h x
    rw [Nat.mul_add]; omega
/-- What lies from k on. -/
def tl (k : Nat) (D : List Nat) : Nat := (D.drop k).sum
theorem tl_zero (D : List Nat) : tl 0 D = D.sum := rfl
theorem tl_cons (k x : Nat) (r : List Nat) : tl (k + 1) (x :: r) = tl k r := rfl
theorem tl_nil (k : Nat) : tl k [] = 0 := by unfold tl; simp
theorem tl_succ_le (k : Nat) : ∀ D : List Nat, tl (k + 1) D ≤ tl k D := by
  induction k with
  | zero => intro D; cases D with
    | nil => simp [tl]
    | cons x r => rw [tl_cons, tl_zero, tl_zero, List.sum_cons]; omega
  | succ k ih => intro D; cases D with
    | nil => simp [tl]
    | cons x r => rw [tl_cons, tl_cons]; exact ih r
theorem tl_next {P : Nat} (h : P ≤ 100) : ∀ (k : Nat) (D : List Nat) (c : Nat), tl (k + 1) (nextC P c D) = (100 - P) * tl (k + 1) D + P * tl k D
  | k, [], c => by simp only [nextC, tl_cons, tl_nil, Nat.mul_zero]
  | 0, x :: r, c => by
    simp only [nextC, tl_cons, tl_zero, nextC_sum h, List.sum_cons]
    have := part_sum h r.sum
    rw [Nat.mul_add, Nat.mul_comm P x, Nat.mul_comm (100 - P), Nat.mul_comm P]; omega
  | k + 1, x :: r, c => by
    simp only [nextC, tl_cons]
    exact tl_next h k r _
theorem tl_grow {P : Nat} (h : P ≤ 100) (k c : Nat) (D : List Nat) : 100 * tl (k + 1) D ≤ tl (k + 1) (nextC P c D) := by
  rw [tl_next h]
  have h1 := Nat.mul_le_mul_left P (tl_succ_le k D)
  have h2 := part_sum h (tl (k + 1) D)
  rw [Nat.mul_comm P] at h1
  rw [Nat.mul_comm (100 - P)]; omega
/-- The odds of a number of those who come, of all bookings with these percents. -/
def spreadP (l : List Nat) : List Nat := l.foldl (fun D P => nextC P 0 D) [1]
theorem spreadP_snoc (l : List Nat) (P : Nat) : spreadP (l ++ [P]) = nextC P 0 (spreadP l) := by unfold spreadP; rw [List.foldl_append]; rfl
theorem spreadP_take {l : List Nat} {k P : Nat} (h : l[k]? = some P) : spreadP (l.take (k + 1)) = nextC P 0 (spreadP (l.take k)) := by
  rw [List.take_add_one, h]; exact spreadP_snoc _ _
theorem spreadP_len : ∀ (l : List Nat) (k : Nat), k ≤ l.length → (spreadP (l.take k)).length = k + 1
  | l, 0, _ => rfl
  | l, k + 1, h => by
    rw [spreadP_take (List.getElem?_eq_getElem (by omega)), nextC_len, spreadP_len l k (by omega)]
theorem spreadP_sum {l : List Nat} (h : ∀ P ∈ l, P ≤ 100) : ∀ k, k ≤ l.length → (spreadP (l.take k)).sum = 100 ^ k
  | 0, _ => rfl
  | k + 1, hk => by
    have hx : l[k]? = some (l[k]'(by omega)) := List.getElem?_eq_getElem (by omega)
    rw [spreadP_take hx, nextC_sum (h _ (List.mem_of_getElem? hx)), spreadP_sum h k (by omega), Nat.zero_add, Nat.pow_succ, Nat.mul_comm]
theorem spreadP_tl {l : List Nat} (h : ∀ P ∈ l, P ≤ 100) (u j : Nat) : ∀ d, j + d ≤ l.length → tl (u + 1) (spreadP (l.take j)) * 100 ^ d ≤ tl (u + 1) (spreadP (l.take (j + d)))
  | 0, _ => by simp
  | d + 1, hd => by
    have hx : l[j + d]? = some (l[j + d]'(by omega)) := List.getElem?_eq_getElem (by omega)
    have h1 := spreadP_tl h u j d (by omega)
    have h2 := tl_grow (h _ (List.mem_of_getElem? hx)) u 0 (spreadP (l.take (j + d)))
    rw [show j + (d + 1) = j + d + 1 by omega, spreadP_take hx, Nat.pow_succ, ← Nat.mul_assoc]
    omega
theorem mem_sum_le : ∀ {D : List Nat} {x : Nat}, x ∈ D → x ≤ D.sum
  | y :: r, x, h => by
    rw [List.sum_cons]
    rcases List.mem_cons.1 h with rfl | h
    · omega
    · have := mem_sum_le h; omega
/-- The row of the next odds when k of the old ones have been shared out. -/
theorem next_step (P M z : Nat) (hz : z = 0) : ∀ (L : List Nat) (c x m : Nat), c ≤ M → (∀ y ∈ L, y * P ≤ M) → ∃ e, (nextC P c L ++ List.replicate (m + 1) 0)[L.length]? = some e ∧ e ≤ M ∧
    ((nextC P c L ++ List.replicate (m + 1) 0).set L.length (e + x * (100 - P)))[L.length + 1]? = some z ∧
    ((nextC P c L ++ List.replicate (m + 1) 0).set L.length (e + x * (100 - P))).set (L.length + 1) (z + x * P) = nextC P c (L ++ [x]) ++ List.replicate m 0
  | [], c, x, m, hc, _ => ⟨c, rfl, hc, by subst hz; simp [nextC, List.replicate_succ], by subst hz; simp [nextC, List.replicate_succ]⟩
  | y :: r, c, x, m, hc, hL => by
    obtain ⟨e, h1, h2, h3, h4⟩ := next_step P M z hz r (y * P) x m (hL y (List.mem_cons_self ..)) (fun z hz => hL z (List.mem_cons_of_mem _ hz))
    refine ⟨e, ?_, h2, ?_, ?_⟩
    · simpa [nextC] using h1
    · simpa [nextC] using h3
    · simp only [nextC, List.cons_append, List.length_cons, List.set_cons_succ]
      rw [h4]
theorem next_at {P M z k i x : Nat} {D E : List Nat} (hz : z = 0) (hl : D.length = i + 1) (hk : k < i + 1) (hx : D[k]? = some x) (hM : ∀ y ∈ D, y * P ≤ M) (hE : E = nextC P 0 (D.take k) ++ List.replicate (i + 1 - k) 0) :
    ∃ e, E[k]? = some e ∧ e ≤ M ∧ (E.set k (e + x * (100 - P)))[k + 1]? = some z ∧ (E.set k (e + x * (100 - P))).set (k + 1) (z + x * P) = nextC P 0 (D.take (k + 1)) ++ List.replicate (i + 1 - (k + 1)) 0 := by
  have hlk : (D.take k).length = k := by rw [List.length_take]; omega
  have h := next_step P M z hz (D.take k) 0 x (i - k) (Nat.zero_le _) (fun y hy => hM y (List.mem_of_mem_take hy))
  rw [hlk, show i - k + 1 = i + 1 - k by omega, ← hE] at h
  rw [List.take_add_one, hx, show i + 1 - (k + 1) = i - k by omega]
  exact h
theorem less_step {a b c d : Nat} (hq : a / b = c / d) : (a * d < c * b) ↔ (d * (a % b) < b * (c % d)) := by
  have ha := Nat.div_add_mod a b
  have hc := Nat.div_add_mod c d
  rw [← hq] at hc
  have e1 : a * d = b * d * (a / b) + d * (a % b) := by
    conv => lhs; rw [← ha]
    rw [Nat.add_mul, Nat.mul_right_comm, Nat.mul_comm (a % b)]
  have e2 : c * b = b * d * (a / b) + b * (c % d) := by
    conv => lhs; rw [← hc]
    rw [Nat.add_mul, Nat.mul_comm (c % d), Nat.mul_comm (d * (a / b)) b, Nat.mul_assoc]
  rw [e1, e2]; omega
theorem less_quo {a b c d : Nat} (hb : 0 < b) (hd : 0 < d) (hq : a / b ≠ c / d) : (a * d < c * b) ↔ (a / b < c / d) := by
  have ha := Nat.div_add_mod a b
  have hc := Nat.div_add_mod c d
  have hx := Nat.mod_lt a hb
  have hy := Nat.mod_lt c hd
  constructor
  · intro h
    rcases Nat.lt_or_ge (a / b) (c / d) with h1 | h1
    · exact h1
    · have h2 : c / d + 1 ≤ a / b := by omega
      have h3 : c < d * (a / b) := by
        have := Nat.mul_le_mul_left d h2
        rw [Nat.mul_add] at this; omega
      have h4 : b * (a / b) ≤ a := by omega
      have h5 : c * b < d * (a / b) * b := Nat.mul_lt_mul_of_pos_right h3 hb
      have h6 : d * (a / b) * b = b * (a / b) * d := by rw [Nat.mul_comm d, Nat.mul_right_comm, Nat.mul_comm (a / b) b]
      have h7 := Nat.mul_le_mul_right d h4
      omega
  · intro h1
    have h2 : a / b + 1 ≤ c / d := h1
    have h3 : a < b * (c / d) := by
      have := Nat.mul_le_mul_left b h2
      rw [Nat.mul_add] at this; omega
    have h4 : d * (c / d) ≤ c := by omega
    have h5 : a * d < b * (c / d) * d := Nat.mul_lt_mul_of_pos_right h3 hd
    have h6 : b * (c / d) * d = d * (c / d) * b := by rw [Nat.mul_comm b, Nat.mul_right_comm, Nat.mul_comm (c / d) d]
    have h7 := Nat.mul_le_mul_right b h4
    omega
theorem whole_num {n d : Nat} (hd : 0 < d) : 0 < d / Nat.gcd n d ∧ d % (d / Nat.gcd n d) = 0 ∧ n / Nat.gcd n d * (d / (d / Nat.gcd n d)) = n := by
  have hg : 0 < Nat.gcd n d := Nat.gcd_pos_of_pos_right n hd
  obtain ⟨k, hk⟩ := Nat.gcd_dvd_right n d
  obtain ⟨j, hj⟩ := Nat.gcd_dvd_left n d
  have h1 : d / Nat.gcd n d = k := Nat.div_eq_of_eq_mul_right hg hk
  have h2 : n / Nat.gcd n d = j := Nat.div_eq_of_eq_mul_right hg hj
  have hk0 : 0 < k := by
    rcases Nat.eq_zero_or_pos k with h | h
    · rw [h, Nat.mul_zero] at hk; omega
    · exact h
  rw [h1, h2]
  have h3 : d / k = Nat.gcd n d := Nat.div_eq_of_eq_mul_left hk0 hk
  refine ⟨hk0, ?_, ?_⟩
  · exact Nat.mod_eq_zero_of_dvd ⟨Nat.gcd n d, by rw [Nat.mul_comm]; exact hk⟩
  · rw [h3, Nat.mul_comm]; exact hj.symm

end Go.Proofs.YtcggbojhalbkjaaDoor
