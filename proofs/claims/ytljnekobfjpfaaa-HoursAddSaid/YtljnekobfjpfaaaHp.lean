/- The plain law of HoursAdd: open minutes add up, and the next opening is the first. -/
import Derived.Test.YtljnekobfjpfaaaLopC
namespace Go.Proofs.Ytljnekobfjpfaaa

theorem openMinE_eq {s : St} {a b : Int} (h0 : 0 ≤ a) (h1 : a ≤ b) (h2 : b ≤ 5761440) : openMinE s a b = stationsE [s] := by
  have hw : windowE a b = 0 := by
    unfold windowE whenE
    have : inB a 0 b = true := inB_iff.2 ⟨h0, h1⟩
    have h4 : decide (5761440 < b) = false := by simp; omega
    rw [this, h4]; rfl
  unfold openMinE
  rw [hw]
  by_cases h : stationsE [s] = 0
  · rw [h]; rfl
  · simp [firstE, h]

/-- Hours that are right. -/
def HoursOk (hs : List Int) : Prop := ∀ d : Int, d * 1440 ≤ hourFr hs d ∧ hourFr hs d ≤ hourTo hs d ∧ hourTo hs d ≤ d * 1440 + 1440
theorem hoursOk_of {s : St} (h : stationsE [s] = 0) : HoursOk s.hs := by
  have hb : hoursBad s.hs = false := by
    have h' : stationE none s = 0 := by
      have : stationsE [s] = if stationE none s = 0 then 0 else stationE none s := rfl
      rw [this] at h
      by_cases h0 : stationE none s = 0
      · exact h0
      · rw [if_neg h0] at h; exact h
    cases hb : hoursBad s.hs with
    | false => rfl
    | true =>
      unfold stationE at h'
      by_cases hk : keyB s.key = false
      · rw [if_pos hk] at h'; cases h'
      · rw [if_neg hk, if_neg (show ¬ prevB none (fun (q : St) => leB s.key q.key) = true from fun h => by cases h), if_pos hb] at h'; cases h'
  intro d
  have h7 : (d % 7).toNat < 7 := by omega
  have := List.any_eq_false.1 hb (d % 7).toNat (List.mem_range.2 h7)
  have hw : winBad (frAt s.hs (d % 7).toNat) (toAt s.hs (d % 7).toNat) = false := by simpa using this
  simp only [winBad, Bool.or_eq_false_iff, Bool.not_eq_false', decide_eq_false_iff_not] at hw
  have h1 := inB_iff.1 hw.1
  unfold hourFr hourTo
  omega

/-- The sum over n days, whatever they are. -/
def allSum (hs : List Int) (a b : Int) : Nat → Int → Int
  | 0, _ => 0
  | n + 1, d => commonV a b (hourFr hs d) (hourTo hs d) + allSum hs a b n (d + 1)

theorem allSum_zero {hs : List Int} {a b : Int} : ∀ (n : Nat) (d : Int), (∀ x, d ≤ x → x < d + n → commonV a b (hourFr hs x) (hourTo hs x) = 0) → allSum hs a b n d = 0
  | 0, _, _ => rfl
  | n + 1, d, h => by
    simp only [allSum]
    rw [h d (by omega) (by omega), allSum_zero n (d + 1) (fun x h1 h2 => h x (by omega) (by omega))]
    rfl
theorem allSum_add {hs : List Int} {a b : Int} (k : Nat) : ∀ (n : Nat) (d : Int), allSum hs a b (n + k) d = allSum hs a b n d + allSum hs a b k (d + n)
  | 0, d => by simp [allSum]
  | n + 1, d => by
    rw [show n + 1 + k = (n + k) + 1 by omega]
    simp only [allSum]
    rw [allSum_add k n (d + 1), show d + 1 + (n : Int) = d + ((n + 1 : Nat) : Int) by omega]
    omega
theorem minSum_all {hs : List Int} (hk : HoursOk hs) {a b : Int} : ∀ (n : Nat) (d : Int), minSum hs a b n d = allSum hs a b n d
  | 0, _ => rfl
  | n + 1, d => by
    simp only [minSum]
    split
    · simp only [allSum]; rw [minSum_all hk n (d + 1)]
    · rename_i h
      refine (allSum_zero _ _ fun x h1 h2 => ?_).symm
      have := hk x
      unfold commonV
      omega
theorem allSum_split {hs : List Int} (hk : HoursOk hs) {a m b : Int} (h1 : a ≤ m) (h2 : m ≤ b) : ∀ (n : Nat) (d : Int), allSum hs a b n d = allSum hs a m n d + allSum hs m b n d
  | 0, _ => rfl
  | n + 1, d => by
    simp only [allSum]
    rw [allSum_split hk h1 h2 n (d + 1)]
    have := hk d
    have : commonV a b (hourFr hs d) (hourTo hs d) = commonV a m (hourFr hs d) (hourTo hs d) + commonV m b (hourFr hs d) (hourTo hs d) := by
      unfold commonV
      omega
    omega
theorem allSum_from {hs : List Int} (hk : HoursOk hs) {a m b : Int} (h0 : 0 ≤ a) (h1 : a ≤ m) (h3 : b ≤ 5761440) : allSum hs m b 4002 (a / 1440) = allSum hs m b 4002 (m / 1440) := by
  obtain ⟨k, hkk⟩ : ∃ k : Nat, (k : Int) = m / 1440 - a / 1440 := ⟨(m / 1440 - a / 1440).toNat, by omega⟩
  have e1 := allSum_add (hs := hs) (a := m) (b := b) 4002 k (a / 1440)
  have e2 := allSum_add (hs := hs) (a := m) (b := b) k 4002 (a / 1440)
  rw [show a / 1440 + (k : Int) = m / 1440 by omega] at e1
  rw [show 4002 + k = k + 4002 by omega, e1] at e2
  have z1 : allSum hs m b k (a / 1440) = 0 := allSum_zero _ _ fun x h4 h5 => by
    have := hk x
    unfold commonV
    omega
  have z2 : allSum hs m b k (a / 1440 + (4002 : Nat)) = 0 := allSum_zero _ _ fun x h4 h5 => by
    have := hk x
    unfold commonV
    omega
  rw [z1, z2] at e2
  omega

/-- The open minutes of a window are those of its two parts. -/
theorem openMin_add {s : St} {a m b : Int} (hs : stationsE [s] = 0) (h0 : 0 ≤ a) (h1 : a ≤ m) (h2 : m ≤ b) (h3 : b ≤ 5761440) : openMinV s a b = openMinV s a m + openMinV s m b := by
  have hk := hoursOk_of hs
  unfold openMinV
  rw [openMinE_eq h0 (by omega) h3, openMinE_eq h0 h1 (by omega), openMinE_eq (by omega) h2 h3, if_pos hs, if_pos hs, if_pos hs]
  rw [minSum_all hk, minSum_all hk, minSum_all hk, allSum_split hk h1 h2, allSum_from hk h0 h1 h3]

theorem minSum_bound {hs : List Int} {a b : Int} (h0 : 0 ≤ a) (h1 : b ≤ 5761440) : ∀ (n : Nat) (d : Int), 0 ≤ minSum hs a b n d ∧ minSum hs a b n d ≤ 5761440 * n
  | 0, _ => by simp [minSum]
  | n + 1, d => by
    have hi := minSum_bound (hs := hs) h0 h1 n (d + 1)
    have hc := common_bound a b (hourFr hs d) (hourTo hs d) h0 h1
    simp only [minSum]
    split <;> omega
theorem openMin_bound {s : St} {a b : Int} (h0 : 0 ≤ a) (h1 : b ≤ 5761440) : 0 ≤ openMinV s a b ∧ openMinV s a b ≤ 5761440 * 4002 := by
  have := minSum_bound (hs := s.hs) h0 h1 4002 (a / 1440)
  unfold openMinV
  split <;> omega

theorem nextFrom_some {hs : List Int} {at_ v : Int} : ∀ (n : Nat) (d : Int), nextFrom hs at_ n d = some v →
    ∃ x, d ≤ x ∧ x < d + n ∧ v = max at_ (hourFr hs x) ∧ v < hourTo hs x ∧ ∀ y, d ≤ y → y < x → hourTo hs y ≤ max at_ (hourFr hs y)
  | 0, _, h => by simp [nextFrom] at h
  | n + 1, d, h => by
    simp only [nextFrom] at h
    split at h
    · rename_i h1
      obtain rfl := Option.some.inj h
      exact ⟨d, by omega, by omega, rfl, h1, fun y h2 h3 => by omega⟩
    · rename_i h1
      obtain ⟨x, h2, h3, h4, h5, h6⟩ := nextFrom_some n (d + 1) h
      refine ⟨x, by omega, by omega, h4, h5, fun y h7 h8 => ?_⟩
      by_cases hy : y = d
      · subst hy; omega
      · exact h6 y (by omega) h8

/-- The next opening: a station is open there, and not ahead of it. -/
theorem next_law {s : St} {at_ : Int} (hs : stationsE [s] = 0) (h0 : 0 ≤ at_) (h1 : at_ ≤ 5761439) (h : nextE s at_ = 0) :
    isOpenV s (nextV s at_) = true ∧ openMinV s at_ (nextV s at_) = 0 := by
  have hk := hoursOk_of hs
  have hm : ∀ x : Int, 0 ≤ x → x ≤ 5761439 → isOpenE s x = 0 := fun x h2 h3 => by
    unfold isOpenE momentE whenE
    rw [hs, inB_iff.2 ⟨h2, h3⟩]; rfl
  have ho := hm at_ h0 h1
  obtain ⟨v, hv⟩ : ∃ v, nextO s at_ = some v := by
    unfold nextE at h
    rw [if_pos ho] at h
    cases hn : nextO s at_ with
    | none => rw [hn] at h; simp at h
    | some v => exact ⟨v, rfl⟩
  have hV : nextV s at_ = v := by unfold nextV; rw [hv]; rfl
  unfold nextO at hv
  rw [if_pos ho] at hv
  obtain ⟨x, h2, h3, h4, h5, h6⟩ := nextFrom_some _ _ hv
  have hx := hk x
  have hd : v / 1440 = x := by omega
  rw [hV]
  constructor
  · unfold isOpenV
    rw [hm v (by omega) (by omega), hd]
    simp
    omega
  · unfold openMinV
    rw [openMinE_eq h0 (by omega) (by omega), if_pos hs, minSum_all hk]
    refine allSum_zero _ _ fun y h7 h8 => ?_
    have hy := hk y
    have : y < x → hourTo s.hs y ≤ max at_ (hourFr s.hs y) := h6 y h7
    unfold commonV
    by_cases hc : y < x
    · have := this hc; omega
    · by_cases hc2 : y = x
      · subst hc2; omega
      · omega

end Go.Proofs.Ytljnekobfjpfaaa
