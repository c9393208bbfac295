/- The plain law of opening hours: the next opening, the minutes of a window. -/
import Derived.Test.YtcggbojhalbkjaaDoorLopC
namespace Go.Proofs.YtcggbojhalbkjaaDoor

def frD (hs : List Int) (d : Int) : Int := frAt hs (d % 7).toNat
def toD (hs : List Int) (d : Int) : Int := toAt hs (d % 7).toNat
theorem hourFr_eq (hs : List Int) (d : Int) : hourFr hs d = d * 1440 + frD hs d := rfl
theorem hourTo_eq (hs : List Int) (d : Int) : hourTo hs d = d * 1440 + toD hs d := rfl
/-- Right hours. -/
def HrsOk (hs : List Int) : Prop := ∀ d : Int, 0 ≤ frD hs d ∧ frD hs d ≤ toD hs d ∧ toD hs d ≤ 1440
theorem hrs_ok {hs : List Int} (h : hoursBad hs = false) : HrsOk hs := fun d => by
  unfold hoursBad at h
  rw [List.any_eq_false] at h
  have h1 := h (d % 7).toNat (List.mem_range.2 (by omega))
  unfold winBad at h1
  have h2 : inB (frAt hs (d % 7).toNat) 0 (toAt hs (d % 7).toNat) = true ∧ ¬ 1440 < toAt hs (d % 7).toNat := by
    cases hb : inB (frAt hs (d % 7).toNat) 0 (toAt hs (d % 7).toNat) <;> simp [hb] at h1 ⊢
    omega
  obtain ⟨h3, h4⟩ := h2
  have h5 := inB_iff.1 h3
  exact ⟨h5.1, h5.2, by unfold toD; omega⟩
theorem sta_ok {key : ByteArray} {hs : List Int} (h : stationsE [⟨key, hs⟩] = 0) : HrsOk hs := by
  unfold stationsE at h
  rw [if_neg (by simp)] at h
  unfold scanE at h
  split at h
  · rename_i h1
    unfold stationE at h1
    split at h1
    · cases h1
    · split at h1
      · cases h1
      · split at h1
        · cases h1
        · rename_i h4
          exact hrs_ok (by simpa using h4)
  · rename_i h1; exact absurd h h1
def openV (hs : List Int) (at_ : Int) : Bool := inB (at_ % 1440) (frD hs (at_ / 1440)) (toD hs (at_ / 1440) - 1)
/-- What the reference seeks, day by day. -/
def nextR (hs : List Int) (at_ : Int) : Nat → Int → Option Int
  | 0, _ => none
  | n + 1, d => if at_ < d * 1440 + frD hs d ∧ d * 1440 + frD hs d < 5761440 ∧ frD hs d < toD hs d then some (d * 1440 + frD hs d) else nextR hs at_ n (d + 1)
def nextQ (hs : List Int) (at_ : Int) : Option Int := if openV hs at_ = true then some at_ else nextR hs at_ 8 (at_ / 1440)
section
variable {hs : List Int} {at_ : Int}
theorem late_none (ho : HrsOk hs) : ∀ (k : Nat) (d : Int), 4000 < d → nextR hs at_ k d = none
  | 0, _, _ => rfl
  | k + 1, d, h => by
    have h1 := ho d
    rw [nextR, if_neg (by omega)]
    exact late_none ho k (d + 1) (by omega)
theorem no_day {d : Int} (h : ∀ e, d - 7 ≤ e → e < d → ¬ frD hs e < toD hs e) (e : Int) : ¬ frD hs e < toD hs e := by
  have h1 := h (d - 7 + (e - (d - 7)) % 7) (by omega) (by omega)
  unfold frD toD at h1 ⊢
  rw [show (d - 7 + (e - (d - 7)) % 7) % 7 = e % 7 by omega] at h1
  exact h1
theorem never (h : ∀ e, ¬ frD hs e < toD hs e) : ∀ (n : Nat) (d : Int), nextFrom hs at_ n d = none
  | 0, _ => rfl
  | n + 1, d => by
    have h1 := h d
    rw [nextFrom, if_neg (by rw [hourFr_eq, hourTo_eq]; omega)]
    exact never h n (d + 1)
theorem next_days (ho : HrsOk hs) : ∀ (k : Nat) (d : Int), k ≤ 7 → at_ < d * 1440 → (∀ e, d - (7 - (k : Int)) ≤ e → e < d → ¬ frD hs e < toD hs e) → nextFrom hs at_ (4001 - d).toNat d = nextR hs at_ k d
  | 0, d, _, _, h => never (no_day (d := d) (fun e h1 h2 => h e (by omega) h2)) _ _
  | k + 1, d, hk, ha, h => by
    have h1 := ho d
    by_cases hd : 4000 < d
    · rw [late_none ho _ _ hd, show (4001 - d).toNat = 0 by omega]; rfl
    · rw [show (4001 - d).toNat = (4001 - (d + 1)).toNat + 1 by omega, nextFrom, nextR, hourFr_eq, hourTo_eq]
      by_cases hf : frD hs d < toD hs d
      · rw [if_pos (by omega), if_pos (by omega), Int.max_eq_right (by omega)]
      · rw [if_neg (by omega), if_neg (by omega)]
        exact next_days ho k (d + 1) (by omega) (by omega) (fun e h2 h3 => by
          by_cases he : e = d
          · subst he; exact hf
          · exact h e (by omega) (by omega))
theorem next_same (ho : HrsOk hs) (h0 : 0 ≤ at_) (h1 : at_ ≤ 5761439) : nextFrom hs at_ (4001 - at_ / 1440).toNat (at_ / 1440) = nextQ hs at_ := by
  obtain ⟨D, hD⟩ : ∃ D, D = at_ / 1440 := ⟨_, rfl⟩
  obtain ⟨r, hr⟩ : ∃ r, r = at_ % 1440 := ⟨_, rfl⟩
  have hat : at_ = D * 1440 + r := by omega
  have h2 := ho D
  unfold nextQ openV
  rw [← hD, ← hr]
  rw [show (4001 - D).toNat = (4001 - (D + 1)).toNat + 1 by omega, nextFrom, hourFr_eq, hourTo_eq]
  by_cases hopen : frD hs D ≤ r ∧ r ≤ toD hs D - 1
  · have hq : inB r (frD hs D) (toD hs D - 1) = true := inB_iff.2 hopen
    rw [hq, if_pos (show (true = true) from rfl), if_pos (by omega), Int.max_eq_left (by omega)]
  · have hq : inB r (frD hs D) (toD hs D - 1) = false := by
      cases hb : inB r (frD hs D) (toD hs D - 1) with
      | false => rfl
      | true => exact absurd (inB_iff.1 hb) hopen
    rw [hq, if_neg (show ¬ (false = true) by decide)]
    rw [nextR]
    by_cases hf : at_ < D * 1440 + frD hs D ∧ frD hs D < toD hs D
    · rw [if_pos (by omega), if_pos (by omega), Int.max_eq_right (by omega)]
    · rw [if_neg (by omega), if_neg (by omega)]
      exact next_days ho 7 (D + 1) (by omega) (by omega) (fun e h3 h4 => by omega)
end
theorem next_some {hs : List Int} {at_ v : Int} (ho : HrsOk hs) (h0 : 0 ≤ at_) (h : nextQ hs at_ = some v) : 0 ≤ v ∧ v ≤ 100000000 ∨ v = at_ := by
  unfold nextQ at h
  split at h
  · injection h with h; right; omega
  · left
    have : ∀ (k : Nat) (d : Int), 0 ≤ d → nextR hs at_ k d = some v → 0 ≤ v ∧ v ≤ 100000000 := by
      intro k
      induction k with
      | zero => intro d _ h; cases h
      | succ k ih =>
        intro d hd h
        rw [nextR] at h
        split at h
        · injection h with h
          have := ho d
          omega
        · exact ih (d + 1) (by omega) h
    exact this 8 _ (by omega) h
theorem minSum_end {hs : List Int} {a b d : Int} (h : ¬ d * 1440 < b) : ∀ n, minSum hs a b n d = 0
  | 0 => rfl
  | n + 1 => by rw [minSum, if_neg h]

end Go.Proofs.YtcggbojhalbkjaaDoor
