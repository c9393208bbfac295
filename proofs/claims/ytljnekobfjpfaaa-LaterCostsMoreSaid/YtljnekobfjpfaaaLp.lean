/- The plain law of LaterCostsMore: the bills of two returns of one car. -/
import Derived.Test.YtljnekobfjpfaaaBl
namespace Go.Proofs.Ytljnekobfjpfaaa
open Go.RowKit

def outRd : Rd := ⟨100, ⟨#[115, 49]⟩, 0, 8⟩
def inRd (at_ km fuel : Int) : Rd := ⟨at_, ⟨#[115, 49]⟩, km, fuel⟩
def carLegs : List Lg := [startLeg ⟨#[118, 49]⟩ outRd]
def carHire : Hr := ⟨⟨#[104, 49]⟩, ⟨#[97, 110, 110]⟩, 100, 1000, carLegs⟩
def backLegs (at_ km fuel : Int) : List Lg := [⟨⟨#[118, 49]⟩, outRd, inRd at_ km fuel⟩]
def backHire (at_ km fuel : Int) : Hr := ⟨⟨#[104, 49]⟩, ⟨#[97, 110, 110]⟩, 100, 1000, backLegs at_ km fuel⟩
theorem car_going : goingE carHire = 0 := by kernel_rfl
theorem car_start : hireE carHire = 0 := by kernel_rfl
theorem car_keys : keyB ⟨#[104, 49]⟩ = true ∧ keyB ⟨#[97, 110, 110]⟩ = true ∧ keyB ⟨#[118, 49]⟩ = true ∧ keyB ⟨#[115, 49]⟩ = true := ⟨by kernel_rfl, by kernel_rfl, by kernel_rfl, by kernel_rfl⟩
theorem car_out : readingE outRd = 0 := by kernel_rfl
theorem car_time : timeE 100 1000 = 0 := by kernel_rfl

theorem back_reading {at_ km fuel : Int} (h1 : 101 ≤ at_) (h2 : at_ ≤ 10000) (h3 : 0 ≤ km) (h4 : km ≤ 10000) (h5 : 0 ≤ fuel) (h6 : fuel ≤ 8) : readingE (inRd at_ km fuel) = 0 := by
  have a1 : inB at_ 0 5761439 = true := inB_iff.2 ⟨by omega, by omega⟩
  have a2 : inB km 0 999999 = true := inB_iff.2 ⟨by omega, by omega⟩
  have a3 : inB fuel 0 8 = true := inB_iff.2 ⟨by omega, by omega⟩
  simp [readingE, inRd, momentE, a1, a2, a3, car_keys.2.2.2, whenE, firstE]

theorem back_hire {at_ km fuel : Int} (h1 : 101 ≤ at_) (h2 : at_ ≤ 10000) (h3 : 0 ≤ km) (h4 : km ≤ 10000) (h5 : 0 ≤ fuel) (h6 : fuel ≤ 8) : hireE (backHire at_ km fuel) = 0 := by
  have hr := back_reading h1 h2 h3 h4 h5 h6
  have hin : legInE true ⟨⟨#[118, 49]⟩, outRd, inRd at_ km fuel⟩ = 0 := by
    unfold legInE
    rw [if_neg (show ¬ (inRd at_ km fuel).at_ = -1 by show ¬ at_ = -1; omega)]
    have : decide ((inRd at_ km fuel).at_ ≤ outRd.at_) = false := decide_eq_false (show ¬ at_ ≤ 100 by omega)
    simp only [this, hr, firstE, whenE]
    simp
  have hleg : legE 100 none true ⟨⟨#[118, 49]⟩, outRd, inRd at_ km fuel⟩ = 0 := by
    unfold legE
    have hp : legPrevE 100 none ⟨⟨#[118, 49]⟩, outRd, inRd at_ km fuel⟩ = 0 := rfl
    simp [firstE, car_keys.2.2.1, car_out, hp, hin, whenE]
  have hlegs : legsE 100 (backLegs at_ km fuel) 1 = 0 := by
    show (if legE 100 none true ⟨⟨#[118, 49]⟩, outRd, inRd at_ km fuel⟩ = 0 then 0 else _) = (0 : Int)
    rw [if_pos hleg]
  unfold hireE backHire
  have hl : (backLegs at_ km fuel).length = 1 := rfl
  simp [firstE, whenE, car_keys.1, car_keys.2.1, car_time, hl, hlegs]

theorem back_close {at_ km fuel : Int} (h1 : 101 ≤ at_) (h2 : at_ ≤ 10000) (h3 : 0 ≤ km) (h4 : km ≤ 10000) (h5 : 0 ≤ fuel) (h6 : fuel ≤ 8) : closeE carHire (inRd at_ km fuel) = 0 := by
  unfold closeE
  rw [if_pos car_going]
  exact back_hire h1 h2 h3 h4 h5 h6

/-- What the bill adds, each part as a function of what is brought back. -/
def lateOf (d : Dl) (at_ : Int) : Int := lateC d.grace d.hour d.day (max 0 (at_ - 1000))
def wayOf (d : Dl) (km : Int) : Int := d.km * max 0 (km - d.free)
def fuelOf (d : Dl) (fuel : Int) : Int := d.eighth * (8 - fuel)

theorem mul_le {a b c : Int} (ha : 0 ≤ a) (h : b ≤ c) : a * b ≤ a * c := Int.mul_le_mul_of_nonneg_left h ha
theorem late_parts {d : Dl} (hd : dealE d = 0) {n : Int} (h0 : 0 ≤ n) (h1 : n ≤ 9000) : 0 ≤ lateC d.grace d.hour d.day n ∧ lateC d.grace d.hour d.day n ≤ 160000000 := by
  have h := dealE_ok hd
  unfold lateC
  split
  · omega
  · have b1 := mul_bound h.2.2.2.2.1.1 h.2.2.2.2.1.2 (show 0 ≤ (n + 60 - 1) / 60 by omega) (show (n + 60 - 1) / 60 ≤ 160 by omega)
    have b2 := mul_bound h.2.2.2.2.2.1.1 h.2.2.2.2.2.1.2 (show 0 ≤ (n + 1440 - 1) / 1440 by omega) (show (n + 1440 - 1) / 1440 ≤ 160 by omega)
    omega
theorem late_mono {d : Dl} (hd : dealE d = 0) {n m : Int} (h0 : 0 ≤ n) (h : n ≤ m) : lateC d.grace d.hour d.day n ≤ lateC d.grace d.hour d.day m := by
  have hk := dealE_ok hd
  have p1 := Int.mul_nonneg hk.2.2.2.2.1.1 (show 0 ≤ (m + 60 - 1) / 60 by omega)
  have p2 := Int.mul_nonneg hk.2.2.2.2.2.1.1 (show 0 ≤ (m + 1440 - 1) / 1440 by omega)
  have m1 := mul_le hk.2.2.2.2.1.1 (show (n + 60 - 1) / 60 ≤ (m + 60 - 1) / 60 by omega)
  have m2 := mul_le hk.2.2.2.2.2.1.1 (show (n + 1440 - 1) / 1440 ≤ (m + 1440 - 1) / 1440 by omega)
  unfold lateC
  split
  · split <;> omega
  · rw [if_neg (by omega)]
    omega

theorem back_sums (d : Dl) (at_ km fuel : Int) (h3 : 0 ≤ km) (h6 : fuel ≤ 8) :
    billC1 d (backHire at_ km fuel) = lateOf d at_ ∧ billC2 d (backHire at_ km fuel) = wayOf d km ∧ billC3 d (backHire at_ km fuel) = fuelOf d fuel := by
  refine ⟨rfl, ?_, ?_⟩
  · show d.km * max 0 ((kmOf ⟨⟨#[118, 49]⟩, outRd, inRd at_ km fuel⟩ + 0) - d.free * daysV 100 1000) = _
    have h1 : kmOf ⟨⟨#[118, 49]⟩, outRd, inRd at_ km fuel⟩ = km := by
      show (if km - 0 < 0 then km - 0 + 1000000 else km - 0) = km
      rw [if_neg (by omega)]; omega
    have h2 : daysV 100 1000 = 1 := by decide
    rw [h1, h2]
    unfold wayOf
    rw [Int.mul_one, Int.add_zero]
  · show d.eighth * (missOf ⟨⟨#[118, 49]⟩, outRd, inRd at_ km fuel⟩ + 0) = _
    have h1 : missOf ⟨⟨#[118, 49]⟩, outRd, inRd at_ km fuel⟩ = 8 - fuel := by
      show max 0 (8 - fuel) = 8 - fuel
      omega
    rw [h1]
    unfold fuelOf
    rw [Int.add_zero]

def partsOk (l : List Ln) : Prop := l.length ≤ 3 ∧ ∀ p, ∀ x ∈ l, lineE p x = 0
theorem scan_zero {α : Type} {f : Option α → α → Int} : ∀ {l : List α} {p : Option α}, (∀ p, ∀ x ∈ l, f p x = 0) → scanE f p l = 0
  | [], _, _ => rfl
  | x :: r, p, h => by
    simp only [scanE]
    rw [if_pos (h p x (List.mem_cons_self ..))]
    exact scan_zero (fun q y hy => h q y (List.mem_cons_of_mem _ hy))
theorem lines_zero {l : List Ln} (h0 : l.length ≤ 1000) (h : ∀ p, ∀ x ∈ l, lineE p x = 0) : linesE l = 0 := by
  unfold linesE
  rw [if_neg (by omega)]
  exact scan_zero h
theorem addLn_sum (l : List Ln) (k : ByteArray) (x : Int) : sumBy centsOf (addLn l k x) = sumBy centsOf l + x := by
  unfold addLn
  by_cases h : x = 0
  · rw [if_pos h, h]; omega
  · rw [if_neg h, sumBy_append]; simp [sumBy, centsOf]
theorem addLn_line {l : List Ln} {k : ByteArray} {x : Int} (h : ∀ p, ∀ y ∈ l, lineE p y = 0) (hk : keyB k = true) (h0 : 0 ≤ x) (h1 : x ≤ 1000000000) : ∀ p, ∀ y ∈ addLn l k x, lineE p y = 0 := by
  intro p y hy
  unfold addLn at hy
  by_cases hx : x = 0
  · rw [if_pos hx] at hy; exact h p y hy
  · rw [if_neg hx] at hy
    rcases List.mem_append.1 hy with hy | hy
    · exact h p y hy
    · rw [List.mem_singleton.1 hy]
      have a1 : inB x (-1000000000) 1000000000 = true := inB_iff.2 ⟨by omega, by omega⟩
      have a2 : inB 6 1 6 = true := by decide
      simp [lineE, a1, a2, hk]

theorem part_keys : keyB ⟨#[108, 97, 116, 101]⟩ = true ∧ keyB ⟨#[100, 105, 115, 116, 97, 110, 99, 101]⟩ = true ∧ keyB ⟨#[102, 117, 101, 108]⟩ = true := ⟨by kernel_rfl, by kernel_rfl, by kernel_rfl⟩

/-- The bill of a car that is back: it is right, and what it adds up to. -/
theorem back_bill {d : Dl} (hd : dealE d = 0) {at_ km fuel : Int} (h1 : 101 ≤ at_) (h2 : at_ ≤ 10000) (h3 : 0 ≤ km) (h4 : km ≤ 10000) (h5 : 0 ≤ fuel) (h6 : fuel ≤ 8) :
    billE d (backHire at_ km fuel) [] = 0 ∧ linesE (billL d (backHire at_ km fuel) []) = 0 ∧ totalV (billL d (backHire at_ km fuel) []) = lateOf d at_ + wayOf d km + fuelOf d fuel ∧ (billL d (backHire at_ km fuel) []).length ≤ 3 := by
  have hs := back_sums d at_ km fuel h3 h6
  have hk := dealE_ok hd
  have b1 := late_parts hd (show 0 ≤ max 0 (at_ - 1000) by omega) (by omega)
  have b2 := mul_bound hk.2.1.1 hk.2.1.2 (show 0 ≤ max 0 (km - d.free) by omega) (show max 0 (km - d.free) ≤ 10000 by omega)
  have b3 := mul_bound hk.2.2.1.1 hk.2.2.1.2 (show 0 ≤ 8 - fuel by omega) (show 8 - fuel ≤ 8 by omega)
  have hl : ∀ p, ∀ y ∈ billL d (backHire at_ km fuel) [], lineE p y = 0 := by
    unfold billL
    rw [hs.1, hs.2.1, hs.2.2]
    exact addLn_line (addLn_line (addLn_line (fun _ _ h => by cases h) part_keys.1 b1.1 (by have := b1.2; unfold lateOf; omega)) part_keys.2.1 b2.1 (by have := b2.2; unfold wayOf; omega)) part_keys.2.2 b3.1 (by have := b3.2; unfold fuelOf; omega)
  have hlen : (billL d (backHire at_ km fuel) []).length ≤ 3 := by
    unfold billL
    have e1 := addLn_len [] ⟨#[108, 97, 116, 101]⟩ (billC1 d (backHire at_ km fuel))
    have e2 := addLn_len (addLn [] ⟨#[108, 97, 116, 101]⟩ (billC1 d (backHire at_ km fuel))) ⟨#[100, 105, 115, 116, 97, 110, 99, 101]⟩ (billC2 d (backHire at_ km fuel))
    have e3 := addLn_len (addLn (addLn [] ⟨#[108, 97, 116, 101]⟩ (billC1 d (backHire at_ km fuel))) ⟨#[100, 105, 115, 116, 97, 110, 99, 101]⟩ (billC2 d (backHire at_ km fuel))) ⟨#[102, 117, 101, 108]⟩ (billC3 d (backHire at_ km fuel))
    simp only [List.length_nil] at e1
    omega
  have hz := lines_zero (by omega) hl
  refine ⟨?_, hz, ?_, hlen⟩
  · have h0 : billE0 d (backHire at_ km fuel) [] = 0 := by
      unfold billE0
      have : linesE [] = 0 := by decide
      simp [firstE, hd, back_hire h1 h2 h3 h4 h5 h6, this]
    have ho : openB (backHire at_ km fuel).legs = false := by
      show (decide (at_ = -1)) = false
      simp; omega
    unfold billE
    rw [if_pos h0, ho]
    exact hz
  · unfold totalV
    rw [if_pos hz]
    unfold billL
    rw [addLn_sum, addLn_sum, addLn_sum, hs.1, hs.2.1, hs.2.2]
    simp [sumBy]

theorem back_mono {d : Dl} (hd : dealE d = 0) {at_ km fuel x y z : Int} (h0 : 0 ≤ x) (h1 : 0 ≤ y) (h2 : 0 ≤ z) :
    lateOf d at_ + wayOf d km + fuelOf d fuel ≤ lateOf d (at_ + x) + wayOf d (km + y) + fuelOf d (fuel - z) := by
  have hk := dealE_ok hd
  have m1 : lateOf d at_ ≤ lateOf d (at_ + x) := late_mono hd (by omega) (by omega)
  have m2 : wayOf d km ≤ wayOf d (km + y) := mul_le hk.2.1.1 (by omega)
  have m3 : fuelOf d fuel ≤ fuelOf d (fuel - z) := mul_le hk.2.2.1.1 (by omega)
  omega

end Go.Proofs.Ytljnekobfjpfaaa
