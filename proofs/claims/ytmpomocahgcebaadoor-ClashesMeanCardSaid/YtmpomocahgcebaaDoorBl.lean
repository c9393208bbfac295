/- What a right hire that has ended holds; the walk of hire.Bill. -/
import Derived.Test.YtmpomocahgcebaaDoorAdd
namespace Go.Proofs.YtmpomocahgcebaaDoor
open Go.RowKit

theorem legs_all {fr : Int} {l : List Lg} (h : legsE fr l l.length = 0) : ∀ k g, l[k]? = some g → legE fr (prevOf l k) (decide (k + 1 = l.length)) g = 0 := by
  have hz : ∀ k, k ≤ l.length → legsE fr l (l.length - k) = 0 := by
    intro k
    induction k with
    | zero => intro _; exact h
    | succ k ih =>
      intro hk
      have h0 := ih (by omega)
      obtain ⟨g, hg⟩ : ∃ g, l[k]? = some g := ⟨_, List.getElem?_eq_getElem (by omega)⟩
      rw [legs_at hg] at h0
      by_cases he : legE fr (prevOf l k) (decide (k + 1 = l.length)) g = 0
      · rw [if_pos he] at h0; exact h0
      · rw [if_neg he] at h0; exact absurd h0 he
  intro k g hg
  have hk := (List.getElem?_eq_some_iff.1 hg).1
  have h0 := hz k (by omega)
  rw [legs_at hg] at h0
  by_cases he : legE fr (prevOf l k) (decide (k + 1 = l.length)) g = 0
  · exact he
  · rw [if_neg he] at h0; exact h0

theorem firstE_all : ∀ {l : List Int}, firstE l = 0 → ∀ e ∈ l, e = 0
  | [], _, _, h => by cases h
  | x :: r, h, e, he => by
    simp only [firstE] at h
    by_cases hx : x = 0
    · rw [if_pos hx] at h
      rcases List.mem_cons.1 he with rfl | he
      · exact hx
      · exact firstE_all h e he
    · rw [if_neg hx] at h; exact absurd h hx

theorem hireE_ok {key driver : ByteArray} {fr to_ : Int} {l : List Lg} (h : hireE ⟨key, driver, fr, to_, l⟩ = 0) : timeE fr to_ = 0 ∧ 0 < l.length ∧ l.length ≤ 20 ∧ legsE fr l l.length = 0 := by
  have hl := hireE_legs h
  have hl1 : 0 < l.length := hl.1
  have hl2 : l.length ≤ 20 := hl.2
  have ha := firstE_all h
  have h3 := ha _ (List.mem_cons_of_mem _ (List.mem_cons_of_mem _ (List.mem_singleton.2 rfl)))
  refine ⟨ha _ (List.mem_cons_of_mem _ (List.mem_cons_self ..)), hl1, hl2, ?_⟩
  rw [if_neg (show ¬ l.length = 0 by omega), if_neg (show ¬ 20 < l.length by omega)] at h3
  exact h3

theorem readingE_ok {r : Rd} (h : readingE r = 0) : (0 ≤ r.at_ ∧ r.at_ ≤ 5761439) ∧ (0 ≤ r.meter ∧ r.meter ≤ 999999) ∧ (0 ≤ r.fuel ∧ r.fuel ≤ 8) := by
  have ha := firstE_all h
  have h1 := momentE_ok (ha _ (List.mem_cons_self ..))
  have h3 := ha _ (List.mem_cons_of_mem _ (List.mem_cons_of_mem _ (List.mem_singleton.2 rfl)))
  unfold whenE at h3
  cases hm : inB r.meter 0 999999
  · rw [hm] at h3; cases h3
  · cases hf : inB r.fuel 0 8
    · rw [hm, hf] at h3; cases h3
    · exact ⟨h1, inB_iff.1 hm, inB_iff.1 hf⟩

/-- The numbers of a right hire that has ended. -/
theorem closed_num {key driver : ByteArray} {fr to_ : Int} {l : List Lg} (h : hireE ⟨key, driver, fr, to_, l⟩ = 0) (ho : openB l = false) : ∀ g ∈ l, LgNum g ∧ 0 ≤ g.inn.at_ ∧ g.inn.at_ ≤ 5761439 := by
  have hk := hireE_ok h
  have hall := legs_all hk.2.2.2
  intro g hg
  obtain ⟨k, hkl, hk2⟩ := List.getElem_of_mem hg
  have hgk : l[k]? = some g := by rw [List.getElem?_eq_getElem hkl, hk2]
  have hle := firstE_all (hall k g hgk)
  have h2 := readingE_ok (hle _ (List.mem_cons_of_mem _ (List.mem_cons_self ..)))
  have h4 := hle _ (List.mem_cons_of_mem _ (List.mem_cons_of_mem _ (List.mem_cons_of_mem _ (List.mem_singleton.2 rfl))))
  unfold legInE at h4
  by_cases hin : g.inn.at_ = -1
  · rw [if_pos hin] at h4
    have h5 := firstE_all h4 _ (List.mem_cons_of_mem _ (List.mem_singleton.2 rfl))
    exfalso
    by_cases hlast : k + 1 = l.length
    · have : l[l.length - 1]? = some g := by rw [show l.length - 1 = k by omega]; exact hgk
      unfold openB at ho
      rw [this] at ho
      simp [hin] at ho
    · simp [hlast, whenE] at h5
  · rw [if_neg hin] at h4
    have h6 := readingE_ok (firstE_all h4 _ (List.mem_cons_self ..))
    exact ⟨⟨h2.2.1, h6.2.1, h2.2.2, h6.2.2⟩, h6.1.1, h6.1.2⟩

theorem dealE_ok {d : Dl} (h : dealE d = 0) : (0 ≤ d.free ∧ d.free ≤ 10000) ∧ (0 ≤ d.km ∧ d.km ≤ 100000) ∧ (0 ≤ d.eighth ∧ d.eighth ≤ 100000) ∧ (0 ≤ d.grace ∧ d.grace ≤ 1440) ∧ (0 ≤ d.hour ∧ d.hour ≤ 1000000) ∧ (0 ≤ d.day ∧ d.day ≤ 1000000) ∧ (0 ≤ d.deposit ∧ d.deposit ≤ 1000000) := by
  have hb : dealB d = true := by
    unfold dealE whenE at h
    cases hb : dealB d with
    | true => rfl
    | false => rw [hb] at h; cases h
  unfold dealB at hb
  simp only [Bool.and_eq_true, inB_iff] at hb
  obtain ⟨⟨⟨⟨⟨⟨h1, h2⟩, h3⟩, h4⟩, h5⟩, h6⟩, h7⟩ := hb
  exact ⟨h1, h2, h3, h4, h5, h6, h7⟩

theorem addLn_len (l : List Ln) (k : ByteArray) (x : Int) : (addLn l k x).length ≤ l.length + 1 := by
  unfold addLn
  by_cases h : x = 0
  · rw [if_pos h]; omega
  · rw [if_neg h]; simp
theorem below_none {a b : World} {B : Nat} (h : a.grownBy b none) (hB : B ≤ a.heap.size) : Below B a b := (below_of_grow h).mono hB
theorem VarOwn.size {w : World} {base gv : Nat} {l : List Ln} (h : VarOwn w base gv l) : base ≤ w.heap.size := by
  obtain ⟨v, h1, _, _, h4⟩ := h
  have := lt_of_block h1
  omega

theorem addLn_ok {l : List Ln} {k : ByteArray} {x : Int} (h : ∀ y ∈ l, LnOk y) (hk : k.size ≤ 1000000) : ∀ y ∈ addLn l k x, LnOk y := by
  unfold addLn
  by_cases h0 : x = 0
  · rw [if_pos h0]; exact h
  · rw [if_neg h0]
    intro y hy
    rcases List.mem_append.1 hy with hy | hy
    · exact h y hy
    · rw [List.mem_singleton.1 hy]; exact hk
theorem ownsRow_base {w : World} {base base' : Nat} {e : TypeId} {size : Nat} {v : Value} {n : Nat} {xs : List Value} (h : w.ownsRow base e size v n xs) (hb : base' ≤ base) : w.ownsRow base' e size v n xs := by
  obtain ⟨h1, h2⟩ := h
  refine ⟨h1, ?_⟩
  rcases h2 with h2 | ⟨g, cap, cur, hv, hg, hr⟩
  · exact .inl h2
  · exact .inr ⟨g, cap, cur, hv, Nat.le_trans hb hg, hr⟩
theorem VarOwn.open_ {w : World} {base gv : Nat} {l : List Ln} (h : VarOwn w base gv l) :
    ∃ A c, w.heap[gv]? = some (.cells #[.slice A l.length c] 44 (0, 0)) ∧ w.ownsRow base 133 3 (.slice A l.length c) l.length (l.flatMap lnEnc) ∧ SlT lnEnc 3 133 w A l.length l := by
  obtain ⟨v, h1, h2, _, _⟩ := h
  have h2' := h2
  rcases h2'.2 with ⟨rfl, h0⟩ | ⟨g, cap, cur, rfl, _⟩
  · have hl : l = [] := List.length_eq_zero_iff.1 h0
    subst hl
    exact ⟨none, 0, h1, h2, SlT.nil_ w none⟩
  · exact ⟨_, cap, h1, h2, SlT.ofOwn ln_len h2 rfl⟩

/-- The lines of a bill. -/
def billC1 (d : Dl) (h : Hr) : Int := lateC d.grace d.hour d.day (lateN h.to_ h.legs)
def billC2 (d : Dl) (h : Hr) : Int := d.km * max 0 (sumBy kmOf h.legs - d.free * daysV h.fr h.to_)
def billC3 (d : Dl) (h : Hr) : Int := d.eighth * sumBy missOf h.legs
def billL (d : Dl) (h : Hr) (l : List Ln) : List Ln := addLn (addLn (addLn l ⟨#[108, 97, 116, 101]⟩ (billC1 d h)) ⟨#[100, 105, 115, 116, 97, 110, 99, 101]⟩ (billC2 d h)) ⟨#[102, 117, 101, 108]⟩ (billC3 d h)
def billE0 (d : Dl) (h : Hr) (l : List Ln) : Int := firstE [dealE d, hireE h, linesE l]
def billE (d : Dl) (h : Hr) (l : List Ln) : Int := if billE0 d h l = 0 then (if openB h.legs then 11 else linesE (billL d h l)) else billE0 d h l

end Go.Proofs.YtmpomocahgcebaaDoor
