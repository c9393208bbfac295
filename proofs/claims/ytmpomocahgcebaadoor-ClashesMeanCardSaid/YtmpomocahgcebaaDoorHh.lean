/- The walk of hire.Close. -/
import Derived.Test.YtmpomocahgcebaaDoorHg
namespace Go.Proofs.YtmpomocahgcebaaDoor
open Go.RowKit

/-- The legs of a hire whose last one ends. -/
def endLegs (l : List Lg) (r : Rd) : List Lg :=
  match l[l.length - 1]? with
  | some g => l.set (l.length - 1) ⟨g.veh, g.out, r⟩
  | none => l
def closeE (h : Hr) (r : Rd) : Int := if goingE h = 0 then hireE ⟨h.key, h.driver, h.fr, h.to_, endLegs h.legs r⟩ else goingE h

theorem info_rd : (Tryd.prog.info? 98).map (·.size) = some 4 := by kernel_rfl
theorem goingE_ok {h : Hr} (hg : goingE h = 0) : hireE h = 0 ∧ openB h.legs = true := by
  unfold goingE at hg
  by_cases h0 : hireE h = 0
  · rw [if_pos h0] at hg
    refine ⟨h0, ?_⟩
    by_cases ho : openB h.legs = true
    · exact ho
    · rw [if_neg ho] at hg; cases hg
  · rw [if_neg h0] at hg; exact absurd hg h0
theorem end_ok {l : List Lg} {r : Rd} (h : ∀ g ∈ l, LgOk g) (hr : RdOk r) : ∀ g ∈ endLegs l r, LgOk g := by
  unfold endLegs
  cases hl : l[l.length - 1]? with
  | none => exact h
  | some g =>
    intro x hx
    rcases List.mem_or_eq_of_mem_set hx with hx | rfl
    · exact h x hx
    · have := h g (List.mem_of_getElem? hl)
      exact ⟨this.1, this.2.1, hr⟩

end Go.Proofs.YtmpomocahgcebaaDoor
