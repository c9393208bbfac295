/- Small things of the laws of tariffs: when, errs. -/
import Derived.Test.YtcggbojhalbkjaaWa
namespace Go.Proofs.Ytcggbojhalbkjaa
open Go.RowKit

theorem fe_all : ∀ {l : List Int}, firstE l = 0 → ∀ e ∈ l, e = 0
  | [], _, _, h => by cases h
  | x :: r, h, e, he => by
    simp only [firstE] at h
    by_cases hx : x = 0
    · rw [if_pos hx] at h
      rcases List.mem_cons.1 he with rfl | he
      · exact hx
      · exact fe_all h e he
    · rw [if_neg hx] at h; exact absurd h hx

theorem we_ok {b : Bool} {e : Int} (he : e ≠ 0) (h : whenE b e = 0) : b = false := by
  cases b
  · rfl
  · exact absurd h he

end Go.Proofs.Ytcggbojhalbkjaa
