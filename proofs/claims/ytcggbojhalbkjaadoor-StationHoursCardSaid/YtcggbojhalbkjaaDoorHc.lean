/- The walks of word.Days, word.Time and hire.checkReading. -/
import Derived.Test.YtcggbojhalbkjaaDoorWkey
namespace Go.Proofs.YtcggbojhalbkjaaDoor
open Go.RowKit

def rdCells (r : Rd) : List Value := [.int .i64 r.at_, .string r.st, .int .i64 r.meter, .int .i64 r.fuel]
def lgEnc (g : Lg) : List Value := .string g.veh :: (rdCells g.out ++ rdCells g.inn)
theorem lg_len (g : Lg) : (lgEnc g).length = 9 := rfl
def RdOk (r : Rd) : Prop := r.st.size ≤ 1000000
def LgOk (g : Lg) : Prop := g.veh.size ≤ 1000000 ∧ RdOk g.out ∧ RdOk g.inn

theorem timeE_ok {a b : Int} (h : timeE a b = 0) : 0 ≤ a ∧ a < b ∧ b ≤ 5761439 ∧ daysV a b ≤ 120 := by
  unfold timeE at h
  split at h
  · cases h
  · rename_i h1
    unfold whenE at h
    by_cases h2 : 120 < daysV a b
    · simp [h2] at h
    · omega

end Go.Proofs.YtcggbojhalbkjaaDoor
