/- Elements with the one before them. -/
import Derived.Test.YtcggbojhalbkjaaGreatDoorWkey
namespace Go.Proofs.YtcggbojhalbkjaaGreatDoor
open Go.RowKit

theorem prevOf_zero {α : Type} {l : List α} {k : Nat} (h : k = 0) : prevOf l k = none := by unfold prevOf; rw [if_pos h]
theorem prevOf_pos {α : Type} {l : List α} {k : Nat} {y : α} (h : ¬ k = 0) (hy : l[k - 1]? = some y) : prevOf l k = some y := by unfold prevOf; rw [if_neg h, hy]
theorem scanE_all {α : Type} {f : Option α → α → Int} : ∀ {l : List α} {p : Option α}, scanE f p l = 0 → ∀ x ∈ l, ∃ q, f q x = 0
  | [], _, _, x, hx => by cases hx
  | y :: t, p, h, x, hx => by
    unfold scanE at h
    by_cases h0 : f p y = 0
    · rw [if_pos h0] at h
      rcases List.mem_cons.1 hx with rfl | hx
      · exact ⟨p, h0⟩
      · exact scanE_all h x hx
    · rw [if_neg h0] at h; exact absurd h h0
theorem key_low {a : ByteArray} (h : keyB a = true) : leB a ⟨#[]⟩ = false := by
  obtain ⟨⟨l⟩⟩ := a
  cases l with
  | nil => cases h
  | cons c r => unfold leB; rw [ByteArray.toList_eq, ByteArray.toList_eq]; rfl
def sgEnc (x : ByteArray) : List Value := [.string x]
theorem sg_len (x : ByteArray) : (sgEnc x).length = 1 := rfl

end Go.Proofs.YtcggbojhalbkjaaGreatDoor
