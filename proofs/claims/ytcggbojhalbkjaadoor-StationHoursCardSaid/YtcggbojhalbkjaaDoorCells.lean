/- The cells of the program's values. -/
import Derived.Test.YtcggbojhalbkjaaDoorGa
namespace Go.Proofs.YtcggbojhalbkjaaDoor
open Go.RowKit

def str (l : List UInt8) : ByteArray := ⟨l.toArray⟩

/-- A station as cells: a key and fourteen numbers. -/
def stCells (key : ByteArray) (hs : List Int) : List Value := .string key :: hs.map (Value.int .i64)

theorem st_splice (key : ByteArray) (hs : List Int) (o : Nat) (vs : List Int) : splice (stCells key hs) (1 + o) (vs.map (Value.int .i64)) = stCells key (splice hs o vs) := by
  unfold stCells
  rw [splice_cons, splice_map]

theorem st_one (key : ByteArray) (hs : List Int) : ∀ v ∈ stCells key hs, v.oneCell' = true := by
  intro v hv
  simp only [stCells, List.mem_cons] at hv
  rcases hv with rfl | hv
  · rfl
  · exact ints_one _ v hv

theorem info_st : (Tryd.prog.info? 56).map (·.size) = some 15 := by kernel_rfl
theorem info_win : (Tryd.prog.info? 31).map (·.size) = some 2 := by kernel_rfl
theorem st_len (key : ByteArray) (hs : List Int) (h : hs.length = 14) : (stCells key hs).length = 15 := by simp [stCells, h]
theorem info_hours : (Tryd.prog.info? 54).map (·.size) = some 14 := by kernel_rfl

end Go.Proofs.YtcggbojhalbkjaaDoor
