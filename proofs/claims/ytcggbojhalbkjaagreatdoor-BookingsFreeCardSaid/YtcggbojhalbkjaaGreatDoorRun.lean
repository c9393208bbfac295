/- How a law begins: the list that came in, and the stream over it. -/
import Derived.Test.YtcggbojhalbkjaaGreatDoorBase
namespace Go.Proofs.YtcggbojhalbkjaaGreatDoor
open Go.RowKit

/-- A slice of integers that came in. -/
def RowIn (w : World) (a : Option Addr) (len cap : Nat) (zs : List Int) : Prop :=
  (a = none ∧ len = 0 ∧ cap = 0 ∧ zs = []) ∨
  ∃ x, a = some x ∧ len ≤ cap ∧ cap ≤ maxLen ∧ zs.length = cap ∧ (∀ i, i < zs.length → w.cell? (x.add i) = some (.int .i64 (zs.getD i 0))) ∧ ∀ n ∈ zs, (Lit.int .i64 n).wf = true

theorem wf_range {n : Int} (h : (Lit.int .i64 n).wf = true) : -9223372036854775808 ≤ n ∧ n ≤ 9223372036854775807 := by
  simp [Lit.wf, IntKind.min, IntKind.max, IntKind.signed, IntKind.bits] at h
  omega

theorem Strm.start {TS : TypeId} {w : World} {A : Option Addr} {n c : Nat} {zs : List Int} (h : RowIn w A n c zs) :
    Strm TS (w.alloc (.cells #[.slice A n c, .int .i64 0] TS)) w.heap.size w.heap.size 0 := by
  refine ⟨Nat.le_refl _, A, n, c, 0, heap_alloc_new w _, Int.le_refl _, Int.le_refl _, ?_, fun hn => ?_⟩
  · rcases h with ⟨_, rfl, _⟩ | ⟨x, _, h1, h2, _⟩
    · omega
    · unfold maxLen at h2; omega
  · rcases h with ⟨_, rfl, _⟩ | ⟨x, rfl, h1, h2, h3, h4, h5⟩
    · omega
    · have h0 := h4 0 (by omega)
      have hx : x.spot = none := by
        have : x.add 0 = x := rfl
        rw [this] at h0
        unfold World.cell? at h0
        split at h0
        · cases hs : x.spot with
          | none => rfl
          | some y => rw [hs] at h0; simp at h0
        · cases h0
      obtain ⟨b, off, sp⟩ := x
      subst hx
      refine ⟨b, off, rfl, World.block_lt_of_cell? w _ h0, fun i hi => ?_⟩
      have hz := h4 i (by omega)
      have hm : zs.getD i 0 ∈ zs := by
        rw [List.getD_eq_getElem?_getD, List.getElem?_eq_getElem (by omega)]
        exact List.getElem_mem _
      have hr := wf_range (h5 _ hm)
      refine ⟨zs.getD i 0, hr.1, hr.2, ?_⟩
      have ha : (⟨b, off, none⟩ : Addr).add i = ⟨b, off + i, none⟩ := by
        unfold Addr.add
        split
        · rename_i h; subst h; rfl
        · rfl
      rw [ha] at hz
      exact (World.cell?_of_block (Below.heap_alloc w _ b (World.block_lt_of_cell? w _ h0))).trans hz

end Go.Proofs.YtcggbojhalbkjaaGreatDoor
