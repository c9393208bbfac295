/- The walks of slices.Clone at lines and of Bill's own function that adds a line. -/
import Derived.Test.YtmpomocahgcebaaDoorLn
import Derived.Test.YtmpomocahgcebaaDoorOwn
import Derived.OneCell
namespace Go.Proofs.YtmpomocahgcebaaDoor
open Go.RowKit

theorem ln_one (x : Ln) : ∀ v ∈ lnEnc x, v.oneCell' = true := by
  intro v hv
  simp [lnEnc] at hv
  rcases hv with rfl | rfl | rfl <;> rfl
theorem line_info : ∃ i z, Tryd.prog.info? 133 = some i ∧ i.zero = some z ∧ i.size = 3 ∧ i.bytes = 32 ∧ z.cells.size = 3 := info_parts (by kernel_rfl)

/-- A variable that holds a row of the call's own, which reads as the list. -/
def VarOwn (w : World) (base gv : Nat) (l : List Ln) : Prop :=
  ∃ v, w.heap[gv]? = some (.cells #[v] 44 (0, 0)) ∧ w.ownsRow base 133 3 v l.length (l.flatMap lnEnc) ∧ v.ownBlock ≠ some gv ∧ base ≤ gv

theorem ownsRow_grow {w w' : World} {base : Nat} {e : TypeId} {size : Nat} {v : Value} {n : Nat} {xs : List Value} (h : w.ownsRow base e size v n xs) (hg : w.grownBy w' none) : w'.ownsRow base e size v n xs := by
  obtain ⟨h1, h2⟩ := h
  refine ⟨h1, ?_⟩
  rcases h2 with h2 | ⟨g, cap, cur, hv, hb, hh, hr⟩
  · exact .inl h2
  · exact .inr ⟨g, cap, cur, hv, hb, (hg.block g (lt_of_block hh) (by simp)).trans hh, hr⟩
theorem VarOwn.grow {w w' : World} {base gv : Nat} {l : List Ln} (h : VarOwn w base gv l) (hg : w.grownBy w' none) : VarOwn w' base gv l := by
  obtain ⟨v, h1, h2, h3, h4⟩ := h
  exact ⟨v, (hg.block gv (lt_of_block h1) (by simp)).trans h1, ownsRow_grow h2 hg, h3, h4⟩
theorem VarOwn.drew {w : World} {base gv : Nat} {l : List Ln} (h : VarOwn w base gv l) : VarOwn w.drew base gv l := h
theorem Blk.below {w w' : World} {g base : Nat} {t : TypeId} {cs : List Value} (h : Blk w g t cs) (hb : Below base w w') (hg : g < base) : Blk w' g t cs := (hb.block g hg).trans h
theorem SlT.below {α : Type} {enc : α → List Value} {k : Nat} {T : TypeId} {w w' : World} {A : Option Addr} {n : Nat} {l : List α} (h : SlT enc k T w A n l) (hb : Below w.heap.size w w') : SlT enc k T w' A n l := h.kept fun b hlt _ => hb.block b hlt

def addLn (l : List Ln) (key : ByteArray) (cents : Int) : List Ln := if cents = 0 then l else l ++ [⟨6, key, cents⟩]

end Go.Proofs.YtmpomocahgcebaaDoor
