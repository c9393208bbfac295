/- The steps of a walk over slots and blocks: closures; blocks that came in. -/
import Derived.Test.YtcggbojhalbkjaaGreatDoorSj
namespace Go.Proofs.YtcggbojhalbkjaaGreatDoor
open Go.RowKit

section
variable {P : Program} {nn : Nat} {S : List (Nat × Value)} {Z : World → Prop} {d : Nat} {ty : TypeId} {pos : String} {aft : Array Edge}
theorem ov_makeFunc {f : FuncId} {fs cs : List Operand} {vf vc : List Value} (hf : evArgs S fs = some vf) (hc : evArgs S cs = some vc) : OV P nn S Z ⟨some d, .makeFunc (.func f) fs.toArray cs.toArray, ty, pos, aft, none⟩ (.func (.func f) vf.toArray vc.toArray) := fun a w ha hm => by
  have e1 := ha.args hf
  have e2 := ha.args hc
  simp [execOp, e1, e2, Instr.makeFunc]
theorem ov_beql {t t' : TypeId} {x y : Operand} {m n : Bool} (hb : P.underlying t = some .bool) (hx : rd S x = some (.bool m)) (hy : rd S y = some (.bool n)) : OV P nn S Z ⟨some d, .binOp .eql t x y t', ty, pos, aft, none⟩ (.bool (m == n)) :=
  ov_bin hx hy (fun w => by simp [binOp, run_equal_bool w t m n hb, go_sem])
theorem ov_bneq {t t' : TypeId} {x y : Operand} {m n : Bool} (hb : P.underlying t = some .bool) (hx : rd S x = some (.bool m)) (hy : rd S y = some (.bool n)) : OV P nn S Z ⟨some d, .binOp .neq t x y t', ty, pos, aft, none⟩ (.bool (!(m == n))) :=
  ov_bin hx hy (fun w => by simp [binOp, run_equal_bool w t m n hb, go_sem])
end
/-- A block that came in. -/
def BlkOld (N : Nat) (row : Option Nat) (g : Nat) (T : TypeId) (cs : List Value) (w : World) : Prop := (g < N ∧ row ≠ some g) ∧ Blk w g T cs
theorem BlkOld.lasts {N g : Nat} {row : Option Nat} {Tt : List TypeId} {T : TypeId} {cs : List Value} : Lasts2 N row Tt (BlkOld N row g T cs) :=
  ⟨fun _ _ h ⟨h1, h2⟩ => ⟨h1, h2.grown h (by simp)⟩, fun _ _ r _ _ _ _ h3 h4 ⟨h1, h2⟩ => ⟨h1, h2.grown h4 (fun e => by
    cases e
    rcases h3 with h3 | h3
    · omega
    · exact h1.2 h3)⟩⟩
theorem Blk.old {w : World} {g : Nat} {T : TypeId} {cs : List Value} (h : Blk w g T cs) : BlkOld w.heap.size none g T cs w := ⟨⟨h.lt, by simp⟩, h⟩

end Go.Proofs.YtcggbojhalbkjaaGreatDoor
