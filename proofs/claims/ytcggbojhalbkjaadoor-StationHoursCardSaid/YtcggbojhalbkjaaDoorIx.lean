/- The steps of a walk over slots and blocks: an element out of an array that is a value. -/
import Derived.Test.YtcggbojhalbkjaaDoorSz
namespace Go.Proofs.YtcggbojhalbkjaaDoor
open Go.RowKit
def rowArr (P : Program) (t : TypeId) : Option (Nat × TypeId × Nat) :=
  match P.underlying t with
  | some (.array n e) => match P.underlying e with
    | some d => if d.isRow then (P.info? e).map fun i => (n, e, i.size) else none
    | none => none
  | _ => none
section
variable {P : Program} {nn : Nat} {S : List (Nat × Value)} {Z : World → Prop} {d : Nat} {ty : TypeId} {pos : String} {aft : Array Edge}
theorem ov_indexA {t e : TypeId} {x y : Operand} {len sz i : Nat} {cs vs : List Value} (ht : rowArr P t = some (len, e, sz)) (hx : rd S x = some (.agg cs.toArray)) (hy : rd S y = some (.int .i64 (i : Int))) (hlt : i < len) (hv : (cs.drop (i * sz)).take sz = vs) :
    OV P nn S Z ⟨some d, .index t x y, ty, pos, aft, none⟩ (.agg vs.toArray) := fun a w ha hm => by
  unfold rowArr at ht
  split at ht
  · rename_i n e' hu
    split at ht
    · rename_i dd he
      split at ht
      · rename_i hrow
        cases hq : P.info? e' with
        | none => simp [hq] at ht
        | some inf =>
          simp only [hq, Option.map_some, Option.some.injEq, Prod.mk.injEq] at ht
          obtain ⟨rfl, rfl, hs⟩ := ht
          have hagg : (isAgg e').run P w = .ok true w := by
            unfold isAgg
            rw [Sem.run_bind, run_underlying he w]
            cases dd <;> simp_all [TypeDesc.isRow]
          have hb : 0 ≤ (i : Int) ∧ (i : Int) < (n : Int) := ⟨by omega, by omega⟩
          have hr : (Instr.index t (.agg cs.toArray) (.int .i64 (i : Int))).run P w = .ok (.agg vs.toArray) w := by
            subst hv
            simp [Instr.index, asIntOf, run_underlying hu, sizeOf, typeInfo, hq, hs, part, hagg]
            omega
          simp [execOp, ha.eval hx, ha.eval hy, hr, Result.andThen]
      · cases ht
    · cases ht
  · cases ht
end

end Go.Proofs.YtcggbojhalbkjaaDoor
