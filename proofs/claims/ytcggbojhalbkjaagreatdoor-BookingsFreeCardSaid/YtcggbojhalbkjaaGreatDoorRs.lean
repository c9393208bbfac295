/- The steps of a walk over slots and blocks: a call that turns a row of the call's own. -/
import Derived.Test.YtcggbojhalbkjaaGreatDoorSv
namespace Go.Proofs.YtcggbojhalbkjaaGreatDoor
open Go.RowKit
section
variable {P : Program} {c : Cx} {ops : Array Oper} {Q : Exit → Act → World → Prop} {rest : List Oper} {S : List (Nat × Value)} {K : World → Prop} {L : List (Nat × TypeId × List Value)} {O : List Own} {X : List (World → Prop)}
variable {d : Nat} {ty : TypeId} {pos : String} {aft : Array Edge}
theorem wl_callr {f : FuncId} {x : Operand} {ags : List Operand} {ats : Array TypeId} {vs fs cs : List Value} {v : Value} {r : Own} {xs' : List Value} (i : Nat) (hO : O[i]? = some r) (hT : c.Tt.contains r.e = false) (hx : rd S x = some (.func (.func f) fs.toArray cs.toArray)) (hf : callableB P f = true) (ha : evArgs S ags = some vs) (hd : Nat.ble (d + 1) c.n = true)
    (hC : ∀ w, Mem c K L O X w → Calls P f (fs ++ vs ++ cs).toArray w (fun e w' => e = .returned v ∧ w'.ownsRow c.w0.heap.size r.e r.sz r.v r.n xs' ∧ w.grownBy w' r.v.ownBlock)) (h : WL P c ops Q rest ((d, v) :: S) K L (setOwn ⟨r.v, r.e, r.sz, r.n, xs'⟩ O i) X) :
    WL P c ops Q (⟨some d, .call ⟨.value x, ags.toArray, ats⟩, ty, pos, aft, none⟩ :: rest) S K L O X :=
  wl_callG (γ := Unit) (val := fun _ => v) (φ := fun _ => True) (K' := fun _ => K) (L' := fun _ => L) (O' := fun _ => setOwn ⟨r.v, r.e, r.sz, r.n, xs'⟩ O i) (X' := fun _ => X) hx hf ha hd (fun w hm => (hC w hm).mono fun _ _ ⟨he, ho, hg⟩ => ⟨(), he, trivial, hm.append hO hT ho hg (.inl rfl)⟩) (fun _ _ => h)
end

end Go.Proofs.YtcggbojhalbkjaaGreatDoor
