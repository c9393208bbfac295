/- The steps of a walk over slots and blocks: slices of slices; facts that follow. -/
import Derived.Test.YtcggbojhalbkjaaGreatDoorSu
namespace Go.Proofs.YtcggbojhalbkjaaGreatDoor
open Go.RowKit

section
variable {P : Program} {nn : Nat} {S : List (Nat × Value)} {Z : World → Prop} {d : Nat} {ty : TypeId} {pos : String} {aft : Array Edge}
theorem elemSz_parts {t e : TypeId} {sz : Nat} (h : elemSz P t = some (e, sz)) : P.underlying t = some (.slice (P.elem t)) ∧ ∀ w, (sizeOf (P.elem t)).run P w = .ok sz w := by
  unfold elemSz at h
  split at h
  · rename_i e' hu
    have he : P.elem t = e' := by simp [Program.elem, hu]
    rw [he]
    refine ⟨hu, fun w => ?_⟩
    cases hi : P.info? e' with
    | none => simp [hi] at h
    | some i =>
      simp [hi] at h
      simp [sizeOf, typeInfo, hi, h.2]
  · cases h
theorem ov_sliceLo {t e : TypeId} {sz : Nat} {x y : Operand} {A : Option Addr} {n cap lo : Nat} {v : Int} (he : elemSz P t = some (e, sz)) (hx : rd S x = some (.slice A n cap)) (hy : rd S y = some (.int .i64 v)) (hv : v = (lo : Int)) (hlo : lo ≤ n) : OV P nn S Z ⟨some d, .slice t x (some y) none none, ty, pos, aft, none⟩ (.slice (if cap = lo then A else A.map (·.add (lo * sz))) (n - lo) (cap - lo)) := fun a w ha hm => by
  obtain ⟨hu, hs⟩ := elemSz_parts he
  subst hv
  have h1 : (Instr.slice t (.slice A n cap) (some (.int .i64 (lo : Int))) none none).run P w = .ok (.slice (if cap = lo then A else A.map (·.add (lo * sz))) (n - lo) (cap - lo)) w := by
    rw [run_slice_any w t A n cap hu]
    have hb := run_sliceBound (P := P) w .i64 (lo : Int) n .sliceB (by omega) (by omega)
    simp [Instr.sliceBounds, hs, sliced, hb]
  simp [execOp, ha.eval hx, ha.eval hy, run_sliceAt_slice w t _ _ _ _ hu, h1]
theorem ov_sliceHi {t e : TypeId} {sz : Nat} {x y : Operand} {b off : Nat} {n cap hi : Nat} {v : Int} (he : elemSz P t = some (e, sz)) (hx : rd S x = some (.slice (some ⟨b, off, none⟩) n cap)) (hy : rd S y = some (.int .i64 v)) (hv : v = (hi : Int)) (hhi : hi ≤ cap) : OV P nn S Z ⟨some d, .slice t x none (some y) none, ty, pos, aft, none⟩ (.slice (some ⟨b, off, none⟩) hi cap) := fun a w ha hm => by
  obtain ⟨hu, hs⟩ := elemSz_parts he
  subst hv
  have h1 : (Instr.slice t (.slice (some ⟨b, off, none⟩) n cap) none (some (.int .i64 (hi : Int))) none).run P w = .ok (.slice (some ⟨b, off, none⟩) hi cap) w := by
    rw [run_slice_any w t _ n cap hu]
    have hb := run_sliceBound (P := P) w .i64 (hi : Int) cap .sliceAcap (by omega) (by omega)
    simp [Instr.sliceBounds, hs, sliced, hb, Addr.add]
  simp [execOp, ha.eval hx, ha.eval hy, run_sliceAt_slice w t _ _ _ _ hu, h1]
end
theorem SlT.dropS {α : Type} {enc : α → List Value} {k : Nat} {T : TypeId} {w : World} {A : Option Addr} {n c : Nat} {l : List α} (h : SlT enc k T w A n l) (lo : Nat) (hlo : lo ≤ n) (hc : n ≤ c) : SlT enc k T w (if c = lo then A else A.map (·.add (lo * k))) (n - lo) (l.drop lo) := by
  refine ⟨by rw [List.length_drop, h.len], fun hn => ?_⟩
  obtain ⟨b, off, cells, fz, rfl, hh, hr⟩ := h.at_ (by omega)
  refine ⟨b, off + lo * k, cells, fz, ?_, hh, fun i x hx j v hv => ?_⟩
  · rw [if_neg (by omega)]
    simp only [Option.map_some, Option.some.injEq]
    unfold Addr.add
    split
    · rename_i h0; rw [h0, Nat.add_zero]
    · rfl
  · rw [List.getElem?_drop] at hx
    have := hr (lo + i) x hx j v hv
    rw [Nat.add_mul] at this
    rw [show off + lo * k + i * k + j = off + (lo * k + i * k) + j by omega]
    exact this
section
variable {P : Program} {c : Cx} {ops : Array Oper} {Q : Exit → Act → World → Prop} {S : List (Nat × Value)} {K : World → Prop} {L : List (Nat × TypeId × List Value)} {O : List Own} {X : List (World → Prop)}
/-- A fact that follows from what is known, and lasts. -/
theorem wl_also {l : List Oper} {Y : World → Prop} (hl : Lasts2 c.w0.heap.size c.row c.Tt Y) (hy : ∀ w, Mem c K L O X w → Y w) (h : WL P c ops Q l S K L O (Y :: X)) : WL P c ops Q l S K L O X := fun a w ha hm => h a w ha (hm.also hl (hy w hm))
theorem gw_also {code : Code} {Y : World → Prop} (hl : Lasts2 c.w0.heap.size c.row c.Tt Y) (hy : ∀ w, Mem c K L O X w → Y w) (h : Gw P c Q code S K L O (Y :: X)) : Gw P c Q code S K L O X := fun a w ha hm => h a w ha (hm.also hl (hy w hm))
theorem nx_also {e : Exit} {Y : World → Prop} (hl : Lasts2 c.w0.heap.size c.row c.Tt Y) (hy : ∀ w, Mem c K L O X w → Y w) (h : Nx c Q e S K L O (Y :: X)) : Nx c Q e S K L O X := fun a w ha hm => h a w ha (hm.also hl (hy w hm))
end
theorem lasts_all {α : Type} {N : Nat} {row : Option Nat} {Tt : List TypeId} {l : List α} {Y : α → World → Prop} (h : ∀ x ∈ l, Lasts2 N row Tt (Y x)) : Lasts2 N row Tt (fun w => ∀ x ∈ l, Y x w) :=
  ⟨fun w w' hg hx x hm => (h x hm).gr w w' hg (hx x hm), fun w w' r T c h1 h2 h3 h4 hx x hm => (h x hm).st w w' r T c h1 h2 h3 h4 (hx x hm)⟩
theorem own_cap {w : World} {base : Nat} {e : TypeId} {sz n : Nat} {A : Option Addr} {cc : Nat} {xs : List Value} (h : w.ownsRow base e sz (.slice A n cc) n xs) : n ≤ cc := by
  rcases h.2 with ⟨h1, h0⟩ | ⟨g, cap, cur, h1, _, _, h2, _⟩
  · omega
  · injection h1 with _ _ h3
    omega

end Go.Proofs.YtcggbojhalbkjaaGreatDoor
