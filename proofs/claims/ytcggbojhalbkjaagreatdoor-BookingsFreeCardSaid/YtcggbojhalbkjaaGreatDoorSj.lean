/- The steps of a walk over slots and blocks: make. -/
import Derived.Test.YtcggbojhalbkjaaGreatDoorSi
import Derived.Deep.OwnRows
namespace Go.Proofs.YtcggbojhalbkjaaGreatDoor
open Go.RowKit

section
variable {P : Program} {c : Cx} {ops : Array Oper} {Q : Exit → Act → World → Prop} {rest : List Oper} {S : List (Nat × Value)} {K : World → Prop} {L : List (Nat × TypeId × List Value)} {O : List Own} {X : List (World → Prop)}
variable {d : Nat} {ty : TypeId} {pos : String} {aft : Array Edge}
/-- A row of a known size, of elements of one cell: a block of the list. -/
theorem wl_makeB {t e : TypeId} {z : Value} {by_ n : Nat} {x y : Operand} {cs : List Value} (ht : P.underlying t = some (.slice e)) (hi : (P.info? e).map (fun i => (i.zero, i.size, i.bytes)) = some (some z, 1, by_)) (hz : z.cells = #[z]) (hx : rd S x = some (.int .i64 (n : Int))) (hy : rd S y = some (.int .i64 (n : Int))) (hb : Nat.ble (by_ * n) 281474976710656 = true) (h63 : Nat.ble n 9223372036854775807 = true) (hcs : madeCells #[z] n = cs.toArray) (hd : Nat.ble (d + 1) c.n = true)
    (h : ∀ g, WL P c ops Q rest ((d, .slice (some ⟨g, 0, none⟩) n n) :: S) K ((g, e, cs) :: L) O X) : WL P c ops Q (⟨some d, .makeSlice t x y, ty, pos, aft, none⟩ :: rest) S K L O X := by
  intro a w ha hm
  obtain ⟨i, hi', hzz⟩ := Option.map_eq_some_iff.1 hi
  simp only [Prod.mk.injEq] at hzz
  obtain ⟨hz1, hs, hb1⟩ := hzz
  refine wpList_make_row w rfl x y t rfl e i z ht hi' hz1 hs hz .i64 .i64 n (ha.eval hx) (ha.eval hy) (by rw [hb1]; exact Nat.le_of_ble_eq_true hb) (Nat.le_of_ble_eq_true h63) ?_
  rw [hcs]
  exact h _ _ _ (ha.put hd _) (hm.new e cs)
/-- A row of zero values. -/
theorem wl_makeO {t e : TypeId} {z : Value} {sz by_ n : Nat} {x y : Operand} {xs : List Value} {vx vy : Int} (ht : P.underlying t = some (.slice e)) (hi : (P.info? e).map (fun i => (i.zero, i.size, i.bytes)) = some (some z, sz, by_)) (hx : rd S x = some (.int .i64 vx)) (hy : rd S y = some (.int .i64 vy)) (hvx : vx = (n : Int)) (hvy : vy = (n : Int)) (hb : by_ * n ≤ 281474976710656) (h63 : n ≤ maxLen) (hxs : (madeCells z.cells (n * sz)).toList = xs) (hd : Nat.ble (d + 1) c.n = true)
    (h : ∀ g, WL P c ops Q rest ((d, .slice (some ⟨g, 0, none⟩) n n) :: S) K L (⟨.slice (some ⟨g, 0, none⟩) n n, e, sz, n, xs⟩ :: O) X) : WL P c ops Q (⟨some d, .makeSlice t x y, ty, pos, aft, none⟩ :: rest) S K L O X := by
  intro a w ha hm
  obtain ⟨i, hi', hzz⟩ := Option.map_eq_some_iff.1 hi
  simp only [Prod.mk.injEq] at hzz
  obtain ⟨hz1, hs, hb1⟩ := hzz
  refine wpList_make_full w rfl x y t rfl w.heap.size e i z sz ht hi' hz1 hs .i64 .i64 vx vy n (ha.eval hx) (ha.eval hy) hvx hvy (by rw [hb1]; exact hb) h63 (Nat.le_refl _) fun w' ho hg => ?_
  rw [hxs] at ho
  exact h _ _ _ (ha.put hd _) (hm.newOwn hg ho)
end
theorem nx_look {c : Cx} {Q : Exit → Act → World → Prop} {S : List (Nat × Value)} {K : World → Prop} {L : List (Nat × TypeId × List Value)} {O : List Own} {X : List (World → Prop)} {e : Exit} {R : Prop} (hr : ∀ w, Mem c K L O X w → R) (h : R → Nx c Q e S K L O X) : Nx c Q e S K L O X := fun a w ha hm => h (hr w hm) a w ha hm
/-- A block of the list as a row of the call's own. -/
theorem Mem.rowOf {c : Cx} {K : World → Prop} {L : List (Nat × TypeId × List Value)} {O : List Own} {X : List (World → Prop)} {w : World} (h : Mem c K L O X w) (i : Nat) {g : Nat} {T : TypeId} {cs : List Value} (hi : L[i]? = some (g, T, cs)) {n sz : Nat} (hcs : cs.length = n * sz) (hn : n ≤ maxLen) : w.ownsRow c.w0.heap.size T sz (.slice (some ⟨g, 0, none⟩) n n) n cs := by
  have hb := h.b _ (List.mem_of_getElem? hi)
  refine ⟨hcs, .inr ⟨g, n, cs.toArray, rfl, hb.1, hb.2, Nat.le_refl _, hn, by simpa using hcs, ?_⟩⟩
  simp [← hcs]

end Go.Proofs.YtcggbojhalbkjaaGreatDoor
