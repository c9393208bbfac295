/- How the walk of a law begins and ends: the stream stands in a new block over the list that came in. -/
import Derived.Test.YtcggbojhalbkjaaGreatDoorSe
import Derived.Test.YtcggbojhalbkjaaGreatDoorRun
namespace Go.Proofs.YtcggbojhalbkjaaGreatDoor
open Go.RowKit

theorem Strm.ofBlk {TS : TypeId} {w w1 : World} {A : Option Addr} {n c sb : Nat} {zs : List Int} (h : RowIn w A n c zs) (hg : w.grownBy w1 none) (hb : Blk w1 sb TS [.slice A n c, .int .i64 0]) (hsb : w.heap.size ≤ sb) : Strm TS w1 w.heap.size sb 0 := by
  obtain ⟨_, A', n', c', k, hh, h0, h1, h2, h3⟩ := Strm.start (TS := TS) h
  rw [heap_alloc_new] at hh
  simp only [Option.some.injEq, Obj.cells.injEq, Array.mk.injEq, List.cons.injEq, Value.slice.injEq, Value.int.injEq, true_and, and_true] at hh
  obtain ⟨⟨rfl, rfl, rfl⟩, rfl⟩ := hh
  refine ⟨hsb, A, n, c, 0, hb, Int.le_refl _, Int.le_refl _, h2, fun hn => ?_⟩
  obtain ⟨b, off, e, hbB, hc⟩ := h3 hn
  refine ⟨b, off, e, hbB, fun i hi => ?_⟩
  obtain ⟨z, z1, z2, hz⟩ := hc i hi
  refine ⟨z, z1, z2, ?_⟩
  rw [World.cell?_of_block (hg.block b hbB (by simp)), ← hz]
  exact (World.cell?_of_block (Below.heap_alloc w _ b hbB)).symm
theorem law_end {w w1 w' : World} {sb : Nat} (h1 : w.grownBy w1 none) (hs : w.heap.size ≤ sb) (hg : w1.grownBy w' (some sb)) : Below w.heap.size w w' :=
  below_of_grow (grow_own h1 hg (fun k h => by cases h; exact hs))
section
variable {P : Program} {ops : Array Oper} {Q : Exit → Act → World → Prop} {S : List (Nat × Value)} {K : World → Prop} {L : List (Nat × TypeId × List Value)} {O : List Own} {X : List (World → Prop)}
theorem wl_law {TS : TypeId} {l : List Oper} {n : Nat} {w : World} {T0 : List TypeId} {A : Option Addr} {len cap sb : Nat} {zs : List Int} (Tt : List TypeId) (h0 : RowIn w A len cap zs) (i : Nat) (hi : L[i]? = some (sb, TS, [.slice A len cap, .int .i64 0]))
    (h : ∀ (w1 : World) (B : Nat), w.grownBy w1 none → w.heap.size ≤ sb → WL P ⟨n, w1, some sb, Tt⟩ ops Q l S (fun w => Strm TS w B sb 0) [] [] []) : WL P ⟨n, w, none, T0⟩ ops Q l S K L O X := fun a w1 ha hm => by
  have hb := hm.b _ (List.mem_of_getElem? hi)
  have hb1 : w.heap.size ≤ sb := hb.1
  have hS := Strm.ofBlk h0 hm.g hb.2 hb1
  exact h w1 w.heap.size hm.g hb1 a w1 ha (memS hS allF_nil allL_nil)
theorem gw_law {TS : TypeId} {code : Code} {n : Nat} {w : World} {T0 : List TypeId} {A : Option Addr} {len cap sb : Nat} {zs : List Int} (Tt : List TypeId) (h0 : RowIn w A len cap zs) (i : Nat) (hi : L[i]? = some (sb, TS, [.slice A len cap, .int .i64 0]))
    (h : ∀ (w1 : World) (B : Nat), w.grownBy w1 none → w.heap.size ≤ sb → Gw P ⟨n, w1, some sb, Tt⟩ Q code S (fun w => Strm TS w B sb 0) [] [] []) : Gw P ⟨n, w, none, T0⟩ Q code S K L O X := fun a w1 ha hm => by
  have hb := hm.b _ (List.mem_of_getElem? hi)
  have hb1 : w.heap.size ≤ sb := hb.1
  have hS := Strm.ofBlk h0 hm.g hb.2 hb1
  exact h w1 w.heap.size hm.g hb1 a w1 ha (memS hS allF_nil allL_nil)
end

end Go.Proofs.YtcggbojhalbkjaaGreatDoor
