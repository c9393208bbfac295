/- slices.Sort at a row of the call's own. -/
import Derived.Test.YtcggbojhalbkjaaGreatDoorRs
import Derived.Test.YtcggbojhalbkjaaGreatDoorSs1
import Derived.Shelf.Sort.Plain
namespace Go.Proofs.YtcggbojhalbkjaaGreatDoor
open Go.RowKit Go.Sort

def iEnc (z : Int) : List Value := [.int .i64 z]
theorem i_len (z : Int) : (iEnc z).length = 1 := rfl
theorem i_flat : ∀ l : List Int, l.flatMap iEnc = l.map (Value.int .i64)
  | [] => rfl
  | x :: r => by rw [List.flatMap_cons, i_flat r]; rfl
def sortI (l : List Int) : List Int := l.mergeSort fun x y => decide (x ≤ y)
theorem sortI_len (l : List Int) : (sortI l).length = l.length := by unfold sortI; simp
theorem sortI_mem {l : List Int} {x : Int} : x ∈ sortI l ↔ x ∈ l := by unfold sortI; simp
theorem sortI_pair (l : List Int) : (sortI l).Pairwise (fun a b => a ≤ b) := by
  have h := List.pairwise_mergeSort (le := fun x y : Int => decide (x ≤ y)) (fun a b c h1 h2 => by simp at *; omega) (fun a b => by simp; omega) l
  exact h.imp (fun h => by simpa using h)
theorem sort_own (zs : List Int) (g n cap base : Nat) (w : World) (h : w.ownsRow base 3 1 (.slice (some ⟨g, 0, none⟩) n cap) n (zs.flatMap iEnc)) (hn : zs.length = n) (hn1 : n ≤ 1000000) :
    Calls Tryz.prog 158 #[.slice (some ⟨g, 0, none⟩) n cap] w (fun e w' => e = .returned (.tuple #[]) ∧ w'.ownsRow base 3 1 (.slice (some ⟨g, 0, none⟩) n cap) n ((sortI zs).flatMap iEnc) ∧ w.grownBy w' (some g)) := by
  subst hn
  obtain ⟨h1, h2⟩ := h
  rcases h2 with ⟨h2, _⟩ | ⟨g', cap', cur, hv, hbase, hh, hle, hmax, hcs, htk⟩
  · cases h2
  · injection hv with hA _ hc
    have hgg : g' = g := by injection hA with hA; injection hA with hA; exact hA.symm
    subst hgg hc
    rw [Nat.mul_one] at hcs htk
    have hcell : ∀ j, j < zs.length → cur[j]? = some (Value.int .i64 zs[j]!) := fun j hj => by
      have h3 : (cur.toList.take zs.length)[j]? = some (Value.int .i64 zs[j]!) := by
        rw [htk, i_flat, List.getElem?_map, List.getElem?_eq_getElem hj, Option.map_some]
        congr 2
        exact (getElem!_pos zs j hj).symm
      rw [List.getElem?_take, if_pos (by omega)] at h3
      simpa using h3
    have hH : Holds (Value.int .i64) w g' 0 zs.toArray := fun j hj => by
      have hj' : j < zs.length := by simpa using hj
      refine ⟨?_, ?_⟩
      · rw [Nat.zero_add, cell_of_row w g' j cur _ (0, 0) hh, hcell j hj']
        simp [hj']
      · exact frozen_of_row w g' (0 + j) cur _ hh
    have hblk : g' < w.heap.size := (Array.getElem?_eq_some_iff.1 hh).1
    have hcon := Any.slices_Sort_int Tryz.lays189 g' 0 cap zs w hH hblk (by omega)
    refine Calls.mono hcon ?_
    rintro e w' ⟨rfl, m, os, rfl⟩
    have hsz : (zs.mergeSort fun x y => decide (x ≤ y)).toArray.size = zs.length := by simp
    have hnew : (grow (putRow (Value.int .i64) (Sort.ahead w m) g' 0 (zs.mergeSort fun x y => decide (x ≤ y)).toArray) os).heap[g']? = some (.cells (putCells (Value.int .i64) 0 (zs.mergeSort fun x y => decide (x ≤ y)).toArray cur) 3 (0, 0)) := by
      unfold grow putRow mapBlock Sort.ahead
      simp only
      rw [Array.getElem?_append_left (by simpa using hblk), Array.getElem?_modify, if_pos rfl, hh]; rfl
    refine ⟨rfl, ⟨by rw [i_flat, List.length_map, sortI_len, Nat.mul_one], .inr ⟨g', cap, _, rfl, hbase, hnew, hle, hmax, by simp [putCells, hcs], ?_⟩⟩, ⟨rfl, rfl, rfl, by simp [grow, putRow, mapBlock], fun k hk hne => ?_⟩⟩
    · rw [i_flat, Nat.mul_one]
      refine List.ext_getElem? fun j => ?_
      rw [List.getElem?_take]
      by_cases hj : j < zs.length
      · have hjc : j < cur.size := by omega
        have hj2 : j < (sortI zs).length := by rw [sortI_len]; omega
        rw [if_pos hj, List.getElem?_map, List.getElem?_eq_getElem hj2]
        unfold putCells
        simp only [Array.getElem?_toList, Array.getElem?_mapIdx]
        rw [Array.getElem?_eq_getElem hjc]
        simp only [Option.map_some]
        rw [if_pos (by rw [hsz]; omega)]
        congr 2
        simp only [Nat.sub_zero]
        rw [getElem!_pos _ j (by rw [hsz]; omega)]
        rfl
      · rw [if_neg hj, List.getElem?_eq_none (by rw [List.length_map, sortI_len]; omega)]
    · unfold grow putRow mapBlock Sort.ahead
      simp only
      rw [Array.getElem?_append_left (by simpa using hk), Array.getElem?_modify, if_neg (fun e => hne (by rw [e]))]

end Go.Proofs.YtcggbojhalbkjaaGreatDoor
