/- The steps of a walk over slots and blocks: a block becomes a row of the call's own; shifts and masks. -/
import Derived.Test.YtcggbojhalbkjaaGreatDoorSw
namespace Go.Proofs.YtcggbojhalbkjaaGreatDoor
open Go.RowKit

theorem allNe_not_mem {a : Nat} {l : List Nat} (h : allNe (a :: l) = true) : a ∉ l ∧ allNe l = true := by
  simp only [allNe, Bool.and_eq_true] at h
  refine ⟨fun hm => ?_, h.2⟩
  have := List.all_eq_true.1 h.1 a hm
  simp at this
/-- Block i of the list becomes a row of the call's own; the blocks ls stay. -/
theorem Mem.toOwn {c : Cx} {K : World → Prop} {L : List (Nat × TypeId × List Value)} {O : List Own} {X : List (World → Prop)} {w : World} (h : Mem c K L O X w) (i : Nat) (ls : List Nat) {g : Nat} {T : TypeId} {cs : List Value} (hi : L[i]? = some (g, T, cs)) (hls : allNe (i :: ls) = true) {n sz : Nat} (hcs : cs.length = n * sz) (hn : n ≤ maxLen) :
    Mem c K (pickI L ls) (⟨.slice (some ⟨g, 0, none⟩) n n, T, sz, n, cs⟩ :: O) X w := by
  obtain ⟨hni, hl2⟩ := allNe_not_mem hls
  have hp := h.pickL ls hl2
  have hrow := h.rowOf i hi hcs hn
  have hib : (⟨.slice (some ⟨g, 0, none⟩) n n, T, sz, n, cs⟩ : Own).v.ownBlock = some g := rfl
  refine ⟨h.g, h.k, hp.b, hp.nd, fun r hr => ?_, fun r hr x hx => ?_, ?_, h.x, h.kk, h.l, h.rs⟩
  · rcases List.mem_cons.1 hr with rfl | hr
    · exact hrow
    · exact h.o r hr
  · rcases List.mem_cons.1 hr with rfl | hr
    · obtain ⟨j, hj, hjx⟩ := pickI_mem hx
      intro e
      have hg : g = x.1 := by injection e
      have hij : i ≠ j := fun e => hni (e ▸ hj)
      obtain ⟨hi1, hi2⟩ := List.getElem?_eq_some_iff.1 hi
      obtain ⟨hj1, hj2⟩ := List.getElem?_eq_some_iff.1 hjx
      rcases Nat.lt_or_gt_of_ne hij with hlt | hlt
      · have := List.pairwise_iff_getElem.1 h.nd i j hi1 hj1 hlt
        rw [hi2, hj2] at this; exact this hg
      · have := List.pairwise_iff_getElem.1 h.nd j i hj1 hi1 hlt
        rw [hi2, hj2] at this; exact this hg.symm
    · exact hp.od r hr x hx
  · refine List.Pairwise.cons (fun s hs b hb hsb => ?_) h.oo
    have hgb : g = b := by injection hb
    subst hgb
    exact h.od s hs _ (List.mem_of_getElem? hi) hsb
section
variable {P : Program} {c : Cx} {ops : Array Oper} {Q : Exit → Act → World → Prop} {S : List (Nat × Value)} {K : World → Prop} {L : List (Nat × TypeId × List Value)} {O : List Own} {X : List (World → Prop)}
theorem wl_toOwn {l : List Oper} (i : Nat) (ls : List Nat) {g : Nat} {T : TypeId} {cs : List Value} {n sz : Nat} (hi : L[i]? = some (g, T, cs)) (hls : allNe (i :: ls) = true) (hcs : cs.length = n * sz) (hn : n ≤ maxLen) (h : WL P c ops Q l S K (pickI L ls) (⟨.slice (some ⟨g, 0, none⟩) n n, T, sz, n, cs⟩ :: O) X) : WL P c ops Q l S K L O X := fun a w ha hm => h a w ha (hm.toOwn i ls hi hls hcs hn)
theorem gw_toOwn {code : Code} (i : Nat) (ls : List Nat) {g : Nat} {T : TypeId} {cs : List Value} {n sz : Nat} (hi : L[i]? = some (g, T, cs)) (hls : allNe (i :: ls) = true) (hcs : cs.length = n * sz) (hn : n ≤ maxLen) (h : Gw P c Q code S K (pickI L ls) (⟨.slice (some ⟨g, 0, none⟩) n n, T, sz, n, cs⟩ :: O) X) : Gw P c Q code S K L O X := fun a w ha hm => h a w ha (hm.toOwn i ls hi hls hcs hn)
end

end Go.Proofs.YtcggbojhalbkjaaGreatDoor
