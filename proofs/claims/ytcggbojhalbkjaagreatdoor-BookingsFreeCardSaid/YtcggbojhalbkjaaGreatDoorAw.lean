/- The steps of a walk over slots and blocks: append of a whole row of the call's own behind another one. -/
import Derived.Test.YtcggbojhalbkjaaGreatDoorSv
import Derived.Laws.AppendOwnNone
namespace Go.Proofs.YtcggbojhalbkjaaGreatDoor
open Go.RowKit

theorem setOwn_self {r : Own} : ∀ {O : List Own} {i : Nat}, O[i]? = some r → setOwn r O i = O
  | [], i, h => by simp at h
  | x :: t, 0, h => by
    simp at h; subst h; rfl
  | x :: t, i + 1, h => by
    have h2 : t[i]? = some r := by simpa using h
    simp only [setOwn, setOwn_self h2]
section
variable {P : Program} {c : Cx} {ops : Array Oper} {Q : Exit → Act → World → Prop} {rest : List Oper} {S : List (Nat × Value)} {K : World → Prop} {L : List (Nat × TypeId × List Value)} {O : List Own} {X : List (World → Prop)}
variable {d : Nat} {ty : TypeId} {pos : String} {aft : Array Edge}
theorem wl_appendO {t e e2 : TypeId} {sz by_ : Nat} {x y : Operand} {m n : Nat} {v vy : Value} {xs ys : List Value} (i j : Nat) (ht : appB P t = some (e, sz, by_)) (hx : rd S x = some v) (hO : O[i]? = some ⟨v, e, sz, n, xs⟩) (hy : rd S y = some vy) (hO2 : O[j]? = some ⟨vy, e2, sz, m, ys⟩)
    (h1 : ∀ u ∈ ys, u.oneCell' = true) (hb : (n + m) * by_ ≤ 140737488355328) (h63 : n + m ≤ maxLen) (hT : c.Tt.contains e = false) (hd : Nat.ble (d + 1) c.n = true)
    (h : ∀ v', (v' = .slice none 0 0 ↔ v = .slice none 0 0 ∧ m = 0) → WL P c ops Q rest ((d, v') :: S) K L (setOwn ⟨v', e, sz, n + m, xs ++ ys⟩ O i) X) : WL P c ops Q (⟨some d, .call ⟨.builtin .append, #[x, y], #[t, t]⟩, ty, pos, aft, none⟩ :: rest) S K L O X := by
  intro a w ha hm
  unfold appB at ht
  split at ht
  · rename_i e' hu
    split at ht
    · rename_i inf hi
      split at ht
      · rename_i z hz
        split at ht
        · rename_i hzz
          simp only [Option.some.injEq, Prod.mk.injEq] at ht
          obtain ⟨rfl, rfl, rfl⟩ := ht
          have hown := hm.o _ (List.mem_of_getElem? hO)
          have hown2 := hm.o _ (List.mem_of_getElem? hO2)
          obtain ⟨hlen, hcase⟩ := hown2
          rcases hcase with ⟨hv, hm0⟩ | ⟨g, cap, cur, hv, _, hh, _, _, _, htk⟩
          · have hv : vy = .slice none 0 0 := hv
            have hm0 : m = 0 := hm0
            have hys : ys = [] := List.eq_nil_of_length_eq_zero (by
              have : ys.length = m * inf.size := hlen
              rw [this, hm0, Nat.zero_mul])
            subst hv hm0 hys
            refine wpList_append_own_none rfl x y t rfl c.w0.heap.size e' inf inf.size hu hi v n xs (ha.eval hx) hown (ha.eval hy) ?_
            have h2 := h v ⟨fun hh => ⟨hh, rfl⟩, fun hh => hh.1⟩
            rw [List.append_nil, Nat.add_zero, setOwn_self hO] at h2
            exact h2 _ _ (ha.put hd _) hm
          · have hv : vy = .slice (some ⟨g, 0, none⟩) m cap := hv
            have htk : cur.toList.take (m * inf.size) = ys := htk
            have hh : w.heap[g]? = some (.cells cur e2 (0, 0)) := hh
            subst hv
            refine wpList_append_own_at _ rfl x y t rfl c.w0.heap.size e' inf z inf.size inf.bytes hu hi hz rfl rfl hzz.1 hzz.2 v n xs (ha.eval hx) hown ⟨g, 0, none⟩ m cap ys (ha.eval hy) hlen (fun k u hk => ?_) h1 h63 hb hm.g.size fun v' w' h2 h3 h4 h5 => ?_
            · rw [add_addr, Nat.zero_add, cell_of_row w g k cur e2 (0, 0) hh]
              rw [show ys = cur.toList.take (m * inf.size) from htk.symm, List.getElem?_take] at hk
              split at hk
              · simpa using hk
              · cases hk
            · exact h v' h4 _ _ (ha.put hd _) (hm.append hO hT h2 h3 h5)
        · cases ht
      · cases ht
    · cases ht
  · cases ht
end

end Go.Proofs.YtcggbojhalbkjaaGreatDoor
