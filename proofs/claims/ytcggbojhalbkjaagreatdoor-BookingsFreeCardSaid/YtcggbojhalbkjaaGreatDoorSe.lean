/- The steps of a walk over slots and blocks: structs compared, rows of the call's own written. -/
import Derived.Test.YtcggbojhalbkjaaGreatDoorSd
import Derived.Laws.StructEq
import Derived.Test.YtcggbojhalbkjaaGreatDoorOwn
namespace Go.Proofs.YtcggbojhalbkjaaGreatDoor
open Go.RowKit

theorem Mem.neRow {c : Cx} {K : World → Prop} {L : List (Nat × TypeId × List Value)} {O : List Own} {X : List (World → Prop)} {w : World} (h : Mem c K L O X w) (i : Nat) {g sb : Nat} {T : TypeId} {cs : List Value} (hi : L[i]? = some (g, T, cs)) (hrow : c.row = some sb) : g ≠ sb := by
  have h1 := (h.b _ (List.mem_of_getElem? hi)).1
  have h2 := h.rs sb hrow
  have h3 : c.w0.heap.size ≤ g := h1
  omega
theorem mem_rng {xs : List Int} {v lo hi : Int} (h : v ∈ xs) (hb : ∀ x ∈ xs, lo ≤ x ∧ x ≤ hi) : lo ≤ v ∧ v ≤ hi := hb v h
theorem mem_sz {xs : List ByteArray} {v : ByteArray} (hv : v ∈ xs) (h : ∀ x ∈ xs, x.size ≤ 100) : v.size ≤ 100 := h v hv
theorem cmp_agg {P : Program} {op : BinOp} {t : TypeId} {x y : Operand} {cs ds : Array Value} {v : Value} (hm : P.eqGuardType P.depth t = false) (h : ∀ w, (binOp op t (.agg cs) (.agg ds)).run P w = .ok v w) (w : World) : (do eqGuard op t x y (.agg cs) (.agg ds); binOp op t (.agg cs) (.agg ds) : Sem Value).run P w = .ok v w := by
  have hg : ∀ w, (eqGuard op t x y (.agg cs) (.agg ds)).run P w = .ok () w := fun w => run_eqGuard_agg w op t x y cs ds hm
  rw [Sem.run_bind, hg]
  exact h w
section
variable {P : Program} {c : Cx} {ops : Array Oper} {Q : Exit → Act → World → Prop} {rest : List Oper} {S : List (Nat × Value)} {K : World → Prop} {L : List (Nat × TypeId × List Value)} {O : List Own} {X : List (World → Prop)}
variable {nn : Nat} {Z : World → Prop} {d : Nat} {ty : TypeId} {pos : String} {aft : Array Edge}
theorem ov_nilcheck {x : Operand} {a : Addr} (hx : rd S x = some (.pointer (some a))) : OV P nn S Z ⟨some d, .nilCheck x, ty, pos, aft, none⟩ (.pointer (some a)) := fun a w ha hm => by
  simp [execOp, ha.eval hx]

theorem flat_set1 {α : Type} (enc : α → List Value) (k : Nat) (hk : ∀ x, (enc x).length = k) {x' : α} {r : Nat} {v : Value} : ∀ {l : List α} {j : Nat} {x : α}, l[j]? = some x → (enc x).set r v = enc x' → r < k → (l.flatMap enc).set (j * k + r) v = (l.set j x').flatMap enc
  | [], j, x, h, _, _ => by simp at h
  | y :: t, 0, x, h, he, hr => by
    simp at h; subst h
    rw [Nat.zero_mul, Nat.zero_add, List.flatMap_cons, List.set_cons_zero, List.flatMap_cons, List.set_append_left _ _ (by rw [hk]; exact hr), he]
  | y :: t, j + 1, x, h, he, hr => by
    have ih := flat_set1 enc k hk (l := t) (j := j) (by simpa using h) he hr
    rw [List.flatMap_cons, List.set_cons_succ, List.flatMap_cons, List.set_append_right _ _ (by rw [hk, Nat.add_mul]; omega), hk]
    rw [show (j + 1) * k + r - k = j * k + r by rw [Nat.add_mul]; omega, ih]
/-- A cell of an element of a row of the call's own is written. -/
theorem wl_storeE {α : Type} {enc : α → List Value} {t : TypeId} {x y : Operand} {g n cap sz o j r : Nat} {e : TypeId} {v : Value} {l : List α} {el el' : α} (i : Nat) (hs : scalarB P t = true) (hx : rd S x = some (.pointer (some ⟨g, o, none⟩))) (hy : rd S y = some v) (h1 : v.oneCell' = true) (hO : O[i]? = some ⟨.slice (some ⟨g, 0, none⟩) n cap, e, sz, n, l.flatMap enc⟩)
    (hk : ∀ x, (enc x).length = sz) (ho : 0 + j * sz + r = o) (hj : l[j]? = some el) (hl : l.length = n) (hr : r < sz) (he : (enc el).set r v = enc el') (hT : c.Tt.contains e = false)
    (h : WL P c ops Q rest S K L (setOwn ⟨.slice (some ⟨g, 0, none⟩) n cap, e, sz, n, (l.set j el').flatMap enc⟩ O i) X) : WL P c ops Q (⟨none, .store t x y, ty, pos, aft, none⟩ :: rest) S K L O X := by
  intro a w ha hm
  refine wpList_plain rfl fun K' hK => ?_
  have hown := hm.ownI i hO
  have hjl := (List.getElem?_eq_some_iff.1 hj).1
  have hlt : j * sz + r < n * sz := by
    have : (j + 1) * sz ≤ n * sz := Nat.mul_le_mul_right sz (by omega)
    rw [Nat.add_mul] at this
    omega
  have ho' : o = j * sz + r := by omega
  obtain ⟨u, hu⟩ : ∃ u, (l.flatMap enc)[o]? = some u := ⟨_, List.getElem?_eq_getElem (by rw [hown.1]; omega)⟩
  have hc : w.cell? ⟨g, o, none⟩ = some u := by rw [hown.cellAt o (by omega)]; exact hu
  have hst : (store ⟨g, o, none⟩ v).run P w = .ok () (w.setCell ⟨g, o, none⟩ v) := by
    rw [run_store P w _ _ _ h1]
    simp [hc, hown.frozenAt]
  have hv1 : v.cells = #[v] := by cases v <;> simp_all [Value.cells, Value.oneCell']
  unfold Oper.wp
  have : (execOp a.eval ⟨none, .store t x y, ty, pos, aft, none⟩).run P w = .ok .skip (w.setCell ⟨g, o, none⟩ v) := by
    simp only [execOp, ha.eval hx, ha.eval hy, Instr.storeAt, Instr.sureAddr, storeVar, hv1]
    simp [(run_scalar hs w).2, storeCells, add_addr, hst]
  rw [this]
  have hs2 := hown.stored o v
  rw [ho', flat_set1 enc sz hk hj he hr, ← ho'] at hs2
  exact hK _ _ (h _ _ ⟨ha.size, ha.val, ha.df⟩ (hm.append hO hT hs2.1 hs2.2 (.inl rfl)))
end
theorem own_addr {w : World} {base : Nat} {e : TypeId} {sz n : Nat} {A : Option Addr} {cc : Nat} {xs : List Value} (h : w.ownsRow base e sz (.slice A n cc) n xs) (hn : 0 < n) : ∃ g, A = some ⟨g, 0, none⟩ := by
  rcases h.2 with ⟨_, h0⟩ | ⟨g, cap, cur, h1, _⟩
  · omega
  · injection h1 with h1 _ _
    exact ⟨g, h1⟩
theorem own_zero {n : Nat} {A : Option Addr} {cc : Nat} (hnil : Value.slice A n cc = .slice none 0 0 ∨ 0 < n) : n = 0 → A = none ∧ cc = 0 := fun h0 => by
  rcases hnil with h1 | h1
  · injection h1 with h1 _ h3
    exact ⟨h1, h3⟩
  · omega

end Go.Proofs.YtcggbojhalbkjaaGreatDoor
