/- The steps of a walk over slots and blocks: a statement that draws its order. -/
import Derived.Test.YtcggbojhalbkjaaGreatDoorSc
namespace Go.Proofs.YtcggbojhalbkjaaGreatDoor
open Go.RowKit

section
variable {P : Program} {c : Cx} {ops : Array Oper} {Q : Exit → Act → World → Prop} {S : List (Nat × Value)} {K : World → Prop} {L : List (Nat × TypeId × List Value)} {O : List Own} {X : List (World → Prop)} {Z : World → Prop}
variable {d : Nat} {ty : TypeId} {pos : String} {aft : Array Edge}

/-- The operations that are not listed are still to come, in whatever order; Z holds all the time. -/
def WA (P : Program) (c : Cx) (ops : Array Oper) (Q : Exit → Act → World → Prop) (Z : World → Prop) (fuel : Nat) (listed : Array Bool) (S : List (Nat × Value)) (K : World → Prop) (L : List (Nat × TypeId × List Value)) (O : List Own) (X : List (World → Prop)) : Prop :=
  ∀ a w, Has S c.n a → Mem c K L O X w → wpAnyH P .any ops Q Z fuel listed a w
theorem gw_draw {id : Nat} {l : List Oper} (Z : World → Prop) (hm : P.follows .mixedOrders = true) (h : WA P c l.toArray Q Z l.length (Array.replicate l.length false) S K L O X) : Gw P c Q (.region id l.toArray true) S K L O X :=
  fun a w ha hmm => wp_region_held (S := Z) hm (by simpa using h a _ ha (hmm.grow (grow_drew (World.grownBy.refl w none))))
theorem wa_open {fuel : Nat} {listed : Array Bool} (h : ∀ W, W = WA P c ops Q Z → W fuel listed S K L O X) : WA P c ops Q Z fuel listed S K L O X := h _ rfl
/-- An operation that yields a value is taken first. -/
theorem wa_take {op : Op} {v : Value} {fuel : Nat} {listed listed' : Array Bool} (i : Nat) (hi : ops[i]? = some ⟨some d, op, ty, pos, aft, none⟩) (hs : Region.noSelect ops = true) (hf : Region.free .any ops listed i = true) (hr : (Region.ready .any ops listed).contains i = true) (hl : listed.setIfInBounds i true = listed')
    (hQ : ∀ cc a w, Q (.panic cc) (a.put (some d) v) w → Q (.panic cc) a w) (hZ : ∀ w, Mem c K L O X w → Z w) (ho : OV P c.n S Z ⟨some d, op, ty, pos, aft, none⟩ v) (hd : Nat.ble (d + 1) c.n = true) (h : WA P c ops Q Z fuel listed' ((d, v) :: S) K L O X) : WA P c ops Q Z (fuel + 1) listed S K L O X := by
  intro a w ha hm
  subst hl
  exact wpAnyH_take hi hs hf hr hQ (.inl ⟨by simp [Region.wanted], fun w' hz => ho a w' ha hz⟩) (hZ w hm) (h _ _ (ha.put hd v) hm)
theorem wa_take_on {op : Op} {v : Value} {fuel : Nat} {listed listed' : Array Bool} {j t : Nat} {b : Bool} (i : Nat) (hi : ops[i]? = some ⟨some d, op, ty, pos, aft, some (j, b)⟩) (hj : (ops[j]?).bind (·.dst) = some t) (hb : look S t = some (.bool b)) (hs : Region.noSelect ops = true) (hf : Region.free .any ops listed i = true) (hr : (Region.ready .any ops listed).contains i = true) (hl : listed.setIfInBounds i true = listed')
    (hQ : ∀ cc a w, Q (.panic cc) (a.put (some d) v) w → Q (.panic cc) a w) (hZ : ∀ w, Mem c K L O X w → Z w) (ho : OV P c.n S Z ⟨some d, op, ty, pos, aft, none⟩ v) (hd : Nat.ble (d + 1) c.n = true) (h : WA P c ops Q Z fuel listed' ((d, v) :: S) K L O X) : WA P c ops Q Z (fuel + 1) listed S K L O X := by
  intro a w ha hm
  subst hl
  have hy : yielded ops a.tmps j = some b := by
    unfold yielded
    rw [hj]
    simp [ha.val t _ hb]
  exact wpAnyH_take hi hs hf hr hQ (.inl ⟨by simp [Region.wanted, hy], fun w' hz => ho a w' ha hz⟩) (hZ w hm) (h _ _ (ha.put hd v) hm)
theorem wa_take_off {op : Op} {fuel : Nat} {listed listed' : Array Bool} {j t : Nat} {b b' : Bool} (i : Nat) (hi : ops[i]? = some ⟨some d, op, ty, pos, aft, some (j, b)⟩) (hj : (ops[j]?).bind (·.dst) = some t) (hb : look S t = some (.bool b')) (hne : b' ≠ b) (hs : Region.noSelect ops = true) (hf : Region.free .any ops listed i = true) (hr : (Region.ready .any ops listed).contains i = true) (hl : listed.setIfInBounds i true = listed')
    (hQ : ∀ cc a w, Q (.panic cc) (a.put (some d) undef) w → Q (.panic cc) a w) (hZ : ∀ w, Mem c K L O X w → Z w) (hd : Nat.ble (d + 1) c.n = true) (h : WA P c ops Q Z fuel listed' ((d, undef) :: S) K L O X) : WA P c ops Q Z (fuel + 1) listed S K L O X := by
  intro a w ha hm
  subst hl
  have hy : yielded ops a.tmps j = some b' := by
    unfold yielded
    rw [hj]
    simp [ha.val t _ hb]
  exact wpAnyH_take hi hs hf hr hQ (.inr ⟨by simp [Region.wanted, hy, hne], rfl⟩) (hZ w hm) (h _ _ (ha.put hd undef) hm)
theorem wpOp_of_list {i : Nat} {o : Oper} {KK : Act → World → Prop} {a : Act} {w : World} (hi : ops[i]? = some o) (h : wpList P ops (Exit.then KK Q) [o] a w) : wpOp P ops Q i KK a w := by
  unfold wpOp
  simp only [hi]
  unfold wpList at h
  split at h
  · rename_i hw
    rw [if_pos hw]
    rcases h with h | ⟨h1, h2⟩
    · refine .inl ?_
      unfold Oper.wp at *
      generalize (execOp a.eval o).run P w = r at *
      cases r with
      | ok n w' =>
        cases n <;> simp only [Oper.upon] at h ⊢ <;> exact h
      | halt x w' => cases x <;> simp only [Oper.upon] at h ⊢ <;> exact h
    · exact .inr ⟨h1, h2⟩
  · rename_i hw
    rw [if_neg hw]
    exact h
/-- Each of those that may come up comes up. -/
def Evs (P : Program) (c : Cx) (ops : Array Oper) (Q : Exit → Act → World → Prop) (Z : World → Prop) (fuel : Nat) (listed : Array Bool) (S : List (Nat × Value)) (K : World → Prop) (L : List (Nat × TypeId × List Value)) (O : List Own) (X : List (World → Prop)) : List Nat → Prop
  | [] => True
  | i :: r => (∃ o, ops[i]? = some o ∧ WL P c ops (Exit.then (fun a w => Z w ∧ wpAnyH P .any ops Q Z fuel (listed.setIfInBounds i true) a w) Q) [o] S K L O X) ∧ Evs P c ops Q Z fuel listed S K L O X r
theorem Evs.get {fuel : Nat} {listed : Array Bool} : ∀ {rs : List Nat}, Evs P c ops Q Z fuel listed S K L O X rs → ∀ i ∈ rs, ∃ o, ops[i]? = some o ∧ WL P c ops (Exit.then (fun a w => Z w ∧ wpAnyH P .any ops Q Z fuel (listed.setIfInBounds i true) a w) Q) [o] S K L O X
  | [], _, i, hi => by cases hi
  | j :: r, h, i, hi => by
    rcases List.mem_cons.1 hi with rfl | hi
    · exact h.1
    · exact Evs.get h.2 i hi
theorem wa_all {fuel : Nat} {listed : Array Bool} (rs : List Nat) (hr : Region.ready .any ops listed = rs) (hne : rs.isEmpty = false) (h : Evs P c ops Q Z fuel listed S K L O X rs) : WA P c ops Q Z (fuel + 1) listed S K L O X := by
  intro a w ha hm
  refine wpAnyH_all hr (fun e => by subst e; simp at hne) fun i hi => ?_
  obtain ⟨o, ho, hwl⟩ := h.get i hi
  exact wpOp_of_list ho (hwl a w ha hm)
theorem nx_wa {fuel : Nat} {listed : Array Bool} {S' : List (Nat × Value)} {K' : World → Prop} {L' : List (Nat × TypeId × List Value)} {O' : List Own} {X' : List (World → Prop)} (hZ : ∀ w, Mem c K L O X w → Z w) (hs : Sub S S') (hM : ∀ w, Mem c K L O X w → Mem c K' L' O' X' w) (J : WA P c ops Q Z fuel listed S' K' L' O' X') :
    Nx c (Exit.then (fun a w => Z w ∧ wpAnyH P .any ops Q Z fuel listed a w) Q) .normal S K L O X := fun a w ha hm => ⟨hZ w hm, J a w (ha.sub hs.look) (hM w hm)⟩
theorem wa_weak {fuel : Nat} {listed : Array Bool} {S' : List (Nat × Value)} {K' : World → Prop} {L' : List (Nat × TypeId × List Value)} {O' : List Own} {X' : List (World → Prop)} (hs : Sub S S') (hM : ∀ w, Mem c K L O X w → Mem c K' L' O' X' w) (J : WA P c ops Q Z fuel listed S' K' L' O' X') :
    WA P c ops Q Z fuel listed S K L O X := fun a w ha hm => J a w (ha.sub hs.look) (hM w hm)
theorem wa_done {fuel : Nat} {listed : Array Bool} (hr : Region.ready .any ops listed = []) (h : Nx c Q .normal S K L O X) : WA P c ops Q Z fuel listed S K L O X := fun a w ha hm => wpAnyH_done hr (h a w ha hm) _
theorem nx_wa0 {fuel : Nat} {listed : Array Bool} {listed' : Array Bool} (hl : listed = listed') (hZ : ∀ w, Mem c K L O X w → Z w) (J : WA P c ops Q Z fuel listed' S K L O X) :
    Nx c (Exit.then (fun a w => Z w ∧ wpAnyH P .any ops Q Z fuel listed a w) Q) .normal S K L O X := fun a w ha hm => by subst hl; exact ⟨hZ w hm, J a w ha hm⟩
theorem wa_set {fuel : Nat} {listed : Array Bool} {v v' : Value} (t : Nat) (hv : look S t = some v) (e : v = v') (h : WA P c ops Q Z fuel listed ((t, v') :: S) K L O X) : WA P c ops Q Z fuel listed S K L O X := fun a w ha hm =>
  h a w ⟨ha.size, fun t' u hu => by
    rcases beq_look hu with ⟨rfl, rfl⟩ | ⟨_, hu⟩
    · exact e ▸ ha.val _ _ hv
    · exact ha.val t' u hu, ha.df⟩ hm
end

end Go.Proofs.YtcggbojhalbkjaaGreatDoor
