/- What a generator that turns a hire keeps: its own leg block among the known blocks. -/
import Derived.Test.YtljnekobfjpfaaaDoorKg
import Derived.Test.YtljnekobfjpfaaaDoorRp
import Derived.Test.YtljnekobfjpfaaaDoorGn
namespace Go.Proofs.YtljnekobfjpfaaaDoor
open Go.RowKit

section
variable {TS : TypeId} {Tt : List TypeId} {w0 w w' : World} {B sb m m' : Nat} {L : List (Nat × TypeId × List Value)} {X Y : World → Prop}
/-- A call has made a block: it joins those that are known. -/
theorem Kept.add (h : Kept TS Tt w0 B sb m L X w) (hg : w.grownBy w' none) {g : Nat} {T : TypeId} {cs : List Value} (hge : w.heap.size ≤ g) (hb : Blk w' g T cs) : Kept TS Tt w0 B sb m ((g, T, cs) :: L) X w' := by
  have h2 := h.grow0 hg
  refine ⟨h2.s, h2.g, fun x hx => ?_, List.Pairwise.cons (fun y hy e => by have h3 := (h.b y hy).2.lt; have e2 : g = y.1 := e; omega) h.nd, h2.t, h2.l, h2.x⟩
  rcases List.mem_cons.1 hx with rfl | hx
  · exact ⟨⟨Nat.lt_of_lt_of_le h.s.lt hge, Nat.le_trans h.g.size hge⟩, hb⟩
  · exact h2.b x hx
theorem Kept.free (h : Kept TS Tt w0 B sb m L X w) : Kept TS [] w0 B sb m L (fun _ => True) w := ⟨h.s, h.g, h.b, h.nd, List.not_mem_nil, Lasts.true_ _, trivial⟩
theorem Kept.put {g : Nat} {T : TypeId} {cs cs' : List Value} (h : Kept TS [] w0 B sb m ((g, T, cs) :: L) X w) (hb : Blk w' g T cs') (hg : w.grownBy w' (some g)) : Kept TS [] w0 B sb m ((g, T, cs') :: L) X w' := by
  have hnd := List.pairwise_cons.1 h.nd
  refine h.stored (g := g) (List.mem_cons_self ..) List.not_mem_nil hg hb (fun x hx => ?_) (List.Pairwise.cons hnd.1 hnd.2)
  rcases List.mem_cons.1 hx with rfl | hx
  · exact .inl rfl
  · exact .inr ⟨List.mem_cons_of_mem _ hx, fun e => hnd.1 x hx e.symm⟩
theorem Kept.put2 {x : Nat × TypeId × List Value} {g : Nat} {T : TypeId} {cs cs' : List Value} (h : Kept TS [] w0 B sb m (x :: (g, T, cs) :: L) X w) (hb : Blk w' g T cs') (hg : w.grownBy w' (some g)) : Kept TS [] w0 B sb m (x :: (g, T, cs') :: L) X w' := by
  have hnd := List.pairwise_cons.1 h.nd
  have hnd2 := List.pairwise_cons.1 hnd.2
  have hx1 : x.1 ≠ g := hnd.1 _ (List.mem_cons_self ..)
  refine h.stored (g := g) (List.mem_cons_of_mem _ (List.mem_cons_self ..)) List.not_mem_nil hg hb (fun y hy => ?_) (List.Pairwise.cons (fun y hy => ?_) (List.Pairwise.cons hnd2.1 hnd2.2))
  · rcases List.mem_cons.1 hy with rfl | hy
    · exact .inr ⟨List.mem_cons_self .., hx1⟩
    · rcases List.mem_cons.1 hy with rfl | hy
      · exact .inl rfl
      · exact .inr ⟨List.mem_cons_of_mem _ (List.mem_cons_of_mem _ hy), fun e => hnd2.1 y hy e.symm⟩
  · rcases List.mem_cons.1 hy with rfl | hy
    · exact hx1
    · exact hnd.1 y (List.mem_cons_of_mem _ hy)
end

/-- The cells of a leg block begin with the legs l. -/
def Fit (cs : List Value) (n : Nat) (l : List Lg) : Prop := n * 9 ≤ cs.length ∧ cs.take (n * 9) = l.flatMap lgEnc ∧ l.length = n
theorem Fit.get {cs : List Value} {n j r : Nat} {l : List Lg} {x : Lg} {v : Value} (h : Fit cs n l) (hx : l[j]? = some x) (hv : (lgEnc x)[r]? = some v) : cs[j * 9 + r]? = some v := by
  have := flat_get lgEnc 9 lg_len l j x hx r v hv
  rw [← h.2.1, List.getElem?_take] at this
  split at this
  · exact this
  · cases this
theorem Fit.splice {cs : List Value} {n j r : Nat} {l : List Lg} {x y : Lg} {vs : List Value} (h : Fit cs n l) (hx : l[j]? = some x) (hy : lgEnc y = splice (lgEnc x) r vs) (hr : r + vs.length ≤ 9) : Fit (Go.Proofs.YtljnekobfjpfaaaDoor.splice cs (j * 9 + r) vs) n (l.set j y) := by
  have hj : j < n := by have := (List.getElem?_eq_some_iff.1 hx).1; have := h.2.2; omega
  have h1 := h.1
  refine ⟨by rw [splice_length _ _ _ (by omega)]; exact h1, ?_, by rw [List.length_set]; exact h.2.2⟩
  rw [take_splice _ _ _ _ (by omega) h1, h.2.1]
  exact flat_set lgEnc 9 lg_len hy hr l j hx
theorem set_splice (cs : List Value) (i : Nat) (v : Value) (hi : i < cs.length) : cs.set i v = splice cs i [v] := by
  simp [splice, List.set_eq_take_append_cons_drop, hi]
theorem Fit.set_ {cs : List Value} {n j r : Nat} {l : List Lg} {x y : Lg} {v : Value} (h : Fit cs n l) (hx : l[j]? = some x) (hy : lgEnc y = Go.Proofs.YtljnekobfjpfaaaDoor.splice (lgEnc x) r [v]) (hr : r < 9) : Fit (cs.set (j * 9 + r) v) n (l.set j y) := by
  have hj : j < n := by have := (List.getElem?_eq_some_iff.1 hx).1; have := h.2.2; omega
  rw [set_splice _ _ _ (by have := h.1; omega)]
  exact h.splice hx hy (by simp; omega)
theorem Fit.slt {cs : List Value} {n : Nat} {l : List Lg} {w : World} {g : Nat} (h : Fit cs n l) (hb : Blk w g 138 cs) : SlT lgEnc 9 138 w (some ⟨g, 0, none⟩) n l := by
  refine ⟨h.2.2, fun _ => ⟨g, 0, cs.toArray, _, rfl, hb, fun i x hx j v hv => ?_⟩⟩
  rw [Nat.zero_add, List.getElem?_toArray]
  exact h.get hx hv
/-- The leg block is let go: what lasts is that the legs lie there. -/
theorem Kept.legs {TS : TypeId} {w0 w : World} {B sb m g n : Nat} {cs : List Value} {L : List (Nat × TypeId × List Value)} {X : World → Prop} {l : List Lg} (h : Kept TS [] w0 B sb m ((g, 138, cs) :: L) X w) (hf : Fit cs n l) (ht : TS ∉ [138]) :
    Kept TS [138] w0 B sb m L (fun w => SlT lgEnc 9 138 w (some ⟨g, 0, none⟩) n l) w :=
  ⟨h.s, h.g, fun x hx => h.b x (List.mem_cons_of_mem _ hx), (List.pairwise_cons.1 h.nd).2, ht, SlT.lasts (List.mem_singleton.2 rfl), hf.slt (h.blk (List.mem_cons_self ..))⟩
theorem legs_set {l : List Lg} {j : Nat} {y : Lg} (h : ∀ g ∈ l, LgOk g) (hy : LgOk y) : ∀ g ∈ l.set j y, LgOk g := fun g hg => by
  rcases List.mem_or_eq_of_mem_set hg with h1 | rfl
  · exact h g h1
  · exact hy

end Go.Proofs.YtljnekobfjpfaaaDoor
