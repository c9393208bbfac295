/- What a walk keeps of its memory, under one name: the stream, blocks that it knows whole, and facts that last. -/
import Derived.Test.YtmpomocahgcebaaDoorBase
namespace Go.Proofs.YtmpomocahgcebaaDoor
open Go.RowKit

/-- A fact of worlds that lasts while no block of the types Tt is written. -/
def Lasts (Tt : List TypeId) (X : World → Prop) : Prop := ∀ (w w' : World) (r : Nat) (T : TypeId) (c : Array Value), w.heap[r]? = some (.cells c T (0, 0)) → T ∉ Tt → w.grownBy w' (some r) → X w → X w'
theorem Lasts.and_ {Tt : List TypeId} {X Y : World → Prop} (hX : Lasts Tt X) (hY : Lasts Tt Y) : Lasts Tt (fun w => X w ∧ Y w) := fun w w' r T c h1 h2 h3 ⟨a, b⟩ => ⟨hX w w' r T c h1 h2 h3 a, hY w w' r T c h1 h2 h3 b⟩
theorem Lasts.true_ (Tt : List TypeId) : Lasts Tt (fun _ => True) := fun _ _ _ _ _ _ _ _ _ => trivial
theorem SlT.lasts {α : Type} {enc : α → List Value} {k : Nat} {T : TypeId} {Tt : List TypeId} {A : Option Addr} {n : Nat} {l : List α} (hT : T ∈ Tt) : Lasts Tt (fun w => SlT enc k T w A n l) :=
  fun _ _ _ _ _ h1 h2 h3 hx => hx.grown h3 h1 (fun e => h2 (e ▸ hT))

/-- The stream at sb stands at most at m; the blocks of L are as listed, and are not the stream's; X holds; since w0 no old block but the stream's has turned. -/
structure Kept (TS : TypeId) (Tt : List TypeId) (w0 : World) (B sb m : Nat) (L : List (Nat × TypeId × List Value)) (X : World → Prop) (w : World) : Prop where
  s : Strm TS w B sb m
  g : w0.grownBy w (some sb)
  b : ∀ x ∈ L, (sb < x.1 ∧ w0.heap.size ≤ x.1) ∧ Blk w x.1 x.2.1 x.2.2
  nd : L.Pairwise (fun x y => x.1 ≠ y.1)
  t : TS ∉ Tt
  l : Lasts Tt X
  x : X w
section
variable {TS : TypeId} {Tt : List TypeId} {w0 w w' : World} {B sb m m' : Nat} {L : List (Nat × TypeId × List Value)} {X Y : World → Prop}
theorem Kept.start (h : Strm TS w B sb m) (ht : TS ∉ Tt) : Kept TS Tt w B sb m [] (fun _ => True) w := ⟨h, World.grownBy.refl _ _, fun x hx => (by cases hx), List.Pairwise.nil, ht, Lasts.true_ _, trivial⟩
theorem Kept.strm (h : Kept TS Tt w0 B sb m L X w) (hS : Strm TS w' B sb m') (hg : w.grownBy w' (some sb)) : Kept TS Tt w0 B sb m' L X w' := by
  obtain ⟨A, n, c, k, hh, _⟩ := h.s.pos
  exact ⟨hS, grow_trans h.g hg, fun x hx => ⟨(h.b x hx).1, (h.b x hx).2.grown hg (fun e => absurd (Option.some.inj e) (by have := (h.b x hx).1.1; omega))⟩, h.nd, h.t, h.l, h.l w w' sb TS _ hh h.t hg h.x⟩
theorem Kept.grow0 (h : Kept TS Tt w0 B sb m L X w) (hg : w.grownBy w' none) : Kept TS Tt w0 B sb m L X w' := h.strm (h.s.grown hg (fun k e => by cases e)) (grow_weak hg)
theorem Kept.drew (h : Kept TS Tt w0 B sb m L X w) : Kept TS Tt w0 B sb m L X w.drew := h.grow0 (grow_drew (World.grownBy.refl _ _))
theorem Kept.alloc (h : Kept TS Tt w0 B sb m L X w) (t : TypeId) (cs : List Value) : Kept TS Tt w0 B sb m ((w.heap.size, t, cs) :: L) X (w.alloc (.cells cs.toArray t)) := by
  have h2 := h.grow0 (grow_alloc (World.grownBy.refl w none) (.cells cs.toArray t))
  refine ⟨h2.s, h2.g, fun x hx => ?_, List.Pairwise.cons (fun y hy e => by have h3 := (h.b y hy).2.lt; have e2 : w.heap.size = y.1 := e; omega) h.nd, h2.t, h2.l, h2.x⟩
  rcases List.mem_cons.1 hx with rfl | hx
  · exact ⟨⟨h.s.lt, h.g.size⟩, Blk.at_ w rfl t cs⟩
  · exact h2.b x hx
theorem Kept.alloc2 (h : Kept TS Tt w0 B sb m L X w) (t : TypeId) (cs : List Value) (t' : TypeId) (cs' : List Value) : Kept TS Tt w0 B sb m ((w.heap.size + 1, t', cs') :: (w.heap.size, t, cs) :: L) X ((w.alloc (.cells cs.toArray t)).alloc (.cells cs'.toArray t')) := by
  have h2 := (h.alloc t cs).alloc t' cs'
  rwa [show (w.alloc (.cells cs.toArray t)).heap.size = w.heap.size + 1 by simp] at h2
theorem Kept.alloc3 (h : Kept TS Tt w0 B sb m L X w) (t : TypeId) (cs : List Value) (t' : TypeId) (cs' : List Value) (t'' : TypeId) (cs'' : List Value) : Kept TS Tt w0 B sb m ((w.heap.size + 2, t'', cs'') :: (w.heap.size + 1, t', cs') :: (w.heap.size, t, cs) :: L) X (((w.alloc (.cells cs.toArray t)).alloc (.cells cs'.toArray t')).alloc (.cells cs''.toArray t'')) := by
  have h2 := (h.alloc2 t cs t' cs').alloc t'' cs''
  rwa [show ((w.alloc (.cells cs.toArray t)).alloc (.cells cs'.toArray t')).heap.size = w.heap.size + 2 by simp] at h2
theorem Kept.alloc' (h : Kept TS Tt w0 B sb m L X w) (o : Obj) : Kept TS Tt w0 B sb m L X (w.alloc o) := h.grow0 (grow_alloc (World.grownBy.refl w none) o)
theorem Kept.blk (h : Kept TS Tt w0 B sb m L X w) {g : Nat} {t : TypeId} {cs : List Value} (hm : (g, t, cs) ∈ L) : Blk w g t cs := (h.b _ hm).2
theorem Kept.ne (h : Kept TS Tt w0 B sb m L X w) {g : Nat} {t : TypeId} {cs : List Value} (hm : (g, t, cs) ∈ L) : g ≠ sb := fun e => by have h1 : sb < g := (h.b _ hm).1.1; omega
theorem Kept.more (h : Kept TS Tt w0 B sb m L X w) (hm : m ≤ m') : Kept TS Tt w0 B sb m' L X w := ⟨h.s.more hm, h.g, h.b, h.nd, h.t, h.l, h.x⟩
theorem Kept.sub {L' : List (Nat × TypeId × List Value)} (h : Kept TS Tt w0 B sb m L X w) (hs : L'.Sublist L) : Kept TS Tt w0 B sb m L' X w := ⟨h.s, h.g, fun x hx => h.b x (hs.subset hx), h.nd.sublist hs, h.t, h.l, h.x⟩
/-- The first block is let go, the next two change places. -/
theorem Kept.swap {x y z : Nat × TypeId × List Value} (h : Kept TS Tt w0 B sb m [x, y, z] X w) : Kept TS Tt w0 B sb m [z, y] X w :=
  ⟨h.s, h.g, fun a ha => h.b a (by simp at ha ⊢; rcases ha with rfl | rfl <;> simp), by have := h.nd; simp at this ⊢; exact fun e => this.2 e.symm, h.t, h.l, h.x⟩
theorem Kept.also (h : Kept TS Tt w0 B sb m L X w) (hl : Lasts Tt Y) (hy : Y w) : Kept TS Tt w0 B sb m L (fun w => X w ∧ Y w) w := ⟨h.s, h.g, h.b, h.nd, h.t, h.l.and_ hl, h.x, hy⟩
theorem Kept.only (h : Kept TS Tt w0 B sb m L X w) (hl : Lasts Tt Y) (hy : Y w) : Kept TS Tt w0 B sb m L Y w := ⟨h.s, h.g, h.b, h.nd, h.t, hl, hy⟩
/-- A block of the list is written, of a type that is not among Tt: all else stays. -/
theorem Kept.stored (h : Kept TS Tt w0 B sb m L X w) {g : Nat} {T : TypeId} {cs cs' : List Value} (hm : (g, T, cs) ∈ L) (hT : T ∉ Tt) (hg : w.grownBy w' (some g)) (hb : Blk w' g T cs')
    {L' : List (Nat × TypeId × List Value)} (hL : ∀ x ∈ L', x = (g, T, cs') ∨ (x ∈ L ∧ x.1 ≠ g)) (hp : L'.Pairwise (fun x y => x.1 ≠ y.1)) : Kept TS Tt w0 B sb m L' X w' := by
  have hgs : sb < g := (h.b _ hm).1.1
  have hz : w0.heap.size ≤ g := (h.b _ hm).1.2
  refine ⟨h.s.grown hg (fun k e => by cases e; exact hgs), grow_own h.g hg (fun k e => by cases e; exact hz), fun x hx => ?_, hp, h.t, h.l, h.l w w' g T _ (h.blk hm) hT hg h.x⟩
  rcases hL x hx with rfl | ⟨h1, h2⟩
  · exact ⟨⟨hgs, hz⟩, hb⟩
  · exact ⟨(h.b x h1).1, (h.b x h1).2.grown hg (fun e => h2 (Option.some.inj e))⟩
end

theorem Blk.ne_type {w : World} {g g' : Nat} {t t' : TypeId} {cs cs' : List Value} (h : Blk w g t cs) (h' : Blk w g' t' cs') (ht : t ≠ t') : g ≠ g' := by
  rintro rfl
  unfold Blk at h h'
  rw [h] at h'
  injection h' with h'
  injection h' with _ h2 _
  exact ht h2
/-- Five cells of a block are written one by one. -/
theorem Blk.far5 {wx : World} {g Z : Nat} {t : TypeId} {cs : List Value} (h : Blk wx g t cs) (hne : g ≠ Z) (v0 v1 v2 v3 v4 : Value) :
    Blk (((((wx.setCell ⟨Z, 0, none⟩ v0).setCell ⟨Z, 1, none⟩ v1).setCell ⟨Z, 2, none⟩ v2).setCell ⟨Z, 3, none⟩ v3).setCell ⟨Z, 4, none⟩ v4) g t cs :=
  ((((h.far hne _).far hne _).far hne _).far hne _).far hne _
theorem Blk.set5 {wx : World} {Z : Nat} {t : TypeId} {a0 a1 a2 a3 a4 : Value} (h : Blk wx Z t [a0, a1, a2, a3, a4]) (v0 v1 v2 v3 v4 : Value) :
    Blk (((((wx.setCell ⟨Z, 0, none⟩ v0).setCell ⟨Z, 1, none⟩ v1).setCell ⟨Z, 2, none⟩ v2).setCell ⟨Z, 3, none⟩ v3).setCell ⟨Z, 4, none⟩ v4) Z t [v0, v1, v2, v3, v4] :=
  ((((h.set_ 0 _).set_ 1 _).set_ 2 _).set_ 3 _).set_ 4 _
theorem World.own5 (wx : World) (Z : Nat) (v0 v1 v2 v3 v4 : Value) :
    wx.grownBy (((((wx.setCell ⟨Z, 0, none⟩ v0).setCell ⟨Z, 1, none⟩ v1).setCell ⟨Z, 2, none⟩ v2).setCell ⟨Z, 3, none⟩ v3).setCell ⟨Z, 4, none⟩ v4) (some Z) := by
  have h0 : wx.grownBy wx (some Z) := World.grownBy.refl _ _
  have h1 := grow_setCell h0 (p := ⟨Z, 0, none⟩) (.inl rfl) v0
  have h2 := grow_setCell h1 (p := ⟨Z, 1, none⟩) (.inl rfl) v1
  have h3 := grow_setCell h2 (p := ⟨Z, 2, none⟩) (.inl rfl) v2
  have h4 := grow_setCell h3 (p := ⟨Z, 3, none⟩) (.inl rfl) v3
  exact grow_setCell h4 (p := ⟨Z, 4, none⟩) (.inl rfl) v4

end Go.Proofs.YtmpomocahgcebaaDoor
