/- A walk over what is known of slots and memory: the state is a list of slots, blocks that are known whole, and facts that last. -/
import Derived.Test.YtcggbojhalbkjaaGreatDoorBase
namespace Go.Proofs.YtcggbojhalbkjaaGreatDoor
open Go.RowKit

/-- What is known of the slots. -/
def look : List (Nat × Value) → Nat → Option Value
  | [], _ => none
  | (k, v) :: r, t => bif Nat.beq k t then some v else look r t
def rd (S : List (Nat × Value)) : Operand → Option Value
  | .tmp t => look S t
  | .const v => some v
  | .global g => some (.pointer (some ⟨g, 0, none⟩))
  | .func f => some (.func (.func f) #[] #[])
structure Has (S : List (Nat × Value)) (n : Nat) (a : Act) : Prop where
  size : a.tmps.size = n
  val : ∀ t v, look S t = some v → a.tmps[t]? = some v
  df : a.defers = []
theorem Has.eval {S : List (Nat × Value)} {n : Nat} {a : Act} (h : Has S n a) {x : Operand} {v : Value} (hx : rd S x = some v) : a.eval x = v := by
  cases x with
  | tmp t => simp [Act.eval, Array.getD_eq_getD_getElem?, h.val t v hx]
  | const u => simpa [rd, Act.eval] using hx
  | global g => simpa [rd, Act.eval] using hx
  | func f => simpa [rd, Act.eval] using hx
theorem beq_look {k t : Nat} {v u : Value} {r : List (Nat × Value)} (h : look ((k, v) :: r) t = some u) : (k = t ∧ v = u) ∨ (k ≠ t ∧ look r t = some u) := by
  unfold look at h
  cases hb : Nat.beq k t
  · rw [hb] at h
    exact .inr ⟨fun e => by subst e; simp at hb, h⟩
  · rw [hb] at h
    exact .inl ⟨Nat.eq_of_beq_eq_true hb, by simpa using h⟩
theorem Has.put {S : List (Nat × Value)} {n : Nat} {a : Act} (h : Has S n a) {d : Nat} (hd : Nat.ble (d + 1) n = true) (v : Value) : Has ((d, v) :: S) n (a.put (some d) v) := by
  have hlt : d < n := Nat.le_of_ble_eq_true hd
  refine ⟨by simp [Act.put, h.size], fun t u hu => ?_, by simpa [Act.put] using h.df⟩
  rcases beq_look hu with ⟨rfl, rfl⟩ | ⟨hne, hu⟩
  · simp only [Act.put]
    rw [Array.getElem?_setIfInBounds]
    simp [h.size, hlt]
  · simp only [Act.put]
    rw [Array.getElem?_setIfInBounds]
    rw [if_neg hne]
    exact h.val t u hu
theorem Has.sub {S S' : List (Nat × Value)} {n : Nat} {a : Act} (h : Has S n a) (hs : ∀ t v, look S' t = some v → look S t = some v) : Has S' n a := ⟨h.size, fun t v ht => h.val t v (hs t v ht), h.df⟩
/-- A shorter list of slots. -/
def Sub (S : List (Nat × Value)) : List (Nat × Value) → Prop
  | [] => True
  | (k, v) :: r => look S k = some v ∧ Sub S r
theorem Sub.look {S : List (Nat × Value)} : ∀ {S' : List (Nat × Value)}, Sub S S' → ∀ t v, look S' t = some v → look S t = some v
  | [], _, t, v, h => by simp [Proofs.YtcggbojhalbkjaaGreatDoor.look] at h
  | (k, u) :: r, hs, t, v, h => by
    rcases beq_look h with ⟨rfl, rfl⟩ | ⟨_, h⟩
    · exact hs.1
    · exact Sub.look hs.2 t v h
def argSlots : Nat → List Value → List (Nat × Value)
  | _, [] => []
  | i, v :: r => (i, v) :: argSlots (i + 1) r
theorem argSlots_look : ∀ (l : List Value) (i t : Nat) (v : Value), look (argSlots i l) t = some v → i ≤ t ∧ l[t - i]? = some v
  | [], i, t, v, h => by simp [argSlots, look] at h
  | u :: r, i, t, v, h => by
    rcases beq_look h with ⟨rfl, rfl⟩ | ⟨hne, h⟩
    · simp
    · have := argSlots_look r (i + 1) t v h
      refine ⟨by omega, ?_⟩
      rw [show t - i = (t - (i + 1)) + 1 by omega]
      simpa using this.2

/-- What never changes during a walk: how many slots, the world at the start, the one old block that may turn, the types whose blocks the call does not write. -/
structure Cx where
  n : Nat
  w0 : World
  row : Option Nat
  Tt : List TypeId
/-- A fact that lasts: while nothing old turns, and while a block from N on (or the row) of a type that is not among Tt is written. -/
structure Lasts2 (N : Nat) (row : Option Nat) (Tt : List TypeId) (X : World → Prop) : Prop where
  gr : ∀ w w', w.grownBy w' none → X w → X w'
  st : ∀ (w w' : World) (r : Nat) (T : TypeId) (c : Array Value), w.heap[r]? = some (.cells c T (0, 0)) → T ∉ Tt → (N ≤ r ∨ row = some r) → w.grownBy w' (some r) → X w → X w'
theorem Lasts2.true_ {N : Nat} {row : Option Nat} {Tt : List TypeId} : Lasts2 N row Tt (fun _ => True) := ⟨fun _ _ _ _ => trivial, fun _ _ _ _ _ _ _ _ _ _ => trivial⟩
theorem Lasts2.and_ {N : Nat} {row : Option Nat} {Tt : List TypeId} {X Y : World → Prop} (hX : Lasts2 N row Tt X) (hY : Lasts2 N row Tt Y) : Lasts2 N row Tt (fun w => X w ∧ Y w) :=
  ⟨fun w w' h ⟨x, y⟩ => ⟨hX.gr w w' h x, hY.gr w w' h y⟩, fun w w' r T c h1 h2 h3 h4 ⟨x, y⟩ => ⟨hX.st w w' r T c h1 h2 h3 h4 x, hY.st w w' r T c h1 h2 h3 h4 y⟩⟩
/-- A slice of a type among Tt. -/
theorem SlT.lasts2 {α : Type} {enc : α → List Value} {k : Nat} {T : TypeId} {N : Nat} {row : Option Nat} {Tt : List TypeId} {A : Option Addr} {n : Nat} {l : List α} (hT : Tt.contains T = true) : Lasts2 N row Tt (fun w => SlT enc k T w A n l) :=
  ⟨fun _ _ h hx => hx.grow0 h, fun _ _ _ _ _ h1 h2 _ h3 hx => hx.grown h3 h1 (fun e => h2 (by subst e; simpa using hT))⟩
/-- The stream's own fact lasts while blocks of the call's own are written. -/
structure Keeps (N : Nat) (K : World → Prop) : Prop where
  gr : ∀ w w', w.grownBy w' none → K w → K w'
  st : ∀ (w w' : World) (r : Nat), N ≤ r → w.grownBy w' (some r) → K w → K w'
theorem Keeps.true_ {N : Nat} : Keeps N (fun _ => True) := ⟨fun _ _ _ _ => trivial, fun _ _ _ _ _ _ => trivial⟩
theorem Keeps.strm {TS : TypeId} {N B sb m : Nat} (h : sb < N) : Keeps N (fun w => Strm TS w B sb m) :=
  ⟨fun _ _ hg hs => hs.grown hg (fun k e => by cases e), fun _ _ r hr hg hs => hs.grown hg (fun k e => by cases e; omega)⟩

/-- A row of the call's own: a slice value that grows by appends; n elements of sz cells each, of type e, are xs. -/
structure Own where
  v : Value
  e : TypeId
  sz : Nat
  n : Nat
  xs : List Value
structure Mem (c : Cx) (K : World → Prop) (L : List (Nat × TypeId × List Value)) (O : List Own) (X : List (World → Prop)) (w : World) : Prop where
  g : c.w0.grownBy w c.row
  k : K w
  b : ∀ x ∈ L, c.w0.heap.size ≤ x.1 ∧ Blk w x.1 x.2.1 x.2.2
  nd : L.Pairwise (fun x y => x.1 ≠ y.1)
  o : ∀ r ∈ O, w.ownsRow c.w0.heap.size r.e r.sz r.v r.n r.xs
  od : ∀ r ∈ O, ∀ x ∈ L, r.v.ownBlock ≠ some x.1
  oo : O.Pairwise (fun r s => ∀ g, r.v.ownBlock = some g → s.v.ownBlock ≠ some g)
  x : ∀ A ∈ X, A w
  kk : Keeps c.w0.heap.size K
  l : ∀ A ∈ X, Lasts2 c.w0.heap.size c.row c.Tt A
  rs : ∀ r, c.row = some r → r < c.w0.heap.size
section
variable {c : Cx} {K : World → Prop} {L : List (Nat × TypeId × List Value)} {O : List Own} {X : List (World → Prop)} {Y : World → Prop} {w w' : World}
theorem Mem.lt (h : Mem c K L O X w) {g : Nat} {T : TypeId} {cs : List Value} (hm : (g, T, cs) ∈ L) : g < w.heap.size := (h.b _ hm).2.lt
theorem Mem.blk (h : Mem c K L O X w) {g : Nat} {T : TypeId} {cs : List Value} (hm : (g, T, cs) ∈ L) : Blk w g T cs := (h.b _ hm).2
theorem Mem.far (h : Mem c K L O X w) {g : Nat} {T : TypeId} {cs : List Value} (hm : (g, T, cs) ∈ L) : c.row ≠ some g := fun e => by have h1 := h.rs g e; have h2 : c.w0.heap.size ≤ g := (h.b _ hm).1; omega
theorem Mem.grow (h : Mem c K L O X w) (hg : w.grownBy w' none) : Mem c K L O X w' :=
  ⟨grow_trans h.g (grow_weak hg), h.kk.gr _ _ hg h.k, fun x hx => ⟨(h.b x hx).1, (h.b x hx).2.grown hg (by simp)⟩, h.nd, fun r hr => (h.o r hr).kept hg (by cases hv : r.v.ownBlock <;> simp), h.od, h.oo, fun A hA => (h.l A hA).gr _ _ hg (h.x A hA), h.kk, h.l, h.rs⟩
theorem Mem.new (h : Mem c K L O X w) (T : TypeId) (cs : List Value) : Mem c K ((w.heap.size, T, cs) :: L) O X (w.alloc (.cells cs.toArray T)) := by
  have h2 := h.grow (grow_alloc (World.grownBy.refl w none) (.cells cs.toArray T))
  refine ⟨h2.g, h2.k, fun x hx => ?_, List.Pairwise.cons (fun y hy e => by have h3 := (h.b y hy).2.lt; have e2 : w.heap.size = y.1 := e; omega) h.nd, h2.o, fun r hr x hx => ?_, h.oo, h2.x, h.kk, h.l, h.rs⟩
  · rcases List.mem_cons.1 hx with rfl | hx
    · exact ⟨h.g.size, Blk.at_ w rfl T cs⟩
    · exact h2.b x hx
  · rcases List.mem_cons.1 hx with rfl | hx
    · intro e
      have h1 := ((h.o r hr).lt _ e).2
      have h2 : w.heap.size < w.heap.size := h1
      omega
    · exact h.od r hr x hx
theorem Mem.also (h : Mem c K L O X w) (hl : Lasts2 c.w0.heap.size c.row c.Tt Y) (hy : Y w) : Mem c K L O (Y :: X) w := ⟨h.g, h.k, h.b, h.nd, h.o, h.od, h.oo, fun A hA => by
    rcases List.mem_cons.1 hA with rfl | hA
    · exact hy
    · exact h.x A hA, h.kk, fun A hA => by
    rcases List.mem_cons.1 hA with rfl | hA
    · exact hl
    · exact h.l A hA, h.rs⟩
theorem Mem.fact (h : Mem c K L O X w) (i : Nat) {A : World → Prop} (hi : X[i]? = some A) : A w := h.x A (List.mem_of_getElem? hi)
/-- Some of the facts. -/
def pickI {α : Type} (l : List α) : List Nat → List α
  | [] => []
  | i :: r => match l[i]? with
    | some x => x :: pickI l r
    | none => pickI l r
theorem pickI_mem {α : Type} {l : List α} : ∀ {is : List Nat} {x : α}, x ∈ pickI l is → ∃ i ∈ is, l[i]? = some x
  | [], x, h => by simp [pickI] at h
  | i :: r, x, h => by
    simp only [pickI] at h
    split at h
    · rename_i y hy
      rcases List.mem_cons.1 h with rfl | h
      · exact ⟨i, List.mem_cons_self .., hy⟩
      · obtain ⟨j, hj, hx⟩ := pickI_mem h
        exact ⟨j, List.mem_cons_of_mem _ hj, hx⟩
    · obtain ⟨j, hj, hx⟩ := pickI_mem h
      exact ⟨j, List.mem_cons_of_mem _ hj, hx⟩
/-- All these numbers differ. -/
def allNe : List Nat → Bool
  | [] => true
  | i :: r => r.all (fun j => !Nat.beq i j) && allNe r
theorem pickI_pair {α : Type} {R : α → α → Prop} (hs : ∀ x y, R x y → R y x) {l : List α} (hp : l.Pairwise R) : ∀ {is : List Nat}, allNe is = true → (pickI l is).Pairwise R
  | [], _ => List.Pairwise.nil
  | i :: r, h => by
    simp only [allNe, Bool.and_eq_true] at h
    simp only [pickI]
    split
    · rename_i x hx
      refine List.Pairwise.cons (fun y hy => ?_) (pickI_pair hs hp h.2)
      obtain ⟨j, hj, hy⟩ := pickI_mem hy
      have hne : i ≠ j := fun e => by
        have := List.all_eq_true.1 h.1 j hj
        subst e
        simp at this
      obtain ⟨hi, rfl⟩ := List.getElem?_eq_some_iff.1 hx
      obtain ⟨hj', rfl⟩ := List.getElem?_eq_some_iff.1 hy
      rcases Nat.lt_or_ge i j with h' | h'
      · exact List.pairwise_iff_getElem.1 hp i j hi hj' h'
      · exact hs _ _ (List.pairwise_iff_getElem.1 hp j i hj' hi (by omega))
    · exact pickI_pair hs hp h.2
theorem Mem.pickX (h : Mem c K L O X w) (is : List Nat) : Mem c K L O (pickI X is) w := ⟨h.g, h.k, h.b, h.nd, h.o, h.od, h.oo, fun A hA => by obtain ⟨i, _, hi⟩ := pickI_mem hA; exact h.fact i hi, h.kk, fun A hA => by obtain ⟨i, _, hi⟩ := pickI_mem hA; exact h.l A (List.mem_of_getElem? hi), h.rs⟩
theorem Mem.pickL (h : Mem c K L O X w) (is : List Nat) (hn : allNe is = true) : Mem c K (pickI L is) O X w := ⟨h.g, h.k, fun x hx => by obtain ⟨i, _, hi⟩ := pickI_mem hx; exact h.b x (List.mem_of_getElem? hi), pickI_pair (fun _ _ hr => hr.symm) h.nd hn, h.o, fun r hr x hx => by obtain ⟨i, _, hi⟩ := pickI_mem hx; exact h.od r hr x (List.mem_of_getElem? hi), h.oo, h.x, h.kk, h.l, h.rs⟩
theorem Mem.pickO (h : Mem c K L O X w) (is : List Nat) (hn : allNe is = true) : Mem c K L (pickI O is) X w := ⟨h.g, h.k, h.b, h.nd, fun r hr => by obtain ⟨i, _, hi⟩ := pickI_mem hr; exact h.o r (List.mem_of_getElem? hi), fun r hr => by obtain ⟨i, _, hi⟩ := pickI_mem hr; exact h.od r (List.mem_of_getElem? hi), pickI_pair (fun _ _ hr g hg e => hr g e hg) h.oo hn, h.x, h.kk, h.l, h.rs⟩
/-- Blocks, rows and facts by their places. -/
theorem Mem.pick (h : Mem c K L O X w) (ls os xs : List Nat) (hl : allNe ls = true) (ho : allNe os = true) : Mem c K (pickI L ls) (pickI O os) (pickI X xs) w := ((h.pickL ls hl).pickO os ho).pickX xs
theorem Mem.sub {L' : List (Nat × TypeId × List Value)} (h : Mem c K L O X w) (hs : L'.Sublist L) : Mem c K L' O X w := ⟨h.g, h.k, fun x hx => h.b x (hs.subset hx), h.nd.sublist hs, h.o, fun r hr x hx => h.od r hr x (hs.subset hx), h.oo, h.x, h.kk, h.l, h.rs⟩
/-- A block of the list turns: its new cells stand in its place. -/
def setBlk (g : Nat) (cs : List Value) : List (Nat × TypeId × List Value) → Nat → List (Nat × TypeId × List Value)
  | [], _ => []
  | x :: r, 0 => (g, x.2.1, cs) :: r
  | x :: r, i + 1 => x :: setBlk g cs r i
theorem setBlk_mem {g : Nat} {cs : List Value} : ∀ {i : Nat} {L : List (Nat × TypeId × List Value)} {T : TypeId} {cs0 : List Value}, L[i]? = some (g, T, cs0) → L.Pairwise (fun x y => x.1 ≠ y.1) → ∀ x ∈ setBlk g cs L i, x = (g, T, cs) ∨ (x ∈ L ∧ x.1 ≠ g)
  | _, [], _, _, h, _, x, hx => by simp [setBlk] at hx
  | 0, y :: r, T, cs0, h, hp, x, hx => by
    simp at h; subst h
    rcases List.mem_cons.1 hx with rfl | hx
    · exact .inl rfl
    · exact .inr ⟨List.mem_cons_of_mem _ hx, fun e => (List.pairwise_cons.1 hp).1 x hx e.symm⟩
  | i + 1, y :: r, T, cs0, h, hp, x, hx => by
    have hr : r[i]? = some (g, T, cs0) := by simpa using h
    rcases List.mem_cons.1 hx with rfl | hx
    · exact .inr ⟨List.mem_cons_self .., (List.pairwise_cons.1 hp).1 _ (List.mem_of_getElem? hr)⟩
    · rcases setBlk_mem hr (List.pairwise_cons.1 hp).2 x hx with h1 | ⟨h1, h2⟩
      · exact .inl h1
      · exact .inr ⟨List.mem_cons_of_mem _ h1, h2⟩
theorem setBlk_map {g : Nat} {cs : List Value} : ∀ {i : Nat} {L : List (Nat × TypeId × List Value)} {T : TypeId} {cs0 : List Value}, L[i]? = some (g, T, cs0) → (setBlk g cs L i).map (·.1) = L.map (·.1)
  | _, [], _, _, h => by rfl
  | 0, y :: r, T, cs0, h => by simp at h; subst h; rfl
  | i + 1, y :: r, T, cs0, h => by simp only [setBlk, List.map_cons]; rw [setBlk_map (by simpa using h)]
theorem pairwise_map {L L' : List (Nat × TypeId × List Value)} (h : L'.map (·.1) = L.map (·.1)) (hp : L.Pairwise (fun x y => x.1 ≠ y.1)) : L'.Pairwise (fun x y => x.1 ≠ y.1) := by
  have h1 : (L.map (·.1)).Pairwise (· ≠ ·) := List.pairwise_map.2 hp
  rw [← h] at h1
  exact List.pairwise_map.1 h1
theorem Mem.store (h : Mem c K L O X w) {i g : Nat} {T : TypeId} {cs cs' : List Value} (hm : L[i]? = some (g, T, cs)) (hT : c.Tt.contains T = false) (hg : w.grownBy w' (some g)) (hb : Blk w' g T cs') : Mem c K (setBlk g cs' L i) O X w' := by
  have hmem := List.mem_of_getElem? hm
  have hz : c.w0.heap.size ≤ g := (h.b _ hmem).1
  refine ⟨grow_own h.g hg (fun k e => by cases e; exact hz), h.kk.st _ _ g hz hg h.k, fun x hx => ?_, pairwise_map (setBlk_map hm) h.nd, fun r hr => (h.o r hr).kept hg (.inr (h.od r hr _ hmem)), fun r hr x hx => ?_, h.oo, fun A hA => (h.l A hA).st w w' g T _ (h.blk hmem) (fun e => by simp [e] at hT) (.inl hz) hg (h.x A hA), h.kk, h.l, h.rs⟩
  · rcases setBlk_mem hm h.nd x hx with rfl | ⟨h1, h2⟩
    · exact ⟨hz, hb⟩
    · exact ⟨(h.b x h1).1, (h.b x h1).2.grown hg (fun e => h2 (Option.some.inj e))⟩
  · rcases setBlk_mem hm h.nd x hx with rfl | ⟨h1, h2⟩
    · exact h.od r hr (g, T, cs) hmem
    · exact h.od r hr x h1
/-- A row of the call's own turns: its value, its elements. -/
def setOwn (r : Own) : List Own → Nat → List Own
  | [], _ => []
  | _ :: l, 0 => r :: l
  | x :: l, i + 1 => x :: setOwn r l i
theorem setOwn_mem {r : Own} : ∀ {O : List Own} {i : Nat} {r0 : Own}, O[i]? = some r0 → O.Pairwise (fun r s => ∀ g, r.v.ownBlock = some g → s.v.ownBlock ≠ some g) → ∀ x ∈ setOwn r O i, x = r ∨ (x ∈ O ∧ ∀ g, r0.v.ownBlock = some g → x.v.ownBlock ≠ some g)
  | [], _, _, h, _, x, hx => by simp [setOwn] at hx
  | y :: l, 0, r0, h, hp, x, hx => by
    simp at h; subst h
    rcases List.mem_cons.1 hx with rfl | hx
    · exact .inl rfl
    · exact .inr ⟨List.mem_cons_of_mem _ hx, (List.pairwise_cons.1 hp).1 x hx⟩
  | y :: l, i + 1, r0, h, hp, x, hx => by
    have hr : l[i]? = some r0 := by simpa using h
    rcases List.mem_cons.1 hx with rfl | hx
    · exact .inr ⟨List.mem_cons_self .., fun g hg e => (List.pairwise_cons.1 hp).1 _ (List.mem_of_getElem? hr) g e hg⟩
    · rcases setOwn_mem hr (List.pairwise_cons.1 hp).2 x hx with h1 | ⟨h1, h2⟩
      · exact .inl h1
      · exact .inr ⟨List.mem_cons_of_mem _ h1, h2⟩
theorem setOwn_pair {r : Own} : ∀ {O : List Own} {i : Nat} {r0 : Own}, O[i]? = some r0 → O.Pairwise (fun r s => ∀ g, r.v.ownBlock = some g → s.v.ownBlock ≠ some g) → (∀ x ∈ O, (∀ g, r0.v.ownBlock = some g → x.v.ownBlock ≠ some g) → ∀ g, r.v.ownBlock = some g → x.v.ownBlock ≠ some g) →
    (setOwn r O i).Pairwise (fun r s => ∀ g, r.v.ownBlock = some g → s.v.ownBlock ≠ some g)
  | [], _, _, h, _, _ => by simp at h
  | y :: l, 0, r0, h, hp, hn => by
    simp at h; subst h
    exact List.Pairwise.cons (fun x hx => hn x (List.mem_cons_of_mem _ hx) ((List.pairwise_cons.1 hp).1 x hx)) (List.pairwise_cons.1 hp).2
  | y :: l, i + 1, r0, h, hp, hn => by
    have hr : l[i]? = some r0 := by simpa using h
    refine List.Pairwise.cons (fun x hx => ?_) (setOwn_pair hr (List.pairwise_cons.1 hp).2 fun x hx => hn x (List.mem_cons_of_mem _ hx))
    rcases setOwn_mem hr (List.pairwise_cons.1 hp).2 x hx with rfl | ⟨h1, h2⟩
    · intro g hg e
      exact hn y (List.mem_cons_self ..) (fun g' hg' e' => (List.pairwise_cons.1 hp).1 _ (List.mem_of_getElem? hr) g' e' hg') g e hg
    · exact (List.pairwise_cons.1 hp).1 x h1
/-- Behind an append onto a row of the call's own. -/
theorem Mem.append (h : Mem c K L O X w) {i : Nat} {r : Own} {v' : Value} {n' : Nat} {xs' : List Value} (hm : O[i]? = some r) (hT : c.Tt.contains r.e = false) (hown : w'.ownsRow c.w0.heap.size r.e r.sz v' n' xs') (hg : w.grownBy w' r.v.ownBlock) (hb : v'.ownBlock = r.v.ownBlock ∨ v'.ownBlock = some w.heap.size) :
    Mem c K L (setOwn ⟨v', r.e, r.sz, n', xs'⟩ O i) X w' := by
  have hmem := List.mem_of_getElem? hm
  have hr := h.o r hmem
  have hnew : ∀ x ∈ L, v'.ownBlock ≠ some x.1 := fun x hx => by
    rcases hb with hb | hb
    · rw [hb]; exact h.od r hmem x hx
    · rw [hb]; intro e; have := (h.b x hx).2.lt; injection e with e; omega
  have hfar : ∀ x ∈ O, (∀ g, r.v.ownBlock = some g → x.v.ownBlock ≠ some g) → ∀ g, v'.ownBlock = some g → x.v.ownBlock ≠ some g := fun x hx hne g hg' e => by
    rcases hb with hb | hb
    · exact hne g (hb ▸ hg') e
    · have h1 := ((h.o x hx).lt _ e).2
      rw [hb] at hg'
      injection hg' with hg'
      omega
  have hX : (∀ A ∈ X, A w') ∧ K w' ∧ c.w0.grownBy w' c.row := by
    cases hv : r.v.ownBlock with
    | none =>
      rw [hv] at hg
      exact ⟨fun A hA => (h.l A hA).gr _ _ hg (h.x A hA), h.kk.gr _ _ hg h.k, grow_trans h.g (grow_weak hg)⟩
    | some g =>
      rw [hv] at hg
      have hz := (hr.lt g hv).1
      rcases hr.2 with ⟨e, _⟩ | ⟨g', cap, cur, e, _, hh, _⟩
      · rw [e] at hv; cases hv
      · rw [e] at hv
        have hgg : g' = g := Option.some.inj hv
        subst hgg
        exact ⟨fun A hA => (h.l A hA).st w w' g' r.e cur hh (fun e => by simp [e] at hT) (.inl hz) hg (h.x A hA), h.kk.st _ _ _ hz hg h.k, grow_own h.g hg (fun k e => by cases e; exact hz)⟩
  refine ⟨hX.2.2, hX.2.1, fun x hx => ⟨(h.b x hx).1, (h.b x hx).2.grown hg (fun e => h.od r hmem x hx e.symm)⟩, h.nd, fun s hs => ?_, fun s hs x hx => ?_, setOwn_pair hm h.oo hfar, hX.1, h.kk, h.l, h.rs⟩
  · rcases setOwn_mem hm h.oo s hs with rfl | ⟨h1, h2⟩
    · exact hown
    · refine (h.o s h1).kept hg ?_
      cases hv : s.v.ownBlock with
      | none => exact .inl rfl
      | some g => exact .inr (fun e => h2 g e.symm hv)
  · rcases setOwn_mem hm h.oo s hs with rfl | ⟨h1, _⟩
    · exact hnew x hx
    · exact h.od s h1 x hx
/-- A row of the call's own begins: nil. -/
theorem Mem.nilOwn (h : Mem c K L O X w) (e : TypeId) (sz : Nat) : Mem c K L (⟨.slice none 0 0, e, sz, 0, []⟩ :: O) X w :=
  ⟨h.g, h.k, h.b, h.nd, fun r hr => by
    rcases List.mem_cons.1 hr with rfl | hr
    · exact ⟨by simp, .inl ⟨rfl, rfl⟩⟩
    · exact h.o r hr, fun r hr x hx => by
    rcases List.mem_cons.1 hr with rfl | hr
    · simp [Value.ownBlock]
    · exact h.od r hr x hx, List.Pairwise.cons (fun x _ g hg => by cases hg) h.oo, h.x, h.kk, h.l, h.rs⟩
/-- A row that has just been made becomes one of the call's own. -/
theorem Mem.newOwn (h : Mem c K L O X w) (hg : w.grownBy w' none) {v : Value} {e : TypeId} {sz n : Nat} {xs : List Value} (hown : w'.ownsRow w.heap.size e sz v n xs) : Mem c K L (⟨v, e, sz, n, xs⟩ :: O) X w' := by
  have h2 := h.grow hg
  refine ⟨h2.g, h2.k, h2.b, h2.nd, fun r hr => ?_, fun r hr x hx => ?_, List.Pairwise.cons (fun x hx g hg' e' => ?_) h.oo, h2.x, h.kk, h.l, h.rs⟩
  · rcases List.mem_cons.1 hr with rfl | hr
    · refine ⟨hown.1, ?_⟩
      rcases hown.2 with hn | ⟨g, cap, cur, h1, h3, h4⟩
      · exact .inl hn
      · exact .inr ⟨g, cap, cur, h1, Nat.le_trans h.g.size h3, h4⟩
    · exact h2.o r hr
  · rcases List.mem_cons.1 hr with rfl | hr
    · intro e'
      have h3 := (hown.lt _ e').1
      have h4 := (h.b x hx).2.lt
      omega
    · exact h.od r hr x hx
  · have h3 := (hown.lt _ hg').1
    have h4 := ((h.o x hx).lt _ e').2
    omega
theorem Mem.subOwn {O' : List Own} (h : Mem c K L O X w) (hs : O'.Sublist O) : Mem c K L O' X w := ⟨h.g, h.k, h.b, h.nd, fun r hr => h.o r (hs.subset hr), fun r hr => h.od r (hs.subset hr), h.oo.sublist hs, h.x, h.kk, h.l, h.rs⟩
end

section
variable {P : Program} {c : Cx} {ops : Array Oper} {Q : Exit → Act → World → Prop} {rest : List Oper} {S : List (Nat × Value)} {K : World → Prop} {L : List (Nat × TypeId × List Value)} {O : List Own} {X : List (World → Prop)}
/-- The operations l are still to come. -/
def WL (P : Program) (c : Cx) (ops : Array Oper) (Q : Exit → Act → World → Prop) (l : List Oper) (S : List (Nat × Value)) (K : World → Prop) (L : List (Nat × TypeId × List Value)) (O : List Own) (X : List (World → Prop)) : Prop :=
  ∀ a w, Has S c.n a → Mem c K L O X w → wpList P ops Q l a w
/-- Code is still to come. -/
def Gw (P : Program) (c : Cx) (Q : Exit → Act → World → Prop) (code : Code) (S : List (Nat × Value)) (K : World → Prop) (L : List (Nat × TypeId × List Value)) (O : List Own) (X : List (World → Prop)) : Prop :=
  ∀ a w, Has S c.n a → Mem c K L O X w → code.wp P Q a w
/-- An exit has been reached. -/
def Nx (c : Cx) (Q : Exit → Act → World → Prop) (e : Exit) (S : List (Nat × Value)) (K : World → Prop) (L : List (Nat × TypeId × List Value)) (O : List Own) (X : List (World → Prop)) : Prop :=
  ∀ a w, Has S c.n a → Mem c K L O X w → Q e a w

theorem gw_seq {x y : Code} (h : Gw P c (Exit.then (y.wp P Q) Q) x S K L O X) : Gw P c Q (.seq x y) S K L O X := fun a w ha hm => wp_seq (h a w ha hm)
theorem gw_region {id : Nat} {l : List Oper} (h : WL P c l.toArray Q l S K L O X) : Gw P c Q (.region id l.toArray false) S K L O X := fun a w ha hm => wp_region_lit (h a w ha hm)
theorem wl_nil (h : Nx c Q .normal S K L O X) : WL P c ops Q [] S K L O X := fun a w ha hm => wpList_nil (h a w ha hm)
theorem gw_skip (h : Nx c Q .normal S K L O X) : Gw P c Q .skip S K L O X := fun a w ha hm => wp_skip (h a w ha hm)
theorem gw_ret (h : Nx c Q .ret S K L O X) : Gw P c Q .ret S K L O X := fun a w ha hm => wp_ret (h a w ha hm)
theorem gw_exit {id : Nat} (h : Nx c Q (.exit id) S K L O X) : Gw P c Q (.exit id) S K L O X := fun a w ha hm => wp_exit (h a w ha hm)
theorem gw_block {id : Nat} {x : Code} (h : Gw P c (Exit.inBlock id Q) x S K L O X) : Gw P c Q (.block id x) S K L O X := fun a w ha hm => wp_block (h a w ha hm)
theorem gw_cond {x : Operand} {y z : Code} {b : Bool} (hx : rd S x = some (.bool b)) (ht : b = true → Gw P c Q y S K L O X) (hf : b = false → Gw P c Q z S K L O X) : Gw P c Q (.cond x y z) S K L O X :=
  fun a w ha hm => wp_cond_split (ha.eval hx) (fun h => ht h a w ha hm) (fun h => hf h a w ha hm)
theorem nx_then {y : Code} (h : Gw P c Q y S K L O X) : Nx c (Exit.then (y.wp P Q) Q) .normal S K L O X := h
theorem nx_then_ret {Y : Act → World → Prop} (h : Nx c Q .ret S K L O X) : Nx c (Exit.then Y Q) .ret S K L O X := h
theorem nx_then_exit {Y : Act → World → Prop} {id : Nat} (h : Nx c Q (.exit id) S K L O X) : Nx c (Exit.then Y Q) (.exit id) S K L O X := h
theorem nx_blk_ret {id : Nat} (h : Nx c Q .ret S K L O X) : Nx c (Exit.inBlock id Q) .ret S K L O X := h
theorem nx_blk_nrm {id : Nat} (h : Nx c Q .normal S K L O X) : Nx c (Exit.inBlock id Q) .normal S K L O X := h
theorem nx_blk_here {id : Nat} (h : Nx c Q .normal S K L O X) : Nx c (Exit.inBlock id Q) (.exit id) S K L O X := fun a w ha hm => by
  simp only [Exit.inBlock, if_true]; exact h a w ha hm
theorem nx_blk_on {id id' : Nat} (hne : Nat.beq id' id = false) (h : Nx c Q (.exit id') S K L O X) : Nx c (Exit.inBlock id Q) (.exit id') S K L O X := fun a w ha hm => by
  have : id' ≠ id := fun e => by subst e; simp at hne
  simp only [Exit.inBlock, if_neg this]; exact h a w ha hm
/-- Fewer slots, fewer blocks, other facts. -/
theorem nx_weak {e : Exit} {S' : List (Nat × Value)} {K' : World → Prop} {L' : List (Nat × TypeId × List Value)} {O' : List Own} {X' : List (World → Prop)} (hs : Sub S S') (hM : ∀ w, Mem c K L O X w → Mem c K' L' O' X' w) (h : Nx c Q e S' K' L' O' X') : Nx c Q e S K L O X :=
  fun a w ha hm => h a w (ha.sub hs.look) (hM w hm)
theorem gw_weak {code : Code} {S' : List (Nat × Value)} {K' : World → Prop} {L' : List (Nat × TypeId × List Value)} {O' : List Own} {X' : List (World → Prop)} (hs : Sub S S') (hM : ∀ w, Mem c K L O X w → Mem c K' L' O' X' w) (h : Gw P c Q code S' K' L' O' X') : Gw P c Q code S K L O X :=
  fun a w ha hm => h a w (ha.sub hs.look) (hM w hm)
theorem wl_weak {l : List Oper} {S' : List (Nat × Value)} {K' : World → Prop} {L' : List (Nat × TypeId × List Value)} {O' : List Own} {X' : List (World → Prop)} (hs : Sub S S') (hM : ∀ w, Mem c K L O X w → Mem c K' L' O' X' w) (h : WL P c ops Q l S' K' L' O' X') : WL P c ops Q l S K L O X :=
  fun a w ha hm => h a w (ha.sub hs.look) (hM w hm)
/-- A fact about the world at hand is looked at. -/
theorem gw_look {code : Code} {R : Prop} (hr : ∀ w, Mem c K L O X w → R) (h : R → Gw P c Q code S K L O X) : Gw P c Q code S K L O X := fun a w ha hm => h (hr w hm) a w ha hm
theorem wl_look {l : List Oper} {R : Prop} (hr : ∀ w, Mem c K L O X w → R) (h : R → WL P c ops Q l S K L O X) : WL P c ops Q l S K L O X := fun a w ha hm => h (hr w hm) a w ha hm
/-- A loop: what holds at its head is a family of states. -/
theorem gw_loop {γ : Type} {code : Code} (I : γ → Prop) (S' : γ → List (Nat × Value)) (K' : γ → World → Prop) (L' : γ → List (Nat × TypeId × List Value)) (O' : γ → List Own) (X' : γ → List (World → Prop)) (μ : γ → Nat)
    (g0 : γ) (h0 : I g0) (hs : Sub S (S' g0)) (hM : ∀ w, Mem c K L O X w → Mem c (K' g0) (L' g0) (O' g0) (X' g0) w)
    (h : ∀ g, I g → Gw P c (Exit.then (fun a w => ∃ g', (I g' ∧ Has (S' g') c.n a ∧ Mem c (K' g') (L' g') (O' g') (X' g') w) ∧ μ g' < μ g) Q) code (S' g) (K' g) (L' g) (O' g) (X' g)) : Gw P c Q (.loop code) S K L O X := by
  intro a w ha hm
  intro b k cs
  have key : ∀ n a w, (∃ g, I g ∧ Has (S' g) c.n a ∧ Mem c (K' g) (L' g) (O' g) (X' g) w ∧ μ g = n) →
      ∃ e a' w', Q e a' w' ∧ Arrives P (lone (b.at a (.code code :: .inLoop code :: k)) cs w) b k cs e a' w' := by
    intro n
    induction n using Nat.strongRecOn with
    | _ n ih =>
      intro a w ⟨g, hI, hS, hmm, hk⟩
      obtain ⟨e, a₁, w₁, hq, harr⟩ := h g hI a w hS hmm b (.inLoop code :: k) cs
      cases e with
      | normal =>
        obtain ⟨g', ⟨hI', hS', hm'⟩, hlt⟩ := hq
        obtain ⟨e₂, a₂, w₂, hq₂, harr₂⟩ := ih (μ g') (hk ▸ hlt) a₁ w₁ ⟨g', hI', hS', hm', rfl⟩
        exact ⟨e₂, a₂, w₂, hq₂, .of_steps (Steps.trans harr (.one step_inLoop)) harr₂⟩
      | exit id => exact ⟨_, a₁, w₁, hq, .pass (x := .inLoop code) rfl (fun _ _ => .inl (by simp)) harr⟩
      | goto l => exact ⟨_, a₁, w₁, hq, .pass (x := .inLoop code) rfl (fun _ _ => .inl (by simp)) harr⟩
      | ret => exact ⟨_, a₁, w₁, hq, .pass (x := .inLoop code) rfl (fun _ _ => .inl (by simp)) harr⟩
      | panic ch => exact ⟨_, a₁, w₁, hq, .pass (x := .inLoop code) rfl (fun _ _ => .inl (by simp)) harr⟩
      | outgrown => exact ⟨_, a₁, w₁, hq, .pass (x := .inLoop code) rfl (fun _ _ => .inl (by simp)) harr⟩
  obtain ⟨e, a', w', hq, harr⟩ := key _ a w ⟨g0, h0, ha.sub hs.look, hM w hm, rfl⟩
  exact ⟨e, a', w', hq, .of_steps (.one step_loop) harr⟩
end

end Go.Proofs.YtcggbojhalbkjaaGreatDoor
