/- Several texts as one: Sx So Sc Sd Se Sg Si Sj Ty St -/
import Derived.Test.YtljnekobfjpfaaaDoorBase
import Derived.Laws.Tables
import Derived.IntWalk
import Derived.Laws.Small
import Derived.Laws.ResultCell
import Derived.Laws.Rows
import Derived.OwnWalk
import Derived.LoopN
import Derived.Laws.StructEq
import Derived.Test.YtljnekobfjpfaaaDoorOwn
import Derived.Test.YtljnekobfjpfaaaDoorRun
import Derived.Deep.OwnRows
import Derived.Test.YtljnekobfjpfaaaDoorProg
import Derived.Test.YtljnekobfjpfaaaDoorHl
/- A walk over what is known of slots and memory: the state is a list of slots, blocks that are known whole, and facts that last. -/
namespace Go.Proofs.YtljnekobfjpfaaaDoor
open Go.RowKit

/-- What is known of the slots. -/
def look : List (Nat × Value) → Nat → Option Value
  | [], _ => none
  | (k, v) :: r, t => bif Nat.beq k t then some v else look r t
def rd (S : List (Nat × Value)) : Operand → Option Value
  | .tmp t => look S t
  | .const v => some v
  | .global g => some (.pointer (some ⟨g, 0, none⟩))
  | .func f => some (.func (.func f) #[] #[])
structure Has (S : List (Nat × Value)) (n : Nat) (a : Act) : Prop where
  size : a.tmps.size = n
  val : ∀ t v, look S t = some v → a.tmps[t]? = some v
  df : a.defers = []
theorem Has.eval {S : List (Nat × Value)} {n : Nat} {a : Act} (h : Has S n a) {x : Operand} {v : Value} (hx : rd S x = some v) : a.eval x = v := by
  cases x with
  | tmp t => simp [Act.eval, Array.getD_eq_getD_getElem?, h.val t v hx]
  | const u => simpa [rd, Act.eval] using hx
  | global g => simpa [rd, Act.eval] using hx
  | func f => simpa [rd, Act.eval] using hx
theorem beq_look {k t : Nat} {v u : Value} {r : List (Nat × Value)} (h : look ((k, v) :: r) t = some u) : (k = t ∧ v = u) ∨ (k ≠ t ∧ look r t = some u) := by
  unfold look at h
  cases hb : Nat.beq k t
  · rw [hb] at h
    exact .inr ⟨fun e => by subst e; simp at hb, h⟩
  · rw [hb] at h
    exact .inl ⟨Nat.eq_of_beq_eq_true hb, by simpa using h⟩
theorem Has.put {S : List (Nat × Value)} {n : Nat} {a : Act} (h : Has S n a) {d : Nat} (hd : Nat.ble (d + 1) n = true) (v : Value) : Has ((d, v) :: S) n (a.put (some d) v) := by
  have hlt : d < n := Nat.le_of_ble_eq_true hd
  refine ⟨by simp [Act.put, h.size], fun t u hu => ?_, by simpa [Act.put] using h.df⟩
  rcases beq_look hu with ⟨rfl, rfl⟩ | ⟨hne, hu⟩
  · simp only [Act.put]
    rw [Array.getElem?_setIfInBounds]
    simp [h.size, hlt]
  · simp only [Act.put]
    rw [Array.getElem?_setIfInBounds]
    rw [if_neg hne]
    exact h.val t u hu
theorem Has.sub {S S' : List (Nat × Value)} {n : Nat} {a : Act} (h : Has S n a) (hs : ∀ t v, look S' t = some v → look S t = some v) : Has S' n a := ⟨h.size, fun t v ht => h.val t v (hs t v ht), h.df⟩
/-- A shorter list of slots. -/
def Sub (S : List (Nat × Value)) : List (Nat × Value) → Prop
  | [] => True
  | (k, v) :: r => look S k = some v ∧ Sub S r
theorem Sub.look {S : List (Nat × Value)} : ∀ {S' : List (Nat × Value)}, Sub S S' → ∀ t v, look S' t = some v → look S t = some v
  | [], _, t, v, h => by simp [Proofs.YtljnekobfjpfaaaDoor.look] at h
  | (k, u) :: r, hs, t, v, h => by
    rcases beq_look h with ⟨rfl, rfl⟩ | ⟨_, h⟩
    · exact hs.1
    · exact Sub.look hs.2 t v h
def argSlots : Nat → List Value → List (Nat × Value)
  | _, [] => []
  | i, v :: r => (i, v) :: argSlots (i + 1) r
theorem argSlots_look : ∀ (l : List Value) (i t : Nat) (v : Value), look (argSlots i l) t = some v → i ≤ t ∧ l[t - i]? = some v
  | [], i, t, v, h => by simp [argSlots, look] at h
  | u :: r, i, t, v, h => by
    rcases beq_look h with ⟨rfl, rfl⟩ | ⟨hne, h⟩
    · simp
    · have := argSlots_look r (i + 1) t v h
      refine ⟨by omega, ?_⟩
      rw [show t - i = (t - (i + 1)) + 1 by omega]
      simpa using this.2

/-- What never changes during a walk: how many slots, the world at the start, the one old block that may turn, the types whose blocks the call does not write. -/
structure Cx where
  n : Nat
  w0 : World
  row : Option Nat
  Tt : List TypeId
/-- A fact that lasts: while nothing old turns, and while a block from N on (or the row) of a type that is not among Tt is written. -/
structure Lasts2 (N : Nat) (row : Option Nat) (Tt : List TypeId) (X : World → Prop) : Prop where
  gr : ∀ w w', w.grownBy w' none → X w → X w'
  st : ∀ (w w' : World) (r : Nat) (T : TypeId) (c : Array Value), w.heap[r]? = some (.cells c T (0, 0)) → T ∉ Tt → (N ≤ r ∨ row = some r) → w.grownBy w' (some r) → X w → X w'
theorem Lasts2.true_ {N : Nat} {row : Option Nat} {Tt : List TypeId} : Lasts2 N row Tt (fun _ => True) := ⟨fun _ _ _ _ => trivial, fun _ _ _ _ _ _ _ _ _ _ => trivial⟩
theorem Lasts2.and_ {N : Nat} {row : Option Nat} {Tt : List TypeId} {X Y : World → Prop} (hX : Lasts2 N row Tt X) (hY : Lasts2 N row Tt Y) : Lasts2 N row Tt (fun w => X w ∧ Y w) :=
  ⟨fun w w' h ⟨x, y⟩ => ⟨hX.gr w w' h x, hY.gr w w' h y⟩, fun w w' r T c h1 h2 h3 h4 ⟨x, y⟩ => ⟨hX.st w w' r T c h1 h2 h3 h4 x, hY.st w w' r T c h1 h2 h3 h4 y⟩⟩
/-- A slice of a type among Tt. -/
theorem SlT.lasts2 {α : Type} {enc : α → List Value} {k : Nat} {T : TypeId} {N : Nat} {row : Option Nat} {Tt : List TypeId} {A : Option Addr} {n : Nat} {l : List α} (hT : Tt.contains T = true) : Lasts2 N row Tt (fun w => SlT enc k T w A n l) :=
  ⟨fun _ _ h hx => hx.grow0 h, fun _ _ _ _ _ h1 h2 _ h3 hx => hx.grown h3 h1 (fun e => h2 (by subst e; simpa using hT))⟩
/-- The stream's own fact lasts while blocks of the call's own are written. -/
structure Keeps (N : Nat) (K : World → Prop) : Prop where
  gr : ∀ w w', w.grownBy w' none → K w → K w'
  st : ∀ (w w' : World) (r : Nat), N ≤ r → w.grownBy w' (some r) → K w → K w'
theorem Keeps.true_ {N : Nat} : Keeps N (fun _ => True) := ⟨fun _ _ _ _ => trivial, fun _ _ _ _ _ _ => trivial⟩
theorem Keeps.strm {TS : TypeId} {N B sb m : Nat} (h : sb < N) : Keeps N (fun w => Strm TS w B sb m) :=
  ⟨fun _ _ hg hs => hs.grown hg (fun k e => by cases e), fun _ _ r hr hg hs => hs.grown hg (fun k e => by cases e; omega)⟩

/-- A row of the call's own: a slice value that grows by appends; n elements of sz cells each, of type e, are xs. -/
structure Own where
  v : Value
  e : TypeId
  sz : Nat
  n : Nat
  xs : List Value
structure Mem (c : Cx) (K : World → Prop) (L : List (Nat × TypeId × List Value)) (O : List Own) (X : List (World → Prop)) (w : World) : Prop where
  g : c.w0.grownBy w c.row
  k : K w
  b : ∀ x ∈ L, c.w0.heap.size ≤ x.1 ∧ Blk w x.1 x.2.1 x.2.2
  nd : L.Pairwise (fun x y => x.1 ≠ y.1)
  o : ∀ r ∈ O, w.ownsRow c.w0.heap.size r.e r.sz r.v r.n r.xs
  od : ∀ r ∈ O, ∀ x ∈ L, r.v.ownBlock ≠ some x.1
  oo : O.Pairwise (fun r s => ∀ g, r.v.ownBlock = some g → s.v.ownBlock ≠ some g)
  x : ∀ A ∈ X, A w
  kk : Keeps c.w0.heap.size K
  l : ∀ A ∈ X, Lasts2 c.w0.heap.size c.row c.Tt A
  rs : ∀ r, c.row = some r → r < c.w0.heap.size
section
variable {c : Cx} {K : World → Prop} {L : List (Nat × TypeId × List Value)} {O : List Own} {X : List (World → Prop)} {Y : World → Prop} {w w' : World}
theorem Mem.lt (h : Mem c K L O X w) {g : Nat} {T : TypeId} {cs : List Value} (hm : (g, T, cs) ∈ L) : g < w.heap.size := (h.b _ hm).2.lt
theorem Mem.blk (h : Mem c K L O X w) {g : Nat} {T : TypeId} {cs : List Value} (hm : (g, T, cs) ∈ L) : Blk w g T cs := (h.b _ hm).2
theorem Mem.far (h : Mem c K L O X w) {g : Nat} {T : TypeId} {cs : List Value} (hm : (g, T, cs) ∈ L) : c.row ≠ some g := fun e => by have h1 := h.rs g e; have h2 : c.w0.heap.size ≤ g := (h.b _ hm).1; omega
theorem Mem.grow (h : Mem c K L O X w) (hg : w.grownBy w' none) : Mem c K L O X w' :=
  ⟨grow_trans h.g (grow_weak hg), h.kk.gr _ _ hg h.k, fun x hx => ⟨(h.b x hx).1, (h.b x hx).2.grown hg (by simp)⟩, h.nd, fun r hr => (h.o r hr).kept hg (by cases hv : r.v.ownBlock <;> simp), h.od, h.oo, fun A hA => (h.l A hA).gr _ _ hg (h.x A hA), h.kk, h.l, h.rs⟩
theorem Mem.new (h : Mem c K L O X w) (T : TypeId) (cs : List Value) : Mem c K ((w.heap.size, T, cs) :: L) O X (w.alloc (.cells cs.toArray T)) := by
  have h2 := h.grow (grow_alloc (World.grownBy.refl w none) (.cells cs.toArray T))
  refine ⟨h2.g, h2.k, fun x hx => ?_, List.Pairwise.cons (fun y hy e => by have h3 := (h.b y hy).2.lt; have e2 : w.heap.size = y.1 := e; omega) h.nd, h2.o, fun r hr x hx => ?_, h.oo, h2.x, h.kk, h.l, h.rs⟩
  · rcases List.mem_cons.1 hx with rfl | hx
    · exact ⟨h.g.size, Blk.at_ w rfl T cs⟩
    · exact h2.b x hx
  · rcases List.mem_cons.1 hx with rfl | hx
    · intro e
      have h1 := ((h.o r hr).lt _ e).2
      have h2 : w.heap.size < w.heap.size := h1
      omega
    · exact h.od r hr x hx
theorem Mem.also (h : Mem c K L O X w) (hl : Lasts2 c.w0.heap.size c.row c.Tt Y) (hy : Y w) : Mem c K L O (Y :: X) w := ⟨h.g, h.k, h.b, h.nd, h.o, h.od, h.oo, fun A hA => by
    rcases List.mem_cons.1 hA with rfl | hA
    · exact hy
    · exact h.x A hA, h.kk, fun A hA => by
    rcases List.mem_cons.1 hA with rfl | hA
    · exact hl
    · exact h.l A hA, h.rs⟩
theorem Mem.fact (h : Mem c K L O X w) (i : Nat) {A : World → Prop} (hi : X[i]? = some A) : A w := h.x A (List.mem_of_getElem? hi)
/-- Some of the facts. -/
def pickI {α : Type} (l : List α) : List Nat → List α
  | [] => []
  | i :: r => match l[i]? with
    | some x => x :: pickI l r
    | none => pickI l r
theorem pickI_mem {α : Type} {l : List α} : ∀ {is : List Nat} {x : α}, x ∈ pickI l is → ∃ i ∈ is, l[i]? = some x
  | [], x, h => by simp [pickI] at h
  | i :: r, x, h => by
    simp only [pickI] at h
    split at h
    · rename_i y hy
      rcases List.mem_cons.1 h with rfl | h
      · exact ⟨i, List.mem_cons_self .., hy⟩
      · obtain ⟨j, hj, hx⟩ := pickI_mem h
        exact ⟨j, List.mem_cons_of_mem _ hj, hx⟩
    · obtain ⟨j, hj, hx⟩ := pickI_mem h
      exact ⟨j, List.mem_cons_of_mem _ hj, hx⟩
/-- All these numbers differ. -/
def allNe : List Nat → Bool
  | [] => true
  | i :: r => r.all (fun j => !Nat.beq i j) && allNe r
theorem pickI_pair {α : Type} {R : α → α → Prop} (hs : ∀ x y, R x y → R y x) {l : List α} (hp : l.Pairwise R) : ∀ {is : List Nat}, allNe is = true → (pickI l is).Pairwise R
  | [], _ => List.Pairwise.nil
  | i :: r, h => by
    simp only [allNe, Bool.and_eq_true] at h
    simp only [pickI]
    split
    · rename_i x hx
      refine List.Pairwise.cons (fun y hy => ?_) (pickI_pair hs hp h.2)
      obtain ⟨j, hj, hy⟩ := pickI_mem hy
      have hne : i ≠ j := fun e => by
        have := List.all_eq_true.1 h.1 j hj
        subst e
        simp at this
      obtain ⟨hi, rfl⟩ := List.getElem?_eq_some_iff.1 hx
      obtain ⟨hj', rfl⟩ := List.getElem?_eq_some_iff.1 hy
      rcases Nat.lt_or_ge i j with h' | h'
      · exact List.pairwise_iff_getElem.1 hp i j hi hj' h'
      · exact hs _ _ (List.pairwise_iff_getElem.1 hp j i hj' hi (by omega))
    · exact pickI_pair hs hp h.2
theorem Mem.pickX (h : Mem c K L O X w) (is : List Nat) : Mem c K L O (pickI X is) w := ⟨h.g, h.k, h.b, h.nd, h.o, h.od, h.oo, fun A hA => by obtain ⟨i, _, hi⟩ := pickI_mem hA; exact h.fact i hi, h.kk, fun A hA => by obtain ⟨i, _, hi⟩ := pickI_mem hA; exact h.l A (List.mem_of_getElem? hi), h.rs⟩
theorem Mem.pickL (h : Mem c K L O X w) (is : List Nat) (hn : allNe is = true) : Mem c K (pickI L is) O X w := ⟨h.g, h.k, fun x hx => by obtain ⟨i, _, hi⟩ := pickI_mem hx; exact h.b x (List.mem_of_getElem? hi), pickI_pair (fun _ _ hr => hr.symm) h.nd hn, h.o, fun r hr x hx => by obtain ⟨i, _, hi⟩ := pickI_mem hx; exact h.od r hr x (List.mem_of_getElem? hi), h.oo, h.x, h.kk, h.l, h.rs⟩
theorem Mem.pickO (h : Mem c K L O X w) (is : List Nat) (hn : allNe is = true) : Mem c K L (pickI O is) X w := ⟨h.g, h.k, h.b, h.nd, fun r hr => by obtain ⟨i, _, hi⟩ := pickI_mem hr; exact h.o r (List.mem_of_getElem? hi), fun r hr => by obtain ⟨i, _, hi⟩ := pickI_mem hr; exact h.od r (List.mem_of_getElem? hi), pickI_pair (fun _ _ hr g hg e => hr g e hg) h.oo hn, h.x, h.kk, h.l, h.rs⟩
/-- Blocks, rows and facts by their places. -/
theorem Mem.pick (h : Mem c K L O X w) (ls os xs : List Nat) (hl : allNe ls = true) (ho : allNe os = true) : Mem c K (pickI L ls) (pickI O os) (pickI X xs) w := ((h.pickL ls hl).pickO os ho).pickX xs
theorem Mem.sub {L' : List (Nat × TypeId × List Value)} (h : Mem c K L O X w) (hs : L'.Sublist L) : Mem c K L' O X w := ⟨h.g, h.k, fun x hx => h.b x (hs.subset hx), h.nd.sublist hs, h.o, fun r hr x hx => h.od r hr x (hs.subset hx), h.oo, h.x, h.kk, h.l, h.rs⟩
/-- A block of the list turns: its new cells stand in its place. -/
def setBlk (g : Nat) (cs : List Value) : List (Nat × TypeId × List Value) → Nat → List (Nat × TypeId × List Value)
  | [], _ => []
  | x :: r, 0 => (g, x.2.1, cs) :: r
  | x :: r, i + 1 => x :: setBlk g cs r i
theorem setBlk_mem {g : Nat} {cs : List Value} : ∀ {i : Nat} {L : List (Nat × TypeId × List Value)} {T : TypeId} {cs0 : List Value}, L[i]? = some (g, T, cs0) → L.Pairwise (fun x y => x.1 ≠ y.1) → ∀ x ∈ setBlk g cs L i, x = (g, T, cs) ∨ (x ∈ L ∧ x.1 ≠ g)
  | _, [], _, _, h, _, x, hx => by simp [setBlk] at hx
  | 0, y :: r, T, cs0, h, hp, x, hx => by
    simp at h; subst h
    rcases List.mem_cons.1 hx with rfl | hx
    · exact .inl rfl
    · exact .inr ⟨List.mem_cons_of_mem _ hx, fun e => (List.pairwise_cons.1 hp).1 x hx e.symm⟩
  | i + 1, y :: r, T, cs0, h, hp, x, hx => by
    have hr : r[i]? = some (g, T, cs0) := by simpa using h
    rcases List.mem_cons.1 hx with rfl | hx
    · exact .inr ⟨List.mem_cons_self .., (List.pairwise_cons.1 hp).1 _ (List.mem_of_getElem? hr)⟩
    · rcases setBlk_mem hr (List.pairwise_cons.1 hp).2 x hx with h1 | ⟨h1, h2⟩
      · exact .inl h1
      · exact .inr ⟨List.mem_cons_of_mem _ h1, h2⟩
theorem setBlk_map {g : Nat} {cs : List Value} : ∀ {i : Nat} {L : List (Nat × TypeId × List Value)} {T : TypeId} {cs0 : List Value}, L[i]? = some (g, T, cs0) → (setBlk g cs L i).map (·.1) = L.map (·.1)
  | _, [], _, _, h => by rfl
  | 0, y :: r, T, cs0, h => by simp at h; subst h; rfl
  | i + 1, y :: r, T, cs0, h => by simp only [setBlk, List.map_cons]; rw [setBlk_map (by simpa using h)]
theorem pairwise_map {L L' : List (Nat × TypeId × List Value)} (h : L'.map (·.1) = L.map (·.1)) (hp : L.Pairwise (fun x y => x.1 ≠ y.1)) : L'.Pairwise (fun x y => x.1 ≠ y.1) := by
  have h1 : (L.map (·.1)).Pairwise (· ≠ ·) := List.pairwise_map.2 hp
  rw [← h] at h1
  exact List.pairwise_map.1 h1
theorem Mem.store (h : Mem c K L O X w) {i g : Nat} {T : TypeId} {cs cs' : List Value} (hm : L[i]? = some (g, T, cs)) (hT : c.Tt.contains T = false) (hg : w.grownBy w' (some g)) (hb : Blk w' g T cs') : Mem c K (setBlk g cs' L i) O X w' := by
  have hmem := List.mem_of_getElem? hm
  have hz : c.w0.heap.size ≤ g := (h.b _ hmem).1
  refine ⟨grow_own h.g hg (fun k e => by cases e; exact hz), h.kk.st _ _ g hz hg h.k, fun x hx => ?_, pairwise_map (setBlk_map hm) h.nd, fun r hr => (h.o r hr).kept hg (.inr (h.od r hr _ hmem)), fun r hr x hx => ?_, h.oo, fun A hA => (h.l A hA).st w w' g T _ (h.blk hmem) (fun e => by simp [e] at hT) (.inl hz) hg (h.x A hA), h.kk, h.l, h.rs⟩
  · rcases setBlk_mem hm h.nd x hx with rfl | ⟨h1, h2⟩
    · exact ⟨hz, hb⟩
    · exact ⟨(h.b x h1).1, (h.b x h1).2.grown hg (fun e => h2 (Option.some.inj e))⟩
  · rcases setBlk_mem hm h.nd x hx with rfl | ⟨h1, h2⟩
    · exact h.od r hr (g, T, cs) hmem
    · exact h.od r hr x h1
/-- A row of the call's own turns: its value, its elements. -/
def setOwn (r : Own) : List Own → Nat → List Own
  | [], _ => []
  | _ :: l, 0 => r :: l
  | x :: l, i + 1 => x :: setOwn r l i
theorem setOwn_mem {r : Own} : ∀ {O : List Own} {i : Nat} {r0 : Own}, O[i]? = some r0 → O.Pairwise (fun r s => ∀ g, r.v.ownBlock = some g → s.v.ownBlock ≠ some g) → ∀ x ∈ setOwn r O i, x = r ∨ (x ∈ O ∧ ∀ g, r0.v.ownBlock = some g → x.v.ownBlock ≠ some g)
  | [], _, _, h, _, x, hx => by simp [setOwn] at hx
  | y :: l, 0, r0, h, hp, x, hx => by
    simp at h; subst h
    rcases List.mem_cons.1 hx with rfl | hx
    · exact .inl rfl
    · exact .inr ⟨List.mem_cons_of_mem _ hx, (List.pairwise_cons.1 hp).1 x hx⟩
  | y :: l, i + 1, r0, h, hp, x, hx => by
    have hr : l[i]? = some r0 := by simpa using h
    rcases List.mem_cons.1 hx with rfl | hx
    · exact .inr ⟨List.mem_cons_self .., fun g hg e => (List.pairwise_cons.1 hp).1 _ (List.mem_of_getElem? hr) g e hg⟩
    · rcases setOwn_mem hr (List.pairwise_cons.1 hp).2 x hx with h1 | ⟨h1, h2⟩
      · exact .inl h1
      · exact .inr ⟨List.mem_cons_of_mem _ h1, h2⟩
theorem setOwn_pair {r : Own} : ∀ {O : List Own} {i : Nat} {r0 : Own}, O[i]? = some r0 → O.Pairwise (fun r s => ∀ g, r.v.ownBlock = some g → s.v.ownBlock ≠ some g) → (∀ x ∈ O, (∀ g, r0.v.ownBlock = some g → x.v.ownBlock ≠ some g) → ∀ g, r.v.ownBlock = some g → x.v.ownBlock ≠ some g) →
    (setOwn r O i).Pairwise (fun r s => ∀ g, r.v.ownBlock = some g → s.v.ownBlock ≠ some g)
  | [], _, _, h, _, _ => by simp at h
  | y :: l, 0, r0, h, hp, hn => by
    simp at h; subst h
    exact List.Pairwise.cons (fun x hx => hn x (List.mem_cons_of_mem _ hx) ((List.pairwise_cons.1 hp).1 x hx)) (List.pairwise_cons.1 hp).2
  | y :: l, i + 1, r0, h, hp, hn => by
    have hr : l[i]? = some r0 := by simpa using h
    refine List.Pairwise.cons (fun x hx => ?_) (setOwn_pair hr (List.pairwise_cons.1 hp).2 fun x hx => hn x (List.mem_cons_of_mem _ hx))
    rcases setOwn_mem hr (List.pairwise_cons.1 hp).2 x hx with rfl | ⟨h1, h2⟩
    · intro g hg e
      exact hn y (List.mem_cons_self ..) (fun g' hg' e' => (List.pairwise_cons.1 hp).1 _ (List.mem_of_getElem? hr) g' e' hg') g e hg
    · exact (List.pairwise_cons.1 hp).1 x h1
/-- Behind an append onto a row of the call's own. -/
theorem Mem.append (h : Mem c K L O X w) {i : Nat} {r : Own} {v' : Value} {n' : Nat} {xs' : List Value} (hm : O[i]? = some r) (hT : c.Tt.contains r.e = false) (hown : w'.ownsRow c.w0.heap.size r.e r.sz v' n' xs') (hg : w.grownBy w' r.v.ownBlock) (hb : v'.ownBlock = r.v.ownBlock ∨ v'.ownBlock = some w.heap.size) :
    Mem c K L (setOwn ⟨v', r.e, r.sz, n', xs'⟩ O i) X w' := by
  have hmem := List.mem_of_getElem? hm
  have hr := h.o r hmem
  have hnew : ∀ x ∈ L, v'.ownBlock ≠ some x.1 := fun x hx => by
    rcases hb with hb | hb
    · rw [hb]; exact h.od r hmem x hx
    · rw [hb]; intro e; have := (h.b x hx).2.lt; injection e with e; omega
  have hfar : ∀ x ∈ O, (∀ g, r.v.ownBlock = some g → x.v.ownBlock ≠ some g) → ∀ g, v'.ownBlock = some g → x.v.ownBlock ≠ some g := fun x hx hne g hg' e => by
    rcases hb with hb | hb
    · exact hne g (hb ▸ hg') e
    · have h1 := ((h.o x hx).lt _ e).2
      rw [hb] at hg'
      injection hg' with hg'
      omega
  have hX : (∀ A ∈ X, A w') ∧ K w' ∧ c.w0.grownBy w' c.row := by
    cases hv : r.v.ownBlock with
    | none =>
      rw [hv] at hg
      exact ⟨fun A hA => (h.l A hA).gr _ _ hg (h.x A hA), h.kk.gr _ _ hg h.k, grow_trans h.g (grow_weak hg)⟩
    | some g =>
      rw [hv] at hg
      have hz := (hr.lt g hv).1
      rcases hr.2 with ⟨e, _⟩ | ⟨g', cap, cur, e, _, hh, _⟩
      · rw [e] at hv; cases hv
      · rw [e] at hv
        have hgg : g' = g := Option.some.inj hv
        subst hgg
        exact ⟨fun A hA => (h.l A hA).st w w' g' r.e cur hh (fun e => by simp [e] at hT) (.inl hz) hg (h.x A hA), h.kk.st _ _ _ hz hg h.k, grow_own h.g hg (fun k e => by cases e; exact hz)⟩
  refine ⟨hX.2.2, hX.2.1, fun x hx => ⟨(h.b x hx).1, (h.b x hx).2.grown hg (fun e => h.od r hmem x hx e.symm)⟩, h.nd, fun s hs => ?_, fun s hs x hx => ?_, setOwn_pair hm h.oo hfar, hX.1, h.kk, h.l, h.rs⟩
  · rcases setOwn_mem hm h.oo s hs with rfl | ⟨h1, h2⟩
    · exact hown
    · refine (h.o s h1).kept hg ?_
      cases hv : s.v.ownBlock with
      | none => exact .inl rfl
      | some g => exact .inr (fun e => h2 g e.symm hv)
  · rcases setOwn_mem hm h.oo s hs with rfl | ⟨h1, _⟩
    · exact hnew x hx
    · exact h.od s h1 x hx
/-- A row of the call's own begins: nil. -/
theorem Mem.nilOwn (h : Mem c K L O X w) (e : TypeId) (sz : Nat) : Mem c K L (⟨.slice none 0 0, e, sz, 0, []⟩ :: O) X w :=
  ⟨h.g, h.k, h.b, h.nd, fun r hr => by
    rcases List.mem_cons.1 hr with rfl | hr
    · exact ⟨by simp, .inl ⟨rfl, rfl⟩⟩
    · exact h.o r hr, fun r hr x hx => by
    rcases List.mem_cons.1 hr with rfl | hr
    · simp [Value.ownBlock]
    · exact h.od r hr x hx, List.Pairwise.cons (fun x _ g hg => by cases hg) h.oo, h.x, h.kk, h.l, h.rs⟩
/-- A row that has just been made becomes one of the call's own. -/
theorem Mem.newOwn (h : Mem c K L O X w) (hg : w.grownBy w' none) {v : Value} {e : TypeId} {sz n : Nat} {xs : List Value} (hown : w'.ownsRow w.heap.size e sz v n xs) : Mem c K L (⟨v, e, sz, n, xs⟩ :: O) X w' := by
  have h2 := h.grow hg
  refine ⟨h2.g, h2.k, h2.b, h2.nd, fun r hr => ?_, fun r hr x hx => ?_, List.Pairwise.cons (fun x hx g hg' e' => ?_) h.oo, h2.x, h.kk, h.l, h.rs⟩
  · rcases List.mem_cons.1 hr with rfl | hr
    · refine ⟨hown.1, ?_⟩
      rcases hown.2 with hn | ⟨g, cap, cur, h1, h3, h4⟩
      · exact .inl hn
      · exact .inr ⟨g, cap, cur, h1, Nat.le_trans h.g.size h3, h4⟩
    · exact h2.o r hr
  · rcases List.mem_cons.1 hr with rfl | hr
    · intro e'
      have h3 := (hown.lt _ e').1
      have h4 := (h.b x hx).2.lt
      omega
    · exact h.od r hr x hx
  · have h3 := (hown.lt _ hg').1
    have h4 := ((h.o x hx).lt _ e').2
    omega
theorem Mem.subOwn {O' : List Own} (h : Mem c K L O X w) (hs : O'.Sublist O) : Mem c K L O' X w := ⟨h.g, h.k, h.b, h.nd, fun r hr => h.o r (hs.subset hr), fun r hr => h.od r (hs.subset hr), h.oo.sublist hs, h.x, h.kk, h.l, h.rs⟩
end

section
variable {P : Program} {c : Cx} {ops : Array Oper} {Q : Exit → Act → World → Prop} {rest : List Oper} {S : List (Nat × Value)} {K : World → Prop} {L : List (Nat × TypeId × List Value)} {O : List Own} {X : List (World → Prop)}
/-- The operations l are still to come. -/
def WL (P : Program) (c : Cx) (ops : Array Oper) (Q : Exit → Act → World → Prop) (l : List Oper) (S : List (Nat × Value)) (K : World → Prop) (L : List (Nat × TypeId × List Value)) (O : List Own) (X : List (World → Prop)) : Prop :=
  ∀ a w, Has S c.n a → Mem c K L O X w → wpList P ops Q l a w
/-- Code is still to come. -/
def Gw (P : Program) (c : Cx) (Q : Exit → Act → World → Prop) (code : Code) (S : List (Nat × Value)) (K : World → Prop) (L : List (Nat × TypeId × List Value)) (O : List Own) (X : List (World → Prop)) : Prop :=
  ∀ a w, Has S c.n a → Mem c K L O X w → code.wp P Q a w
/-- An exit has been reached. -/
def Nx (c : Cx) (Q : Exit → Act → World → Prop) (e : Exit) (S : List (Nat × Value)) (K : World → Prop) (L : List (Nat × TypeId × List Value)) (O : List Own) (X : List (World → Prop)) : Prop :=
  ∀ a w, Has S c.n a → Mem c K L O X w → Q e a w

theorem gw_seq {x y : Code} (h : Gw P c (Exit.then (y.wp P Q) Q) x S K L O X) : Gw P c Q (.seq x y) S K L O X := fun a w ha hm => wp_seq (h a w ha hm)
theorem gw_region {id : Nat} {l : List Oper} (h : WL P c l.toArray Q l S K L O X) : Gw P c Q (.region id l.toArray false) S K L O X := fun a w ha hm => wp_region_lit (h a w ha hm)
theorem wl_nil (h : Nx c Q .normal S K L O X) : WL P c ops Q [] S K L O X := fun a w ha hm => wpList_nil (h a w ha hm)
theorem gw_skip (h : Nx c Q .normal S K L O X) : Gw P c Q .skip S K L O X := fun a w ha hm => wp_skip (h a w ha hm)
theorem gw_ret (h : Nx c Q .ret S K L O X) : Gw P c Q .ret S K L O X := fun a w ha hm => wp_ret (h a w ha hm)
theorem gw_exit {id : Nat} (h : Nx c Q (.exit id) S K L O X) : Gw P c Q (.exit id) S K L O X := fun a w ha hm => wp_exit (h a w ha hm)
theorem gw_block {id : Nat} {x : Code} (h : Gw P c (Exit.inBlock id Q) x S K L O X) : Gw P c Q (.block id x) S K L O X := fun a w ha hm => wp_block (h a w ha hm)
theorem gw_cond {x : Operand} {y z : Code} {b : Bool} (hx : rd S x = some (.bool b)) (ht : b = true → Gw P c Q y S K L O X) (hf : b = false → Gw P c Q z S K L O X) : Gw P c Q (.cond x y z) S K L O X :=
  fun a w ha hm => wp_cond_split (ha.eval hx) (fun h => ht h a w ha hm) (fun h => hf h a w ha hm)
theorem nx_then {y : Code} (h : Gw P c Q y S K L O X) : Nx c (Exit.then (y.wp P Q) Q) .normal S K L O X := h
theorem nx_then_ret {Y : Act → World → Prop} (h : Nx c Q .ret S K L O X) : Nx c (Exit.then Y Q) .ret S K L O X := h
theorem nx_then_exit {Y : Act → World → Prop} {id : Nat} (h : Nx c Q (.exit id) S K L O X) : Nx c (Exit.then Y Q) (.exit id) S K L O X := h
theorem nx_blk_ret {id : Nat} (h : Nx c Q .ret S K L O X) : Nx c (Exit.inBlock id Q) .ret S K L O X := h
theorem nx_blk_nrm {id : Nat} (h : Nx c Q .normal S K L O X) : Nx c (Exit.inBlock id Q) .normal S K L O X := h
theorem nx_blk_here {id : Nat} (h : Nx c Q .normal S K L O X) : Nx c (Exit.inBlock id Q) (.exit id) S K L O X := fun a w ha hm => by
  simp only [Exit.inBlock, if_true]; exact h a w ha hm
theorem nx_blk_on {id id' : Nat} (hne : Nat.beq id' id = false) (h : Nx c Q (.exit id') S K L O X) : Nx c (Exit.inBlock id Q) (.exit id') S K L O X := fun a w ha hm => by
  have : id' ≠ id := fun e => by subst e; simp at hne
  simp only [Exit.inBlock, if_neg this]; exact h a w ha hm
/-- Fewer slots, fewer blocks, other facts. -/
theorem nx_weak {e : Exit} {S' : List (Nat × Value)} {K' : World → Prop} {L' : List (Nat × TypeId × List Value)} {O' : List Own} {X' : List (World → Prop)} (hs : Sub S S') (hM : ∀ w, Mem c K L O X w → Mem c K' L' O' X' w) (h : Nx c Q e S' K' L' O' X') : Nx c Q e S K L O X :=
  fun a w ha hm => h a w (ha.sub hs.look) (hM w hm)
theorem gw_weak {code : Code} {S' : List (Nat × Value)} {K' : World → Prop} {L' : List (Nat × TypeId × List Value)} {O' : List Own} {X' : List (World → Prop)} (hs : Sub S S') (hM : ∀ w, Mem c K L O X w → Mem c K' L' O' X' w) (h : Gw P c Q code S' K' L' O' X') : Gw P c Q code S K L O X :=
  fun a w ha hm => h a w (ha.sub hs.look) (hM w hm)
theorem wl_weak {l : List Oper} {S' : List (Nat × Value)} {K' : World → Prop} {L' : List (Nat × TypeId × List Value)} {O' : List Own} {X' : List (World → Prop)} (hs : Sub S S') (hM : ∀ w, Mem c K L O X w → Mem c K' L' O' X' w) (h : WL P c ops Q l S' K' L' O' X') : WL P c ops Q l S K L O X :=
  fun a w ha hm => h a w (ha.sub hs.look) (hM w hm)
/-- A fact about the world at hand is looked at. -/
theorem gw_look {code : Code} {R : Prop} (hr : ∀ w, Mem c K L O X w → R) (h : R → Gw P c Q code S K L O X) : Gw P c Q code S K L O X := fun a w ha hm => h (hr w hm) a w ha hm
theorem wl_look {l : List Oper} {R : Prop} (hr : ∀ w, Mem c K L O X w → R) (h : R → WL P c ops Q l S K L O X) : WL P c ops Q l S K L O X := fun a w ha hm => h (hr w hm) a w ha hm
/-- A loop: what holds at its head is a family of states. -/
theorem gw_loop {γ : Type} {code : Code} (I : γ → Prop) (S' : γ → List (Nat × Value)) (K' : γ → World → Prop) (L' : γ → List (Nat × TypeId × List Value)) (O' : γ → List Own) (X' : γ → List (World → Prop)) (μ : γ → Nat)
    (g0 : γ) (h0 : I g0) (hs : Sub S (S' g0)) (hM : ∀ w, Mem c K L O X w → Mem c (K' g0) (L' g0) (O' g0) (X' g0) w)
    (h : ∀ g, I g → Gw P c (Exit.then (fun a w => ∃ g', (I g' ∧ Has (S' g') c.n a ∧ Mem c (K' g') (L' g') (O' g') (X' g') w) ∧ μ g' < μ g) Q) code (S' g) (K' g) (L' g) (O' g) (X' g)) : Gw P c Q (.loop code) S K L O X := by
  intro a w ha hm
  intro b k cs
  have key : ∀ n a w, (∃ g, I g ∧ Has (S' g) c.n a ∧ Mem c (K' g) (L' g) (O' g) (X' g) w ∧ μ g = n) →
      ∃ e a' w', Q e a' w' ∧ Arrives P (lone (b.at a (.code code :: .inLoop code :: k)) cs w) b k cs e a' w' := by
    intro n
    induction n using Nat.strongRecOn with
    | _ n ih =>
      intro a w ⟨g, hI, hS, hmm, hk⟩
      obtain ⟨e, a₁, w₁, hq, harr⟩ := h g hI a w hS hmm b (.inLoop code :: k) cs
      cases e with
      | normal =>
        obtain ⟨g', ⟨hI', hS', hm'⟩, hlt⟩ := hq
        obtain ⟨e₂, a₂, w₂, hq₂, harr₂⟩ := ih (μ g') (hk ▸ hlt) a₁ w₁ ⟨g', hI', hS', hm', rfl⟩
        exact ⟨e₂, a₂, w₂, hq₂, .of_steps (Steps.trans harr (.one step_inLoop)) harr₂⟩
      | exit id => exact ⟨_, a₁, w₁, hq, .pass (x := .inLoop code) rfl (fun _ _ => .inl (by simp)) harr⟩
      | goto l => exact ⟨_, a₁, w₁, hq, .pass (x := .inLoop code) rfl (fun _ _ => .inl (by simp)) harr⟩
      | ret => exact ⟨_, a₁, w₁, hq, .pass (x := .inLoop code) rfl (fun _ _ => .inl (by simp)) harr⟩
      | panic ch => exact ⟨_, a₁, w₁, hq, .pass (x := .inLoop code) rfl (fun _ _ => .inl (by simp)) harr⟩
      | outgrown => exact ⟨_, a₁, w₁, hq, .pass (x := .inLoop code) rfl (fun _ _ => .inl (by simp)) harr⟩
  obtain ⟨e, a', w', hq, harr⟩ := key _ a w ⟨g0, h0, ha.sub hs.look, hM w hm, rfl⟩
  exact ⟨e, a', w', hq, .of_steps (.one step_loop) harr⟩
end

end Go.Proofs.YtljnekobfjpfaaaDoor
/- The steps of a walk over slots and blocks: one law for each kind of operation. -/
namespace Go.Proofs.YtljnekobfjpfaaaDoor
open Go.RowKit

/-! What the laws ask of the program's types, each a closed fact. -/
def scalarB (P : Program) (t : TypeId) : Bool :=
  match P.underlying t with
  | none | some (.struct _) | some (.array ..) => false
  | _ => match P.info? t with
    | some i => i.size == 1
    | none => false
def rowSz (P : Program) (t : TypeId) : Option Nat :=
  match P.underlying t with
  | some (.struct _) | some (.array ..) => (P.info? t).map (·.size)
  | _ => none
def fieldOff (P : Program) (t : TypeId) (i : Nat) : Option Nat :=
  match P.underlying t with
  | some (.struct fs) => match fs[i]? with
    | some f => match P.info? f.type with
      | some inf => if inf.size = 0 then none else some f.offset
      | none => none
    | none => none
  | _ => none
def elemSz (P : Program) (t : TypeId) : Option (TypeId × Nat) :=
  match P.underlying t with
  | some (.slice e) => (P.info? e).map fun i => (e, i.size)
  | _ => none
def zeroCs (P : Program) (t : TypeId) : Option (List Value) := ((P.info? t).bind (·.zero)).map (·.cells.toList)
def callableB (P : Program) (f : FuncId) : Bool :=
  match P.funcs[f]? with
  | some fn => !(fn.name == "runtime.NumGoroutine") && fn.body.isSome
  | none => false
def builtRow (P : Program) (t : TypeId) (len : Nat) (parts : List (Nat × Value)) : Option (TypeId × List Value) :=
  match P.underlying t with
  | some (.slice e) => match P.info? e with
    | some i => match i.zero with
      | some z => if len * i.size > 2 ^ 24 ∨ len * i.size = 0 then none else
        (Instr.fill (fun k => some (k * i.size, i.size)) ((Array.range (len * i.size)).map (z.cells[· % z.cells.size]!)) parts).map fun cs => (e, cs.toList)
      | none => none
    | none => none
  | _ => none

section
variable {P : Program} {c : Cx} {ops : Array Oper} {Q : Exit → Act → World → Prop} {rest : List Oper} {S : List (Nat × Value)} {K : World → Prop} {L : List (Nat × TypeId × List Value)} {O : List Own} {X : List (World → Prop)}
variable {nn : Nat} {Z : World → Prop} {d : Nat} {ty : TypeId} {pos : String} {aft : Array Edge}

/-- An operation that yields a value and leaves the world alone. -/
theorem wl_run {op : Op} {v : Value} (hd : Nat.ble (d + 1) c.n = true) (hrun : ∀ a w, Has S c.n a → Mem c K L O X w → (execOp a.eval ⟨some d, op, ty, pos, aft, none⟩).run P w = .ok (.value v) w)
    (h : WL P c ops Q rest ((d, v) :: S) K L O X) : WL P c ops Q (⟨some d, op, ty, pos, aft, none⟩ :: rest) S K L O X := by
  intro a w ha hm
  refine wpList_plain rfl fun K' hK => ?_
  unfold Oper.wp
  rw [hrun a w ha hm]
  exact hK _ _ (h _ _ (ha.put hd v) hm)
/-- An operation that yields the value v in every world of which Z holds, and leaves it alone. -/
def OV (P : Program) (nn : Nat) (S : List (Nat × Value)) (Z : World → Prop) (o : Oper) (v : Value) : Prop := ∀ a w, Has S nn a → Z w → (execOp a.eval o).run P w = .ok (.value v) w
theorem wl_ov {op : Op} {v : Value} (ho : OV P c.n S (Mem c K L O X) ⟨some d, op, ty, pos, aft, none⟩ v) (hd : Nat.ble (d + 1) c.n = true) (h : WL P c ops Q rest ((d, v) :: S) K L O X) : WL P c ops Q (⟨some d, op, ty, pos, aft, none⟩ :: rest) S K L O X := wl_run hd ho h
theorem ov_move {x : Operand} {v : Value} (hx : rd S x = some v) : OV P nn S Z ⟨some d, .move x, ty, pos, aft, none⟩ (v) :=
  (fun a w ha hm => by simp [execOp, ha.eval hx])
theorem ov_assign {x : Operand} {v : Value} (hx : rd S x = some v) : OV P nn S Z ⟨some d, .assign x, ty, pos, aft, none⟩ (v) :=
  (fun a w ha hm => by simp [execOp, ha.eval hx])
theorem ov_pick {x y z : Operand} {b b1 b2 : Bool} (hx : rd S x = some (.bool b)) (hy : rd S y = some (.bool b1)) (hz : rd S z = some (.bool b2)) : OV P nn S Z ⟨some d, .pick x y z, ty, pos, aft, none⟩ (.bool (bif b then b1 else b2)) :=
  (fun a w ha hm => by cases b <;> simp [execOp, ha.eval hx, ha.eval hy, ha.eval hz, asBool])
theorem ov_pick_t {x y z : Operand} {v : Value} (hx : rd S x = some (.bool true)) (hy : rd S y = some v) : OV P nn S Z ⟨some d, .pick x y z, ty, pos, aft, none⟩ (v) :=
  (fun a w ha hm => by simp [execOp, ha.eval hx, ha.eval hy, asBool])
theorem ov_pick_f {x y z : Operand} {v : Value} (hx : rd S x = some (.bool false)) (hz : rd S z = some v) : OV P nn S Z ⟨some d, .pick x y z, ty, pos, aft, none⟩ (v) :=
  (fun a w ha hm => by simp [execOp, ha.eval hx, ha.eval hz, asBool])
/-- A guard that is met; one that is not. -/
theorem wl_guard_on {o : Oper} {j : Nat} {b : Bool} {t : Nat} {op : Op} {dst : Option Nat} (ho : o = ⟨dst, op, ty, pos, aft, some (j, b)⟩) (hj : (ops[j]?).bind (·.dst) = some t) (hb : look S t = some (.bool b)) (h : WL P c ops Q (⟨dst, op, ty, pos, aft, none⟩ :: rest) S K L O X) : WL P c ops Q (o :: rest) S K L O X := by
  subst ho
  intro a w ha hm
  have h1 := h a w ha hm
  unfold wpList at h1 ⊢
  have hy : yielded ops a.tmps j = some b := by
    unfold yielded
    rw [hj]
    simp [ha.val t _ hb]
  rw [if_pos (by simp [Region.wanted, hy])]
  rw [if_pos (by simp [Region.wanted])] at h1
  exact h1
theorem wl_guard_off {o : Oper} {j : Nat} {b b' : Bool} {t : Nat} {op : Op} (ho : o = ⟨some d, op, ty, pos, aft, some (j, b)⟩) (hj : (ops[j]?).bind (·.dst) = some t) (hb : look S t = some (.bool b')) (hne : b' ≠ b) (hd : Nat.ble (d + 1) c.n = true) (h : WL P c ops Q rest ((d, undef) :: S) K L O X) : WL P c ops Q (o :: rest) S K L O X := by
  subst ho
  intro a w ha hm
  unfold wpList
  have hy : yielded ops a.tmps j = some b' := by
    unfold yielded
    rw [hj]
    simp [ha.val t _ hb]
  rw [if_neg (by simp [Region.wanted, hy, hne])]
  exact h _ _ (ha.put hd _) hm
theorem ov_un_not {x : Operand} {b : Bool} (hx : rd S x = some (.bool b)) {t : TypeId} : OV P nn S Z ⟨some d, .unOp .not t x, ty, pos, aft, none⟩ (.bool (!b)) :=
  (fun a w ha hm => by simp [execOp, ha.eval hx, Op.unary])
theorem ov_neg {x : Operand} {m : Int} (hx : rd S x = some (.int .i64 m)) (h0 : -9223372036854775807 ≤ m) (h1 : m ≤ 9223372036854775807) {t : TypeId} : OV P nn S Z ⟨some d, .unOp .neg t x, ty, pos, aft, none⟩ (.int .i64 (-m)) :=
  (fun a w ha hm => by
    have : IntKind.i64.wrap (-m) = -m := IntWalk.i64_in _ (by omega)
    simp [execOp, ha.eval hx, Op.unary, Op.intArith, this])
theorem ov_bin {op : BinOp} {t t' : TypeId} {x y : Operand} {vx vy v : Value} (hx : rd S x = some vx) (hy : rd S y = some vy) (hrun : ∀ w, (do eqGuard op t x y vx vy; binOp op t vx vy : Sem Value).run P w = .ok v w) : OV P nn S Z ⟨some d, .binOp op t x y t', ty, pos, aft, none⟩ (v) :=
  (fun a w ha hm => by
    have := hrun w
    simp only [execOp, ha.eval hx, ha.eval hy]
    rw [Sem.run_bind, this]
    rfl)
theorem ov_add {t t' : TypeId} {x y : Operand} {m n : Int} (hx : rd S x = some (.int .i64 m)) (hy : rd S y = some (.int .i64 n)) (h0 : -9223372036854775808 ≤ m + n) (h1 : m + n ≤ 9223372036854775807) : OV P nn S Z ⟨some d, .binOp .add t x y t', ty, pos, aft, none⟩ (.int .i64 (m + n)) :=
  ov_bin hx hy (fun w => by have : IntKind.i64.wrap (m + n) = m + n := IntWalk.i64_in _ (by omega)
                            simp [binOp_add, Op.intArith, this, go_sem])
theorem ov_sub {t t' : TypeId} {x y : Operand} {m n : Int} (hx : rd S x = some (.int .i64 m)) (hy : rd S y = some (.int .i64 n)) (h0 : -9223372036854775808 ≤ m - n) (h1 : m - n ≤ 9223372036854775807) : OV P nn S Z ⟨some d, .binOp .sub t x y t', ty, pos, aft, none⟩ (.int .i64 (m - n)) :=
  ov_bin hx hy (fun w => by have : IntKind.i64.wrap (m - n) = m - n := IntWalk.i64_in _ (by omega)
                            simp [binOp_sub, Op.intArith, this, go_sem])
theorem ov_mul {t t' : TypeId} {x y : Operand} {m n : Int} (hx : rd S x = some (.int .i64 m)) (hy : rd S y = some (.int .i64 n)) (h0 : -9223372036854775808 ≤ m * n) (h1 : m * n ≤ 9223372036854775807) : OV P nn S Z ⟨some d, .binOp .mul t x y t', ty, pos, aft, none⟩ (.int .i64 (m * n)) :=
  ov_bin hx hy (fun w => by have : IntKind.i64.wrap (m * n) = m * n := IntWalk.i64_in _ (by omega)
                            simp [binOp_mul, Op.intArith, this, go_sem])
theorem ov_lss {t t' : TypeId} {x y : Operand} {k : IntKind} {m n : Int} (hx : rd S x = some (.int k m)) (hy : rd S y = some (.int k n)) : OV P nn S Z ⟨some d, .binOp .lss t x y t', ty, pos, aft, none⟩ (.bool (decide (m < n))) :=
  ov_bin hx hy (fun w => by simp [go_sem])
theorem ov_leq {t t' : TypeId} {x y : Operand} {k : IntKind} {m n : Int} (hx : rd S x = some (.int k m)) (hy : rd S y = some (.int k n)) : OV P nn S Z ⟨some d, .binOp .leq t x y t', ty, pos, aft, none⟩ (.bool (decide (m ≤ n))) :=
  ov_bin hx hy (fun w => by simp [go_sem])
theorem ov_gtr {t t' : TypeId} {x y : Operand} {k : IntKind} {m n : Int} (hx : rd S x = some (.int k m)) (hy : rd S y = some (.int k n)) : OV P nn S Z ⟨some d, .binOp .gtr t x y t', ty, pos, aft, none⟩ (.bool (decide (n < m))) :=
  ov_bin hx hy (fun w => by simp [go_sem])
theorem ov_geq {t t' : TypeId} {x y : Operand} {k : IntKind} {m n : Int} (hx : rd S x = some (.int k m)) (hy : rd S y = some (.int k n)) : OV P nn S Z ⟨some d, .binOp .geq t x y t', ty, pos, aft, none⟩ (.bool (decide (n ≤ m))) :=
  ov_bin hx hy (fun w => by simp [go_sem])
theorem ov_eql {t t' : TypeId} {x y : Operand} {k : IntKind} {m n : Int} (hx : rd S x = some (.int k m)) (hy : rd S y = some (.int k n)) : OV P nn S Z ⟨some d, .binOp .eql t x y t', ty, pos, aft, none⟩ (.bool (decide (m = n))) :=
  ov_bin hx hy (fun w => by simp [go_sem]; rfl)
theorem ov_neq {t t' : TypeId} {x y : Operand} {k : IntKind} {m n : Int} (hx : rd S x = some (.int k m)) (hy : rd S y = some (.int k n)) : OV P nn S Z ⟨some d, .binOp .neq t x y t', ty, pos, aft, none⟩ (.bool (!decide (m = n))) :=
  ov_bin hx hy (fun w => by simp [go_sem]; rfl)
theorem ov_seql {t t' : TypeId} {x y : Operand} {m n : ByteArray} (hx : rd S x = some (.string m)) (hy : rd S y = some (.string n)) : OV P nn S Z ⟨some d, .binOp .eql t x y t', ty, pos, aft, none⟩ (.bool (m.toList == n.toList)) :=
  ov_bin hx hy (fun w => by simp [go_sem])
theorem ov_sneq {t t' : TypeId} {x y : Operand} {m n : ByteArray} (hx : rd S x = some (.string m)) (hy : rd S y = some (.string n)) : OV P nn S Z ⟨some d, .binOp .neq t x y t', ty, pos, aft, none⟩ (.bool (!(m.toList == n.toList))) :=
  ov_bin hx hy (fun w => by simp [go_sem])
theorem ov_sleq {t t' : TypeId} {x y : Operand} {m n : ByteArray} (hx : rd S x = some (.string m)) (hy : rd S y = some (.string n)) : OV P nn S Z ⟨some d, .binOp .leq t x y t', ty, pos, aft, none⟩ (.bool (Op.bytesLess m.toList n.toList || m.toList == n.toList)) :=
  ov_bin hx hy (fun w => by simp [go_sem])
theorem ov_extract {x : Operand} {i : Nat} {vs : List Value} {v : Value} (hx : rd S x = some (.tuple vs.toArray)) (hv : vs[i]? = some v) : OV P nn S Z ⟨some d, .extract x i, ty, pos, aft, none⟩ (v) :=
  (fun a w ha hm => by simp [execOp, ha.eval hx, Instr.extract, hv])
theorem run_field {t : TypeId} {i off g o : Nat} (hf : fieldOff P t i = some off) (w : World) : (Instr.fieldAt t (.pointer (some ⟨g, o, none⟩)) i).run P w = .ok (.pointer (some ⟨g, o + off, none⟩)) w := by
  unfold fieldOff at hf
  split at hf
  · rename_i fs hu
    split at hf
    · rename_i f hfi
      split at hf
      · rename_i inf hi
        split at hf
        · cases hf
        · rename_i hz
          simp only [Option.some.injEq] at hf
          subst hf
          have : (⟨g, o, none⟩ : Addr).add f.offset = ⟨g, o + f.offset, none⟩ := by
            unfold Addr.add
            split
            · rename_i e; rw [e]; rfl
            · rfl
          simp [Instr.fieldAt, run_underlying hu, hfi, Instr.sureAddr, fieldPlace, sizeOf, typeInfo, hi, hz, this]
      · cases hf
    · cases hf
  · cases hf
theorem ov_field {t : TypeId} {x : Operand} {i off g o o' : Nat} (hf : fieldOff P t i = some off) (hx : rd S x = some (.pointer (some ⟨g, o, none⟩))) (ho : o + off = o') : OV P nn S Z ⟨some d, .fieldAddr t x i, ty, pos, aft, none⟩ (.pointer (some ⟨g, o', none⟩)) :=
  (fun a w ha hm => by subst ho; simp only [execOp, ha.eval hx]; rw [Sem.run_bind, run_field hf]; rfl)
theorem add_addr (b off n : Nat) : (⟨b, off, none⟩ : Addr).add n = ⟨b, off + n, none⟩ := by
  unfold Addr.add
  split
  · rename_i h; subst h; rfl
  · rfl
theorem run_index {t e : TypeId} {sz b off n cap j : Nat} (he : elemSz P t = some (e, sz)) (hj : j < n) (w : World) : (Instr.indexAt t (.slice (some ⟨b, off, none⟩) n cap) (.int .i64 (j : Int))).run P w = .ok (.pointer (some ⟨b, off + j * sz, none⟩)) w := by
  unfold elemSz at he
  split at he
  · rename_i e' hu
    cases hi : P.info? e' with
    | none => simp [hi] at he
    | some inf =>
      simp only [hi, Option.map_some, Option.some.injEq, Prod.mk.injEq] at he
      obtain ⟨rfl, rfl⟩ := he
      have hlt : (0 : Int) ≤ (j : Int) ∧ (j : Int) < (n : Int) := ⟨by omega, by omega⟩
      simp [Instr.indexAt, run_underlying hu, asIntOf, sizeOf, typeInfo, hi, add_addr]
      omega
  · cases he
theorem ov_index {t e : TypeId} {x y : Operand} {sz b off n cap j : Nat} (he : elemSz P t = some (e, sz)) (hx : rd S x = some (.slice (some ⟨b, off, none⟩) n cap)) (hy : rd S y = some (.int .i64 (j : Int))) (hj : j < n) : OV P nn S Z ⟨some d, .indexAddr t x y, ty, pos, aft, none⟩ (.pointer (some ⟨b, off + j * sz, none⟩)) :=
  (fun a w ha hm => by simp only [execOp, ha.eval hx, ha.eval hy]; rw [Sem.run_bind, run_index he hj]; rfl)
theorem run_scalar {t : TypeId} (hs : scalarB P t = true) (w : World) : (isAgg t).run P w = .ok false w ∧ (sizeOf t).run P w = .ok 1 w := by
  unfold scalarB at hs
  cases hu : P.underlying t with
  | none => simp [hu] at hs
  | some dd =>
    cases hi : P.info? t with
    | none => cases dd <;> simp [hu, hi] at hs
    | some inf =>
      have h1 : inf.size = 1 := by cases dd <;> simp_all
      refine ⟨?_, by simp [sizeOf, typeInfo, hi, h1]⟩
      unfold isAgg
      rw [Sem.run_bind, run_underlying hu]
      cases dd <;> simp_all
theorem ov_load_at {t : TypeId} {x : Operand} {g o : Nat} {v : Value} (hs : scalarB P t = true) (hx : rd S x = some (.pointer (some ⟨g, o, none⟩))) (hc : ∀ w, Z w → w.cell? ⟨g, o, none⟩ = some v) : OV P nn S Z ⟨some d, .load t x, ty, pos, aft, none⟩ (v) :=
  (fun a w ha hm => by
    simp only [execOp, ha.eval hx, Instr.loadAt, Instr.sureAddr, loadVar]
    simp [(run_scalar hs w).1, hc w hm])
theorem ov_load {t : TypeId} {x : Operand} {g o : Nat} {v : Value} {T : TypeId} {cs : List Value} (hs : scalarB P t = true) (hx : rd S x = some (.pointer (some ⟨g, o, none⟩))) (hb : ∀ w, Z w → Blk w g T cs) (hv : cs[o]? = some v) : OV P nn S Z ⟨some d, .load t x, ty, pos, aft, none⟩ v :=
  ov_load_at hs hx (fun w hm => (hb w hm).cell_of hv)
theorem run_row {t : TypeId} {n : Nat} (hs : rowSz P t = some n) : ∃ dd, P.underlying t = some dd ∧ dd.isRow = true ∧ (P.info? t).map (·.size) = some n := by
  unfold rowSz at hs
  cases hu : P.underlying t with
  | none => simp [hu] at hs
  | some dd =>
    cases dd <;> simp [hu] at hs <;> exact ⟨_, rfl, rfl, by simpa using hs⟩
theorem ov_load_rows {t : TypeId} {x : Operand} {g o k : Nat} {vs : List Value} (hs : rowSz P t = some k) (hx : rd S x = some (.pointer (some ⟨g, o, none⟩))) (hc : ∀ w, Z w → w.rangeAt g o vs) (hn : vs.length = k) : OV P nn S Z ⟨some d, .load t x, ty, pos, aft, none⟩ (.agg vs.toArray) := by
  intro a w ha hm
  obtain ⟨dd, hu, hr, hi⟩ := run_row hs
  simp only [execOp, ha.eval hx]
  rw [Sem.run_bind, run_loadAt_mid w g o t vs dd (hc w hm) hu hr (by rw [hn]; exact hi)]
  rfl
theorem range_blk {w : World} {g : Nat} {T : TypeId} {cs vs : List Value} {o n : Nat} (hb : Blk w g T cs) (hv : (cs.drop o).take n = vs) : w.rangeAt g o vs := by
  intro j v hj
  rw [hb.cell]
  subst hv
  rw [List.getElem?_take] at hj
  split at hj
  · rwa [List.getElem?_drop] at hj
  · cases hj
/-- A struct or an array in a known block is loaded. -/
theorem ov_loads {t : TypeId} {x : Operand} {g o k : Nat} {vs : List Value} {T : TypeId} {cs : List Value} (hs : rowSz P t = some k) (hx : rd S x = some (.pointer (some ⟨g, o, none⟩))) (hb : ∀ w, Z w → Blk w g T cs) (hv : (cs.drop o).take k = vs) (hn : vs.length = k) : OV P nn S Z ⟨some d, .load t x, ty, pos, aft, none⟩ (.agg vs.toArray) :=
  ov_load_rows hs hx (fun w hm => range_blk (hb w hm) hv) hn
theorem slt_range {α : Type} {enc : α → List Value} {sz : Nat} {T : TypeId} {l : List α} {xx : α} {b off n j : Nat} {w : World} (hsl : SlT enc sz T w (some ⟨b, off, none⟩) n l) (hj : l[j]? = some xx) : w.rangeAt b (off + j * sz) (enc xx) := by
  have hlt := (List.getElem?_eq_some_iff.1 hj).1
  obtain ⟨_, _, he, _, hr⟩ := hsl.get (by have := hsl.len; omega)
  injection he with he
  injection he with e1 e2 _
  subst e1; subst e2
  exact hr j xx hj
/-- A struct out of a slice that reads as a list. -/
theorem ov_elem {α : Type} {enc : α → List Value} {sz : Nat} {T : TypeId} {l : List α} {xx : α} {t : TypeId} {x : Operand} {b off m j : Nat} {vs : List Value} (hs : rowSz P t = some sz) (hx : rd S x = some (.pointer (some ⟨b, off + j * sz, none⟩)))
    (hX : ∀ w, Z w → SlT enc sz T w (some ⟨b, off, none⟩) m l) (hj : l[j]? = some xx) (hv : enc xx = vs) (hn : vs.length = sz) : OV P nn S Z ⟨some d, .load t x, ty, pos, aft, none⟩ (.agg vs.toArray) :=
  ov_load_rows hs hx (fun w hm => hv ▸ slt_range (hX w hm) hj) hn
/-- A scalar out of an element of a slice that reads as a list. -/
theorem ov_elem1 {α : Type} {enc : α → List Value} {sz k : Nat} {T : TypeId} {l : List α} {xx : α} {t : TypeId} {x : Operand} {b off m j o : Nat} {v : Value} (hs : scalarB P t = true) (hx : rd S x = some (.pointer (some ⟨b, o, none⟩)))
    (hX : ∀ w, Z w → SlT enc sz T w (some ⟨b, off, none⟩) m l) (hj : l[j]? = some xx) (ho : off + j * sz + k = o) (hv : (enc xx)[k]? = some v) : OV P nn S Z ⟨some d, .load t x, ty, pos, aft, none⟩ v :=
  ov_load_at hs hx (fun w hm => by subst ho; exact slt_range (hX w hm) hj k v hv)
/-- A scalar is stored into a block of the list. -/
theorem wl_store {t : TypeId} {x y : Operand} {g o : Nat} {v : Value} (i : Nat) {T : TypeId} {cs : List Value} (hs : scalarB P t = true) (hx : rd S x = some (.pointer (some ⟨g, o, none⟩))) (hy : rd S y = some v) (h1 : v.oneCell' = true) (hL : L[i]? = some (g, T, cs)) (ho : Nat.ble (o + 1) cs.length = true)
    (hT : c.Tt.contains T = false) (h : WL P c ops Q rest S K (setBlk g (cs.set o v) L i) O X) : WL P c ops Q (⟨none, .store t x y, ty, pos, aft, none⟩ :: rest) S K L O X := by
  intro a w ha hm
  refine wpList_plain rfl fun K' hK => ?_
  have hb := hm.blk (List.mem_of_getElem? hL)
  have hlt : o < cs.length := Nat.le_of_ble_eq_true ho
  have hc : w.cell? ⟨g, o, none⟩ = some cs[o] := hb.cell_of (by simp [hlt])
  have hst : (store ⟨g, o, none⟩ v).run P w = .ok () (w.setCell ⟨g, o, none⟩ v) := by
    rw [run_store P w _ _ _ h1]
    simp [hc, hb.frozen]
  have hv1 : v.cells = #[v] := by cases v <;> simp_all [Value.cells, Value.oneCell']
  unfold Oper.wp
  have : (execOp a.eval ⟨none, .store t x y, ty, pos, aft, none⟩).run P w = .ok .skip (w.setCell ⟨g, o, none⟩ v) := by
    simp only [execOp, ha.eval hx, ha.eval hy, Instr.storeAt, Instr.sureAddr, storeVar, hv1]
    simp [(run_scalar hs w).2, storeCells, add_addr, hst]
  rw [this]
  exact hK _ _ (h _ _ ⟨ha.size, ha.val, ha.df⟩ (hm.store hL hT (grow_setCell (World.grownBy.refl _ _) (.inl rfl) _) (hb.set_ o v)))
/-- A struct or an array is stored into a block of the list. -/
theorem wl_stores {t : TypeId} {x y : Operand} {g o n : Nat} {vs : List Value} (i : Nat) {T : TypeId} {cs cs' : List Value} (hs : rowSz P t = some n) (hx : rd S x = some (.pointer (some ⟨g, o, none⟩))) (hy : rd S y = some (.agg vs.toArray)) (h1 : vs.all (·.oneCell') = true) (hn : vs.length = n) (hL : L[i]? = some (g, T, cs)) (ho : Nat.ble (o + n) cs.length = true)
    (hT : c.Tt.contains T = false) (hcs : splice cs o vs = cs') (h : WL P c ops Q rest S K (setBlk g cs' L i) O X) : WL P c ops Q (⟨none, .store t x y, ty, pos, aft, none⟩ :: rest) S K L O X := by
  intro a w ha hm
  have hb := hm.blk (List.mem_of_getElem? hL)
  obtain ⟨dd, hu, hr, hi⟩ := run_row hs
  subst hcs
  refine wpList_store_blk rfl t x y rfl g o T cs vs hb (ha.eval hx) (ha.eval hy) n hi hn (Nat.le_of_ble_eq_true ho) (by simpa using h1) fun w' hb' hg => ?_
  exact h _ _ ⟨ha.size, ha.val, ha.df⟩ (hm.store hL hT hg hb')
/-- A new block. -/
theorem wl_alloc {t : TypeId} {cs : List Value} (hz : zeroCs P t = some cs) (hd : Nat.ble (d + 1) c.n = true) (h : ∀ g, WL P c ops Q rest ((d, .pointer (some ⟨g, 0, none⟩)) :: S) K ((g, t, cs) :: L) O X) : WL P c ops Q (⟨some d, .alloc t, ty, pos, aft, none⟩ :: rest) S K L O X := by
  intro a w ha hm
  refine wpList_plain rfl fun K' hK => ?_
  unfold zeroCs at hz
  cases hi : P.info? t with
  | none => simp [hi] at hz
  | some inf =>
    cases hzz : inf.zero with
    | none => simp [hi, hzz] at hz
    | some z =>
      simp only [hi, hzz, Option.bind_some, Option.map_some, Option.some.injEq] at hz
      unfold Oper.wp
      have : (execOp a.eval ⟨some d, .alloc t, ty, pos, aft, none⟩).run P w = .ok (.value (.pointer (some ⟨w.heap.size, 0, none⟩))) (w.alloc (.cells cs.toArray t)) := by
        subst hz
        simp [execOp, Instr.alloc, zeroValue, typeInfo, hi, hzz, newVar, newRow]
      rw [this]
      exact hK _ _ (h _ _ _ (ha.put hd _) (hm.new t cs))
theorem wl_box {t : TypeId} {x : Operand} {v : Value} {cs : List Value} (hx : rd S x = some v) (hcs : v.cells = cs.toArray) (hd : Nat.ble (d + 1) c.n = true) (h : ∀ g, WL P c ops Q rest ((d, .pointer (some ⟨g, 0, none⟩)) :: S) K ((g, t, cs) :: L) O X) : WL P c ops Q (⟨some d, .box t x, ty, pos, aft, none⟩ :: rest) S K L O X := by
  intro a w ha hm
  refine wpList_plain rfl fun K' hK => ?_
  unfold Oper.wp
  have : (execOp a.eval ⟨some d, .box t x, ty, pos, aft, none⟩).run P w = .ok (.value (.pointer (some ⟨w.heap.size, 0, none⟩))) (w.alloc (.cells cs.toArray t)) := by
    simp [execOp, ha.eval hx, Instr.box, newVar, newRow, hcs]
  rw [this]
  exact hK _ _ (h _ _ _ (ha.put hd _) (hm.new t cs))
def evParts (S : List (Nat × Value)) : List (Nat × Operand) → Option (List (Nat × Value))
  | [] => some []
  | (i, x) :: r => match rd S x, evParts S r with
    | some v, some l => some ((i, v) :: l)
    | _, _ => none
theorem Has.parts {n : Nat} {a : Act} (ha : Has S n a) : ∀ {ps : List (Nat × Operand)} {l : List (Nat × Value)}, evParts S ps = some l → ps.map (fun x => (x.1, a.eval x.2)) = l
  | [], l, h => by simp [evParts] at h; simp [h]
  | (i, x) :: r, l, h => by
    simp only [evParts] at h
    split at h
    · rename_i v l' hv hl
      simp only [Option.some.injEq] at h
      subst h
      simp [ha.eval hv, Has.parts ha hl]
    · cases h
theorem ov_build {t : TypeId} {ps : List (Nat × Operand)} {l : List (Nat × Value)} {cs : List Value} (hp : evParts S ps = some l) (hb : P.built t l = some cs.toArray) : OV P nn S Z ⟨some d, .build t ps.toArray, ty, pos, aft, none⟩ (.agg cs.toArray) :=
  (fun a w ha hm => by
    have e : (ps.toArray.map fun (i, x) => (i, a.eval x)) = l.toArray := by rw [← ha.parts hp]; simp
    simp only [execOp, e]
    rw [Sem.run_bind, run_build (P := P) w t l.toArray cs.toArray (by simpa using hb)]
    rfl)
theorem wl_buildSlice {t e : TypeId} {len : Nat} {ps : List (Nat × Operand)} {l : List (Nat × Value)} {cs : List Value} (hp : evParts S ps = some l) (hb : builtRow P t len l = some (e, cs)) (hd : Nat.ble (d + 1) c.n = true)
    (h : ∀ g, WL P c ops Q rest ((d, .slice (some ⟨g, 0, none⟩) len len) :: S) K ((g, e, cs) :: L) O X) : WL P c ops Q (⟨some d, .buildSlice t len ps.toArray, ty, pos, aft, none⟩ :: rest) S K L O X := by
  intro a w ha hm
  refine wpList_plain rfl fun K' hK => ?_
  unfold Oper.wp
  have : (execOp a.eval ⟨some d, .buildSlice t len ps.toArray, ty, pos, aft, none⟩).run P w = .ok (.value (.slice (some ⟨w.heap.size, 0, none⟩) len len)) (w.alloc (.cells cs.toArray e)) := by
    have e1 : (ps.toArray.map fun (i, x) => (i, a.eval x)) = l.toArray := by rw [← ha.parts hp]; simp
    simp only [execOp, e1]
    unfold builtRow at hb
    cases hu : P.underlying t with
    | none => simp [hu] at hb
    | some dd =>
      cases dd <;> simp only [hu] at hb <;> try (simp at hb; done)
      rename_i e'
      cases hi : P.info? e' with
      | none => simp [hi] at hb
      | some inf =>
        cases hz : inf.zero with
        | none => simp [hi, hz] at hb
        | some z =>
          simp only [hi, hz] at hb
          split at hb
          · cases hb
          · rename_i hsz
            cases hf : Instr.fill (fun k => some (k * inf.size, inf.size)) ((Array.range (len * inf.size)).map (z.cells[· % z.cells.size]!)) l with
            | none => simp [hf] at hb
            | some cs2 =>
              simp only [hf, Option.map_some, Option.some.injEq, Prod.mk.injEq] at hb
              obtain ⟨rfl, rfl⟩ := hb
              have h1 : ¬ (len * inf.size > 2 ^ 24) := fun h => hsz (.inl h)
              have h2 : ¬ (len * inf.size = 0) := fun h => hsz (.inr h)
              simp [Instr.buildSlice, run_underlying hu, sizeOf, zeroValue, typeInfo, hi, hz, h1, h2, hf, newRow]
  rw [this]
  exact hK _ _ (h _ _ _ (ha.put hd _) (hm.new e cs))
end

end Go.Proofs.YtljnekobfjpfaaaDoor
/- The steps of a walk over slots and blocks: how a call begins and ends; calls; the builtins; cuts. -/
namespace Go.Proofs.YtljnekobfjpfaaaDoor
open Go.RowKit

/-- A slice that came in. -/
def SlOld {α : Type} (enc : α → List Value) (k : Nat) (T : TypeId) (N : Nat) (row : Option Nat) (A : Option Addr) (n : Nat) (l : List α) (w : World) : Prop :=
  SlT enc k T w A n l ∧ ∀ b off, A = some ⟨b, off, none⟩ → 0 < n → b < N ∧ row ≠ some b
section
variable {α : Type} {enc : α → List Value} {k : Nat} {T : TypeId} {N : Nat} {row : Option Nat} {A : Option Addr} {n : Nat} {l : List α} {w : World}
theorem SlT.old (h : SlT enc k T w A n l) : SlOld enc k T w.heap.size none A n l w := ⟨h, fun b off e hn => by
  obtain ⟨b', off', e', hb, _⟩ := h.get hn
  rw [e] at e'
  injection e' with e'
  injection e' with e1 _ _
  subst e1
  exact ⟨hb, by simp⟩⟩
theorem SlT.oldRow (h : SlT enc k T w A n l) {sb : Nat} {TS : TypeId} {cs : Array Value} (hs : w.heap[sb]? = some (.cells cs TS (0, 0))) (hT : T ≠ TS) : SlOld enc k T w.heap.size (some sb) A n l w := ⟨h, fun b off e hn => by
  obtain ⟨b', off', cells, fz, e', hh, _⟩ := h.at_ hn
  rw [e] at e'
  injection e' with e'
  injection e' with e1 _ _
  subst e1
  refine ⟨lt_of_block hh, fun e2 => ?_⟩
  injection e2 with e2
  subst e2
  rw [hs] at hh
  injection hh with hh
  injection hh with _ h2 _
  exact hT h2.symm⟩
theorem SlOld.lasts {Tt : List TypeId} : Lasts2 N row Tt (SlOld enc k T N row A n l) :=
  ⟨fun _ _ h hx => ⟨hx.1.grow0 h, hx.2⟩, fun w w' r T' c _ _ h3 hg hx => ⟨by
    refine ⟨hx.1.len, fun hn => ?_⟩
    obtain ⟨b, off, cells, fz, e, hh, hc⟩ := hx.1.at_ hn
    have h4 := hx.2 b off e hn
    exact ⟨b, off, cells, fz, e, (hg.block b (lt_of_block hh) (fun e2 => by
      injection e2 with e2
      subst e2
      rcases h3 with h3 | h3
      · omega
      · exact h4.2 h3)).trans hh, hc⟩, hx.2⟩⟩
end

section
variable {P : Program} {c : Cx} {ops : Array Oper} {Q : Exit → Act → World → Prop} {rest : List Oper} {S : List (Nat × Value)} {K : World → Prop} {L : List (Nat × TypeId × List Value)} {O : List Own} {X : List (World → Prop)}
variable {nn : Nat} {Z : World → Prop} {d : Nat} {ty : TypeId} {pos : String} {aft : Array Edge}

/-- A call begins. -/
theorem gw_enter {f : FuncId} {fn : Func} {code : Code} {args : List Value} {w : World} {R : Ending → World → Prop} (c : Cx) (hf : P.funcs[f]? = some fn) (hb : fn.body = some code) (hn : fn.ntmps = c.n) (hsz : Nat.ble args.length c.n = true) (hm : Mem c K L O X w) (h : Gw P c (bodyPost P fn R) code (argSlots 0 args) K L O X) :
    Calls P f args.toArray w R := by
  have hle : args.length ≤ c.n := Nat.le_of_ble_eq_true hsz
  refine calls_of_wp hf hb (h _ w ⟨?_, fun t v ht => ?_, rfl⟩ hm)
  · simp [hn]; omega
  · have h1 := argSlots_look args 0 t v ht
    have h2 : args[t]? = some v := by simpa using h1.2
    have hlt := (List.getElem?_eq_some_iff.1 h2).1
    rw [Array.getElem?_append_left (by simpa using hlt)]
    simpa using h2
theorem mem0 {n : Nat} {Tt : List TypeId} {w : World} (hX : ∀ A ∈ X, A w) (hl : ∀ A ∈ X, Lasts2 w.heap.size none Tt A) : Mem ⟨n, w, none, Tt⟩ (fun _ => True) [] [] X w :=
  ⟨World.grownBy.refl _ _, trivial, (fun _ hx => by cases hx), List.Pairwise.nil, (fun _ hx => by cases hx), (fun _ hx => by cases hx), List.Pairwise.nil, hX, Keeps.true_, hl, (fun _ hr => by cases hr)⟩
theorem memS {n : Nat} {Tt : List TypeId} {w : World} {TS : TypeId} {B sb m : Nat} (hS : Strm TS w B sb m) (hX : ∀ A ∈ X, A w) (hl : ∀ A ∈ X, Lasts2 w.heap.size (some sb) Tt A) : Mem ⟨n, w, some sb, Tt⟩ (fun w => Strm TS w B sb m) [] [] X w :=
  ⟨World.grownBy.refl _ _, hS, (fun _ hx => by cases hx), List.Pairwise.nil, (fun _ hx => by cases hx), (fun _ hx => by cases hx), List.Pairwise.nil, hX, Keeps.strm hS.lt, hl, (fun _ hr => by cases hr; exact hS.lt)⟩

/-! The end. -/
section
variable {fn : Func} {R : Ending → World → Prop}
theorem nx_ret0 (hr : fn.results = #[]) (h : ∀ w, Mem c K L O X w → R (.returned (.tuple #[])) w) : Nx c (bodyPost P fn R) .normal S K L O X := fun _ w ha hm => bodyPost_end (results_none hr _ _ _) ha.df (h w hm)
theorem nx_ret0' (hr : fn.results = #[]) (h : ∀ w, Mem c K L O X w → R (.returned (.tuple #[])) w) : Nx c (bodyPost P fn R) .ret S K L O X := fun _ w ha hm => bodyPost_ret (results_none hr _ _ _) ha.df (h w hm)
theorem nx_ret1 {t : Nat} {v : Value} (hr : fn.results = #[.tmp t]) (hv : look S t = some v) (h : ∀ w, Mem c K L O X w → R (.returned v) w) : Nx c (bodyPost P fn R) .ret S K L O X := fun a w ha hm =>
  bodyPost_ret (by rw [results_tmp hr]; simp [Array.getD_eq_getD_getElem?, ha.val t v hv]) ha.df (h w hm)
theorem nx_ret2 {t u : Nat} {v v' : Value} (hr : fn.results = #[.tmp t, .tmp u]) (hv : look S t = some v) (hv' : look S u = some v') (h : ∀ w, Mem c K L O X w → R (.returned (.tuple #[v, v'])) w) : Nx c (bodyPost P fn R) .ret S K L O X := fun a w ha hm =>
  bodyPost_ret (by rw [results_tmp2 hr]; simp [Array.getD_eq_getD_getElem?, ha.val t v hv, ha.val u v' hv']) ha.df (h w hm)
theorem nx_ret3 {t u r : Nat} {v v' v'' : Value} (hr : fn.results = #[.tmp t, .tmp u, .tmp r]) (hv : look S t = some v) (hv' : look S u = some v') (hv'' : look S r = some v'') (h : ∀ w, Mem c K L O X w → R (.returned (.tuple #[v, v', v''])) w) : Nx c (bodyPost P fn R) .ret S K L O X := fun a w ha hm =>
  bodyPost_ret (by rw [results_tmp3 hr]; simp [Array.getD_eq_getD_getElem?, ha.val t v hv, ha.val u v' hv', ha.val r v'' hv'']) ha.df (h w hm)
theorem nx_retc {p : Nat} {t T : TypeId} {g n : Nat} {cs : List Value} (i : Nat) (hr : fn.results = #[.cell p t]) (hs : rowSz P t = some n) (hp : look S p = some (.pointer (some ⟨g, 0, none⟩))) (hL : L[i]? = some (g, T, cs)) (hn : cs.length = n) (h : ∀ w, Mem c K L O X w → R (.returned (.agg cs.toArray)) w) : Nx c (bodyPost P fn R) .ret S K L O X := fun a w ha hm => by
  obtain ⟨dd, hu, hd, hi⟩ := run_row hs
  exact ret_blk hr g T cs dd (hm.blk (List.mem_of_getElem? hL)) (by simp [Array.getD_eq_getD_getElem?, ha.val p _ hp]) hu hd n hi hn ha.df (h w hm)
theorem nx_retct {p u : Nat} {t T : TypeId} {g n : Nat} {cs : List Value} {v : Value} (i : Nat) (hr : fn.results = #[.cell p t, .tmp u]) (hs : rowSz P t = some n) (hp : look S p = some (.pointer (some ⟨g, 0, none⟩))) (hv : look S u = some v) (hL : L[i]? = some (g, T, cs)) (hn : cs.length = n)
    (h : ∀ w, Mem c K L O X w → R (.returned (.tuple #[.agg cs.toArray, v])) w) : Nx c (bodyPost P fn R) .ret S K L O X := fun a w ha hm => by
  obtain ⟨dd, hu, hd, hi⟩ := run_row hs
  refine bodyPost_ret (?_ : (results fn a.tmps).run P w = .ok (.tuple #[.agg cs.toArray, v]) w) ha.df (h w hm)
  have hl := run_loadVar_row (P := P) w g T t cs.toArray (0, 0) dd (hm.blk (List.mem_of_getElem? hL)) hu (by cases dd <;> simp_all [TypeDesc.isRow]) (by simpa [hn] using hi)
  rw [results_cell_tmp hr]
  simp [Array.getD_eq_getD_getElem?, ha.val p _ hp, ha.val u _ hv, asAddr, hl]
end

/-! Calls. -/
def evArgs (S : List (Nat × Value)) : List Operand → Option (List Value)
  | [] => some []
  | x :: r => match rd S x, evArgs S r with
    | some v, some l => some (v :: l)
    | _, _ => none
theorem Has.args {n : Nat} {a : Act} (ha : Has S n a) : ∀ {ps : List Operand} {l : List Value}, evArgs S ps = some l → ps.map a.eval = l
  | [], l, h => by simp [evArgs] at h; simp [h]
  | x :: r, l, h => by
    simp only [evArgs] at h
    split at h
    · rename_i v l' hv hl
      simp only [Option.some.injEq] at h
      subst h
      simp [ha.eval hv, Has.args ha hl]
    · cases h
theorem run_callable {f : FuncId} (hf : callableB P f = true) (args : Array Value) (w : World) : (callFunc f args).run P w = .ok (.enter f args) w := by
  unfold callableB at hf
  cases h : P.funcs[f]? with
  | none => simp [h] at hf
  | some fn =>
    simp only [h, Bool.and_eq_true, Bool.not_eq_true'] at hf
    obtain ⟨h1, h2⟩ := hf
    have h3 : fn.body.isNone = false := by cases hb : fn.body <;> simp_all
    unfold callFunc
    rw [Sem.run_bind]
    simp only [run_program, Result.andThen_ok, h, h1, h3, Bool.false_eq_true, if_false]
    rfl
theorem wl_callG {γ : Type} {f : FuncId} {x : Operand} {ags : List Operand} {ats : Array TypeId} {vs fs cs : List Value} {val : γ → Value} {φ : γ → Prop} {K' : γ → World → Prop} {L' : γ → List (Nat × TypeId × List Value)} {O' : γ → List Own} {X' : γ → List (World → Prop)} (hx : rd S x = some (.func (.func f) fs.toArray cs.toArray)) (hf : callableB P f = true) (ha : evArgs S ags = some vs) (hd : Nat.ble (d + 1) c.n = true)
    (hC : ∀ w, Mem c K L O X w → Calls P f (fs ++ vs ++ cs).toArray w (fun e w' => ∃ g, e = .returned (val g) ∧ φ g ∧ Mem c (K' g) (L' g) (O' g) (X' g) w')) (h : ∀ g, φ g → WL P c ops Q rest ((d, val g) :: S) (K' g) (L' g) (O' g) (X' g)) :
    WL P c ops Q (⟨some d, .call ⟨.value x, ags.toArray, ats⟩, ty, pos, aft, none⟩ :: rest) S K L O X := by
  intro a w hh hm
  refine wpList_plain rfl fun K'' hK => ?_
  unfold Oper.wp
  have : (execOp a.eval ⟨some d, .call ⟨.value x, ags.toArray, ats⟩, ty, pos, aft, none⟩).run P w = .ok (.enter f (fs ++ vs ++ cs).toArray) w := by
    have e : ags.toArray.map a.eval = vs.toArray := by rw [← hh.args ha]; simp
    simp only [execOp, resolve, hh.eval hx, e, Deferred.ofValue, Sem.run_bind, Sem.run_pure, Result.andThen_ok, invoke]
    rw [run_callable hf]
    simp
  rw [this]
  refine (hC w hm).mono ?_
  rintro e w' ⟨g, rfl, hφ, hm'⟩
  exact hK _ _ (h g hφ _ _ (hh.put hd _) hm')
/-- A call whose result is known, and that turns nothing old. -/
theorem wl_callv {f : FuncId} {x : Operand} {ags : List Operand} {ats : Array TypeId} {vs fs cs : List Value} {v : Value} (hx : rd S x = some (.func (.func f) fs.toArray cs.toArray)) (hf : callableB P f = true) (ha : evArgs S ags = some vs) (hd : Nat.ble (d + 1) c.n = true)
    (hC : ∀ w, Mem c K L O X w → Calls P f (fs ++ vs ++ cs).toArray w (fun e w' => e = .returned v ∧ w.grownBy w' none)) (h : WL P c ops Q rest ((d, v) :: S) K L O X) :
    WL P c ops Q (⟨some d, .call ⟨.value x, ags.toArray, ats⟩, ty, pos, aft, none⟩ :: rest) S K L O X :=
  wl_callG (γ := Unit) (val := fun _ => v) (φ := fun _ => True) (K' := fun _ => K) (L' := fun _ => L) (O' := fun _ => O) (X' := fun _ => X) hx hf ha hd (fun w hm => (hC w hm).mono fun _ _ ⟨he, hg⟩ => ⟨(), he, trivial, hm.grow hg⟩) (fun _ _ => h)
/-- A call that leaves the world as it was. -/
theorem wl_callw {f : FuncId} {x : Operand} {ags : List Operand} {ats : Array TypeId} {vs fs cs : List Value} {v : Value} (hx : rd S x = some (.func (.func f) fs.toArray cs.toArray)) (hf : callableB P f = true) (ha : evArgs S ags = some vs) (hd : Nat.ble (d + 1) c.n = true)
    (hC : ∀ w, Mem c K L O X w → Calls P f (fs ++ vs ++ cs).toArray w (fun e w' => e = .returned v ∧ w = w')) (h : WL P c ops Q rest ((d, v) :: S) K L O X) :
    WL P c ops Q (⟨some d, .call ⟨.value x, ags.toArray, ats⟩, ty, pos, aft, none⟩ :: rest) S K L O X :=
  wl_callv hx hf ha hd (fun w hm => (hC w hm).mono fun _ _ ⟨he, hg⟩ => ⟨he, hg ▸ World.grownBy.refl _ _⟩) h
/-- A call that turns nothing old; of its result some facts are known, which last. -/
theorem wl_callx {γ : Type} {f : FuncId} {x : Operand} {ags : List Operand} {ats : Array TypeId} {vs fs cs : List Value} {val : γ → Value} {φ : γ → Prop} {Y : γ → World → Prop} (hx : rd S x = some (.func (.func f) fs.toArray cs.toArray)) (hf : callableB P f = true) (ha : evArgs S ags = some vs) (hd : Nat.ble (d + 1) c.n = true)
    (hC : ∀ w, Mem c K L O X w → Calls P f (fs ++ vs ++ cs).toArray w (fun e w' => ∃ g, e = .returned (val g) ∧ φ g ∧ w.grownBy w' none ∧ Y g w')) (hl : ∀ g, Lasts2 c.w0.heap.size c.row c.Tt (Y g)) (h : ∀ g, φ g → WL P c ops Q rest ((d, val g) :: S) K L O (Y g :: X)) :
    WL P c ops Q (⟨some d, .call ⟨.value x, ags.toArray, ats⟩, ty, pos, aft, none⟩ :: rest) S K L O X :=
  wl_callG (γ := γ) (val := val) (φ := φ) (K' := fun _ => K) (L' := fun _ => L) (O' := fun _ => O) (X' := fun g => Y g :: X) hx hf ha hd (fun w hm => (hC w hm).mono fun _ _ ⟨g, he, hφ, hg, hy⟩ => ⟨g, he, hφ, (hm.grow hg).also (hl g) hy⟩) h
/-- A call that draws from the stream. -/
theorem Mem.strm {TS : TypeId} {B sb m m' : Nat} {w w' : World} {Y : World → Prop} (h : Mem c (fun w => Strm TS w B sb m) L O X w) (hrow : c.row = some sb) (hT : c.Tt.contains TS = false) (hS : Strm TS w' B sb m') (hg : w.grownBy w' (some sb)) (hl : Lasts2 c.w0.heap.size c.row c.Tt Y) (hy : Y w') : Mem c (fun w => Strm TS w B sb m') L O (Y :: X) w' := by
  obtain ⟨A, n, cc, k, hh, _⟩ := h.k.pos
  have hlt := h.rs sb hrow
  refine ⟨grow_trans h.g (hrow ▸ hg), hS, fun x hx => ⟨(h.b x hx).1, (h.b x hx).2.grown hg (fun e => ?_)⟩, h.nd, fun r hr => (h.o r hr).kept hg ?_, h.od, h.oo, fun A hA => ?_, Keeps.strm hlt, fun A hA => ?_, h.rs⟩
  · have := (h.b x hx).1; injection e with e; omega
  · cases hv : r.v.ownBlock with
    | none => exact .inl rfl
    | some g => exact .inr (fun e => by have := ((h.o r hr).lt g hv).1; injection e with e; omega)
  · rcases List.mem_cons.1 hA with rfl | hA
    · exact hy
    · exact (h.l A hA).st w w' sb TS _ hh (fun e => by simp [e] at hT) (.inr hrow) hg (h.x A hA)
  · rcases List.mem_cons.1 hA with rfl | hA
    · exact hl
    · exact h.l A hA
theorem wl_calls {γ : Type} {TS : TypeId} {B sb m m' : Nat} {f : FuncId} {x : Operand} {ags : List Operand} {ats : Array TypeId} {vs fs cs : List Value} {val : γ → Value} {φ : γ → Prop} {Y : γ → World → Prop} (hx : rd S x = some (.func (.func f) fs.toArray cs.toArray)) (hf : callableB P f = true) (ha : evArgs S ags = some vs) (hd : Nat.ble (d + 1) c.n = true) (hrow : c.row = some sb) (hT : c.Tt.contains TS = false)
    (hC : ∀ w, Mem c (fun w => Strm TS w B sb m) L O X w → Calls P f (fs ++ vs ++ cs).toArray w (fun e w' => ∃ g, e = .returned (val g) ∧ φ g ∧ Strm TS w' B sb m' ∧ w.grownBy w' (some sb) ∧ Y g w')) (hl : ∀ g, Lasts2 c.w0.heap.size c.row c.Tt (Y g)) (h : ∀ g, φ g → WL P c ops Q rest ((d, val g) :: S) (fun w => Strm TS w B sb m') L O (Y g :: X)) :
    WL P c ops Q (⟨some d, .call ⟨.value x, ags.toArray, ats⟩, ty, pos, aft, none⟩ :: rest) S (fun w => Strm TS w B sb m) L O X :=
  wl_callG (γ := γ) (val := val) (φ := φ) (K' := fun _ w => Strm TS w B sb m') (L' := fun _ => L) (O' := fun _ => O) (X' := fun g => Y g :: X) hx hf ha hd (fun w hm => (hC w hm).mono fun _ _ ⟨g, he, hφ, hS, hg, hy⟩ => ⟨g, he, hφ, hm.strm hrow hT hS hg (hl g) hy⟩) h

/-! Builtins. -/
theorem ov_len {t e : TypeId} {sz : Nat} {x : Operand} {A : Option Addr} {n cap : Nat} (he : elemSz P t = some (e, sz)) (hx : rd S x = some (.slice A n cap)) : OV P nn S Z ⟨some d, .call ⟨.builtin .len, #[x], #[t]⟩, ty, pos, aft, none⟩ (.int .i64 (n : Int)) :=
  (fun a w ha hm => by
    have hu : ∃ e', P.underlying t = some (.slice e') := by
      unfold elemSz at he
      split at he
      · exact ⟨_, by assumption⟩
      · cases he
    obtain ⟨e', hu⟩ := hu
    simp [execOp, resolve, invoke, builtin, ha.eval hx, Builtin.len_, run_underlying hu, goInt])
theorem ov_lens {t : TypeId} {x : Operand} {s : ByteArray} (ht : P.underlying t = some .string) (hx : rd S x = some (.string s)) : OV P nn S Z ⟨some d, .call ⟨.builtin .len, #[x], #[t]⟩, ty, pos, aft, none⟩ (.int .i64 (s.size : Int)) :=
  (fun a w ha hm => by
    simp [execOp, resolve, invoke, builtin, ha.eval hx, Builtin.len_, run_underlying ht, goInt])
theorem ov_max {ts : Array TypeId} {x y : Operand} {m n : Int} (hx : rd S x = some (.int .i64 m)) (hy : rd S y = some (.int .i64 n)) : OV P nn S Z ⟨some d, .call ⟨.builtin .max, #[x, y], ts⟩, ty, pos, aft, none⟩ (.int .i64 (max m n)) :=
  (fun a w ha hm => by
    have e : (if n > m then n else m) = max m n := by split <;> omega
    simp only [execOp, resolve, invoke, builtin, List.map_toArray, List.map_cons, List.map_nil, ha.eval hx, ha.eval hy, Sem.run_bind, Sem.run_pure, Result.andThen_ok, run_max_int2, e])
theorem ov_min {ts : Array TypeId} {x y : Operand} {m n : Int} (hx : rd S x = some (.int .i64 m)) (hy : rd S y = some (.int .i64 n)) : OV P nn S Z ⟨some d, .call ⟨.builtin .min, #[x, y], ts⟩, ty, pos, aft, none⟩ (.int .i64 (min m n)) :=
  (fun a w ha hm => by
    have e : (if n < m then n else m) = min m n := by split <;> omega
    simp only [execOp, resolve, invoke, builtin, List.map_toArray, List.map_cons, List.map_nil, ha.eval hx, ha.eval hy, Sem.run_bind, Sem.run_pure, Result.andThen_ok, run_min_int2, e])
def appB (P : Program) (t : TypeId) : Option (TypeId × Nat × Nat) :=
  match P.underlying t with
  | some (.slice e) => match P.info? e with
    | some i => match i.zero with
      | some z => if z.cells.size = i.size ∧ 0 < i.size then some (e, i.size, i.bytes) else none
      | none => none
    | none => none
  | _ => none
/-- append onto a row of the call's own; what is appended lies in a block of the list. -/
theorem wl_append {t e : TypeId} {sz by_ : Nat} {x y : Operand} {g m n cap : Nat} {v : Value} {xs cs news : List Value} {T : TypeId} (i j : Nat) (ht : appB P t = some (e, sz, by_)) (hx : rd S x = some v) (hO : O[i]? = some ⟨v, e, sz, n, xs⟩) (hy : rd S y = some (.slice (some ⟨g, 0, none⟩) m cap)) (hL : L[j]? = some (g, T, cs)) (hnews : cs.take (m * sz) = news) (hln : news.length = m * sz)
    (h1 : news.all (·.oneCell') = true) (hb : (n + m) * by_ ≤ 140737488355328) (h63 : n + m ≤ maxLen) (hT : c.Tt.contains e = false) (hd : Nat.ble (d + 1) c.n = true)
    (h : ∀ v', (v' = .slice none 0 0 ↔ v = .slice none 0 0 ∧ m = 0) → WL P c ops Q rest ((d, v') :: S) K L (setOwn ⟨v', e, sz, n + m, xs ++ news⟩ O i) X) : WL P c ops Q (⟨some d, .call ⟨.builtin .append, #[x, y], #[t, t]⟩, ty, pos, aft, none⟩ :: rest) S K L O X := by
  intro a w ha hm
  unfold appB at ht
  split at ht
  · rename_i e' hu
    split at ht
    · rename_i inf hi
      split at ht
      · rename_i z hz
        split at ht
        · rename_i hzz
          simp only [Option.some.injEq, Prod.mk.injEq] at ht
          obtain ⟨rfl, rfl, rfl⟩ := ht
          have hown := hm.o _ (List.mem_of_getElem? hO)
          have hblk := hm.blk (List.mem_of_getElem? hL)
          refine wpList_append_own_at _ rfl x y t rfl c.w0.heap.size e' inf z inf.size inf.bytes hu hi hz rfl rfl hzz.1 hzz.2 v n xs (ha.eval hx) hown ⟨g, 0, none⟩ m cap news (ha.eval hy) hln (fun k u hk => ?_) (by simpa using h1) h63 hb hm.g.size fun v' w' h2 h3 h4 h5 => ?_
          · rw [add_addr, Nat.zero_add]
            refine hblk.cell_of ?_
            subst hnews
            rw [List.getElem?_take] at hk
            split at hk
            · exact hk
            · cases hk
          · exact h v' h4 _ _ (ha.put hd _) (hm.append hO hT h2 h3 h5)
        · cases ht
      · cases ht
    · cases ht
  · cases ht

/-! Cuts. -/
theorem gw_cut {γ : Type} {x y : Code} {I : γ → Prop} {S' : γ → List (Nat × Value)} {K' : γ → World → Prop} {L' : γ → List (Nat × TypeId × List Value)} {O' : γ → List Own} {X' : γ → List (World → Prop)}
    (h1 : Gw P c (Exit.then (fun a w => ∃ g, I g ∧ Has (S' g) c.n a ∧ Mem c (K' g) (L' g) (O' g) (X' g) w) Q) x S K L O X) (h2 : ∀ g, I g → Gw P c Q y (S' g) (K' g) (L' g) (O' g) (X' g)) : Gw P c Q (.seq x y) S K L O X := fun a w ha hm =>
  wp_seq (Code.wp_mono (fun e a' w' hq => by
    cases e with
    | normal => obtain ⟨g, hI, hs, hmm⟩ := hq; exact h2 g hI a' w' hs hmm
    | _ => exact hq) (h1 a w ha hm))
/-- The end of a piece that was cut. -/
theorem nx_meet {γ : Type} {I : γ → Prop} {S' : γ → List (Nat × Value)} {K' : γ → World → Prop} {L' : γ → List (Nat × TypeId × List Value)} {O' : γ → List Own} {X' : γ → List (World → Prop)} (g : γ) (hI : I g) (hs : Sub S (S' g)) (hM : ∀ w, Mem c K L O X w → Mem c (K' g) (L' g) (O' g) (X' g) w) :
    Nx c (Exit.then (fun a w => ∃ g, I g ∧ Has (S' g) c.n a ∧ Mem c (K' g) (L' g) (O' g) (X' g) w) Q) .normal S K L O X := fun _ w ha hm => ⟨g, hI, ha.sub hs.look, hM w hm⟩
/-- The end of a round. -/
theorem nx_round {γ : Type} {μ : γ → Nat} {k : Nat} {I : γ → Prop} {S' : γ → List (Nat × Value)} {K' : γ → World → Prop} {L' : γ → List (Nat × TypeId × List Value)} {O' : γ → List Own} {X' : γ → List (World → Prop)} (g : γ) (hI : I g) (hlt : μ g < k) (hs : Sub S (S' g)) (hM : ∀ w, Mem c K L O X w → Mem c (K' g) (L' g) (O' g) (X' g) w) :
    Nx c (Exit.then (fun a w => ∃ g', (I g' ∧ Has (S' g') c.n a ∧ Mem c (K' g') (L' g') (O' g') (X' g') w) ∧ μ g' < k) Q) .normal S K L O X := fun _ w ha hm => ⟨g, ⟨hI, ha.sub hs.look, hM w hm⟩, hlt⟩
theorem Mem.blkI {w : World} (h : Mem c K L O X w) (i : Nat) {g : Nat} {T : TypeId} {cs : List Value} (hi : L[i]? = some (g, T, cs)) : Blk w g T cs := h.blk (List.mem_of_getElem? hi)
theorem Mem.more {TS : TypeId} {B sb m m' : Nat} {w : World} (h : Mem c (fun w => Strm TS w B sb m) L O X w) (hrow : c.row = some sb) (hm : m ≤ m') : Mem c (fun w => Strm TS w B sb m') L O X w := ⟨h.g, h.k.more hm, h.b, h.nd, h.o, h.od, h.oo, h.x, Keeps.strm (h.rs sb hrow), h.l, h.rs⟩
/-- A call that draws from the stream, of whose result a fact is known. -/
theorem wl_got {γ : Type} {TS : TypeId} {B sb m m' : Nat} {f : FuncId} {x : Operand} {ags : List Operand} {ats : Array TypeId} {vs fs cs : List Value} {val : γ → Value} {φ : γ → Prop} (hx : rd S x = some (.func (.func f) fs.toArray cs.toArray)) (hf : callableB P f = true) (ha : evArgs S ags = some vs) (hd : Nat.ble (d + 1) c.n = true) (hrow : c.row = some sb) (hT : c.Tt.contains TS = false)
    (hC : ∀ w, Mem c (fun w => Strm TS w B sb m) L O X w → Calls P f (fs ++ vs ++ cs).toArray w (fun e w' => ∃ g, φ g ∧ e = .returned (val g) ∧ Strm TS w' B sb m' ∧ w.grownBy w' (some sb))) (h : ∀ g, φ g → WL P c ops Q rest ((d, val g) :: S) (fun w => Strm TS w B sb m') L O X) :
    WL P c ops Q (⟨some d, .call ⟨.value x, ags.toArray, ats⟩, ty, pos, aft, none⟩ :: rest) S (fun w => Strm TS w B sb m) L O X :=
  wl_callG (γ := γ) (val := val) (φ := φ) (K' := fun _ w => Strm TS w B sb m') (L' := fun _ => L) (O' := fun _ => O) (X' := fun _ => X) hx hf ha hd (fun w hm => (hC w hm).mono fun _ _ ⟨g, hφ, he, hS, hg⟩ => ⟨g, he, hφ, (by
    have h1 := hm.strm hrow hT hS hg (Y := fun _ => True) Lasts2.true_ trivial
    exact ⟨h1.g, h1.k, h1.b, h1.nd, h1.o, h1.od, h1.oo, fun A hA => h1.x A (List.mem_cons_of_mem _ hA), h1.kk, hm.l, h1.rs⟩)⟩) h
/-- What a slot holds is written otherwise. -/
theorem wl_set {l : List Oper} {v v' : Value} (t : Nat) (hv : look S t = some v) (e : v = v') (h : WL P c ops Q l ((t, v') :: S) K L O X) : WL P c ops Q l S K L O X := fun a w ha hm =>
  h a w ⟨ha.size, fun t' u hu => by
    rcases beq_look hu with ⟨rfl, rfl⟩ | ⟨_, hu⟩
    · exact e ▸ ha.val _ _ hv
    · exact ha.val t' u hu, ha.df⟩ hm
theorem gw_set {code : Code} {v v' : Value} (t : Nat) (hv : look S t = some v) (e : v = v') (h : Gw P c Q code ((t, v') :: S) K L O X) : Gw P c Q code S K L O X := fun a w ha hm =>
  h a w ⟨ha.size, fun t' u hu => by
    rcases beq_look hu with ⟨rfl, rfl⟩ | ⟨_, hu⟩
    · exact e ▸ ha.val _ _ hv
    · exact ha.val t' u hu, ha.df⟩ hm
theorem allF_nil {w : World} : ∀ A ∈ ([] : List (World → Prop)), A w := fun _ h => by cases h
theorem allF_cons {w : World} {A : World → Prop} {l : List (World → Prop)} (h : A w) (t : ∀ B ∈ l, B w) : ∀ B ∈ A :: l, B w := fun B hB => by
  rcases List.mem_cons.1 hB with rfl | hB
  · exact h
  · exact t B hB
theorem allL_nil {N : Nat} {row : Option Nat} {Tt : List TypeId} : ∀ A ∈ ([] : List (World → Prop)), Lasts2 N row Tt A := fun _ h => by cases h
theorem allL_cons {N : Nat} {row : Option Nat} {Tt : List TypeId} {A : World → Prop} {l : List (World → Prop)} (h : Lasts2 N row Tt A) (t : ∀ B ∈ l, Lasts2 N row Tt B) : ∀ B ∈ A :: l, Lasts2 N row Tt B := fun B hB => by
  rcases List.mem_cons.1 hB with rfl | hB
  · exact h
  · exact t B hB
theorem some_int {k : IntKind} {a b : Int} (h : a = b) : some (Value.int k a) = some (.int k b) := by rw [h]
theorem some_bool {a b : Bool} (h : a = b) : some (Value.bool a) = some (.bool b) := by rw [h]
/-- A loop of at most m rounds, each walked. -/
def Gr (P : Program) (c : Cx) (code : Code) (Q : Exit → Act → World → Prop) (m : Nat) (S : List (Nat × Value)) (K : World → Prop) (L : List (Nat × TypeId × List Value)) (O : List Own) (X : List (World → Prop)) : Prop :=
  ∀ a w, Has S c.n a → Mem c K L O X w → Code.rounds P code Q m a w
theorem gw_rounds {code : Code} (m : Nat) (h : Gr P c code Q m S K L O X) : Gw P c Q (.loop code) S K L O X := fun a w ha hm => wp_loop_rounds m (h a w ha hm)
theorem gr_next {code : Code} {m : Nat} (h : Gw P c (Exit.then (Code.rounds P code Q m) Q) code S K L O X) : Gr P c code Q (m + 1) S K L O X := fun a w ha hm => by rw [rounds_succ]; exact h a w ha hm
theorem nx_next {code : Code} {m : Nat} (h : Gr P c code Q m S K L O X) : Nx c (Exit.then (Code.rounds P code Q m) Q) .normal S K L O X := h
/-- A call that makes a row of its own. -/
theorem wl_callo {f : FuncId} {x : Operand} {ags : List Operand} {ats : Array TypeId} {vs fs cs : List Value} {e : TypeId} {sz n : Nat} {xs : List Value} (hx : rd S x = some (.func (.func f) fs.toArray cs.toArray)) (hf : callableB P f = true) (ha : evArgs S ags = some vs) (hd : Nat.ble (d + 1) c.n = true)
    (hC : ∀ w, Mem c K L O X w → Calls P f (fs ++ vs ++ cs).toArray w (fun e' w' => ∃ v, e' = .returned v ∧ w'.ownsRow w.heap.size e sz v n xs ∧ w.grownBy w' none)) (h : ∀ v, WL P c ops Q rest ((d, v) :: S) K L (⟨v, e, sz, n, xs⟩ :: O) X) :
    WL P c ops Q (⟨some d, .call ⟨.value x, ags.toArray, ats⟩, ty, pos, aft, none⟩ :: rest) S K L O X :=
  wl_callG (γ := Value) (val := fun v => v) (φ := fun _ => True) (K' := fun _ => K) (L' := fun _ => L) (O' := fun v => ⟨v, e, sz, n, xs⟩ :: O) (X' := fun _ => X) hx hf ha hd (fun w hm => (hC w hm).mono fun _ _ ⟨v, he, ho, hg⟩ => ⟨v, he, trivial, hm.newOwn hg ho⟩) (fun v _ => h v)
/-- nil becomes a row of the call's own. -/
theorem wl_nilOwn {l : List Oper} (e : TypeId) (sz : Nat) (h : WL P c ops Q l S K L (⟨.slice none 0 0, e, sz, 0, []⟩ :: O) X) : WL P c ops Q l S K L O X := fun a w ha hm => h a w ha (hm.nilOwn e sz)
theorem gw_nilOwn {code : Code} (e : TypeId) (sz : Nat) (h : Gw P c Q code S K L (⟨.slice none 0 0, e, sz, 0, []⟩ :: O) X) : Gw P c Q code S K L O X := fun a w ha hm => h a w ha (hm.nilOwn e sz)
theorem own_slT {α : Type} {enc : α → List Value} {k : Nat} {T : TypeId} {w : World} {base n : Nat} {v : Value} {l : List α} (hk : ∀ x, (enc x).length = k) (h : w.ownsRow base T k v n (l.flatMap enc)) (hn : l.length = n) : ∃ A c, v = .slice A n c ∧ SlT enc k T w A n l ∧ (n = 0 → A = none ∧ c = 0 ∨ 0 ≤ c) := by
  rcases h.2 with ⟨rfl, rfl⟩ | ⟨g, cap, cur, rfl, _⟩
  · exact ⟨none, 0, rfl, ⟨hn, fun h0 => absurd h0 (by omega)⟩, fun _ => .inl ⟨rfl, rfl⟩⟩
  · exact ⟨some ⟨g, 0, none⟩, cap, rfl, SlT.ofOwn hk h hn, fun _ => .inr (Nat.zero_le _)⟩
theorem Mem.ownI {w : World} (h : Mem c K L O X w) (i : Nat) {v : Value} {e : TypeId} {sz n : Nat} {xs : List Value} (hi : O[i]? = some ⟨v, e, sz, n, xs⟩) : w.ownsRow c.w0.heap.size e sz v n xs := h.o _ (List.mem_of_getElem? hi)
theorem own_slice {w : World} {base : Nat} {e : TypeId} {sz n : Nat} {v : Value} {xs : List Value} (h : w.ownsRow base e sz v n xs) : ∃ A cc, v = .slice A n cc := by
  rcases h.2 with ⟨rfl, rfl⟩ | ⟨g, cap, cur, rfl, _⟩
  · exact ⟨none, 0, rfl⟩
  · exact ⟨_, _, rfl⟩
end

end Go.Proofs.YtljnekobfjpfaaaDoor
/- The steps of a walk over slots and blocks: a statement that draws its order. -/
namespace Go.Proofs.YtljnekobfjpfaaaDoor
open Go.RowKit

section
variable {P : Program} {c : Cx} {ops : Array Oper} {Q : Exit → Act → World → Prop} {S : List (Nat × Value)} {K : World → Prop} {L : List (Nat × TypeId × List Value)} {O : List Own} {X : List (World → Prop)} {Z : World → Prop}
variable {d : Nat} {ty : TypeId} {pos : String} {aft : Array Edge}

/-- The operations that are not listed are still to come, in whatever order; Z holds all the time. -/
def WA (P : Program) (c : Cx) (ops : Array Oper) (Q : Exit → Act → World → Prop) (Z : World → Prop) (fuel : Nat) (listed : Array Bool) (S : List (Nat × Value)) (K : World → Prop) (L : List (Nat × TypeId × List Value)) (O : List Own) (X : List (World → Prop)) : Prop :=
  ∀ a w, Has S c.n a → Mem c K L O X w → wpAnyH P .any ops Q Z fuel listed a w
theorem gw_draw {id : Nat} {l : List Oper} (Z : World → Prop) (hm : P.follows .mixedOrders = true) (h : WA P c l.toArray Q Z l.length (Array.replicate l.length false) S K L O X) : Gw P c Q (.region id l.toArray true) S K L O X :=
  fun a w ha hmm => wp_region_held (S := Z) hm (by simpa using h a _ ha (hmm.grow (grow_drew (World.grownBy.refl w none))))
theorem wa_open {fuel : Nat} {listed : Array Bool} (h : ∀ W, W = WA P c ops Q Z → W fuel listed S K L O X) : WA P c ops Q Z fuel listed S K L O X := h _ rfl
/-- An operation that yields a value is taken first. -/
theorem wa_take {op : Op} {v : Value} {fuel : Nat} {listed listed' : Array Bool} (i : Nat) (hi : ops[i]? = some ⟨some d, op, ty, pos, aft, none⟩) (hs : Region.noSelect ops = true) (hf : Region.free .any ops listed i = true) (hr : (Region.ready .any ops listed).contains i = true) (hl : listed.setIfInBounds i true = listed')
    (hQ : ∀ cc a w, Q (.panic cc) (a.put (some d) v) w → Q (.panic cc) a w) (hZ : ∀ w, Mem c K L O X w → Z w) (ho : OV P c.n S Z ⟨some d, op, ty, pos, aft, none⟩ v) (hd : Nat.ble (d + 1) c.n = true) (h : WA P c ops Q Z fuel listed' ((d, v) :: S) K L O X) : WA P c ops Q Z (fuel + 1) listed S K L O X := by
  intro a w ha hm
  subst hl
  exact wpAnyH_take hi hs hf hr hQ (.inl ⟨by simp [Region.wanted], fun w' hz => ho a w' ha hz⟩) (hZ w hm) (h _ _ (ha.put hd v) hm)
theorem wa_take_on {op : Op} {v : Value} {fuel : Nat} {listed listed' : Array Bool} {j t : Nat} {b : Bool} (i : Nat) (hi : ops[i]? = some ⟨some d, op, ty, pos, aft, some (j, b)⟩) (hj : (ops[j]?).bind (·.dst) = some t) (hb : look S t = some (.bool b)) (hs : Region.noSelect ops = true) (hf : Region.free .any ops listed i = true) (hr : (Region.ready .any ops listed).contains i = true) (hl : listed.setIfInBounds i true = listed')
    (hQ : ∀ cc a w, Q (.panic cc) (a.put (some d) v) w → Q (.panic cc) a w) (hZ : ∀ w, Mem c K L O X w → Z w) (ho : OV P c.n S Z ⟨some d, op, ty, pos, aft, none⟩ v) (hd : Nat.ble (d + 1) c.n = true) (h : WA P c ops Q Z fuel listed' ((d, v) :: S) K L O X) : WA P c ops Q Z (fuel + 1) listed S K L O X := by
  intro a w ha hm
  subst hl
  have hy : yielded ops a.tmps j = some b := by
    unfold yielded
    rw [hj]
    simp [ha.val t _ hb]
  exact wpAnyH_take hi hs hf hr hQ (.inl ⟨by simp [Region.wanted, hy], fun w' hz => ho a w' ha hz⟩) (hZ w hm) (h _ _ (ha.put hd v) hm)
theorem wa_take_off {op : Op} {fuel : Nat} {listed listed' : Array Bool} {j t : Nat} {b b' : Bool} (i : Nat) (hi : ops[i]? = some ⟨some d, op, ty, pos, aft, some (j, b)⟩) (hj : (ops[j]?).bind (·.dst) = some t) (hb : look S t = some (.bool b')) (hne : b' ≠ b) (hs : Region.noSelect ops = true) (hf : Region.free .any ops listed i = true) (hr : (Region.ready .any ops listed).contains i = true) (hl : listed.setIfInBounds i true = listed')
    (hQ : ∀ cc a w, Q (.panic cc) (a.put (some d) undef) w → Q (.panic cc) a w) (hZ : ∀ w, Mem c K L O X w → Z w) (hd : Nat.ble (d + 1) c.n = true) (h : WA P c ops Q Z fuel listed' ((d, undef) :: S) K L O X) : WA P c ops Q Z (fuel + 1) listed S K L O X := by
  intro a w ha hm
  subst hl
  have hy : yielded ops a.tmps j = some b' := by
    unfold yielded
    rw [hj]
    simp [ha.val t _ hb]
  exact wpAnyH_take hi hs hf hr hQ (.inr ⟨by simp [Region.wanted, hy, hne], rfl⟩) (hZ w hm) (h _ _ (ha.put hd undef) hm)
theorem wpOp_of_list {i : Nat} {o : Oper} {KK : Act → World → Prop} {a : Act} {w : World} (hi : ops[i]? = some o) (h : wpList P ops (Exit.then KK Q) [o] a w) : wpOp P ops Q i KK a w := by
  unfold wpOp
  simp only [hi]
  unfold wpList at h
  split at h
  · rename_i hw
    rw [if_pos hw]
    rcases h with h | ⟨h1, h2⟩
    · refine .inl ?_
      unfold Oper.wp at *
      generalize (execOp a.eval o).run P w = r at *
      cases r with
      | ok n w' =>
        cases n <;> simp only [Oper.upon] at h ⊢ <;> exact h
      | halt x w' => cases x <;> simp only [Oper.upon] at h ⊢ <;> exact h
    · exact .inr ⟨h1, h2⟩
  · rename_i hw
    rw [if_neg hw]
    exact h
/-- Each of those that may come up comes up. -/
def Evs (P : Program) (c : Cx) (ops : Array Oper) (Q : Exit → Act → World → Prop) (Z : World → Prop) (fuel : Nat) (listed : Array Bool) (S : List (Nat × Value)) (K : World → Prop) (L : List (Nat × TypeId × List Value)) (O : List Own) (X : List (World → Prop)) : List Nat → Prop
  | [] => True
  | i :: r => (∃ o, ops[i]? = some o ∧ WL P c ops (Exit.then (fun a w => Z w ∧ wpAnyH P .any ops Q Z fuel (listed.setIfInBounds i true) a w) Q) [o] S K L O X) ∧ Evs P c ops Q Z fuel listed S K L O X r
theorem Evs.get {fuel : Nat} {listed : Array Bool} : ∀ {rs : List Nat}, Evs P c ops Q Z fuel listed S K L O X rs → ∀ i ∈ rs, ∃ o, ops[i]? = some o ∧ WL P c ops (Exit.then (fun a w => Z w ∧ wpAnyH P .any ops Q Z fuel (listed.setIfInBounds i true) a w) Q) [o] S K L O X
  | [], _, i, hi => by cases hi
  | j :: r, h, i, hi => by
    rcases List.mem_cons.1 hi with rfl | hi
    · exact h.1
    · exact Evs.get h.2 i hi
theorem wa_all {fuel : Nat} {listed : Array Bool} (rs : List Nat) (hr : Region.ready .any ops listed = rs) (hne : rs.isEmpty = false) (h : Evs P c ops Q Z fuel listed S K L O X rs) : WA P c ops Q Z (fuel + 1) listed S K L O X := by
  intro a w ha hm
  refine wpAnyH_all hr (fun e => by subst e; simp at hne) fun i hi => ?_
  obtain ⟨o, ho, hwl⟩ := h.get i hi
  exact wpOp_of_list ho (hwl a w ha hm)
theorem nx_wa {fuel : Nat} {listed : Array Bool} {S' : List (Nat × Value)} {K' : World → Prop} {L' : List (Nat × TypeId × List Value)} {O' : List Own} {X' : List (World → Prop)} (hZ : ∀ w, Mem c K L O X w → Z w) (hs : Sub S S') (hM : ∀ w, Mem c K L O X w → Mem c K' L' O' X' w) (J : WA P c ops Q Z fuel listed S' K' L' O' X') :
    Nx c (Exit.then (fun a w => Z w ∧ wpAnyH P .any ops Q Z fuel listed a w) Q) .normal S K L O X := fun a w ha hm => ⟨hZ w hm, J a w (ha.sub hs.look) (hM w hm)⟩
theorem wa_weak {fuel : Nat} {listed : Array Bool} {S' : List (Nat × Value)} {K' : World → Prop} {L' : List (Nat × TypeId × List Value)} {O' : List Own} {X' : List (World → Prop)} (hs : Sub S S') (hM : ∀ w, Mem c K L O X w → Mem c K' L' O' X' w) (J : WA P c ops Q Z fuel listed S' K' L' O' X') :
    WA P c ops Q Z fuel listed S K L O X := fun a w ha hm => J a w (ha.sub hs.look) (hM w hm)
theorem wa_done {fuel : Nat} {listed : Array Bool} (hr : Region.ready .any ops listed = []) (h : Nx c Q .normal S K L O X) : WA P c ops Q Z fuel listed S K L O X := fun a w ha hm => wpAnyH_done hr (h a w ha hm) _
theorem nx_wa0 {fuel : Nat} {listed : Array Bool} {listed' : Array Bool} (hl : listed = listed') (hZ : ∀ w, Mem c K L O X w → Z w) (J : WA P c ops Q Z fuel listed' S K L O X) :
    Nx c (Exit.then (fun a w => Z w ∧ wpAnyH P .any ops Q Z fuel listed a w) Q) .normal S K L O X := fun a w ha hm => by subst hl; exact ⟨hZ w hm, J a w ha hm⟩
theorem wa_set {fuel : Nat} {listed : Array Bool} {v v' : Value} (t : Nat) (hv : look S t = some v) (e : v = v') (h : WA P c ops Q Z fuel listed ((t, v') :: S) K L O X) : WA P c ops Q Z fuel listed S K L O X := fun a w ha hm =>
  h a w ⟨ha.size, fun t' u hu => by
    rcases beq_look hu with ⟨rfl, rfl⟩ | ⟨_, hu⟩
    · exact e ▸ ha.val _ _ hv
    · exact ha.val t' u hu, ha.df⟩ hm
end

end Go.Proofs.YtljnekobfjpfaaaDoor
/- The steps of a walk over slots and blocks: structs compared, rows of the call's own written. -/
namespace Go.Proofs.YtljnekobfjpfaaaDoor
open Go.RowKit

theorem Mem.neRow {c : Cx} {K : World → Prop} {L : List (Nat × TypeId × List Value)} {O : List Own} {X : List (World → Prop)} {w : World} (h : Mem c K L O X w) (i : Nat) {g sb : Nat} {T : TypeId} {cs : List Value} (hi : L[i]? = some (g, T, cs)) (hrow : c.row = some sb) : g ≠ sb := by
  have h1 := (h.b _ (List.mem_of_getElem? hi)).1
  have h2 := h.rs sb hrow
  have h3 : c.w0.heap.size ≤ g := h1
  omega
theorem mem_rng {xs : List Int} {v lo hi : Int} (h : v ∈ xs) (hb : ∀ x ∈ xs, lo ≤ x ∧ x ≤ hi) : lo ≤ v ∧ v ≤ hi := hb v h
theorem mem_sz {xs : List ByteArray} {v : ByteArray} (hv : v ∈ xs) (h : ∀ x ∈ xs, x.size ≤ 100) : v.size ≤ 100 := h v hv
theorem cmp_agg {P : Program} {op : BinOp} {t : TypeId} {x y : Operand} {cs ds : Array Value} {v : Value} (hm : P.eqGuardType P.depth t = false) (h : ∀ w, (binOp op t (.agg cs) (.agg ds)).run P w = .ok v w) (w : World) : (do eqGuard op t x y (.agg cs) (.agg ds); binOp op t (.agg cs) (.agg ds) : Sem Value).run P w = .ok v w := by
  have hg : ∀ w, (eqGuard op t x y (.agg cs) (.agg ds)).run P w = .ok () w := fun w => run_eqGuard_agg w op t x y cs ds hm
  rw [Sem.run_bind, hg]
  exact h w
section
variable {P : Program} {c : Cx} {ops : Array Oper} {Q : Exit → Act → World → Prop} {rest : List Oper} {S : List (Nat × Value)} {K : World → Prop} {L : List (Nat × TypeId × List Value)} {O : List Own} {X : List (World → Prop)}
variable {nn : Nat} {Z : World → Prop} {d : Nat} {ty : TypeId} {pos : String} {aft : Array Edge}
theorem ov_nilcheck {x : Operand} {a : Addr} (hx : rd S x = some (.pointer (some a))) : OV P nn S Z ⟨some d, .nilCheck x, ty, pos, aft, none⟩ (.pointer (some a)) := fun a w ha hm => by
  simp [execOp, ha.eval hx]

theorem flat_set1 {α : Type} (enc : α → List Value) (k : Nat) (hk : ∀ x, (enc x).length = k) {x' : α} {r : Nat} {v : Value} : ∀ {l : List α} {j : Nat} {x : α}, l[j]? = some x → (enc x).set r v = enc x' → r < k → (l.flatMap enc).set (j * k + r) v = (l.set j x').flatMap enc
  | [], j, x, h, _, _ => by simp at h
  | y :: t, 0, x, h, he, hr => by
    simp at h; subst h
    rw [Nat.zero_mul, Nat.zero_add, List.flatMap_cons, List.set_cons_zero, List.flatMap_cons, List.set_append_left _ _ (by rw [hk]; exact hr), he]
  | y :: t, j + 1, x, h, he, hr => by
    have ih := flat_set1 enc k hk (l := t) (j := j) (by simpa using h) he hr
    rw [List.flatMap_cons, List.set_cons_succ, List.flatMap_cons, List.set_append_right _ _ (by rw [hk, Nat.add_mul]; omega), hk]
    rw [show (j + 1) * k + r - k = j * k + r by rw [Nat.add_mul]; omega, ih]
/-- A cell of an element of a row of the call's own is written. -/
theorem wl_storeE {α : Type} {enc : α → List Value} {t : TypeId} {x y : Operand} {g n cap sz o j r : Nat} {e : TypeId} {v : Value} {l : List α} {el el' : α} (i : Nat) (hs : scalarB P t = true) (hx : rd S x = some (.pointer (some ⟨g, o, none⟩))) (hy : rd S y = some v) (h1 : v.oneCell' = true) (hO : O[i]? = some ⟨.slice (some ⟨g, 0, none⟩) n cap, e, sz, n, l.flatMap enc⟩)
    (hk : ∀ x, (enc x).length = sz) (ho : 0 + j * sz + r = o) (hj : l[j]? = some el) (hl : l.length = n) (hr : r < sz) (he : (enc el).set r v = enc el') (hT : c.Tt.contains e = false)
    (h : WL P c ops Q rest S K L (setOwn ⟨.slice (some ⟨g, 0, none⟩) n cap, e, sz, n, (l.set j el').flatMap enc⟩ O i) X) : WL P c ops Q (⟨none, .store t x y, ty, pos, aft, none⟩ :: rest) S K L O X := by
  intro a w ha hm
  refine wpList_plain rfl fun K' hK => ?_
  have hown := hm.ownI i hO
  have hjl := (List.getElem?_eq_some_iff.1 hj).1
  have hlt : j * sz + r < n * sz := by
    have : (j + 1) * sz ≤ n * sz := Nat.mul_le_mul_right sz (by omega)
    rw [Nat.add_mul] at this
    omega
  have ho' : o = j * sz + r := by omega
  obtain ⟨u, hu⟩ : ∃ u, (l.flatMap enc)[o]? = some u := ⟨_, List.getElem?_eq_getElem (by rw [hown.1]; omega)⟩
  have hc : w.cell? ⟨g, o, none⟩ = some u := by rw [hown.cellAt o (by omega)]; exact hu
  have hst : (store ⟨g, o, none⟩ v).run P w = .ok () (w.setCell ⟨g, o, none⟩ v) := by
    rw [run_store P w _ _ _ h1]
    simp [hc, hown.frozenAt]
  have hv1 : v.cells = #[v] := by cases v <;> simp_all [Value.cells, Value.oneCell']
  unfold Oper.wp
  have : (execOp a.eval ⟨none, .store t x y, ty, pos, aft, none⟩).run P w = .ok .skip (w.setCell ⟨g, o, none⟩ v) := by
    simp only [execOp, ha.eval hx, ha.eval hy, Instr.storeAt, Instr.sureAddr, storeVar, hv1]
    simp [(run_scalar hs w).2, storeCells, add_addr, hst]
  rw [this]
  have hs2 := hown.stored o v
  rw [ho', flat_set1 enc sz hk hj he hr, ← ho'] at hs2
  exact hK _ _ (h _ _ ⟨ha.size, ha.val, ha.df⟩ (hm.append hO hT hs2.1 hs2.2 (.inl rfl)))
end
theorem own_addr {w : World} {base : Nat} {e : TypeId} {sz n : Nat} {A : Option Addr} {cc : Nat} {xs : List Value} (h : w.ownsRow base e sz (.slice A n cc) n xs) (hn : 0 < n) : ∃ g, A = some ⟨g, 0, none⟩ := by
  rcases h.2 with ⟨_, h0⟩ | ⟨g, cap, cur, h1, _⟩
  · omega
  · injection h1 with h1 _ _
    exact ⟨g, h1⟩
theorem own_zero {n : Nat} {A : Option Addr} {cc : Nat} (hnil : Value.slice A n cc = .slice none 0 0 ∨ 0 < n) : n = 0 → A = none ∧ cc = 0 := fun h0 => by
  rcases hnil with h1 | h1
  · injection h1 with h1 _ h3
    exact ⟨h1, h3⟩
  · omega

end Go.Proofs.YtljnekobfjpfaaaDoor
/- How the walk of a law begins and ends: the stream stands in a new block over the list that came in. -/
namespace Go.Proofs.YtljnekobfjpfaaaDoor
open Go.RowKit

theorem Strm.ofBlk {TS : TypeId} {w w1 : World} {A : Option Addr} {n c sb : Nat} {zs : List Int} (h : RowIn w A n c zs) (hg : w.grownBy w1 none) (hb : Blk w1 sb TS [.slice A n c, .int .i64 0]) (hsb : w.heap.size ≤ sb) : Strm TS w1 w.heap.size sb 0 := by
  obtain ⟨_, A', n', c', k, hh, h0, h1, h2, h3⟩ := Strm.start (TS := TS) h
  rw [heap_alloc_new] at hh
  simp only [Option.some.injEq, Obj.cells.injEq, Array.mk.injEq, List.cons.injEq, Value.slice.injEq, Value.int.injEq, true_and, and_true] at hh
  obtain ⟨⟨rfl, rfl, rfl⟩, rfl⟩ := hh
  refine ⟨hsb, A, n, c, 0, hb, Int.le_refl _, Int.le_refl _, h2, fun hn => ?_⟩
  obtain ⟨b, off, e, hbB, hc⟩ := h3 hn
  refine ⟨b, off, e, hbB, fun i hi => ?_⟩
  obtain ⟨z, z1, z2, hz⟩ := hc i hi
  refine ⟨z, z1, z2, ?_⟩
  rw [World.cell?_of_block (hg.block b hbB (by simp)), ← hz]
  exact (World.cell?_of_block (Below.heap_alloc w _ b hbB)).symm
theorem law_end {w w1 w' : World} {sb : Nat} (h1 : w.grownBy w1 none) (hs : w.heap.size ≤ sb) (hg : w1.grownBy w' (some sb)) : Below w.heap.size w w' :=
  below_of_grow (grow_own h1 hg (fun k h => by cases h; exact hs))
section
variable {P : Program} {ops : Array Oper} {Q : Exit → Act → World → Prop} {S : List (Nat × Value)} {K : World → Prop} {L : List (Nat × TypeId × List Value)} {O : List Own} {X : List (World → Prop)}
theorem wl_law {TS : TypeId} {l : List Oper} {n : Nat} {w : World} {T0 : List TypeId} {A : Option Addr} {len cap sb : Nat} {zs : List Int} (Tt : List TypeId) (h0 : RowIn w A len cap zs) (i : Nat) (hi : L[i]? = some (sb, TS, [.slice A len cap, .int .i64 0]))
    (h : ∀ (w1 : World) (B : Nat), w.grownBy w1 none → w.heap.size ≤ sb → WL P ⟨n, w1, some sb, Tt⟩ ops Q l S (fun w => Strm TS w B sb 0) [] [] []) : WL P ⟨n, w, none, T0⟩ ops Q l S K L O X := fun a w1 ha hm => by
  have hb := hm.b _ (List.mem_of_getElem? hi)
  have hb1 : w.heap.size ≤ sb := hb.1
  have hS := Strm.ofBlk h0 hm.g hb.2 hb1
  exact h w1 w.heap.size hm.g hb1 a w1 ha (memS hS allF_nil allL_nil)
theorem gw_law {TS : TypeId} {code : Code} {n : Nat} {w : World} {T0 : List TypeId} {A : Option Addr} {len cap sb : Nat} {zs : List Int} (Tt : List TypeId) (h0 : RowIn w A len cap zs) (i : Nat) (hi : L[i]? = some (sb, TS, [.slice A len cap, .int .i64 0]))
    (h : ∀ (w1 : World) (B : Nat), w.grownBy w1 none → w.heap.size ≤ sb → Gw P ⟨n, w1, some sb, Tt⟩ Q code S (fun w => Strm TS w B sb 0) [] [] []) : Gw P ⟨n, w, none, T0⟩ Q code S K L O X := fun a w1 ha hm => by
  have hb := hm.b _ (List.mem_of_getElem? hi)
  have hb1 : w.heap.size ≤ sb := hb.1
  have hS := Strm.ofBlk h0 hm.g hb.2 hb1
  exact h w1 w.heap.size hm.g hb1 a w1 ha (memS hS allF_nil allL_nil)
end

end Go.Proofs.YtljnekobfjpfaaaDoor
/- The steps of a walk over slots and blocks: a struct is stored into an element of a row of the call's own. -/
namespace Go.Proofs.YtljnekobfjpfaaaDoor
open Go.RowKit

theorem own_splice_left {α : Type} {cs ds : List α} {o : Nat} {vs : List α} (ho : o + vs.length ≤ cs.length) : splice (cs ++ ds) o vs = splice cs o vs ++ ds := by
  unfold splice
  rw [List.take_append_of_le_length (by omega), List.drop_append_of_le_length (by omega)]
  simp [List.append_assoc]
theorem own_splice_right {α : Type} {cs ds : List α} {o : Nat} {vs : List α} : splice (cs ++ ds) (cs.length + o) vs = cs ++ splice ds o vs := by
  unfold splice
  rw [List.take_length_add_append, show cs.length + o + vs.length = cs.length + (o + vs.length) by omega, List.drop_length_add_append]
  simp [List.append_assoc]
theorem own_flat_splice {α : Type} (enc : α → List Value) (k : Nat) (hk : ∀ x, (enc x).length = k) {x' : α} {r : Nat} {vs : List Value} : ∀ {l : List α} {j : Nat} {x : α}, l[j]? = some x → splice (enc x) r vs = enc x' → r + vs.length ≤ k → splice (l.flatMap enc) (j * k + r) vs = (l.set j x').flatMap enc
  | [], j, x, h, _, _ => by simp at h
  | y :: t, 0, x, h, he, hr => by
    simp at h; subst h
    rw [Nat.zero_mul, Nat.zero_add, List.flatMap_cons, List.set_cons_zero, List.flatMap_cons, own_splice_left (by rw [hk]; exact hr), he]
  | y :: t, j + 1, x, h, he, hr => by
    have ih := own_flat_splice enc k hk (l := t) (j := j) (by simpa using h) he hr
    rw [List.flatMap_cons, List.set_cons_succ, List.flatMap_cons, show (j + 1) * k + r = (enc y).length + (j * k + r) by rw [hk, Nat.add_mul]; omega, own_splice_right, ih]
theorem own_take_splice {α : Type} {cs : List α} {o m : Nat} {vs : List α} (hm : m ≤ cs.length) (ho : o + vs.length ≤ m) : (splice cs o vs).take m = splice (cs.take m) o vs := by
  have h : cs = cs.take m ++ cs.drop m := (List.take_append_drop m cs).symm
  have hl : (cs.take m).length = m := by simp; omega
  conv => lhs; rw [h]
  rw [own_splice_left (by omega)]
  have h2 := splice_length (cs.take m) o vs (by omega)
  rw [List.take_append_of_le_length (by omega), List.take_of_length_le (by omega)]
section
variable {P : Program} {c : Cx} {ops : Array Oper} {Q : Exit → Act → World → Prop} {rest : List Oper} {S : List (Nat × Value)} {K : World → Prop} {L : List (Nat × TypeId × List Value)} {O : List Own} {X : List (World → Prop)}
variable {ty : TypeId} {pos : String} {aft : Array Edge}
/-- Some cells of an element of a row of the call's own are written: a struct. -/
theorem wl_storesE {α : Type} {enc : α → List Value} {t : TypeId} {x y : Operand} {g n cap sz o j r m : Nat} {e : TypeId} {vs : List Value} {l : List α} {el el' : α} (i : Nat) (hs : rowSz P t = some m) (hx : rd S x = some (.pointer (some ⟨g, o, none⟩))) (hy : rd S y = some (.agg vs.toArray)) (h1 : vs.all (·.oneCell') = true) (hn : vs.length = m)
    (hO : O[i]? = some ⟨.slice (some ⟨g, 0, none⟩) n cap, e, sz, n, l.flatMap enc⟩)
    (hk : ∀ x, (enc x).length = sz) (ho : 0 + j * sz + r = o) (hj : l[j]? = some el) (hl : l.length = n) (hr : r + m ≤ sz) (he : splice (enc el) r vs = enc el') (hT : c.Tt.contains e = false)
    (h : WL P c ops Q rest S K L (setOwn ⟨.slice (some ⟨g, 0, none⟩) n cap, e, sz, n, (l.set j el').flatMap enc⟩ O i) X) : WL P c ops Q (⟨none, .store t x y, ty, pos, aft, none⟩ :: rest) S K L O X := by
  intro a w ha hm
  have hown := hm.ownI i hO
  have hjl := (List.getElem?_eq_some_iff.1 hj).1
  have hlt : o + m ≤ n * sz := by
    have : (j + 1) * sz ≤ n * sz := Nat.mul_le_mul_right sz (by omega)
    rw [Nat.add_mul] at this
    omega
  obtain ⟨dd, hu, _, hi⟩ := run_row hs
  rcases hown.2 with ⟨h', _⟩ | ⟨g', cap', cur, h', hb, hg, hnc, hcm, hcs, htake⟩
  · simp at h'
  · simp only [Value.slice.injEq, Option.some.injEq, Addr.mk.injEq, and_true, true_and] at h'
    obtain ⟨rfl, rfl⟩ := h'
    have hbk : Blk w g e cur.toList := by unfold Blk; rw [Array.toArray_toList]; exact hg
    have hcl : n * sz ≤ cur.toList.length := by
      have := Nat.mul_le_mul_right sz hnc
      simp [hcs]; exact this
    refine wpList_store_blk rfl t x y rfl g o e cur.toList vs hbk (ha.eval hx) (ha.eval hy) m hi hn (by omega) (by simpa using h1) fun w' hb' hgr => ?_
    have hsl := splice_length cur.toList o vs (by omega)
    have hfl := flat_len enc sz hk (l.set j el')
    rw [List.length_set, hl] at hfl
    refine h _ _ ⟨ha.size, ha.val, ha.df⟩ (hm.append hO hT ⟨hfl, .inr ⟨g, cap, (splice cur.toList o vs).toArray, rfl, hb, hb', hnc, hcm, by simpa [hsl] using hcs, ?_⟩⟩ hgr (.inl rfl))
    rw [List.toList_toArray, own_take_splice hcl (by omega), htake, ← ho, Nat.zero_add, own_flat_splice enc sz hk hj he (by omega)]
section
variable {d nn : Nat} {Z : World → Prop}
/-- A quotient of numbers that are not below nought. -/
theorem ov_quo {t t' : TypeId} {x y : Operand} {m n : Int} (hx : rd S x = some (.int .i64 m)) (hy : rd S y = some (.int .i64 n)) (h0 : 0 ≤ m) (h1 : m ≤ 9223372036854775807) (h2 : 0 < n) : OV P nn S Z ⟨some d, .binOp .quo t x y t', ty, pos, aft, none⟩ (.int .i64 (m / n)) :=
  ov_bin hx hy (fun w => by
    have hq : m.tdiv n = m / n := Int.tdiv_eq_ediv_of_nonneg h0
    have hle : m / n ≤ m := Int.ediv_le_self n h0
    have hge : 0 ≤ m / n := Int.ediv_nonneg h0 (by omega)
    have hw : IntKind.i64.wrap (m / n) = m / n := IntWalk.i64_in _ (by omega)
    have hn : ¬ n = 0 := by omega
    simp [binOp_quo, Op.intDiv, hq, hw, hn, go_sem])
theorem ov_rem {t t' : TypeId} {x y : Operand} {m n : Int} (hx : rd S x = some (.int .i64 m)) (hy : rd S y = some (.int .i64 n)) (h0 : 0 ≤ m) (_h1 : m ≤ 9223372036854775807) (h2 : 0 < n) : OV P nn S Z ⟨some d, .binOp .rem t x y t', ty, pos, aft, none⟩ (.int .i64 (m % n)) :=
  ov_bin hx hy (fun w => by
    have hq : m.tmod n = m % n := Int.tmod_eq_emod_of_nonneg h0
    have hn : ¬ n = 0 := by omega
    simp [binOp_rem, Op.intDiv, hq, hn, go_sem])
theorem wl_guard_undef {o : Oper} {j : Nat} {b : Bool} {t : Nat} {op : Op} (ho : o = ⟨some d, op, ty, pos, aft, some (j, b)⟩) (hj : (ops[j]?).bind (·.dst) = some t) (hb : look S t = some undef) (hd : Nat.ble (d + 1) c.n = true) (h : WL P c ops Q rest ((d, undef) :: S) K L O X) : WL P c ops Q (o :: rest) S K L O X := by
  subst ho
  intro a w ha hm
  unfold wpList
  have hy : yielded ops a.tmps j = none := by
    unfold yielded
    rw [hj]
    simp [ha.val t _ hb, undef]
  rw [if_neg (by simp [Region.wanted, hy])]
  exact h _ _ (ha.put hd _) hm
theorem wa_take_undef {Z : World → Prop} {op : Op} {fuel : Nat} {listed listed' : Array Bool} {j t : Nat} {b : Bool} (i : Nat) (hi : ops[i]? = some ⟨some d, op, ty, pos, aft, some (j, b)⟩) (hj : (ops[j]?).bind (·.dst) = some t) (hb : look S t = some undef) (hs : Region.noSelect ops = true) (hf : Region.free .any ops listed i = true) (hr : (Region.ready .any ops listed).contains i = true) (hl : listed.setIfInBounds i true = listed')
    (hQ : ∀ cc a w, Q (.panic cc) (a.put (some d) undef) w → Q (.panic cc) a w) (hZ : ∀ w, Mem c K L O X w → Z w) (hd : Nat.ble (d + 1) c.n = true) (h : WA P c ops Q Z fuel listed' ((d, undef) :: S) K L O X) : WA P c ops Q Z (fuel + 1) listed S K L O X := by
  intro a w ha hm
  subst hl
  have hy : yielded ops a.tmps j = none := by
    unfold yielded
    rw [hj]
    simp [ha.val t _ hb, undef]
  exact wpAnyH_take hi hs hf hr hQ (.inr ⟨by simp [Region.wanted, hy], rfl⟩) (hZ w hm) (h _ _ (ha.put hd undef) hm)
end
/-- A call whose result holds a row of the call's own. -/
theorem wl_callgo {γ : Type} {f : FuncId} {x : Operand} {ags : List Operand} {ats : Array TypeId} {vs fs cs : List Value} {d : Nat} {val : γ → Value} {φ : γ → Prop} (r : γ → Own) (hx : rd S x = some (.func (.func f) fs.toArray cs.toArray)) (hf : callableB P f = true) (ha : evArgs S ags = some vs) (hd : Nat.ble (d + 1) c.n = true)
    (hC : ∀ w, Mem c K L O X w → Calls P f (fs ++ vs ++ cs).toArray w (fun e w' => ∃ g, e = .returned (val g) ∧ φ g ∧ w'.ownsRow w.heap.size (r g).e (r g).sz (r g).v (r g).n (r g).xs ∧ w.grownBy w' none)) (h : ∀ g, φ g → WL P c ops Q rest ((d, val g) :: S) K L (r g :: O) X) :
    WL P c ops Q (⟨some d, .call ⟨.value x, ags.toArray, ats⟩, ty, pos, aft, none⟩ :: rest) S K L O X :=
  wl_callG (γ := γ) (val := val) (φ := φ) (K' := fun _ => K) (L' := fun _ => L) (O' := fun g => r g :: O) (X' := fun _ => X) hx hf ha hd (fun w hm => (hC w hm).mono fun _ _ ⟨g, he, hφ, ho, hg⟩ => ⟨g, he, hφ, hm.newOwn hg ho⟩) h
end

end Go.Proofs.YtljnekobfjpfaaaDoor
/- The steps of a walk over slots and blocks: make. -/
namespace Go.Proofs.YtljnekobfjpfaaaDoor
open Go.RowKit

section
variable {P : Program} {c : Cx} {ops : Array Oper} {Q : Exit → Act → World → Prop} {rest : List Oper} {S : List (Nat × Value)} {K : World → Prop} {L : List (Nat × TypeId × List Value)} {O : List Own} {X : List (World → Prop)}
variable {d : Nat} {ty : TypeId} {pos : String} {aft : Array Edge}
/-- A row of a known size, of elements of one cell: a block of the list. -/
theorem wl_makeB {t e : TypeId} {z : Value} {by_ n : Nat} {x y : Operand} {cs : List Value} (ht : P.underlying t = some (.slice e)) (hi : (P.info? e).map (fun i => (i.zero, i.size, i.bytes)) = some (some z, 1, by_)) (hz : z.cells = #[z]) (hx : rd S x = some (.int .i64 (n : Int))) (hy : rd S y = some (.int .i64 (n : Int))) (hb : Nat.ble (by_ * n) 281474976710656 = true) (h63 : Nat.ble n 9223372036854775807 = true) (hcs : madeCells #[z] n = cs.toArray) (hd : Nat.ble (d + 1) c.n = true)
    (h : ∀ g, WL P c ops Q rest ((d, .slice (some ⟨g, 0, none⟩) n n) :: S) K ((g, e, cs) :: L) O X) : WL P c ops Q (⟨some d, .makeSlice t x y, ty, pos, aft, none⟩ :: rest) S K L O X := by
  intro a w ha hm
  obtain ⟨i, hi', hzz⟩ := Option.map_eq_some_iff.1 hi
  simp only [Prod.mk.injEq] at hzz
  obtain ⟨hz1, hs, hb1⟩ := hzz
  refine wpList_make_row w rfl x y t rfl e i z ht hi' hz1 hs hz .i64 .i64 n (ha.eval hx) (ha.eval hy) (by rw [hb1]; exact Nat.le_of_ble_eq_true hb) (Nat.le_of_ble_eq_true h63) ?_
  rw [hcs]
  exact h _ _ _ (ha.put hd _) (hm.new e cs)
/-- A row of zero values. -/
theorem wl_makeO {t e : TypeId} {z : Value} {sz by_ n : Nat} {x y : Operand} {xs : List Value} {vx vy : Int} (ht : P.underlying t = some (.slice e)) (hi : (P.info? e).map (fun i => (i.zero, i.size, i.bytes)) = some (some z, sz, by_)) (hx : rd S x = some (.int .i64 vx)) (hy : rd S y = some (.int .i64 vy)) (hvx : vx = (n : Int)) (hvy : vy = (n : Int)) (hb : by_ * n ≤ 281474976710656) (h63 : n ≤ maxLen) (hxs : (madeCells z.cells (n * sz)).toList = xs) (hd : Nat.ble (d + 1) c.n = true)
    (h : ∀ g, WL P c ops Q rest ((d, .slice (some ⟨g, 0, none⟩) n n) :: S) K L (⟨.slice (some ⟨g, 0, none⟩) n n, e, sz, n, xs⟩ :: O) X) : WL P c ops Q (⟨some d, .makeSlice t x y, ty, pos, aft, none⟩ :: rest) S K L O X := by
  intro a w ha hm
  obtain ⟨i, hi', hzz⟩ := Option.map_eq_some_iff.1 hi
  simp only [Prod.mk.injEq] at hzz
  obtain ⟨hz1, hs, hb1⟩ := hzz
  refine wpList_make_full w rfl x y t rfl w.heap.size e i z sz ht hi' hz1 hs .i64 .i64 vx vy n (ha.eval hx) (ha.eval hy) hvx hvy (by rw [hb1]; exact hb) h63 (Nat.le_refl _) fun w' ho hg => ?_
  rw [hxs] at ho
  exact h _ _ _ (ha.put hd _) (hm.newOwn hg ho)
end
theorem nx_look {c : Cx} {Q : Exit → Act → World → Prop} {S : List (Nat × Value)} {K : World → Prop} {L : List (Nat × TypeId × List Value)} {O : List Own} {X : List (World → Prop)} {e : Exit} {R : Prop} (hr : ∀ w, Mem c K L O X w → R) (h : R → Nx c Q e S K L O X) : Nx c Q e S K L O X := fun a w ha hm => h (hr w hm) a w ha hm
/-- A block of the list as a row of the call's own. -/
theorem Mem.rowOf {c : Cx} {K : World → Prop} {L : List (Nat × TypeId × List Value)} {O : List Own} {X : List (World → Prop)} {w : World} (h : Mem c K L O X w) (i : Nat) {g : Nat} {T : TypeId} {cs : List Value} (hi : L[i]? = some (g, T, cs)) {n sz : Nat} (hcs : cs.length = n * sz) (hn : n ≤ maxLen) : w.ownsRow c.w0.heap.size T sz (.slice (some ⟨g, 0, none⟩) n n) n cs := by
  have hb := h.b _ (List.mem_of_getElem? hi)
  refine ⟨hcs, .inr ⟨g, n, cs.toArray, rfl, hb.1, hb.2, Nat.le_refl _, hn, by simpa using hcs, ?_⟩⟩
  simp [← hcs]

end Go.Proofs.YtljnekobfjpfaaaDoor
/- Closed facts on the types and functions of the program. -/
namespace Go.Proofs.YtljnekobfjpfaaaDoor

theorem sc1 : scalarB Tryd.prog 1 = true := by kernel_rfl
theorem sc2 : scalarB Tryd.prog 2 = true := by kernel_rfl
theorem zc2 : zeroCs Tryd.prog 2 = some [.int .i64 0] := by kernel_rfl
theorem sc3 : scalarB Tryd.prog 3 = true := by kernel_rfl
theorem zc3 : zeroCs Tryd.prog 3 = some [.int .i64 0] := by kernel_rfl
theorem sc4 : scalarB Tryd.prog 4 = true := by kernel_rfl
theorem zc4 : zeroCs Tryd.prog 4 = some [.bool false] := by kernel_rfl
theorem sc5 : scalarB Tryd.prog 5 = true := by kernel_rfl
theorem zc5 : zeroCs Tryd.prog 5 = some [.int .u8 0] := by kernel_rfl
theorem rz7 : rowSz Tryd.prog 7 = some 4 := by kernel_rfl
theorem fo7_0 : fieldOff Tryd.prog 7 0 = some 0 := by kernel_rfl
theorem fo7_1 : fieldOff Tryd.prog 7 1 = some 1 := by kernel_rfl
theorem fo7_2 : fieldOff Tryd.prog 7 2 = some 2 := by kernel_rfl
theorem fo7_3 : fieldOff Tryd.prog 7 3 = some 3 := by kernel_rfl
theorem zc7 : zeroCs Tryd.prog 7 = some [.int .i64 0, .int .i64 0, .bool false, .int .u8 0] := by kernel_rfl
theorem sc9 : scalarB Tryd.prog 9 = true := by kernel_rfl
theorem us9 : Tryd.prog.underlying 9 = some .string := by kernel_rfl
theorem zc9 : zeroCs Tryd.prog 9 = some [.string ⟨#[]⟩] := by kernel_rfl
theorem sc12 : scalarB Tryd.prog 12 = true := by kernel_rfl
theorem zc12 : zeroCs Tryd.prog 12 = some [.int .u64 0] := by kernel_rfl
theorem rz13 : rowSz Tryd.prog 13 = some 2 := by kernel_rfl
theorem fo13_0 : fieldOff Tryd.prog 13 0 = some 0 := by kernel_rfl
theorem fo13_1 : fieldOff Tryd.prog 13 1 = some 1 := by kernel_rfl
theorem zc13 : zeroCs Tryd.prog 13 = some [.string ⟨#[]⟩, .int .u64 0] := by kernel_rfl
theorem sc15 : scalarB Tryd.prog 15 = true := by kernel_rfl
theorem sc16 : scalarB Tryd.prog 16 = true := by kernel_rfl
theorem sc17 : scalarB Tryd.prog 17 = true := by kernel_rfl
theorem rz18 : rowSz Tryd.prog 18 = some 1 := by kernel_rfl
theorem fo18_0 : fieldOff Tryd.prog 18 0 = some 0 := by kernel_rfl
theorem zc18 : zeroCs Tryd.prog 18 = some [.pointer none] := by kernel_rfl
theorem sc21 : scalarB Tryd.prog 21 = true := by kernel_rfl
theorem zc21 : zeroCs Tryd.prog 21 = some [.int .i32 0] := by kernel_rfl
theorem sc22 : scalarB Tryd.prog 22 = true := by kernel_rfl
theorem es22 : elemSz Tryd.prog 22 = some (3, 1) := by kernel_rfl
theorem ap22 : appB Tryd.prog 22 = some (3, 1, 8) := by kernel_rfl
theorem zc22 : zeroCs Tryd.prog 22 = some [.slice none 0 0] := by kernel_rfl
theorem sc23 : scalarB Tryd.prog 23 = true := by kernel_rfl
theorem rz24 : rowSz Tryd.prog 24 = some 2 := by kernel_rfl
theorem fo24_0 : fieldOff Tryd.prog 24 0 = some 0 := by kernel_rfl
theorem fo24_1 : fieldOff Tryd.prog 24 1 = some 1 := by kernel_rfl
theorem zc24 : zeroCs Tryd.prog 24 = some [.slice none 0 0, .int .i64 0] := by kernel_rfl
theorem rz25 : rowSz Tryd.prog 25 = some 2 := by kernel_rfl
theorem fo25_0 : fieldOff Tryd.prog 25 0 = some 0 := by kernel_rfl
theorem fo25_1 : fieldOff Tryd.prog 25 1 = some 1 := by kernel_rfl
theorem zc25 : zeroCs Tryd.prog 25 = some [.slice none 0 0, .int .i64 0] := by kernel_rfl
theorem sc26 : scalarB Tryd.prog 26 = true := by kernel_rfl
theorem rz27 : rowSz Tryd.prog 27 = some 2 := by kernel_rfl
theorem fo27_0 : fieldOff Tryd.prog 27 0 = some 0 := by kernel_rfl
theorem fo27_1 : fieldOff Tryd.prog 27 1 = some 1 := by kernel_rfl
theorem zc27 : zeroCs Tryd.prog 27 = some [.int .i64 0, .int .i64 0] := by kernel_rfl
theorem rz28 : rowSz Tryd.prog 28 = some 2 := by kernel_rfl
theorem fo28_0 : fieldOff Tryd.prog 28 0 = some 0 := by kernel_rfl
theorem fo28_1 : fieldOff Tryd.prog 28 1 = some 1 := by kernel_rfl
theorem zc28 : zeroCs Tryd.prog 28 = some [.int .i64 0, .int .i64 0] := by kernel_rfl
theorem sc29 : scalarB Tryd.prog 29 = true := by kernel_rfl
theorem rz30 : rowSz Tryd.prog 30 = some 4 := by kernel_rfl
theorem fo30_0 : fieldOff Tryd.prog 30 0 = some 0 := by kernel_rfl
theorem fo30_1 : fieldOff Tryd.prog 30 1 = some 1 := by kernel_rfl
theorem fo30_2 : fieldOff Tryd.prog 30 2 = some 2 := by kernel_rfl
theorem fo30_3 : fieldOff Tryd.prog 30 3 = some 3 := by kernel_rfl
theorem zc30 : zeroCs Tryd.prog 30 = some [.int .i64 0, .string ⟨#[]⟩, .int .i64 0, .int .i64 0] := by kernel_rfl
theorem rz31 : rowSz Tryd.prog 31 = some 4 := by kernel_rfl
theorem fo31_0 : fieldOff Tryd.prog 31 0 = some 0 := by kernel_rfl
theorem fo31_1 : fieldOff Tryd.prog 31 1 = some 1 := by kernel_rfl
theorem fo31_2 : fieldOff Tryd.prog 31 2 = some 2 := by kernel_rfl
theorem fo31_3 : fieldOff Tryd.prog 31 3 = some 3 := by kernel_rfl
theorem zc31 : zeroCs Tryd.prog 31 = some [.int .i64 0, .string ⟨#[]⟩, .int .i64 0, .int .i64 0] := by kernel_rfl
theorem sc32 : scalarB Tryd.prog 32 = true := by kernel_rfl
theorem sc33 : scalarB Tryd.prog 33 = true := by kernel_rfl
theorem sc34 : scalarB Tryd.prog 34 = true := by kernel_rfl
theorem es34 : elemSz Tryd.prog 34 = some (138, 9) := by kernel_rfl
theorem ap34 : appB Tryd.prog 34 = some (138, 9, 96) := by kernel_rfl
theorem zc34 : zeroCs Tryd.prog 34 = some [.slice none 0 0] := by kernel_rfl
theorem rz35 : rowSz Tryd.prog 35 = some 5 := by kernel_rfl
theorem fo35_0 : fieldOff Tryd.prog 35 0 = some 0 := by kernel_rfl
theorem fo35_1 : fieldOff Tryd.prog 35 1 = some 1 := by kernel_rfl
theorem fo35_2 : fieldOff Tryd.prog 35 2 = some 2 := by kernel_rfl
theorem fo35_3 : fieldOff Tryd.prog 35 3 = some 4 := by kernel_rfl
theorem zc35 : zeroCs Tryd.prog 35 = some [.string ⟨#[]⟩, .string ⟨#[]⟩, .int .i64 0, .int .i64 0, .slice none 0 0] := by kernel_rfl
theorem rz36 : rowSz Tryd.prog 36 = some 5 := by kernel_rfl
theorem fo36_0 : fieldOff Tryd.prog 36 0 = some 0 := by kernel_rfl
theorem fo36_1 : fieldOff Tryd.prog 36 1 = some 1 := by kernel_rfl
theorem fo36_2 : fieldOff Tryd.prog 36 2 = some 2 := by kernel_rfl
theorem fo36_3 : fieldOff Tryd.prog 36 3 = some 4 := by kernel_rfl
theorem zc36 : zeroCs Tryd.prog 36 = some [.string ⟨#[]⟩, .string ⟨#[]⟩, .int .i64 0, .int .i64 0, .slice none 0 0] := by kernel_rfl
theorem sc37 : scalarB Tryd.prog 37 = true := by kernel_rfl
theorem zc37 : zeroCs Tryd.prog 37 = some [.int .i64 0] := by kernel_rfl
theorem sc39 : scalarB Tryd.prog 39 = true := by kernel_rfl
theorem sc40 : scalarB Tryd.prog 40 = true := by kernel_rfl
theorem sc41 : scalarB Tryd.prog 41 = true := by kernel_rfl
theorem sc42 : scalarB Tryd.prog 42 = true := by kernel_rfl
theorem sc43 : scalarB Tryd.prog 43 = true := by kernel_rfl
theorem es43 : elemSz Tryd.prog 43 = some (141, 2) := by kernel_rfl
theorem ap43 : appB Tryd.prog 43 = some (141, 2, 16) := by kernel_rfl
theorem zc43 : zeroCs Tryd.prog 43 = some [.slice none 0 0] := by kernel_rfl
theorem sc44 : scalarB Tryd.prog 44 = true := by kernel_rfl
theorem rz45 : rowSz Tryd.prog 45 = some 6 := by kernel_rfl
theorem fo45_0 : fieldOff Tryd.prog 45 0 = some 0 := by kernel_rfl
theorem fo45_1 : fieldOff Tryd.prog 45 1 = some 1 := by kernel_rfl
theorem fo45_2 : fieldOff Tryd.prog 45 2 = some 2 := by kernel_rfl
theorem fo45_3 : fieldOff Tryd.prog 45 3 = some 4 := by kernel_rfl
theorem fo45_4 : fieldOff Tryd.prog 45 4 = some 5 := by kernel_rfl
theorem zc45 : zeroCs Tryd.prog 45 = some [.string ⟨#[]⟩, .string ⟨#[]⟩, .int .i64 0, .int .i64 0, .int .i64 0, .int .i64 0] := by kernel_rfl
theorem rz46 : rowSz Tryd.prog 46 = some 6 := by kernel_rfl
theorem fo46_0 : fieldOff Tryd.prog 46 0 = some 0 := by kernel_rfl
theorem fo46_1 : fieldOff Tryd.prog 46 1 = some 1 := by kernel_rfl
theorem fo46_2 : fieldOff Tryd.prog 46 2 = some 2 := by kernel_rfl
theorem fo46_3 : fieldOff Tryd.prog 46 3 = some 4 := by kernel_rfl
theorem fo46_4 : fieldOff Tryd.prog 46 4 = some 5 := by kernel_rfl
theorem zc46 : zeroCs Tryd.prog 46 = some [.string ⟨#[]⟩, .string ⟨#[]⟩, .int .i64 0, .int .i64 0, .int .i64 0, .int .i64 0] := by kernel_rfl
theorem sc47 : scalarB Tryd.prog 47 = true := by kernel_rfl
theorem sc48 : scalarB Tryd.prog 48 = true := by kernel_rfl
theorem sc49 : scalarB Tryd.prog 49 = true := by kernel_rfl
theorem sc51 : scalarB Tryd.prog 51 = true := by kernel_rfl
theorem sc52 : scalarB Tryd.prog 52 = true := by kernel_rfl
theorem sc53 : scalarB Tryd.prog 53 = true := by kernel_rfl
theorem sc54 : scalarB Tryd.prog 54 = true := by kernel_rfl
theorem sc55 : scalarB Tryd.prog 55 = true := by kernel_rfl
theorem es55 : elemSz Tryd.prog 55 = some (46, 6) := by kernel_rfl
theorem ap55 : appB Tryd.prog 55 = some (46, 6, 64) := by kernel_rfl
theorem zc55 : zeroCs Tryd.prog 55 = some [.slice none 0 0] := by kernel_rfl
theorem sc56 : scalarB Tryd.prog 56 = true := by kernel_rfl
theorem sc57 : scalarB Tryd.prog 57 = true := by kernel_rfl
theorem sc58 : scalarB Tryd.prog 58 = true := by kernel_rfl
theorem sc59 : scalarB Tryd.prog 59 = true := by kernel_rfl
theorem rz60 : rowSz Tryd.prog 60 = some 2 := by kernel_rfl
theorem fo60_0 : fieldOff Tryd.prog 60 0 = some 0 := by kernel_rfl
theorem fo60_1 : fieldOff Tryd.prog 60 1 = some 1 := by kernel_rfl
theorem zc60 : zeroCs Tryd.prog 60 = some [.int .i64 0, .int .i64 0] := by kernel_rfl
theorem rz61 : rowSz Tryd.prog 61 = some 2 := by kernel_rfl
theorem fo61_0 : fieldOff Tryd.prog 61 0 = some 0 := by kernel_rfl
theorem fo61_1 : fieldOff Tryd.prog 61 1 = some 1 := by kernel_rfl
theorem zc61 : zeroCs Tryd.prog 61 = some [.int .i64 0, .int .i64 0] := by kernel_rfl
theorem sc62 : scalarB Tryd.prog 62 = true := by kernel_rfl
theorem sc63 : scalarB Tryd.prog 63 = true := by kernel_rfl
theorem es63 : elemSz Tryd.prog 63 = some (61, 2) := by kernel_rfl
theorem ap63 : appB Tryd.prog 63 = some (61, 2, 16) := by kernel_rfl
theorem zc63 : zeroCs Tryd.prog 63 = some [.slice none 0 0] := by kernel_rfl
theorem sc65 : scalarB Tryd.prog 65 = true := by kernel_rfl
theorem sc67 : scalarB Tryd.prog 67 = true := by kernel_rfl
theorem sc68 : scalarB Tryd.prog 68 = true := by kernel_rfl
theorem sc69 : scalarB Tryd.prog 69 = true := by kernel_rfl
theorem sc70 : scalarB Tryd.prog 70 = true := by kernel_rfl
theorem sc71 : scalarB Tryd.prog 71 = true := by kernel_rfl
theorem sc72 : scalarB Tryd.prog 72 = true := by kernel_rfl
theorem sc73 : scalarB Tryd.prog 73 = true := by kernel_rfl
theorem es73 : elemSz Tryd.prog 73 = some (83, 4) := by kernel_rfl
theorem ap73 : appB Tryd.prog 73 = some (83, 4, 40) := by kernel_rfl
theorem zc73 : zeroCs Tryd.prog 73 = some [.slice none 0 0] := by kernel_rfl
theorem sc74 : scalarB Tryd.prog 74 = true := by kernel_rfl
theorem sc75 : scalarB Tryd.prog 75 = true := by kernel_rfl
theorem es75 : elemSz Tryd.prog 75 = some (158, 2) := by kernel_rfl
theorem ap75 : appB Tryd.prog 75 = some (158, 2, 24) := by kernel_rfl
theorem zc75 : zeroCs Tryd.prog 75 = some [.slice none 0 0] := by kernel_rfl
theorem sc76 : scalarB Tryd.prog 76 = true := by kernel_rfl
theorem sc77 : scalarB Tryd.prog 77 = true := by kernel_rfl
theorem sc79 : scalarB Tryd.prog 79 = true := by kernel_rfl
theorem sc80 : scalarB Tryd.prog 80 = true := by kernel_rfl
theorem sc81 : scalarB Tryd.prog 81 = true := by kernel_rfl
theorem rz82 : rowSz Tryd.prog 82 = some 4 := by kernel_rfl
theorem fo82_0 : fieldOff Tryd.prog 82 0 = some 0 := by kernel_rfl
theorem fo82_1 : fieldOff Tryd.prog 82 1 = some 1 := by kernel_rfl
theorem fo82_2 : fieldOff Tryd.prog 82 2 = some 2 := by kernel_rfl
theorem fo82_3 : fieldOff Tryd.prog 82 3 = some 3 := by kernel_rfl
theorem zc82 : zeroCs Tryd.prog 82 = some [.string ⟨#[]⟩, .int .i64 0, .int .i64 0, .int .i64 0] := by kernel_rfl
theorem rz83 : rowSz Tryd.prog 83 = some 4 := by kernel_rfl
theorem fo83_0 : fieldOff Tryd.prog 83 0 = some 0 := by kernel_rfl
theorem fo83_1 : fieldOff Tryd.prog 83 1 = some 1 := by kernel_rfl
theorem fo83_2 : fieldOff Tryd.prog 83 2 = some 2 := by kernel_rfl
theorem fo83_3 : fieldOff Tryd.prog 83 3 = some 3 := by kernel_rfl
theorem zc83 : zeroCs Tryd.prog 83 = some [.string ⟨#[]⟩, .int .i64 0, .int .i64 0, .int .i64 0] := by kernel_rfl
theorem sc84 : scalarB Tryd.prog 84 = true := by kernel_rfl
theorem sc85 : scalarB Tryd.prog 85 = true := by kernel_rfl
theorem sc86 : scalarB Tryd.prog 86 = true := by kernel_rfl
theorem sc87 : scalarB Tryd.prog 87 = true := by kernel_rfl
theorem sc88 : scalarB Tryd.prog 88 = true := by kernel_rfl
theorem rz89 : rowSz Tryd.prog 89 = some 7 := by kernel_rfl
theorem fo89_0 : fieldOff Tryd.prog 89 0 = some 0 := by kernel_rfl
theorem fo89_1 : fieldOff Tryd.prog 89 1 = some 1 := by kernel_rfl
theorem fo89_2 : fieldOff Tryd.prog 89 2 = some 2 := by kernel_rfl
theorem fo89_3 : fieldOff Tryd.prog 89 3 = some 3 := by kernel_rfl
theorem fo89_4 : fieldOff Tryd.prog 89 4 = some 4 := by kernel_rfl
theorem fo89_5 : fieldOff Tryd.prog 89 5 = some 5 := by kernel_rfl
theorem fo89_6 : fieldOff Tryd.prog 89 6 = some 6 := by kernel_rfl
theorem zc89 : zeroCs Tryd.prog 89 = some [.int .i64 0, .int .i64 0, .int .i64 0, .int .i64 0, .int .i64 0, .int .i64 0, .int .i64 0] := by kernel_rfl
theorem rz90 : rowSz Tryd.prog 90 = some 7 := by kernel_rfl
theorem fo90_0 : fieldOff Tryd.prog 90 0 = some 0 := by kernel_rfl
theorem fo90_1 : fieldOff Tryd.prog 90 1 = some 1 := by kernel_rfl
theorem fo90_2 : fieldOff Tryd.prog 90 2 = some 2 := by kernel_rfl
theorem fo90_3 : fieldOff Tryd.prog 90 3 = some 3 := by kernel_rfl
theorem fo90_4 : fieldOff Tryd.prog 90 4 = some 4 := by kernel_rfl
theorem fo90_5 : fieldOff Tryd.prog 90 5 = some 5 := by kernel_rfl
theorem fo90_6 : fieldOff Tryd.prog 90 6 = some 6 := by kernel_rfl
theorem zc90 : zeroCs Tryd.prog 90 = some [.int .i64 0, .int .i64 0, .int .i64 0, .int .i64 0, .int .i64 0, .int .i64 0, .int .i64 0] := by kernel_rfl
theorem sc91 : scalarB Tryd.prog 91 = true := by kernel_rfl
theorem sc92 : scalarB Tryd.prog 92 = true := by kernel_rfl
theorem sc93 : scalarB Tryd.prog 93 = true := by kernel_rfl
theorem sc94 : scalarB Tryd.prog 94 = true := by kernel_rfl
theorem sc95 : scalarB Tryd.prog 95 = true := by kernel_rfl
theorem sc96 : scalarB Tryd.prog 96 = true := by kernel_rfl
theorem sc97 : scalarB Tryd.prog 97 = true := by kernel_rfl
theorem sc98 : scalarB Tryd.prog 98 = true := by kernel_rfl
theorem sc99 : scalarB Tryd.prog 99 = true := by kernel_rfl
theorem es99 : elemSz Tryd.prog 99 = some (36, 5) := by kernel_rfl
theorem ap99 : appB Tryd.prog 99 = some (36, 5, 72) := by kernel_rfl
theorem zc99 : zeroCs Tryd.prog 99 = some [.slice none 0 0] := by kernel_rfl
theorem sc100 : scalarB Tryd.prog 100 = true := by kernel_rfl
theorem sc102 : scalarB Tryd.prog 102 = true := by kernel_rfl
theorem sc103 : scalarB Tryd.prog 103 = true := by kernel_rfl
theorem es103 : elemSz Tryd.prog 103 = some (9, 1) := by kernel_rfl
theorem zc103 : zeroCs Tryd.prog 103 = some [.slice none 0 0] := by kernel_rfl
theorem sc105 : scalarB Tryd.prog 105 = true := by kernel_rfl
theorem sc106 : scalarB Tryd.prog 106 = true := by kernel_rfl
theorem sc107 : scalarB Tryd.prog 107 = true := by kernel_rfl
theorem sc108 : scalarB Tryd.prog 108 = true := by kernel_rfl
theorem sc110 : scalarB Tryd.prog 110 = true := by kernel_rfl
theorem sc111 : scalarB Tryd.prog 111 = true := by kernel_rfl
theorem sc113 : scalarB Tryd.prog 113 = true := by kernel_rfl
theorem rz114 : rowSz Tryd.prog 114 = some 4 := by kernel_rfl
theorem zc114 : zeroCs Tryd.prog 114 = some [.int .i64 0, .int .i64 0, .int .i64 0, .int .i64 0] := by kernel_rfl
theorem sc115 : scalarB Tryd.prog 115 = true := by kernel_rfl
theorem sc117 : scalarB Tryd.prog 117 = true := by kernel_rfl
theorem sc118 : scalarB Tryd.prog 118 = true := by kernel_rfl
theorem es118 : elemSz Tryd.prog 118 = some (123, 4) := by kernel_rfl
theorem ap118 : appB Tryd.prog 118 = some (123, 4, 48) := by kernel_rfl
theorem zc118 : zeroCs Tryd.prog 118 = some [.slice none 0 0] := by kernel_rfl
theorem sc120 : scalarB Tryd.prog 120 = true := by kernel_rfl
theorem sc121 : scalarB Tryd.prog 121 = true := by kernel_rfl
theorem rz122 : rowSz Tryd.prog 122 = some 4 := by kernel_rfl
theorem fo122_0 : fieldOff Tryd.prog 122 0 = some 0 := by kernel_rfl
theorem fo122_1 : fieldOff Tryd.prog 122 1 = some 1 := by kernel_rfl
theorem fo122_2 : fieldOff Tryd.prog 122 2 = some 2 := by kernel_rfl
theorem fo122_3 : fieldOff Tryd.prog 122 3 = some 3 := by kernel_rfl
theorem zc122 : zeroCs Tryd.prog 122 = some [.string ⟨#[]⟩, .string ⟨#[]⟩, .int .i64 0, .int .i64 0] := by kernel_rfl
theorem rz123 : rowSz Tryd.prog 123 = some 4 := by kernel_rfl
theorem fo123_0 : fieldOff Tryd.prog 123 0 = some 0 := by kernel_rfl
theorem fo123_1 : fieldOff Tryd.prog 123 1 = some 1 := by kernel_rfl
theorem fo123_2 : fieldOff Tryd.prog 123 2 = some 2 := by kernel_rfl
theorem fo123_3 : fieldOff Tryd.prog 123 3 = some 3 := by kernel_rfl
theorem zc123 : zeroCs Tryd.prog 123 = some [.string ⟨#[]⟩, .string ⟨#[]⟩, .int .i64 0, .int .i64 0] := by kernel_rfl
theorem sc124 : scalarB Tryd.prog 124 = true := by kernel_rfl
theorem sc125 : scalarB Tryd.prog 125 = true := by kernel_rfl
theorem es125 : elemSz Tryd.prog 125 = some (134, 3) := by kernel_rfl
theorem ap125 : appB Tryd.prog 125 = some (134, 3, 32) := by kernel_rfl
theorem zc125 : zeroCs Tryd.prog 125 = some [.slice none 0 0] := by kernel_rfl
theorem sc126 : scalarB Tryd.prog 126 = true := by kernel_rfl
theorem sc128 : scalarB Tryd.prog 128 = true := by kernel_rfl
theorem sc129 : scalarB Tryd.prog 129 = true := by kernel_rfl
theorem sc130 : scalarB Tryd.prog 130 = true := by kernel_rfl
theorem sc131 : scalarB Tryd.prog 131 = true := by kernel_rfl
theorem sc132 : scalarB Tryd.prog 132 = true := by kernel_rfl
theorem rz133 : rowSz Tryd.prog 133 = some 3 := by kernel_rfl
theorem fo133_0 : fieldOff Tryd.prog 133 0 = some 0 := by kernel_rfl
theorem fo133_1 : fieldOff Tryd.prog 133 1 = some 1 := by kernel_rfl
theorem fo133_2 : fieldOff Tryd.prog 133 2 = some 2 := by kernel_rfl
theorem zc133 : zeroCs Tryd.prog 133 = some [.int .i64 0, .string ⟨#[]⟩, .int .i64 0] := by kernel_rfl
theorem rz134 : rowSz Tryd.prog 134 = some 3 := by kernel_rfl
theorem fo134_0 : fieldOff Tryd.prog 134 0 = some 0 := by kernel_rfl
theorem fo134_1 : fieldOff Tryd.prog 134 1 = some 1 := by kernel_rfl
theorem fo134_2 : fieldOff Tryd.prog 134 2 = some 2 := by kernel_rfl
theorem zc134 : zeroCs Tryd.prog 134 = some [.int .i64 0, .string ⟨#[]⟩, .int .i64 0] := by kernel_rfl
theorem sc135 : scalarB Tryd.prog 135 = true := by kernel_rfl
theorem sc136 : scalarB Tryd.prog 136 = true := by kernel_rfl
theorem rz137 : rowSz Tryd.prog 137 = some 9 := by kernel_rfl
theorem fo137_0 : fieldOff Tryd.prog 137 0 = some 0 := by kernel_rfl
theorem fo137_1 : fieldOff Tryd.prog 137 1 = some 1 := by kernel_rfl
theorem fo137_2 : fieldOff Tryd.prog 137 2 = some 5 := by kernel_rfl
theorem zc137 : zeroCs Tryd.prog 137 = some [.string ⟨#[]⟩, .int .i64 0, .string ⟨#[]⟩, .int .i64 0, .int .i64 0, .int .i64 0, .string ⟨#[]⟩, .int .i64 0, .int .i64 0] := by kernel_rfl
theorem rz138 : rowSz Tryd.prog 138 = some 9 := by kernel_rfl
theorem fo138_0 : fieldOff Tryd.prog 138 0 = some 0 := by kernel_rfl
theorem fo138_1 : fieldOff Tryd.prog 138 1 = some 1 := by kernel_rfl
theorem fo138_2 : fieldOff Tryd.prog 138 2 = some 5 := by kernel_rfl
theorem zc138 : zeroCs Tryd.prog 138 = some [.string ⟨#[]⟩, .int .i64 0, .string ⟨#[]⟩, .int .i64 0, .int .i64 0, .int .i64 0, .string ⟨#[]⟩, .int .i64 0, .int .i64 0] := by kernel_rfl
theorem sc139 : scalarB Tryd.prog 139 = true := by kernel_rfl
theorem rz140 : rowSz Tryd.prog 140 = some 2 := by kernel_rfl
theorem fo140_0 : fieldOff Tryd.prog 140 0 = some 0 := by kernel_rfl
theorem fo140_1 : fieldOff Tryd.prog 140 1 = some 1 := by kernel_rfl
theorem zc140 : zeroCs Tryd.prog 140 = some [.int .i64 0, .int .i64 0] := by kernel_rfl
theorem rz141 : rowSz Tryd.prog 141 = some 2 := by kernel_rfl
theorem fo141_0 : fieldOff Tryd.prog 141 0 = some 0 := by kernel_rfl
theorem fo141_1 : fieldOff Tryd.prog 141 1 = some 1 := by kernel_rfl
theorem zc141 : zeroCs Tryd.prog 141 = some [.int .i64 0, .int .i64 0] := by kernel_rfl
theorem sc142 : scalarB Tryd.prog 142 = true := by kernel_rfl
theorem es142 : elemSz Tryd.prog 142 = some (43, 1) := by kernel_rfl
theorem ap142 : appB Tryd.prog 142 = some (43, 1, 24) := by kernel_rfl
theorem zc142 : zeroCs Tryd.prog 142 = some [.slice none 0 0] := by kernel_rfl
theorem sc143 : scalarB Tryd.prog 143 = true := by kernel_rfl
theorem sc144 : scalarB Tryd.prog 144 = true := by kernel_rfl
theorem es144 : elemSz Tryd.prog 144 = some (37, 1) := by kernel_rfl
theorem ap144 : appB Tryd.prog 144 = some (37, 1, 8) := by kernel_rfl
theorem zc144 : zeroCs Tryd.prog 144 = some [.slice none 0 0] := by kernel_rfl
theorem sc145 : scalarB Tryd.prog 145 = true := by kernel_rfl
theorem sc146 : scalarB Tryd.prog 146 = true := by kernel_rfl
theorem sc148 : scalarB Tryd.prog 148 = true := by kernel_rfl
theorem sc149 : scalarB Tryd.prog 149 = true := by kernel_rfl
theorem sc150 : scalarB Tryd.prog 150 = true := by kernel_rfl
theorem sc151 : scalarB Tryd.prog 151 = true := by kernel_rfl
theorem zc151 : zeroCs Tryd.prog 151 = some [.int .u64 0] := by kernel_rfl
theorem sc153 : scalarB Tryd.prog 153 = true := by kernel_rfl
theorem sc154 : scalarB Tryd.prog 154 = true := by kernel_rfl
theorem sc155 : scalarB Tryd.prog 155 = true := by kernel_rfl
theorem sc156 : scalarB Tryd.prog 156 = true := by kernel_rfl
theorem rz157 : rowSz Tryd.prog 157 = some 2 := by kernel_rfl
theorem fo157_0 : fieldOff Tryd.prog 157 0 = some 0 := by kernel_rfl
theorem fo157_1 : fieldOff Tryd.prog 157 1 = some 1 := by kernel_rfl
theorem zc157 : zeroCs Tryd.prog 157 = some [.string ⟨#[]⟩, .int .i64 0] := by kernel_rfl
theorem rz158 : rowSz Tryd.prog 158 = some 2 := by kernel_rfl
theorem fo158_0 : fieldOff Tryd.prog 158 0 = some 0 := by kernel_rfl
theorem fo158_1 : fieldOff Tryd.prog 158 1 = some 1 := by kernel_rfl
theorem zc158 : zeroCs Tryd.prog 158 = some [.string ⟨#[]⟩, .int .i64 0] := by kernel_rfl
theorem sc159 : scalarB Tryd.prog 159 = true := by kernel_rfl
theorem es159 : elemSz Tryd.prog 159 = some (75, 1) := by kernel_rfl
theorem ap159 : appB Tryd.prog 159 = some (75, 1, 24) := by kernel_rfl
theorem zc159 : zeroCs Tryd.prog 159 = some [.slice none 0 0] := by kernel_rfl
theorem sc160 : scalarB Tryd.prog 160 = true := by kernel_rfl
theorem sc161 : scalarB Tryd.prog 161 = true := by kernel_rfl
theorem sc162 : scalarB Tryd.prog 162 = true := by kernel_rfl
theorem sc163 : scalarB Tryd.prog 163 = true := by kernel_rfl
theorem sc164 : scalarB Tryd.prog 164 = true := by kernel_rfl
theorem sc165 : scalarB Tryd.prog 165 = true := by kernel_rfl
theorem sc166 : scalarB Tryd.prog 166 = true := by kernel_rfl
theorem sc167 : scalarB Tryd.prog 167 = true := by kernel_rfl
theorem sc168 : scalarB Tryd.prog 168 = true := by kernel_rfl
theorem sc169 : scalarB Tryd.prog 169 = true := by kernel_rfl
theorem sc170 : scalarB Tryd.prog 170 = true := by kernel_rfl
theorem sc171 : scalarB Tryd.prog 171 = true := by kernel_rfl
theorem sc172 : scalarB Tryd.prog 172 = true := by kernel_rfl
theorem sc173 : scalarB Tryd.prog 173 = true := by kernel_rfl
theorem sc174 : scalarB Tryd.prog 174 = true := by kernel_rfl
theorem sc175 : scalarB Tryd.prog 175 = true := by kernel_rfl
theorem zc175 : zeroCs Tryd.prog 175 = some [.int .u64 0] := by kernel_rfl
theorem sc176 : scalarB Tryd.prog 176 = true := by kernel_rfl
theorem sc177 : scalarB Tryd.prog 177 = true := by kernel_rfl
theorem sc178 : scalarB Tryd.prog 178 = true := by kernel_rfl
theorem rz179 : rowSz Tryd.prog 179 = some 256 := by kernel_rfl
theorem sc182 : scalarB Tryd.prog 182 = true := by kernel_rfl
theorem sc183 : scalarB Tryd.prog 183 = true := by kernel_rfl
theorem sc184 : scalarB Tryd.prog 184 = true := by kernel_rfl
theorem sc185 : scalarB Tryd.prog 185 = true := by kernel_rfl
theorem sc187 : scalarB Tryd.prog 187 = true := by kernel_rfl
theorem sc188 : scalarB Tryd.prog 188 = true := by kernel_rfl
theorem sc189 : scalarB Tryd.prog 189 = true := by kernel_rfl
theorem rz190 : rowSz Tryd.prog 190 = some 256 := by kernel_rfl
theorem rz191 : rowSz Tryd.prog 191 = some 2 := by kernel_rfl
theorem fo191_0 : fieldOff Tryd.prog 191 0 = some 0 := by kernel_rfl
theorem fo191_1 : fieldOff Tryd.prog 191 1 = some 1 := by kernel_rfl
theorem zc191 : zeroCs Tryd.prog 191 = some [.int .u8 0, .int .u8 0] := by kernel_rfl
theorem rz193 : rowSz Tryd.prog 193 = some 32 := by kernel_rfl
theorem zc193 : zeroCs Tryd.prog 193 = some [.int .u8 0, .int .u8 0, .int .u8 0, .int .u8 0, .int .u8 0, .int .u8 0, .int .u8 0, .int .u8 0, .int .u8 0, .int .u8 0, .int .u8 0, .int .u8 0, .int .u8 0, .int .u8 0, .int .u8 0, .int .u8 0, .int .u8 0, .int .u8 0, .int .u8 0, .int .u8 0, .int .u8 0, .int .u8 0, .int .u8 0, .int .u8 0, .int .u8 0, .int .u8 0, .int .u8 0, .int .u8 0, .int .u8 0, .int .u8 0, .int .u8 0, .int .u8 0] := by kernel_rfl
theorem sc194 : scalarB Tryd.prog 194 = true := by kernel_rfl
theorem sc195 : scalarB Tryd.prog 195 = true := by kernel_rfl
theorem sc196 : scalarB Tryd.prog 196 = true := by kernel_rfl
theorem rz197 : rowSz Tryd.prog 197 = some 4 := by kernel_rfl
theorem fo197_0 : fieldOff Tryd.prog 197 0 = some 0 := by kernel_rfl
theorem fo197_1 : fieldOff Tryd.prog 197 1 = some 1 := by kernel_rfl
theorem fo197_2 : fieldOff Tryd.prog 197 2 = some 2 := by kernel_rfl
theorem fo197_3 : fieldOff Tryd.prog 197 3 = some 3 := by kernel_rfl
theorem zc197 : zeroCs Tryd.prog 197 = some [.pointer none, .pointer none, .pointer none, .string ⟨#[]⟩] := by kernel_rfl
theorem rz199 : rowSz Tryd.prog 199 = some 0 := by kernel_rfl
theorem zc199 : zeroCs Tryd.prog 199 = some [] := by kernel_rfl
theorem rz200 : rowSz Tryd.prog 200 = some 0 := by kernel_rfl
theorem zc200 : zeroCs Tryd.prog 200 = some [] := by kernel_rfl
theorem sc202 : scalarB Tryd.prog 202 = true := by kernel_rfl
theorem zc202 : zeroCs Tryd.prog 202 = some [.int .u32 0] := by kernel_rfl
theorem sc205 : scalarB Tryd.prog 205 = true := by kernel_rfl
theorem sc206 : scalarB Tryd.prog 206 = true := by kernel_rfl
theorem rz209 : rowSz Tryd.prog 209 = some 11 := by kernel_rfl
theorem fo209_0 : fieldOff Tryd.prog 209 0 = some 0 := by kernel_rfl
theorem fo209_1 : fieldOff Tryd.prog 209 1 = some 1 := by kernel_rfl
theorem fo209_2 : fieldOff Tryd.prog 209 2 = some 2 := by kernel_rfl
theorem fo209_3 : fieldOff Tryd.prog 209 3 = some 3 := by kernel_rfl
theorem fo209_4 : fieldOff Tryd.prog 209 4 = some 4 := by kernel_rfl
theorem fo209_5 : fieldOff Tryd.prog 209 5 = some 5 := by kernel_rfl
theorem fo209_6 : fieldOff Tryd.prog 209 6 = some 6 := by kernel_rfl
theorem fo209_7 : fieldOff Tryd.prog 209 7 = some 7 := by kernel_rfl
theorem fo209_8 : fieldOff Tryd.prog 209 8 = some 8 := by kernel_rfl
theorem fo209_9 : fieldOff Tryd.prog 209 9 = some 9 := by kernel_rfl
theorem fo209_10 : fieldOff Tryd.prog 209 10 = some 10 := by kernel_rfl
theorem zc209 : zeroCs Tryd.prog 209 = some [.int .u64 0, .int .u64 0, .int .u32 0, .int .u8 0, .int .u8 0, .int .u8 0, .int .u8 0, .nilFunc, .pointer none, .int .i32 0, .int .i32 0] := by kernel_rfl
theorem cb2 : callableB Tryd.prog 2 = true := by kernel_rfl
theorem cb3 : callableB Tryd.prog 3 = true := by kernel_rfl
theorem cb4 : callableB Tryd.prog 4 = true := by kernel_rfl
theorem cb6 : callableB Tryd.prog 6 = true := by kernel_rfl
theorem cb8 : callableB Tryd.prog 8 = true := by kernel_rfl
theorem cb9 : callableB Tryd.prog 9 = true := by kernel_rfl
theorem cb10 : callableB Tryd.prog 10 = true := by kernel_rfl
theorem cb11 : callableB Tryd.prog 11 = true := by kernel_rfl
theorem cb12 : callableB Tryd.prog 12 = true := by kernel_rfl
theorem cb13 : callableB Tryd.prog 13 = true := by kernel_rfl
theorem cb14 : callableB Tryd.prog 14 = true := by kernel_rfl
theorem cb15 : callableB Tryd.prog 15 = true := by kernel_rfl
theorem cb16 : callableB Tryd.prog 16 = true := by kernel_rfl
theorem cb17 : callableB Tryd.prog 17 = true := by kernel_rfl
theorem cb18 : callableB Tryd.prog 18 = true := by kernel_rfl
theorem cb19 : callableB Tryd.prog 19 = true := by kernel_rfl
theorem cb20 : callableB Tryd.prog 20 = true := by kernel_rfl
theorem cb21 : callableB Tryd.prog 21 = true := by kernel_rfl
theorem cb22 : callableB Tryd.prog 22 = true := by kernel_rfl
theorem cb23 : callableB Tryd.prog 23 = true := by kernel_rfl
theorem cb24 : callableB Tryd.prog 24 = true := by kernel_rfl
theorem cb25 : callableB Tryd.prog 25 = true := by kernel_rfl
theorem cb26 : callableB Tryd.prog 26 = true := by kernel_rfl
theorem cb27 : callableB Tryd.prog 27 = true := by kernel_rfl
theorem cb28 : callableB Tryd.prog 28 = true := by kernel_rfl
theorem cb29 : callableB Tryd.prog 29 = true := by kernel_rfl
theorem cb30 : callableB Tryd.prog 30 = true := by kernel_rfl
theorem cb31 : callableB Tryd.prog 31 = true := by kernel_rfl
theorem cb32 : callableB Tryd.prog 32 = true := by kernel_rfl
theorem cb33 : callableB Tryd.prog 33 = true := by kernel_rfl
theorem cb34 : callableB Tryd.prog 34 = true := by kernel_rfl
theorem cb35 : callableB Tryd.prog 35 = true := by kernel_rfl
theorem cb36 : callableB Tryd.prog 36 = true := by kernel_rfl
theorem cb37 : callableB Tryd.prog 37 = true := by kernel_rfl
theorem cb38 : callableB Tryd.prog 38 = true := by kernel_rfl
theorem cb39 : callableB Tryd.prog 39 = true := by kernel_rfl
theorem cb40 : callableB Tryd.prog 40 = true := by kernel_rfl
theorem cb41 : callableB Tryd.prog 41 = true := by kernel_rfl
theorem cb42 : callableB Tryd.prog 42 = true := by kernel_rfl
theorem cb43 : callableB Tryd.prog 43 = true := by kernel_rfl
theorem cb44 : callableB Tryd.prog 44 = true := by kernel_rfl
theorem cb45 : callableB Tryd.prog 45 = true := by kernel_rfl
theorem cb46 : callableB Tryd.prog 46 = true := by kernel_rfl
theorem cb47 : callableB Tryd.prog 47 = true := by kernel_rfl
theorem cb48 : callableB Tryd.prog 48 = true := by kernel_rfl
theorem cb49 : callableB Tryd.prog 49 = true := by kernel_rfl
theorem cb50 : callableB Tryd.prog 50 = true := by kernel_rfl
theorem cb51 : callableB Tryd.prog 51 = true := by kernel_rfl
theorem cb52 : callableB Tryd.prog 52 = true := by kernel_rfl
theorem cb53 : callableB Tryd.prog 53 = true := by kernel_rfl
theorem cb54 : callableB Tryd.prog 54 = true := by kernel_rfl
theorem cb55 : callableB Tryd.prog 55 = true := by kernel_rfl
theorem cb56 : callableB Tryd.prog 56 = true := by kernel_rfl
theorem cb57 : callableB Tryd.prog 57 = true := by kernel_rfl
theorem cb58 : callableB Tryd.prog 58 = true := by kernel_rfl
theorem cb59 : callableB Tryd.prog 59 = true := by kernel_rfl
theorem cb60 : callableB Tryd.prog 60 = true := by kernel_rfl
theorem cb61 : callableB Tryd.prog 61 = true := by kernel_rfl
theorem cb62 : callableB Tryd.prog 62 = true := by kernel_rfl
theorem cb63 : callableB Tryd.prog 63 = true := by kernel_rfl
theorem cb64 : callableB Tryd.prog 64 = true := by kernel_rfl
theorem cb65 : callableB Tryd.prog 65 = true := by kernel_rfl
theorem cb66 : callableB Tryd.prog 66 = true := by kernel_rfl
theorem cb67 : callableB Tryd.prog 67 = true := by kernel_rfl
theorem cb68 : callableB Tryd.prog 68 = true := by kernel_rfl
theorem cb69 : callableB Tryd.prog 69 = true := by kernel_rfl
theorem cb70 : callableB Tryd.prog 70 = true := by kernel_rfl
theorem cb71 : callableB Tryd.prog 71 = true := by kernel_rfl
theorem cb72 : callableB Tryd.prog 72 = true := by kernel_rfl
theorem cb73 : callableB Tryd.prog 73 = true := by kernel_rfl
theorem cb74 : callableB Tryd.prog 74 = true := by kernel_rfl
theorem cb75 : callableB Tryd.prog 75 = true := by kernel_rfl
theorem cb76 : callableB Tryd.prog 76 = true := by kernel_rfl
theorem cb77 : callableB Tryd.prog 77 = true := by kernel_rfl
theorem cb78 : callableB Tryd.prog 78 = true := by kernel_rfl
theorem cb79 : callableB Tryd.prog 79 = true := by kernel_rfl
theorem cb80 : callableB Tryd.prog 80 = true := by kernel_rfl
theorem cb81 : callableB Tryd.prog 81 = true := by kernel_rfl
theorem cb82 : callableB Tryd.prog 82 = true := by kernel_rfl
theorem cb83 : callableB Tryd.prog 83 = true := by kernel_rfl
theorem cb84 : callableB Tryd.prog 84 = true := by kernel_rfl
theorem cb85 : callableB Tryd.prog 85 = true := by kernel_rfl
theorem cb86 : callableB Tryd.prog 86 = true := by kernel_rfl
theorem cb87 : callableB Tryd.prog 87 = true := by kernel_rfl
theorem cb88 : callableB Tryd.prog 88 = true := by kernel_rfl
theorem cb89 : callableB Tryd.prog 89 = true := by kernel_rfl
theorem cb90 : callableB Tryd.prog 90 = true := by kernel_rfl
theorem cb91 : callableB Tryd.prog 91 = true := by kernel_rfl
theorem cb92 : callableB Tryd.prog 92 = true := by kernel_rfl
theorem cb93 : callableB Tryd.prog 93 = true := by kernel_rfl
theorem cb94 : callableB Tryd.prog 94 = true := by kernel_rfl
theorem cb95 : callableB Tryd.prog 95 = true := by kernel_rfl
theorem cb96 : callableB Tryd.prog 96 = true := by kernel_rfl
theorem cb97 : callableB Tryd.prog 97 = true := by kernel_rfl
theorem cb98 : callableB Tryd.prog 98 = true := by kernel_rfl
theorem cb99 : callableB Tryd.prog 99 = true := by kernel_rfl
theorem cb100 : callableB Tryd.prog 100 = true := by kernel_rfl
theorem cb101 : callableB Tryd.prog 101 = true := by kernel_rfl
theorem cb102 : callableB Tryd.prog 102 = true := by kernel_rfl
theorem cb103 : callableB Tryd.prog 103 = true := by kernel_rfl
theorem cb104 : callableB Tryd.prog 104 = true := by kernel_rfl
theorem cb105 : callableB Tryd.prog 105 = true := by kernel_rfl
theorem cb106 : callableB Tryd.prog 106 = true := by kernel_rfl
theorem cb107 : callableB Tryd.prog 107 = true := by kernel_rfl
theorem cb108 : callableB Tryd.prog 108 = true := by kernel_rfl
theorem cb109 : callableB Tryd.prog 109 = true := by kernel_rfl
theorem cb110 : callableB Tryd.prog 110 = true := by kernel_rfl
theorem cb111 : callableB Tryd.prog 111 = true := by kernel_rfl
theorem cb112 : callableB Tryd.prog 112 = true := by kernel_rfl
theorem cb113 : callableB Tryd.prog 113 = true := by kernel_rfl
theorem cb114 : callableB Tryd.prog 114 = true := by kernel_rfl
theorem cb115 : callableB Tryd.prog 115 = true := by kernel_rfl
theorem cb116 : callableB Tryd.prog 116 = true := by kernel_rfl
theorem cb117 : callableB Tryd.prog 117 = true := by kernel_rfl
theorem cb118 : callableB Tryd.prog 118 = true := by kernel_rfl
theorem cb119 : callableB Tryd.prog 119 = true := by kernel_rfl
theorem cb120 : callableB Tryd.prog 120 = true := by kernel_rfl
theorem cb121 : callableB Tryd.prog 121 = true := by kernel_rfl
theorem cb122 : callableB Tryd.prog 122 = true := by kernel_rfl
theorem cb123 : callableB Tryd.prog 123 = true := by kernel_rfl
theorem cb124 : callableB Tryd.prog 124 = true := by kernel_rfl
theorem cb125 : callableB Tryd.prog 125 = true := by kernel_rfl
theorem cb126 : callableB Tryd.prog 126 = true := by kernel_rfl
theorem cb127 : callableB Tryd.prog 127 = true := by kernel_rfl
theorem cb128 : callableB Tryd.prog 128 = true := by kernel_rfl
theorem cb129 : callableB Tryd.prog 129 = true := by kernel_rfl
theorem cb130 : callableB Tryd.prog 130 = true := by kernel_rfl
theorem cb131 : callableB Tryd.prog 131 = true := by kernel_rfl
theorem cb132 : callableB Tryd.prog 132 = true := by kernel_rfl
theorem cb133 : callableB Tryd.prog 133 = true := by kernel_rfl
theorem cb134 : callableB Tryd.prog 134 = true := by kernel_rfl
theorem cb135 : callableB Tryd.prog 135 = true := by kernel_rfl
theorem cb136 : callableB Tryd.prog 136 = true := by kernel_rfl
theorem cb137 : callableB Tryd.prog 137 = true := by kernel_rfl
theorem cb138 : callableB Tryd.prog 138 = true := by kernel_rfl
theorem cb139 : callableB Tryd.prog 139 = true := by kernel_rfl
theorem cb140 : callableB Tryd.prog 140 = true := by kernel_rfl
theorem cb141 : callableB Tryd.prog 141 = true := by kernel_rfl
theorem cb142 : callableB Tryd.prog 142 = true := by kernel_rfl
theorem cb143 : callableB Tryd.prog 143 = true := by kernel_rfl
theorem cb144 : callableB Tryd.prog 144 = true := by kernel_rfl
theorem cb145 : callableB Tryd.prog 145 = true := by kernel_rfl
theorem cb146 : callableB Tryd.prog 146 = true := by kernel_rfl
theorem cb147 : callableB Tryd.prog 147 = true := by kernel_rfl
theorem cb148 : callableB Tryd.prog 148 = true := by kernel_rfl
theorem cb149 : callableB Tryd.prog 149 = true := by kernel_rfl
theorem cb150 : callableB Tryd.prog 150 = true := by kernel_rfl
theorem cb151 : callableB Tryd.prog 151 = true := by kernel_rfl
theorem cb152 : callableB Tryd.prog 152 = true := by kernel_rfl
theorem cb153 : callableB Tryd.prog 153 = true := by kernel_rfl
theorem cb154 : callableB Tryd.prog 154 = true := by kernel_rfl
theorem cb155 : callableB Tryd.prog 155 = true := by kernel_rfl
theorem cb156 : callableB Tryd.prog 156 = true := by kernel_rfl
theorem cb157 : callableB Tryd.prog 157 = true := by kernel_rfl
theorem cb158 : callableB Tryd.prog 158 = true := by kernel_rfl
theorem cb159 : callableB Tryd.prog 159 = true := by kernel_rfl
theorem cb160 : callableB Tryd.prog 160 = true := by kernel_rfl
theorem cb162 : callableB Tryd.prog 162 = true := by kernel_rfl
theorem cb163 : callableB Tryd.prog 163 = true := by kernel_rfl
theorem cb164 : callableB Tryd.prog 164 = true := by kernel_rfl
theorem cb165 : callableB Tryd.prog 165 = true := by kernel_rfl
theorem cb167 : callableB Tryd.prog 167 = true := by kernel_rfl
theorem cb190 : callableB Tryd.prog 190 = true := by kernel_rfl
theorem mixed : Tryd.prog.follows .mixedOrders = true := by kernel_rfl

end Go.Proofs.YtljnekobfjpfaaaDoor
/- The walk of hire.Settle. -/
namespace Go.Proofs.YtljnekobfjpfaaaDoor
open Go.RowKit

theorem whenE_ok {b : Bool} {e : Int} (he : e ≠ 0) (h : whenE b e = 0) : b = false := by
  cases b
  · rfl
  · exact absurd h he
def settleE (d : Dl) (l : List Ln) (paid : Int) : Int := firstE [dealE d, linesE l, whenE (!inB paid 0 1000000000) 1]
def restV (d : Dl) (l : List Ln) (paid : Int) : Int := paid + d.deposit - sumBy centsOf l

set_option maxRecDepth 100000 in
set_option maxHeartbeats 400000 in
theorem settle_any (df dk de dg dh dd dp : Int) (l : List Ln) (A : Option Addr) (n c : Nat) (paid : Int) (w : World) (hl : SlT lnEnc 3 134 w A n l) (hok : ∀ x ∈ l, LnOk x) (hn : n ≤ 1000000) :
    Calls Tryd.prog 87 #[.agg #[.int .i64 df, .int .i64 dk, .int .i64 de, .int .i64 dg, .int .i64 dh, .int .i64 dd, .int .i64 dp], .slice A n c, .int .i64 paid] w (RetIIE w (if settleE ⟨df, dk, de, dg, dh, dd, dp⟩ l paid = 0 then max 0 (restV ⟨df, dk, de, dg, dh, dd, dp⟩ l paid) else 0) (if settleE ⟨df, dk, de, dg, dh, dd, dp⟩ l paid = 0 then max 0 (-restV ⟨df, dk, de, dg, dh, dd, dp⟩ l paid) else 0) (settleE ⟨df, dk, de, dg, dh, dd, dp⟩ l paid)) := by
  refine gw_enter ⟨36, w, none, []⟩ Tryd.func87 rfl Tryd.ntmps87 rfl (mem0 (X := [SlOld lnEnc 3 134 w.heap.size none A n l]) (allF_cons hl.old allF_nil) (allL_cons SlOld.lasts allL_nil)) ?_
  refine gw_seq ?_
  refine gw_region ?_
  refine wl_box rfl rfl rfl fun g1 => ?_
  refine wl_ov (ov_assign rfl) rfl ?_
  refine wl_ov (ov_assign rfl) rfl ?_
  refine wl_ov (ov_assign rfl) rfl ?_
  refine wl_nil ?_
  refine nx_then ?_
  refine gw_seq ?_
  refine gw_seq ?_
  refine gw_region ?_
  refine wl_ov (ov_loads rz90 rfl (fun _ hm => hm.blkI 0 rfl) rfl rfl) rfl ?_
  refine wl_callv rfl cb57 rfl rfl (fun wx hm => (checkDeal_any ⟨df, dk, de, dg, dh, dd, dp⟩ wx)) ?_
  refine wl_ov (ov_move rfl) rfl ?_
  refine wl_callv rfl cb135 rfl rfl (fun wx hm => (checkLines_any l A n c wx (hm.fact 0 rfl).1 hok hn)) ?_
  refine wl_ov (ov_move rfl) rfl ?_
  refine wl_callw rfl cb99 rfl rfl (fun wx hm => (in_any _ _ _ wx)) ?_
  refine wl_ov (ov_un_not rfl) rfl ?_
  refine wl_callw rfl cb98 rfl rfl (fun wx hm => (when_any _ _ wx)) ?_
  refine wl_buildSlice (e := 37) (cs := [.int .i64 (dealE ⟨df, dk, de, dg, dh, dd, dp⟩), .int .i64 (linesE l), .int .i64 (whenE (!(inB paid 0 1000000000)) 1)]) rfl (by kernel_rfl) rfl fun g2 => ?_
  refine wl_callw rfl cb96 rfl rfl (fun wx hm => (first_any [dealE ⟨df, dk, de, dg, dh, dd, dp⟩, linesE l, whenE (!(inB paid 0 1000000000)) 1] _ _ _ wx (hm.blkI 0 rfl) (by simp))) ?_
  refine wl_ov (ov_assign rfl) rfl ?_
  refine wl_nil ?_
  refine nx_then ?_
  refine gw_seq ?_
  refine gw_region ?_
  refine wl_ov (ov_move rfl) rfl ?_
  refine wl_ov (ov_neq rfl rfl) rfl ?_
  refine wl_nil ?_
  refine nx_then ?_
  refine gw_cond rfl (fun hh => ?_) (fun hh => ?_)
  · have hE : ¬ (firstE [dealE ⟨df, dk, de, dg, dh, dd, dp⟩, linesE l, whenE (!(inB paid 0 1000000000)) 1] = 0) := by simpa using hh
    clear hh
    refine gw_seq ?_
    refine gw_region ?_
    refine wl_ov (ov_move rfl) rfl ?_
    refine wl_ov (ov_assign rfl) rfl ?_
    refine wl_ov (ov_assign rfl) rfl ?_
    refine wl_ov (ov_assign rfl) rfl ?_
    refine wl_nil ?_
    refine nx_then ?_
    refine gw_ret ?_
    refine nx_then_ret ?_
    refine nx_ret3 rfl rfl rfl rfl fun wx hm => ?_
    have hs : ¬ settleE ⟨df, dk, de, dg, dh, dd, dp⟩ l paid = 0 := hE
    exact ⟨ret_iie (by rw [if_neg hs]) (by rw [if_neg hs]) rfl, hm.g⟩
  · have hE : firstE [dealE ⟨df, dk, de, dg, dh, dd, dp⟩, linesE l, whenE (!(inB paid 0 1000000000)) 1] = 0 := by simpa using hh
    clear hh
    refine gw_skip ?_
    refine nx_then ?_
    refine gw_seq ?_
    have hz := firstE_all hE
    have h1 := dealE_ok (hz (dealE ⟨df, dk, de, dg, dh, dd, dp⟩) (by simp))
    have h2 := linesE_ok (hz (linesE l) (by simp))
    have h3 := whenE_ok (by decide) (hz (whenE (!inB paid 0 1000000000) 1) (by simp))
    have hb := h2.2
    have hsum := sumBy_bound (l := l) (f := centsOf) (a := -1000000000) (b := 1000000000) hb
    have hlen := hl.len
    have hp : 0 ≤ paid ∧ paid ≤ 1000000000 := by simpa [inB] using h3
    obtain ⟨hp0, hp1⟩ := hp
    have hd0 : 0 ≤ dp := h1.2.2.2.2.2.2.1
    have hd1 : dp ≤ 1000000 := h1.2.2.2.2.2.2.2
    have hl0 := h2.1
    have hs0 : -1000000000000 ≤ sumBy centsOf l := by omega
    have hs1 : sumBy centsOf l ≤ 1000000000000 := by omega
    clear hsum hz h1 h2 h3
    refine gw_draw (fun wz => Blk wz g2 37 [.int .i64 (dealE ⟨df, dk, de, dg, dh, dd, dp⟩), .int .i64 (linesE l), .int .i64 (whenE (!(inB paid 0 1000000000)) 1)] ∧ Blk wz g1 90 [.int .i64 df, .int .i64 dk, .int .i64 de, .int .i64 dg, .int .i64 dh, .int .i64 dd, .int .i64 dp] ∧ (SlOld lnEnc 3 134 w.heap.size none A n l) wz ∧ True) mixed ?_
    refine wa_take 0 rfl (by kernel_rfl) (by kernel_rfl) (by kernel_rfl) (listed' := #[true, false, false, false, false, false, false, false]) rfl (fun _ _ _ h => h) (fun _ hm => ⟨hm.blkI 0 rfl, hm.blkI 1 rfl, hm.fact 0 rfl, trivial⟩) (ov_move rfl) rfl ?_
    refine wa_take 1 rfl (by kernel_rfl) (by kernel_rfl) (by kernel_rfl) (listed' := #[true, true, false, false, false, false, false, false]) rfl (fun _ _ _ h => h) (fun _ hm => ⟨hm.blkI 0 rfl, hm.blkI 1 rfl, hm.fact 0 rfl, trivial⟩) (ov_field fo90_6 rfl rfl) rfl ?_
    refine wa_take 2 rfl (by kernel_rfl) (by kernel_rfl) (by kernel_rfl) (listed' := #[true, true, true, false, false, false, false, false]) rfl (fun _ _ _ h => h) (fun _ hm => ⟨hm.blkI 0 rfl, hm.blkI 1 rfl, hm.fact 0 rfl, trivial⟩) (ov_load sc3 rfl (fun _ hm => hm.2.1) rfl) rfl ?_
    refine wa_take 3 rfl (by kernel_rfl) (by kernel_rfl) (by kernel_rfl) (listed' := #[true, true, true, true, false, false, false, false]) rfl (fun _ _ _ h => h) (fun _ hm => ⟨hm.blkI 0 rfl, hm.blkI 1 rfl, hm.fact 0 rfl, trivial⟩) (ov_add rfl rfl (by omega) (by omega)) rfl ?_
    refine wa_take 4 rfl (by kernel_rfl) (by kernel_rfl) (by kernel_rfl) (listed' := #[true, true, true, true, true, false, false, false]) rfl (fun _ _ _ h => h) (fun _ hm => ⟨hm.blkI 0 rfl, hm.blkI 1 rfl, hm.fact 0 rfl, trivial⟩) (ov_move rfl) rfl ?_
    refine wa_all [5] (by kernel_rfl) rfl ⟨⟨_, rfl, ?_⟩, trivial⟩
    refine wl_callv rfl cb139 rfl rfl (fun wx hm => (sum_any l A n c wx (hm.fact 0 rfl).1 (fun x hx => by have := hb x hx; omega) hn)) ?_
    refine wl_nil ?_
    refine nx_wa0 (listed' := #[true, true, true, true, true, true, false, false]) rfl (fun _ hm => ⟨hm.blkI 0 rfl, hm.blkI 1 rfl, hm.fact 0 rfl, trivial⟩) ?_
    refine wa_take 6 rfl (by kernel_rfl) (by kernel_rfl) (by kernel_rfl) (listed' := #[true, true, true, true, true, true, true, false]) rfl (fun _ _ _ h => h) (fun _ hm => ⟨hm.blkI 0 rfl, hm.blkI 1 rfl, hm.fact 0 rfl, trivial⟩) (ov_sub rfl rfl (by omega) (by omega)) rfl ?_
    refine wa_take 7 rfl (by kernel_rfl) (by kernel_rfl) (by kernel_rfl) (listed' := #[true, true, true, true, true, true, true, true]) rfl (fun _ _ _ h => h) (fun _ hm => ⟨hm.blkI 0 rfl, hm.blkI 1 rfl, hm.fact 0 rfl, trivial⟩) (ov_assign rfl) rfl ?_
    refine wa_done (by kernel_rfl) ?_
    refine nx_then ?_
    refine gw_seq ?_
    refine gw_region ?_
    refine wl_ov (ov_move rfl) rfl ?_
    refine wl_ov (ov_max rfl rfl) rfl ?_
    refine wl_ov (ov_move rfl) rfl ?_
    refine wl_ov (ov_neg rfl (by omega) (by omega)) rfl ?_
    refine wl_ov (ov_max rfl rfl) rfl ?_
    refine wl_ov (ov_assign rfl) rfl ?_
    refine wl_ov (ov_assign rfl) rfl ?_
    refine wl_ov (ov_assign rfl) rfl ?_
    refine wl_nil ?_
    refine nx_then ?_
    refine gw_ret ?_
    refine nx_ret3 rfl rfl rfl rfl fun wx hm => ?_
    have hs : settleE ⟨df, dk, de, dg, dh, dd, dp⟩ l paid = 0 := hE
    exact ⟨ret_iie (by rw [if_pos hs]; rfl) (by rw [if_pos hs]; rfl) hs, hm.g⟩

end Go.Proofs.YtljnekobfjpfaaaDoor
