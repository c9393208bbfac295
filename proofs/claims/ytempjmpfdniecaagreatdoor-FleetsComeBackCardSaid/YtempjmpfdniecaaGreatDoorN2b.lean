/- Several texts as one: Bu Rdr Srt Xz Tl Cp Fl Fv Mp Md Cells Lst Tw Aw Cl Gb Fq Ci Ftp Ix -/
import Derived.Test.YtempjmpfdniecaaGreatDoorN2a
import Derived.Maps.Own
import Derived.MapKept
import Derived.Deep.LoopGhost
import Derived.Deep.DeepCutAuto
import Derived.Laws.AppendOwnNone
set_option maxRecDepth 100000
set_option maxHeartbeats 4000000
namespace Go.Proofs.YtempjmpfdniecaaGreatDoor
open Go.RowKit
def OldF (N : Nat) (A : World -> Prop) : Prop := ∀ w w', Below N w w' -> A w -> A w'
theorem SlOld.oldF {α : Type} {enc : α -> List Value} {k : Nat} {T : TypeId} {N : Nat} {row : Option Nat} {A : Option Addr} {n : Nat} {l : List α} : OldF N (SlOld enc k T N row A n l) := fun w w' hb hx => by
 refine ⟨⟨hx.1.len, fun hn => ?_⟩, hx.2⟩
 obtain ⟨b, off, cells, fz, e, hh, hc⟩ := hx.1.at_ hn
 have h4 := hx.2 b off e hn
 exact ⟨b, off, cells, fz, e, (hb.block b h4.1).trans hh, hc⟩
theorem TxtO.oldF {N : Nat} {row : Option Nat} : OldF N (TxtO N row) := fun _ _ hb h => ⟨h.1.same fun k hk => hb.block k (h.2 k hk).1, h.2⟩
section
variable {c : Cx} {K : World -> Prop} {L : List (Nat × TypeId × List Value)} {O : List Own} {X X' : List (World -> Prop)} {w w' : World} {T e : TypeId} {b : Nat} {p v : Value} {bs : List Value}
theorem Mem.isB (hm : Mem c K L O X w) (i j : Nat) (hL : L[i]? = some (b, T, [p, v])) (hO : O[j]? = some ⟨v, e, 1, bs.length, bs⟩) (hp : p = .pointer none ∨ p = .pointer (some ⟨b, 0, none⟩)) : Lib.IsBuilder T e c.w0.heap.size b bs w := by
 have h1 := hm.b _ (List.mem_of_getElem? hL)
 have h2 := hm.o _ (List.mem_of_getElem? hO)
 have h3 := hm.od _ (List.mem_of_getElem? hO) _ (List.mem_of_getElem? hL)
 have h : Lib.BuilderAt T e c.w0.heap.size b p bs w := ⟨h1.1, v, h1.2, h2, h3⟩
 rcases hp with rfl | rfl
 ·exact .inl h
 ·exact .inr h
theorem Mem.gB (hm : Mem c K L O X w) (hb : Below c.w0.heap.size w w') : c.w0.grownBy w' c.row :=
 ⟨hb.os.trans hm.g.os, hb.tape.trans hm.g.tape, hb.output.trans hm.g.output, Nat.le_trans hm.g.size hb.size, fun k hk hne => (hb.block k hk).trans (hm.g.block k hk hne)⟩
theorem Mem.built (hm : Mem c K L O X w) (h : Lib.BuilderAt T e c.w0.heap.size b p bs w') (hb : Below c.w0.heap.size w w') (hX : ∀ A ∈ X', OldF c.w0.heap.size A /\ A ∈ X) :
  ∃ v, Mem c (fun _ => True) [(b, T, [p, v])] [⟨v, e, 1, bs.length, bs⟩] X' w' := by
 obtain ⟨hN, v, hh, ho, hne⟩ := h
 refine ⟨v, hm.gB hb, trivial, fun x hx => ?_, List.pairwise_singleton _ _, fun r hr => ?_, fun r hr x hx => ?_, List.pairwise_singleton _ _, fun A hA => (hX A hA).1 _ _ hb (hm.x A (hX A hA).2), Keeps.true_, fun A hA => hm.l A (hX A hA).2, hm.rs⟩
 ·rw [List.mem_singleton.1 hx]; exact ⟨hN, hh⟩
 ·rw [List.mem_singleton.1 hr]; exact ho
 ·rw [List.mem_singleton.1 hr, List.mem_singleton.1 hx]; exact hne
theorem Mem.belowX (hm : Mem c K L O X w) (hb : Below c.w0.heap.size w w') (hX : ∀ A ∈ X', OldF c.w0.heap.size A /\ A ∈ X) : Mem c (fun _ => True) [] [] X' w' :=
 ⟨hm.gB hb, trivial, (fun _ h => by cases h), List.Pairwise.nil, (fun _ h => by cases h), (fun _ h => by cases h), List.Pairwise.nil, fun A hA => (hX A hA).1 _ _ hb (hm.x A (hX A hA).2), Keeps.true_, fun A hA => hm.l A (hX A hA).2, hm.rs⟩
theorem oldX_nil {N : Nat} {X : List (World -> Prop)} : ∀ A ∈ ([] : List (World -> Prop)), OldF N A /\ A ∈ X := fun _ h => by cases h
theorem oldX_cons {N i : Nat} {X X' : List (World -> Prop)} {A : World -> Prop} (h : OldF N A) (hi : X[i]? = some A) (t : ∀ B ∈ X', OldF N B /\ B ∈ X) : ∀ B ∈ A :: X', OldF N B /\ B ∈ X := fun B hB => by
 rcases List.mem_cons.1 hB with rfl | hB
 ·exact ⟨h, List.mem_of_getElem? hi⟩
 ·exact t B hB
end
theorem Tryz.lays166x : Lays.n166 Tryz.prog Tryz.lays156_ren := { Tryz.lays156 with }
theorem string_any (B b : Nat) (l : List UInt8) (w : World) (h : Lib.IsBuilder 128 5 B b (Lib.byteCells l) w) (hB : B <= w.heap.size) :
  Calls Tryz.prog 74 #[.pointer (some ⟨b, 0, none⟩)] w (fun e w' => e = .returned (.string ⟨l.toArray⟩) /\ Below B w w') :=
 Any.Builder_String_any Tryz.lays169 Tryz.Builder_Extra_169 B b l w h hB
end Go.Proofs.YtempjmpfdniecaaGreatDoor
namespace Go.Proofs.YtempjmpfdniecaaGreatDoor
open Go.RowKit
def svEnc (v : Value) : List Value := [v]
theorem sv_len (v : Value) : (svEnc v).length = 1 := rfl
theorem blkRow1 {w : World} {g : Nat} {T : TypeId} {v : Value} (hb : Blk w g T [v]) : w.ownsRow 0 T 1 (.slice (some ⟨g, 0, none⟩) 1 1) 1 ([v].flatMap svEnc) :=
 ⟨rfl, .inr ⟨g, 1, #[v], rfl, Nat.zero_le _, hb, Nat.le_refl _, by unfold maxLen; omega, rfl, rfl⟩⟩
theorem rowBlk1 {T : TypeId} {g : Nat} {v : Value} {w : World} (h : RowK 0 T 1 1 1 g ([v].flatMap svEnc) w) : Blk w g T [v] := by
 rcases h.2 with ⟨h1, _⟩ | ⟨g', cap, cur, hv, _, hh, _, _, hs, ht⟩
 ·cases h1
 ·injection hv with h1 _ h3
  injection h1 with h1
  injection h1 with h1 _ _
  subst h1 h3
  rw [List.take_of_length_le (by rw [Array.length_toList]; omega)] at ht
  have e : cur = [v].toArray := by rw [<- show cur.toList = [v] from ht]
  rw [e] at hh
  exact hh
section
variable {K : World -> Prop} {L : List (Nat × TypeId × List Value)} {O : List Own} {X X' : List (World -> Prop)} {w w' w0 : World} {n n' : Nat} {row : Option Nat} {Tt : List TypeId}
theorem Mem.cx (h : Mem ⟨n, w0, row, Tt⟩ K L O X w) : Mem ⟨n', w0, row, Tt⟩ K L O X w := ⟨h.g, h.k, h.b, h.nd, h.o, h.od, h.oo, h.x, h.kk, h.l, h.rs⟩
end
section
variable {c : Cx} {K : World -> Prop} {L : List (Nat × TypeId × List Value)} {O : List Own} {X X' : List (World -> Prop)} {w w' : World}
theorem Mem.handed {g : Nat} {T e : TypeId} {sz m : Nat} {v u : Value} {xs : List Value} (hm : Mem c (fun _ => True) [(g, T, [u])] O X w) (hg : w.grownBy w' (some g)) (hb : Blk w' g T [v]) (ho : w'.ownsRow w.heap.size e sz v m xs)
    (hX : ∀ A ∈ X', (∀ w w', c.w0.heap.size <= g -> w.grownBy w' (some g) -> A w -> A w') /\ A ∈ X) : Mem c (fun _ => True) [(g, T, [v])] [⟨v, e, sz, m, xs⟩] X' w' := by
  have h1 := hm.b _ (List.mem_singleton.2 rfl)
  have hlt : g < w.heap.size := h1.2.lt
  have hN : c.w0.heap.size <= w.heap.size := hm.g.size
  have hne : v.ownBlock ≠ some g := fun e => by
    have := ho.lt g e
    omega
  refine ⟨⟨hg.os.trans hm.g.os, hg.tape.trans hm.g.tape, hg.output.trans hm.g.output, Nat.le_trans hm.g.size hg.size, fun k hk hne => ?_⟩, trivial, fun x hx => ?_, List.pairwise_singleton _ _, fun r hr => ?_, fun r hr x hx => ?_, List.pairwise_singleton _ _, fun A hA => (hX A hA).1 _ _ h1.1 hg (hm.x A (hX A hA).2), Keeps.true_, fun A hA => hm.l A (hX A hA).2, hm.rs⟩
  · exact (hg.block k (Nat.lt_of_lt_of_le hk hm.g.size) (fun e => by
      have e2 : k = g := by injection e
      have := h1.1
      omega)).trans (hm.g.block k hk hne)
  · rw [List.mem_singleton.1 hx]; exact ⟨h1.1, hb⟩
  · rw [List.mem_singleton.1 hr]
    refine ⟨ho.1, ?_⟩
    rcases ho.2 with h | ⟨g', cap, cur, h2, h3, h4⟩
    · exact .inl h
    · exact .inr ⟨g', cap, cur, h2, Nat.le_trans hN h3, h4⟩
  · rw [List.mem_singleton.1 hr, List.mem_singleton.1 hx]; exact hne
end
theorem SlOld.far' {α : Type} {enc : α -> List Value} {k : Nat} {T : TypeId} {N g : Nat} {row : Option Nat} {A : Option Addr} {n : Nat} {l : List α} : ∀ w w' : World, N <= g -> w.grownBy w' (some g) -> SlOld enc k T N row A n l w -> SlOld enc k T N row A n l w' := fun w w' hN hg hx => by
 refine ⟨⟨hx.1.len, fun hn => ?_⟩, hx.2⟩
 obtain ⟨b, off, cells, fz, e, hh, hc⟩ := hx.1.at_ hn
 have h4 := hx.2 b off e hn
 have hb : b < w.heap.size := (Array.getElem?_eq_some_iff.1 hh).1
 exact ⟨b, off, cells, fz, e, (hg.block b hb (fun e => by
  have e2 : b = g := by injection e
  omega)).trans hh, hc⟩
theorem TxtO.far {N g : Nat} {row : Option Nat} : ∀ w w' : World, N <= g -> w.grownBy w' (some g) -> TxtO N row w -> TxtO N row w' := fun _ _ hN hg h =>
 ⟨h.1.same fun k hk => hg.block k (h.1.lt hk) (fun e => by
  have e2 : k = g := by injection e
  have := (h.2 k hk).1
  omega), h.2⟩
end Go.Proofs.YtempjmpfdniecaaGreatDoor
namespace Go.Proofs.YtempjmpfdniecaaGreatDoor
open Go.RowKit
section
variable {α : Type}
def sink (lt : α -> α -> Bool) : Nat -> List α -> List α
 | 0, l => l
 | j + 1, l => match l[j + 1]?, l[j]? with
  | some x, some y => if lt x y then sink lt j ((l.set (j + 1) y).set j x) else l
  | _, _ => l
def isortF (lt : α -> α -> Bool) : Nat -> Nat -> List α -> List α
 | 0, _, l => l
 | f + 1, i, l => isortF lt f (i + 1) (sink lt i l)
def isort (lt : α -> α -> Bool) (l : List α) : List α := isortF lt (l.length - 1) 1 l
theorem sink_yes {lt : α -> α -> Bool} {j : Nat} {l : List α} {x y : α} (hx : l[j + 1]? = some x) (hy : l[j]? = some y) (h : lt x y = true) : sink lt (j + 1) l = sink lt j ((l.set (j + 1) y).set j x) := by
 simp only [sink, hx, hy, h, if_true]
theorem sink_no {lt : α -> α -> Bool} {j : Nat} {l : List α} {x y : α} (hx : l[j + 1]? = some x) (hy : l[j]? = some y) (h : lt x y = false) : sink lt (j + 1) l = l := by
 simp only [sink, hx, hy, h, Bool.false_eq_true, if_false]
theorem sink_len (lt : α -> α -> Bool) : ∀ (j : Nat) (l : List α), (sink lt j l).length = l.length
 | 0, _ => rfl
 | j + 1, l => by
  unfold sink
  split
  ·split
   ·rw [sink_len lt j]; simp
   ·rfl
  ·rfl
theorem isortF_len (lt : α -> α -> Bool) : ∀ (f i : Nat) (l : List α), (isortF lt f i l).length = l.length
 | 0, _, _ => rfl
 | f + 1, i, l => by
  unfold isortF
  rw [isortF_len lt f, sink_len]
theorem isort_len (lt : α -> α -> Bool) (l : List α) : (isort lt l).length = l.length := isortF_len lt _ _ _
theorem swap_perm {l : List α} {j : Nat} {x y : α} (hx : l[j + 1]? = some x) (hy : l[j]? = some y) : ((l.set (j + 1) y).set j x).Perm l := by
 obtain ⟨h1, rfl⟩ := List.getElem?_eq_some_iff.1 hx
 obtain ⟨h2, rfl⟩ := List.getElem?_eq_some_iff.1 hy
 have e : l = l.take j ++ l[j] :: l[j + 1] :: l.drop (j + 2) := by
  conv => lhs; rw [<- List.take_append_drop j l, List.drop_eq_getElem_cons h2, List.drop_eq_getElem_cons h1]
 have hl : (l.take j).length = j := by simp; omega
 have e2 : (l.set (j + 1) l[j]).set j l[j + 1] = l.take j ++ l[j + 1] :: l[j] :: l.drop (j + 2) := by
  refine List.ext_getElem? fun k => ?_
  rw [List.getElem?_set, List.length_set, List.getElem?_set]
  rcases Nat.lt_trichotomy k j with hk | rfl | hk
  ·rw [if_neg (by omega), if_neg (by omega), List.getElem?_append_left (by rw [hl]; exact hk), List.getElem?_take, if_pos hk]
  ·rw [if_pos rfl, if_pos h2, List.getElem?_append_right (by omega), hl, Nat.sub_self]; rfl
  ·rw [if_neg (by omega), List.getElem?_append_right (by omega), hl]
   rcases Nat.lt_trichotomy k (j + 1) with h3 | rfl | h3
   ·omega
   ·rw [if_pos rfl, if_pos h1, show j + 1 - j = 1 by omega]; rfl
   ·rw [if_neg (by omega), show k - j = (k - (j + 2)) + 2 by omega]
    simp only [List.getElem?_cons_succ, List.getElem?_drop]
    congr 1; omega
 rw [e2]
 conv => rhs; rw [e]
 exact List.Perm.append_left _ (List.Perm.swap _ _ _)
theorem sink_perm (lt : α -> α -> Bool) : ∀ (j : Nat) (l : List α), (sink lt j l).Perm l
 | 0, _ => List.Perm.refl _
 | j + 1, l => by
  unfold sink
  split
  ·rename_i x y hx hy
   split
   ·exact (sink_perm lt j _).trans (swap_perm hx hy)
   ·exact List.Perm.refl _
  ·exact List.Perm.refl _
theorem isortF_perm (lt : α -> α -> Bool) : ∀ (f i : Nat) (l : List α), (isortF lt f i l).Perm l
 | 0, _, _ => List.Perm.refl _
 | f + 1, i, l => (isortF_perm lt f (i + 1) _).trans (sink_perm lt i l)
theorem isort_perm (lt : α -> α -> Bool) (l : List α) : (isort lt l).Perm l := isortF_perm lt _ _ _
theorem mem_in {lt : α -> α -> Bool} {l0 R S m : List α} {f i j : Nat} (hR : R = isort lt l0) (hF : isortF lt f i S = R) (hS : sink lt j m = S) {z : α} (hz : z ∈ m) : z ∈ l0 := by
 have h1 : z ∈ S := by rw [<- hS]; exact (sink_perm lt j m).mem_iff.2 hz
 have h2 : z ∈ R := by rw [<- hF]; exact (isortF_perm lt f i S).mem_iff.2 h1
 rw [hR] at h2
 exact (isort_perm lt l0).mem_iff.1 h2
theorem isort_mem {lt : α -> α -> Bool} {l : List α} {x : α} : x ∈ isort lt l ↔ x ∈ l := (isort_perm lt l).mem_iff
end
section
variable {P : Program} {c : Cx} {ops : Array Oper} {Q : Exit -> Act -> World -> Prop} {rest : List Oper} {S : List (Nat × Value)} {K : World -> Prop} {L : List (Nat × TypeId × List Value)} {O : List Own} {X : List (World -> Prop)} {d : Nat} {ty : TypeId} {pos : String} {aft : Array Edge}
theorem memR {n0 : Nat} {Tt : List TypeId} {w : World} {base : Nat} {e : TypeId} {sz n cap g : Nat} {xs : List Value} (hS : w.ownsRow base e sz (.slice (some ⟨g, 0, none⟩) n cap) n xs) (hX : ∀ A ∈ X, A w) (hl : ∀ A ∈ X, Lasts2 w.heap.size (some g) Tt A) : Mem ⟨n0, w, some g, Tt⟩ (RowK base e sz n cap g xs) [] [] X w :=
 have hS2 : RowK base e sz n cap g xs w := hS
 ⟨World.grownBy.refl _ _, hS2, (fun _ hx => by cases hx), List.Pairwise.nil, (fun _ hx => by cases hx), (fun _ hx => by cases hx), List.Pairwise.nil, hX, RowK.keeps hS2.lt.2, hl, (fun _ hr => by cases hr; exact hS2.lt.2)⟩
theorem Mem.turned {base g n cap sz : Nat} {e : TypeId} {xs xs' : List Value} {w w' : World} (h : Mem c (RowK base e sz n cap g xs) L O X w) (hrow : c.row = some g) (hT : c.Tt.contains e = false) (hown : w'.ownsRow base e sz (.slice (some ⟨g, 0, none⟩) n cap) n xs') (hg : w.grownBy w' (some g)) : Mem c (RowK base e sz n cap g xs') L O X w' := by
 have hlt0 := h.rs g hrow
 have hk : w.ownsRow base e sz (.slice (some ⟨g, 0, none⟩) n cap) n xs := h.k
 obtain ⟨cells, hcells⟩ : ∃ cells, w.heap[g]? = some (.cells cells e (0, 0)) := by
  rcases hk.2 with ⟨h1, _⟩ | ⟨g', cap', cur, h1, _, h2, _⟩
  ·cases h1
  ·injection h1 with h1 _ _
   injection h1 with h1
   injection h1 with h1 _ _
   subst h1
   exact ⟨_, h2⟩
 refine ⟨grow_trans h.g (hrow ▸ hg), hown, fun x hx => ⟨(h.b x hx).1, (h.b x hx).2.grown hg (fun e => ?_)⟩, h.nd, fun r hr => (h.o r hr).kept hg ?_, h.od, h.oo, fun A hA => ?_, RowK.keeps hlt0, h.l, h.rs⟩
 ·have := (h.b x hx).1; injection e with e; omega
 ·cases hv : r.v.ownBlock with
  | none => exact .inl rfl
  | some g' => exact .inr (fun e => by have := ((h.o r hr).lt g' hv).1; injection e with e; omega)
 ·exact (h.l A hA).st w _ g e cells hcells (fun e => by simp [e] at hT) (.inr hrow) hg (h.x A hA)
theorem wl_storesRow {α : Type} {enc : α -> List Value} {t : TypeId} {x y : Operand} {base g n cap sz o j r m : Nat} {e : TypeId} {vs : List Value} {l : List α} {el el' : α} (hrow : c.row = some g) (hs : rowSz P t = some m) (hx : rd S x = some (.pointer (some ⟨g, o, none⟩))) (hy : rd S y = some (.agg vs.toArray)) (h1 : vs.all (·.oneCell') = true) (hn : vs.length = m)
  (hk : ∀ x, (enc x).length = sz) (ho : 0 + j * sz + r = o) (hj : l[j]? = some el) (hl : l.length = n) (hr : r + m <= sz) (he : splice (enc el) r vs = enc el') (hT : c.Tt.contains e = false)
  (h : WL P c ops Q rest S (RowK base e sz n cap g ((l.set j el').flatMap enc)) L O X) : WL P c ops Q (⟨none, .store t x y, ty, pos, aft, none⟩ :: rest) S (RowK base e sz n cap g (l.flatMap enc)) L O X := by
 intro a w ha hm
 have hown : w.ownsRow base e sz (.slice (some ⟨g, 0, none⟩) n cap) n (l.flatMap enc) := hm.k
 have hjl := (List.getElem?_eq_some_iff.1 hj).1
 have hlt : o + m <= n * sz := by
  have : (j + 1) * sz <= n * sz := Nat.mul_le_mul_right sz (by omega)
  rw [Nat.add_mul] at this
  omega
 obtain ⟨dd, hu, _, hi⟩ := run_row hs
 rcases hown.2 with ⟨h', _⟩ | ⟨g', cap', cur, h', hb, hg, hnc, hcm, hcs, htake⟩
 ·simp at h'
 ·simp only [Value.slice.injEq, Option.some.injEq, Addr.mk.injEq, and_true, true_and] at h'
  obtain ⟨rfl, rfl⟩ := h'
  have hbk : Blk w g e cur.toList := by unfold Blk; rw [Array.toArray_toList]; exact hg
  have hcl : n * sz <= cur.toList.length := by
   have := Nat.mul_le_mul_right sz hnc
   simp [hcs]; exact this
  refine wpList_store_blk rfl t x y rfl g o e cur.toList vs hbk (ha.eval hx) (ha.eval hy) m hi hn (by omega) (by simpa using h1) fun w' hb' hgr => ?_
  have hsl := splice_length cur.toList o vs (by omega)
  have hfl := flat_len enc sz hk (l.set j el')
  rw [List.length_set, hl] at hfl
  refine h _ _ ⟨ha.size, ha.val, ha.df⟩ (hm.turned hrow hT ⟨hfl, .inr ⟨g, cap, (splice cur.toList o vs).toArray, rfl, hb, hb', hnc, hcm, by simpa [hsl] using hcs, ?_⟩⟩ hgr)
  rw [List.toList_toArray, own_take_splice hcl (by omega), htake, <- ho, Nat.zero_add, own_flat_splice enc sz hk hj he (by omega)]
theorem wl_callK {f : FuncId} {x : Operand} {ags : List Operand} {ats : Array TypeId} {vs fs cs : List Value} {v : Value} {base g n cap sz : Nat} {e : TypeId} {xs xs' : List Value} (hrow : c.row = some g) (hT : c.Tt.contains e = false) (hx : rd S x = some (.func (.func f) fs.toArray cs.toArray)) (hf : callableB P f = true) (ha : evArgs S ags = some vs) (hd : Nat.ble (d + 1) c.n = true)
  (hC : ∀ w, Mem c (RowK base e sz n cap g xs) L O X w -> Calls P f (fs ++ vs ++ cs).toArray w (fun e1 w' => e1 = .returned v /\ w'.ownsRow base e sz (.slice (some ⟨g, 0, none⟩) n cap) n xs' /\ w.grownBy w' (some g))) (h : WL P c ops Q rest ((d, v) :: S) (RowK base e sz n cap g xs') L O X) :
  WL P c ops Q (⟨some d, .call ⟨.value x, ags.toArray, ats⟩, ty, pos, aft, none⟩ :: rest) S (RowK base e sz n cap g xs) L O X :=
 wl_callG (γ := Unit) (val := fun _ => v) (φ := fun _ => True) (K' := fun _ => RowK base e sz n cap g xs') (L' := fun _ => L) (O' := fun _ => O) (X' := fun _ => X) hx hf ha hd (fun w hm => (hC w hm).mono fun _ _ ⟨he, ho, hg⟩ => ⟨(), he, trivial, hm.turned hrow hT ho hg⟩) (fun _ _ => h)
end
theorem fin_row {base : Nat} {e : TypeId} {sz n cap g : Nat} {xs : List Value} {w0 w : World} (hk : RowK base e sz n cap g xs w) (hg : w0.grownBy w (some g)) : w.ownsRow base e sz (.slice (some ⟨g, 0, none⟩) n cap) n xs /\ w0.grownBy w (some g) := ⟨hk, hg⟩
end Go.Proofs.YtempjmpfdniecaaGreatDoor
namespace Go.Proofs.YtempjmpfdniecaaGreatDoor
open Go.RowKit
theorem zc128 : zeroCs Tryz.prog 128 = some [.pointer none, .slice none 0 0] := by kernel_rfl
theorem cells_app {l : List UInt8} {s : ByteArray} : Lib.byteCells l ++ Lib.strCells s = Lib.byteCells (l ++ s.data.toList) := by
 unfold Lib.byteCells Lib.strCells; rw [List.map_append]
theorem ba_eq : ∀ {a b : ByteArray}, a.data.toList = b.data.toList -> a = b := fun {a b} h => by
 cases a; cases b
 exact congrArg ByteArray.mk (Array.toList_inj.1 h)
theorem splitB_sz (sep : ByteArray) : ∀ (k : Nat) (t : ByteArray), ∀ x ∈ Lib.splitB sep 0 k t, x.size <= t.size
 | 0, t, x, hx => by
  rw [Lib.splitB_zero] at hx
  rw [List.mem_singleton.1 hx]; exact Nat.le_refl _
 | k + 1, t, x, hx => by
  unfold Lib.splitB at hx
  split at hx
  ·rw [List.mem_singleton.1 hx]; exact Nat.le_refl _
  ·rcases List.mem_cons.1 hx with rfl | hx
   ·rw [ByteArray.size_extract]; omega
   ·have := splitB_sz sep k _ x hx
    rw [ByteArray.size_extract] at this
    omega
theorem wdL_sz (t : ByteArray) : ∀ x ∈ wdL t, x.size <= t.size := splitB_sz _ _ t
theorem cut_sz (t sep : ByteArray) (hs : 1 <= sep.size) : (cutS t sep).1.size <= t.size /\ ((cutS t sep).2.2 = true -> 1 <= t.size -> (cutS t sep).2.1.size + 1 <= t.size) /\ (cutS t sep).2.1.size <= t.size := by
 have h1 := dl_size t
 have h2 := dl_size sep
 unfold cutS Lib.cut
 by_cases h : 0 <= Lib.index t.data.toList sep.data.toList
 ·rw [if_pos h]
  refine ⟨?_, fun _ h3 => ?_, ?_⟩
  ·show (⟨(t.data.toList.take (Lib.index t.data.toList sep.data.toList).toNat).toArray⟩ : ByteArray).size <= _
   rw [sz_mk, List.length_take]; omega
  ·show (⟨(t.data.toList.drop ((Lib.index t.data.toList sep.data.toList).toNat + sep.data.toList.length)).toArray⟩ : ByteArray).size + 1 <= _
   rw [sz_mk, List.length_drop]; omega
  ·show (⟨(t.data.toList.drop ((Lib.index t.data.toList sep.data.toList).toNat + sep.data.toList.length)).toArray⟩ : ByteArray).size <= _
   rw [sz_mk, List.length_drop]; omega
 ·rw [if_neg h]
  refine ⟨?_, (fun h => by cases h), ?_⟩
  ·show (⟨t.data.toList.toArray⟩ : ByteArray).size <= _
   rw [sz_mk]; omega
  ·show (⟨([] : List UInt8).toArray⟩ : ByteArray).size <= _
   rw [sz_mk]; exact Nat.zero_le _
def IfT (b : Bool) (P : Prop) : Prop := b = true -> P
theorem Lasts2.ift {N : Nat} {row : Option Nat} {Tt : List TypeId} {b : Bool} {q : Prop} {X : World -> Prop} (h : Lasts2 N row Tt X) : Lasts2 N row Tt (fun w => IfT b (X w /\ q)) :=
 ⟨fun w w' hg hx hc => ⟨h.gr w w' hg (hx hc).1, (hx hc).2⟩, fun w w' r T cs h1 h2 h3 h4 hx hc => ⟨h.st w w' r T cs h1 h2 h3 h4 (hx hc).1, (hx hc).2⟩⟩
def nlS : ByteArray := ⟨#[10]⟩
theorem size_pos {t : ByteArray} (h : (t.toList == (⟨#[]⟩ : ByteArray).toList) = false) : 1 <= t.size := by
 rcases Nat.eq_zero_or_pos t.size with h0 | h0
 ·exfalso
  have : t = ⟨#[]⟩ := ByteArray.ext (Array.eq_empty_of_size_eq_zero h0)
  rw [this] at h
  exact absurd h (by decide +kernel)
 ·exact h0
def linesF {σ : Type} (step : ByteArray -> σ -> σ × Bool) : Nat -> ByteArray -> Int -> σ -> Int × Bool × σ
 | 0, _, _, st => (0, true, st)
 | f + 1, t, at_, st => if (t.toList == (⟨#[]⟩ : ByteArray).toList) = true then (0, true, st) else
  if (cutS t nlS).2.2 = false then (at_, false, st) else
  if (step (cutS t nlS).1 st).2 = true then linesF step f (cutS t nlS).2.1 (at_ + 1) (step (cutS t nlS).1 st).1 else (at_, false, (step (cutS t nlS).1 st).1)
def linesR {σ : Type} (step : ByteArray -> σ -> σ × Bool) (st : σ) (t : ByteArray) : Int × Bool × σ := linesF step (t.size + 1) t 0 st
section
variable {σ : Type} {step : ByteArray -> σ -> σ × Bool} {f : Nat} {t c1 c2 : ByteArray} {at_ : Int} {st : σ}
theorem lns_nil (hf : t.size < f) (h : (t.toList == (⟨#[]⟩ : ByteArray).toList) = true) : linesF step f t at_ st = (0, true, st) := by
 obtain ⟨k, rfl⟩ : ∃ k, f = k + 1 := ⟨f - 1, by omega⟩
 rw [linesF, if_pos h]
theorem lns_open (hf : t.size < f) (h : (t.toList == (⟨#[]⟩ : ByteArray).toList) = false) (hc : cutS t nlS = (c1, c2, false)) : linesF step f t at_ st = (at_, false, st) := by
 obtain ⟨k, rfl⟩ : ∃ k, f = k + 1 := ⟨f - 1, by omega⟩
 rw [linesF, if_neg (by rw [h]; decide), hc]; rfl
theorem lns_no (hf : t.size < f) (h : (t.toList == (⟨#[]⟩ : ByteArray).toList) = false) (hc : cutS t nlS = (c1, c2, true)) (hr : (step c1 st).2 = false) : linesF step f t at_ st = (at_, false, (step c1 st).1) := by
 obtain ⟨k, rfl⟩ : ∃ k, f = k + 1 := ⟨f - 1, by omega⟩
 rw [linesF, if_neg (by rw [h]; decide), hc, if_neg (show ¬ true = false by decide)]
 show (if (step c1 st).2 = true then _ else _) = _
 rw [if_neg (by rw [hr]; decide)]
theorem lns_go (hf : t.size < f) (h : (t.toList == (⟨#[]⟩ : ByteArray).toList) = false) (hc : cutS t nlS = (c1, c2, true)) (hr : (step c1 st).2 = true) : linesF step f t at_ st = linesF step (f - 1) c2 (at_ + 1) (step c1 st).1 := by
 obtain ⟨k, rfl⟩ : ∃ k, f = k + 1 := ⟨f - 1, by omega⟩
 rw [linesF, if_neg (by rw [h]; decide), hc, if_neg (show ¬ true = false by decide)]
 show (if (step c1 st).2 = true then _ else _) = _
 rw [if_pos hr]; rfl
end
theorem lines_all {σ : Type} {step : ByteArray -> σ -> σ × Bool} {Q : σ -> Prop} {ms : σ -> Nat} {M : Nat} (hs : ∀ t st, t.size <= M -> Q st -> Q (step t st).1 /\ ms (step t st).1 <= ms st + 1) :
  ∀ (f : Nat) (t : ByteArray) (at_ : Int) (st : σ), t.size <= M -> Q st -> Q (linesF step f t at_ st).2.2 /\ ms (linesF step f t at_ st).2.2 <= ms st + t.size
 | 0, t, at_, st, ht, h => ⟨h, Nat.le_add_right _ _⟩
 | f + 1, t, at_, st, ht, h => by
  unfold linesF
  split
  ·exact ⟨h, Nat.le_add_right _ _⟩
  ·rename_i he
   have h1 := size_pos (t := t) (by simpa using he)
   obtain ⟨hs1, hs2, hs3⟩ := cut_sz t nlS (by decide)
   split
   ·exact ⟨h, Nat.le_add_right _ _⟩
   ·rename_i hc
    have hs2 := hs2 (by simpa using hc) h1
    obtain ⟨j1, j2⟩ := hs (cutS t nlS).1 st (by omega) h
    split
    ·obtain ⟨i1, i2⟩ := lines_all hs f (cutS t nlS).2.1 (at_ + 1) (step (cutS t nlS).1 st).1 (by omega) j1
     exact ⟨i1, by omega⟩
    ·exact ⟨j1, by show ms (step (cutS t nlS).1 st).1 <= _; omega⟩
theorem linesR_all {σ : Type} {step : ByteArray -> σ -> σ × Bool} {Q : σ -> Prop} {ms : σ -> Nat} {M : Nat} (hs : ∀ t st, t.size <= M -> Q st -> Q (step t st).1 /\ ms (step t st).1 <= ms st + 1) {t : ByteArray} {st : σ} (ht : t.size <= M) (h : Q st) :
  Q (linesR step st t).2.2 /\ ms (linesR step st t).2.2 <= ms st + t.size := lines_all hs _ _ _ _ ht h
theorem TxtO.here {N g : Nat} {w : World} (h : TxtO N none w) (hg : N <= g) : TxtO w.heap.size (some g) w := ⟨h.1, fun k hk => ⟨h.1.lt hk, fun e => by
 have e2 : g = k := by injection e
 have := (h.2 k hk).1
 omega⟩⟩
theorem txt_law {w w1 wx : World} {sb : Nat} (h : TxtW w) (hg1 : w.grownBy w1 none) (hsb : w.heap.size <= sb) (hg : w1.grownBy wx (some sb)) : TxtO w1.heap.size (some sb) wx := by
 have ne : ∀ k, isG k -> ¬ some sb = some k := fun k hk e => by
  have e2 : sb = k := by injection e
  have := h.lt hk
  omega
 have h1 := h.same fun k hk => hg1.block k (h.lt hk) (fun e => by cases e)
 exact ⟨h1.same fun k hk => hg.block k (h1.lt hk) (fun e => ne k hk e.symm), fun k hk => ⟨h1.lt hk, ne k hk⟩⟩
theorem TxtO.heap {N : Nat} {row : Option Nat} {w : World} (h : TxtO N row w) : TxtO w.heap.size row w := ⟨h.1, fun k hk => ⟨h.1.lt hk, (h.2 k hk).2⟩⟩
theorem sized_any (t : ByteArray) (w : World) (hz : t.size <= 200000) :
  Calls Tryz.prog 108 #[.string t] w (fun e w' => e = .returned (.tuple #[.string t, .int .i64 0]) /\ w.grownBy w' none) := by
 refine gw_enter ⟨8, w, none, []⟩ Tryz.func108 rfl Tryz.ntmps108 rfl (mem0 (X := []) allF_nil allL_nil) ?_
 refine sr_ (sg_ rfl (sg_ rfl (nn_ (gw_seq (sr_ (mv_ rfl ?_))))))
 refine wl_ov (ov_lens us9 rfl) rfl ?_
 refine wl_ov (ov_gtr rfl rfl) rfl ?_
 refine nn_ ?_
 refine gw_cond rfl (fun hh => ?_) (fun hh => ?_)
 ·have h1 : 200000 < ((t).size : Int) := by simpa using hh
  clear hh
  refine sr_ ?_
  omega
 have h1 : ¬ (200000 < ((t).size : Int)) := by simpa using hh
 clear hh
 refine gw_skip (nx_then (sr_ (mv_ rfl (sg_ rfl (sg_ rfl (nn_ ?_))))))
 refine gw_ret ?_
 refine nx_ret2 rfl rfl rfl fun wx hm => ?_
 exact ⟨rfl, hm.g⟩
end Go.Proofs.YtempjmpfdniecaaGreatDoor
namespace Go.Proofs.YtempjmpfdniecaaGreatDoor
def emptyS (s : ByteArray) : Bool := s.toList == (⟨#[]⟩ : ByteArray).toList
theorem leB_lt {a b : ByteArray} (h : leB b a = false) : Go.Op.bytesLess a.toList b.toList = true := by
 unfold leB at h
 simp only [Bool.or_eq_false_iff] at h
 cases h2 : Go.Op.bytesLess a.toList b.toList
 ·have e := bl_tri h2 h.1
  rw [e] at h; simp at h
 ·rfl
theorem ix_any {α : Type} {p : α -> Bool} {l : List α} : decide (0 <= ixP p l 0) = l.any p := by
 rcases ixP_spec (p := p) l 0 with ⟨h, h2⟩ | ⟨j, y, h, hj, hp, _⟩
 ·rw [h, decide_eq_false (by omega)]
  exact (List.any_eq_false.2 fun x hx => by simpa using h2 x hx).symm
 ·rw [h, decide_eq_true (by omega)]
  exact (List.any_eq_true.2 ⟨y, List.mem_of_getElem? hj, hp⟩).symm
end Go.Proofs.YtempjmpfdniecaaGreatDoor
namespace Go.Proofs.YtempjmpfdniecaaGreatDoor
structure Cs where
  key : ByteArray
  up : ByteArray
def csEnc (x : Cs) : List Value := [.string x.key, .string x.up]
theorem cs_len (x : Cs) : (csEnc x).length = 2 := rfl
def CsOk (x : Cs) : Prop := x.key.size <= 1000000 /\ x.up.size <= 1000000
def csP (k : ByteArray) (x : Cs) : Bool := x.key.toList == k.toList
def upOf (l : List Cs) (k : ByteArray) : ByteArray := if ixP (csP k) l 0 < 0 then ⟨#[]⟩ else match l[(ixP (csP k) l 0).toNat]? with
 | some x => x.up
 | none => ⟨#[]⟩
def pathN (l : List Cs) : Nat -> ByteArray -> List ByteArray
 | 0, _ => []
 | n + 1, k => if emptyS (upOf l k) = true then [] else upOf l k :: pathN l n (upOf l k)
theorem ba_ext {a b : ByteArray} (h : a.toList = b.toList) : a = b := by
 rw [ByteArray.toList_eq, ByteArray.toList_eq] at h
 cases a; cases b
 simp only at h
 exact congrArg ByteArray.mk (Array.toList_inj.1 h)
theorem upOf_at {l : List Cs} {k : ByteArray} {i : Nat} {x : Cs} (h : ixP (csP k) l 0 = (i : Int)) (hx : l[i]? = some x) : upOf l k = x.up := by
 unfold upOf
 rw [if_neg (by omega), h, Int.toNat_natCast, hx]
theorem upOf_no {l : List Cs} {k : ByteArray} (h : ixP (csP k) l 0 < 0) : emptyS (upOf l k) = true := by
 unfold upOf
 rw [if_pos h]
 unfold emptyS; simp
theorem pathN_len (l : List Cs) : ∀ (n : Nat) (k : ByteArray), (pathN l n k).length <= n
 | 0, _ => Nat.le_refl _
 | n + 1, k => by
  unfold pathN
  split
  ·exact Nat.zero_le _
  ·have := pathN_len l n (upOf l k)
   simp only [List.length_cons]; omega
theorem pathN_take (l : List Cs) : ∀ (n : Nat) (k : ByteArray), pathN l n k = (pathN l (n + 1) k).take n
 | 0, _ => by simp [pathN]
 | n + 1, k => by
  rw [pathN, pathN]
  split
  ·simp
  ·rw [List.take_succ_cons, <- pathN_take l n]
theorem pathN_more (l : List Cs) (n : Nat) (k : ByteArray) : ∀ d, pathN l n k = (pathN l (n + d) k).take n
 | 0 => by rw [Nat.add_zero, List.take_of_length_le (pathN_len l n k)]
 | d + 1 => by
  rw [pathN_more l n k d, <- Nat.add_assoc, pathN_take l (n + d) k, List.take_take, Nat.min_eq_left (by omega)]
theorem pathN_drop (l : List Cs) : ∀ (i n : Nat) (k u : ByteArray), (pathN l n k)[i]? = some u -> (pathN l n k).drop (i + 1) = pathN l (n - (i + 1)) u
 | _, 0, _, _, h => by simp [pathN] at h
 | 0, n + 1, k, u, h => by
  rw [pathN] at h ⊢
  split at h
  ·simp at h
  ·rename_i hu
   rw [if_neg hu]
   simp only [List.getElem?_cons_zero, Option.some.injEq] at h
   subst h
   simp
 | i + 1, n + 1, k, u, h => by
  rw [pathN] at h ⊢
  split at h
  ·simp at h
  ·rename_i hu
   rw [if_neg hu]
   simp only [List.getElem?_cons_succ] at h
   rw [List.drop_succ_cons, pathN_drop l i n _ u h, Nat.add_sub_add_right]
theorem pigeon : ∀ (n : Nat) (l : List Nat), (∀ x ∈ l, x < n) -> l.Pairwise (fun a b => a ≠ b) -> l.length <= n
  | 0, l, h, _ => by
    cases l with
    | nil => exact Nat.le_refl _
    | cons x r => exact absurd (h x (List.mem_cons_self ..)) (Nat.not_lt_zero x)
  | n + 1, l, h, hp => by
    by_cases hn : n ∈ l
    · obtain ⟨a, b, rfl⟩ := List.append_of_mem hn
      rw [List.pairwise_append] at hp
      obtain ⟨h1, h2, h3⟩ := hp
      rw [List.pairwise_cons] at h2
      have := pigeon n (a ++ b) (fun x hx => by
        rcases List.mem_append.1 hx with hx | hx
        · have g1 := h x (List.mem_append_left _ hx)
          have g2 := h3 x hx n (List.mem_cons_self ..)
          omega
        · have g1 := h x (List.mem_append_right _ (List.mem_cons_of_mem _ hx))
          have g2 := h2.1 x hx
          omega) (List.pairwise_append.2 ⟨h1, h2.2, fun x hx y hy => h3 x hx y (List.mem_cons_of_mem _ hy)⟩)
      simp only [List.length_append, List.length_cons] at this ⊢
      omega
    · have := pigeon n l (fun x hx => by
        have g1 := h x hx
        have g2 : x ≠ n := fun e => hn (e ▸ hx)
        omega) hp
      omega
def Closed (l : List Cs) : Prop := ∀ x ∈ l, emptyS x.up = false -> 0 <= ixP (csP x.up) l 0
theorem upOf_in {l : List Cs} (hc : Closed l) {k : ByteArray} (h : emptyS (upOf l k) = false) : 0 <= ixP (csP (upOf l k)) l 0 := by
 by_cases hk : ixP (csP k) l 0 < 0
 ·rw [upOf_no hk] at h; cases h
 ·obtain ⟨x, hx, _⟩ := ixP_get (p := csP k) (l := l) (by omega)
  have e : upOf l k = x.up := upOf_at (i := (ixP (csP k) l 0).toNat) (by omega) hx
  rw [e] at h ⊢
  exact hc x (List.mem_of_getElem? hx) h
theorem path_in {l : List Cs} (hc : Closed l) : ∀ (n : Nat) (k u : ByteArray), u ∈ pathN l n k -> 0 <= ixP (csP u) l 0
 | 0, _, _, h => by simp [pathN] at h
 | n + 1, k, u, h => by
  rw [pathN] at h
  split at h
  ·simp at h
  ·rename_i hu
   rcases List.mem_cons.1 h with rfl | h
   ·exact upOf_in hc (by simpa using hu)
   ·exact path_in hc n _ u h
def inK (k : ByteArray) (l : List ByteArray) : Bool := l.any (fun y => k.toList == y.toList)
theorem inK_mem {k : ByteArray} {l : List ByteArray} : inK k l = true ↔ k ∈ l := by
 unfold inK
 rw [List.any_eq_true]
 constructor
 ·rintro ⟨y, hy, h⟩
  rw [ba_ext (by simpa using h : k.toList = y.toList)]; exact hy
 ·exact fun h => ⟨k, h, by simp⟩
def loopB (l : List Cs) (n : Nat) : Bool := l.any (fun x => inK x.key (pathN l n x.key))
theorem ix_key {l : List Cs} {u : ByteArray} (h : 0 <= ixP (csP u) l 0) : ∃ x, l[(ixP (csP u) l 0).toNat]? = some x /\ x ∈ l /\ x.key = u := by
 obtain ⟨x, hx, hp⟩ := ixP_get h
 exact ⟨x, hx, List.mem_of_getElem? hx, ba_ext (by simpa [csP] using hp)⟩
theorem path_short {l : List Cs} (hc : Closed l) (hl : loopB l l.length = false) (k : ByteArray) : (pathN l (l.length + 1) k).length <= l.length := by
 have hno : ∀ x ∈ l, ¬ x.key ∈ pathN l l.length x.key := fun x hx hm => by
  have : loopB l l.length = true := List.any_eq_true.2 ⟨x, hx, inK_mem.2 hm⟩
  rw [hl] at this; cases this
 have hbound : ∀ x ∈ (pathN l (l.length + 1) k).map (fun u => (ixP (csP u) l 0).toNat), x < l.length := fun x hx => by
  obtain ⟨u, hu, rfl⟩ := List.mem_map.1 hx
  have h1 := path_in hc _ _ u hu
  have h2 := ixP_bound (p := csP u) l
  omega
 have hpair : ((pathN l (l.length + 1) k).map (fun u => (ixP (csP u) l 0).toNat)).Pairwise (fun a b => a ≠ b) := by
  rw [List.pairwise_map, List.pairwise_iff_getElem]
  intro i j hi hj hij he
  have hxi : (pathN l (l.length + 1) k)[i]? = some ((pathN l (l.length + 1) k)[i]) := List.getElem?_eq_getElem hi
  have hxj : (pathN l (l.length + 1) k)[j]? = some ((pathN l (l.length + 1) k)[j]) := List.getElem?_eq_getElem hj
  generalize (pathN l (l.length + 1) k)[i] = u at *
  generalize (pathN l (l.length + 1) k)[j] = v at *
  have hu0 := path_in hc _ _ u (List.mem_of_getElem? hxi)
  have hv0 := path_in hc _ _ v (List.mem_of_getElem? hxj)
  obtain ⟨x, hx, hxl, hxu⟩ := ix_key hu0
  obtain ⟨y, hy, _, hyv⟩ := ix_key hv0
  rw [he, hy] at hx
  injection hx with hx
  subst hx
  have huv : u = v := hxu.symm.trans hyv
  subst huv
  have hd := pathN_drop l i _ _ u hxi
  have hmem : u ∈ pathN l (l.length + 1 - (i + 1)) u := by
   rw [<- hd]
   refine List.mem_of_getElem? (i := j - (i + 1)) ?_
   rw [List.getElem?_drop, show i + 1 + (j - (i + 1)) = j by omega]; exact hxj
  have hmore := pathN_more l (l.length + 1 - (i + 1)) u (i)
  rw [show l.length + 1 - (i + 1) + i = l.length by have := pathN_len l (l.length + 1) k; omega] at hmore
  rw [hmore] at hmem
  subst hxu
  exact hno y hxl (List.mem_of_mem_take hmem)
 have := pigeon _ _ hbound hpair
 rw [List.length_map] at this
 exact this
theorem path_same {l : List Cs} (hc : Closed l) (hl : loopB l l.length = false) (k : ByteArray) : pathN l (l.length + 1) k = pathN l l.length k := by
 rw [pathN_take l l.length k, List.take_of_length_le (path_short hc hl k)]
theorem loop_same {l : List Cs} (hc : Closed l) : loopB l (l.length + 1) = loopB l l.length := by
 cases hl : loopB l l.length with
 | false =>
  unfold loopB at hl ⊢
  rw [<- hl]
  congr 1
  funext x
  rw [path_same hc (by unfold loopB; exact hl)]
 | true =>
  unfold loopB at hl ⊢
  rw [List.any_eq_true] at hl ⊢
  obtain ⟨x, hx, h⟩ := hl
  refine ⟨x, hx, ?_⟩
  rw [inK_mem] at h ⊢
  rw [pathN_take l l.length x.key] at h
  exact List.mem_of_mem_take h
def leCs (p : Option Cs) (b : Cs) : Bool := match p with
 | none => false
 | some q => leB b.key q.key
def csE (p : Option Cs) (b : Cs) : Int := if !keyB b.key then 5 else if leCs p b then 7 else if !emptyS b.up && !keyB b.up then 5 else 0
def upB (l : List Cs) (x : Cs) : Bool := !emptyS x.up && decide (ixP (csP x.up) l 0 < 0)
def classesE (l : List Cs) : Int := if 30 < l.length then 2 else if scanE csE none l ≠ 0 then scanE csE none l else if l.any (upB l) = true then 8 else if loopB l l.length = true then 14 else 0
def prevCs (l : List Cs) (k : Nat) : ByteArray := match prevOf l k with
 | none => ⟨#[]⟩
 | some q => q.key
theorem prevCs_succ {l : List Cs} {k : Nat} {x : Cs} (h : l[k]? = some x) : prevCs l (k + 1) = x.key := by
 unfold prevCs prevOf; rw [if_neg (by omega), Nat.add_sub_cancel, h]
theorem closed_of {l : List Cs} (h : l.any (upB l) = false) : Closed l := fun x hx he => by
 rw [List.any_eq_false] at h
 have := h x hx
 unfold upB at this
 rw [he] at this
 simp at this
 omega
end Go.Proofs.YtempjmpfdniecaaGreatDoor
namespace Go.Proofs.YtempjmpfdniecaaGreatDoor
open Go.RowKit
def plateCharB (c : UInt8) : Bool := (decide (65 <= c.toNat) && decide (c.toNat <= 90)) || (decide (48 <= c.toNat) && decide (c.toNat <= 57))
def plateB (s : ByteArray) : Bool := inB (s.size : Int) 2 10 && s.data.toList.all plateCharB
def plUpto (l : List UInt8) (k : Nat) : Bool := (l.take k).all plateCharB
theorem plUpto_succ (l : List UInt8) (k : Nat) (h : k < l.length) : plUpto l (k + 1) = (plUpto l k && plateCharB l[k]) := by
 unfold plUpto
 rw [List.take_succ_eq_append_getElem h, List.all_append]
 simp
theorem plate_bad {s : ByteArray} {k : Nat} (h : k < s.data.toList.length) (hk : plateCharB s.data.toList[k] = false) : plateB s = false := by
 unfold plateB
 have : s.data.toList.all plateCharB = false := List.all_eq_false.2 ⟨_, List.getElem_mem h, by rw [hk]; decide⟩
 rw [this, Bool.and_false]
theorem plateChar_up {c : UInt8} (h1 : (65 : Int) <= (c.toNat : Int)) (h2 : (c.toNat : Int) <= 90) : plateCharB c = true := by
 unfold plateCharB; simp; omega
theorem plateChar_dig {c : UInt8} (h1 : (48 : Int) <= (c.toNat : Int)) (h2 : (c.toNat : Int) <= 57) : plateCharB c = true := by
 unfold plateCharB; simp; omega
theorem plateChar_no {c : UInt8} (h1 : (c.toNat : Int) < 65 ∨ (90 : Int) < (c.toNat : Int)) (h2 : (c.toNat : Int) < 48 ∨ (57 : Int) < (c.toNat : Int)) : plateCharB c = false := by
 unfold plateCharB; simp; omega
set_option maxHeartbeats 1000000 in
theorem isPlate_any (s : ByteArray) (w : World) (hs : s.size <= 9223372036854775807) :
  Calls Tryz.prog 274 #[.string s] w fun e w' => e = .returned (.bool (plateB s)) /\ w = w' := by
 go_enter Tryz.func274, Tryz.ntmps274
 go_wp2
 go_loop [7] (fun i => ∃ k : Nat, k <= s.size /\ i = .int .i64 k /\ plUpto s.data.toList k = true) (fun i => s.size - (intOf i).toNat)
 case atStart => exact ⟨0, Nat.zero_le _, rfl, by simp [plUpto]⟩
 case round =>
  obtain ⟨k, hk, rfl, hf⟩ := hrel
  have Hf := Lib.hid hf; clear hf
  by_cases hlt : k < s.size
  ·have hl : k < s.data.toList.length := by simpa using hlt
   have hsucc := plUpto_succ s.data.toList k hl
   have hno := plate_bad hl
   have heq : s.data.toList[k] = s[k] := rfl
   rw [heq] at hsucc hno
   have Hs := Lib.hid hsucc
   have Hn := Lib.hid hno
   clear hsucc hno heq
   have fin : plateCharB s[k] = true -> plUpto s.data.toList (k + 1) = true := fun h => by rw [Hs.out, Hf.out, h]; rfl
   have Fin := Lib.hid fin
   clear fin
   by_cases hc : (65 : Int) <= (s[k].toNat : Int) /\ (s[k].toNat : Int) <= 90
   ·obtain ⟨c1, c2⟩ := hc
    have hok := Lib.hid (Fin.out (plateChar_up c1 c2))
    go_wp2
    go_round
    case rel => exact ⟨k + 1, by omega, by go_num, hok.out⟩
    case measure => simp [intOf]; omega
   ·have hc' : (s[k].toNat : Int) < 65 ∨ (90 : Int) < (s[k].toNat : Int) := by omega
    clear hc
    by_cases hd : (48 : Int) <= (s[k].toNat : Int) /\ (s[k].toNat : Int) <= 57
    ·obtain ⟨d1, d2⟩ := hd
     have hok := Lib.hid (Fin.out (plateChar_dig d1 d2))
     have hc2 : (s[k].toNat : Int) < 65 := by omega
     clear hc'
     go_wp2
     go_round
     case rel => exact ⟨k + 1, by omega, by go_num, hok.out⟩
     case measure => simp [intOf]; omega
    ·have hd' : (s[k].toNat : Int) < 48 ∨ (57 : Int) < (s[k].toNat : Int) := by omega
     clear hd
     have hbad := Lib.hid (Hn.out (plateChar_no hc' hd'))
     rcases hc' with hc' | hc'
     ·rcases hd' with hd' | hd'
      ·go_wp2
       go_ret
       exact ⟨ret_bool hbad.out.symm, rfl⟩
      ·have d57 : decide ((s[k].toNat : Int) <= 57) = false := by simp; omega
       go_wp2
       go_ret
       exact ⟨ret_bool hbad.out.symm, rfl⟩
     ·have q4 : (57 : Int) < (s[k].toNat : Int) := by omega
      have d57 : decide ((s[k].toNat : Int) <= 57) = false := by simp; omega
      have d90 : decide ((s[k].toNat : Int) <= 90) = false := by simp; omega
      clear hd'
      go_wp2
      go_ret
      exact ⟨ret_bool hbad.out.symm, rfl⟩
  ·have hks : k = s.size := by omega
   have hf := Hf.out
   rw [hks] at hf
   have hall : s.data.toList.all plateCharB = true := by
    unfold plUpto at hf
    rwa [List.take_of_length_le (by simp)] at hf
   have hP : plateB s = (decide (2 <= (s.size : Int)) && decide ((s.size : Int) <= 10)) := by unfold plateB inB; rw [hall, Bool.and_true]
   have HP := Lib.hid hP
   clear hP hall hf
   by_cases h2 : 2 <= s.size
   ·have e2 : decide (2 <= (s.size : Int)) = true := by simp; omega
    have HP2 := Lib.hid (show plateB s = decide ((s.size : Int) <= 10) by rw [HP.out, e2, Bool.true_and])
    clear e2
    go_wp2
    go_ret
    exact ⟨ret_bool (by rw [HP2.out]), rfl⟩
   ·have HP2 := Lib.hid (show plateB s = false by rw [HP.out, show decide (2 <= (s.size : Int)) = false by simp; omega, Bool.false_and])
    go_wp2
    go_ret
    exact ⟨ret_bool (by rw [HP2.out]), rfl⟩
def plateBytes : List UInt8 := [65, 66, 67, 68, 69, 70, 71, 72, 73, 74, 75, 76, 77, 78, 79, 80, 81, 82, 83, 84, 85, 86, 87, 88, 89, 90, 48, 49, 50, 51, 52, 53, 54, 55, 56, 57]
theorem plateBytes_eq (c : UInt8) : plateBytes.contains c = plateCharB c := by
 have h : ∀ n : Fin 256, plateBytes.contains (UInt8.ofNat n.val) = plateCharB (UInt8.ofNat n.val) := by decide +kernel
 have := h ⟨c.toNat, c.toNat_lt⟩
 simpa using this
theorem plate_only (s : ByteArray) : plateB s = (inB (s.size : Int) 2 10 && onlyB s.data.toList plateBytes) := by
 unfold plateB
 congr 1
 show s.data.toList.all plateCharB = s.data.toList.all (plateBytes.contains ·)
 rw [show (fun x => plateBytes.contains x) = plateCharB from funext plateBytes_eq]
theorem only_plate (s : ByteArray) (w : World) (hs : s.size <= 9223372036854775807) :
  Calls Tryz.prog 264 #[.string s, .string ⟨#[65, 66, 67, 68, 69, 70, 71, 72, 73, 74, 75, 76, 77, 78, 79, 80, 81, 82, 83, 84, 85, 86, 87, 88, 89, 90, 48, 49, 50, 51, 52, 53, 54, 55, 56, 57]⟩] w fun e w' => e = .returned (.bool (onlyB s.data.toList plateBytes)) /\ w.grownBy w' none :=
 only_any s ⟨#[65, 66, 67, 68, 69, 70, 71, 72, 73, 74, 75, 76, 77, 78, 79, 80, 81, 82, 83, 84, 85, 86, 87, 88, 89, 90, 48, 49, 50, 51, 52, 53, 54, 55, 56, 57]⟩ w hs (by decide) (ascii_of_all (by decide))
end Go.Proofs.YtempjmpfdniecaaGreatDoor
namespace Go.Proofs.YtempjmpfdniecaaGreatDoor
open Go.RowKit
structure Vh where
  key : ByteArray
  cls : ByteArray
def vhEnc (x : Vh) : List Value := [.string x.key, .string x.cls]
theorem vh_len (x : Vh) : (vhEnc x).length = 2 := rfl
structure Pl where
  fr : Int
  veh : ByteArray
  plate : ByteArray
def plEnc (x : Pl) : List Value := [.int .i64 x.fr, .string x.veh, .string x.plate]
theorem pl_len (x : Pl) : (plEnc x).length = 3 := rfl
def VhOk (x : Vh) : Prop := x.key.size <= 1000000 /\ x.cls.size <= 1000000
def PlOk (x : Pl) : Prop := (-4000000000000000000 <= x.fr /\ x.fr <= 4000000000000000000) /\ x.veh.size <= 1000000 /\ x.plate.size <= 1000000
def vhP (k : ByteArray) (x : Vh) : Bool := x.key.toList == k.toList
def Rise (l : List Vh) : Prop := l.Pairwise fun q r => Go.Op.bytesLess q.key.toList r.key.toList = true
theorem cmpS_neg {a b : ByteArray} : cmpS a b < 0 ↔ Go.Op.bytesLess a.toList b.toList = true := by
 unfold cmpS
 constructor
 ·intro h
  by_cases h1 : Go.Op.bytesLess a.toList b.toList = true
  ·exact h1
  ·rw [if_neg h1] at h
   split at h <;> omega
 ·intro h; rw [if_pos h]; decide
theorem rise_lt {l : List Vh} (h : Rise l) {i j : Nat} {x y : Vh} (hij : i < j) (hx : l[i]? = some x) (hy : l[j]? = some y) : Go.Op.bytesLess x.key.toList y.key.toList = true := by
 obtain ⟨hi, rfl⟩ := List.getElem?_eq_some_iff.1 hx
 obtain ⟨hj, rfl⟩ := List.getElem?_eq_some_iff.1 hy
 exact List.pairwise_iff_getElem.1 h i j hi hj hij
def Low (l : List Vh) (k : ByteArray) (a : Nat) : Prop := ∀ i, i < a -> ∀ x, l[i]? = some x -> Go.Op.bytesLess x.key.toList k.toList = true
def High (l : List Vh) (k : ByteArray) (b : Nat) : Prop := ∀ i, b <= i -> ∀ x, l[i]? = some x -> Go.Op.bytesLess x.key.toList k.toList = false
theorem low_next {l : List Vh} (h : Rise l) {k : ByteArray} {m : Nat} {x : Vh} (hx : l[m]? = some x) (hl : cmpS x.key k < 0) : Low l k (m + 1) := fun i hi y hy => by
 have h2 := cmpS_neg.1 hl
 rcases Nat.lt_or_ge i m with h3 | h3
 ·exact bl_trans (rise_lt h h3 hy hx) h2
 ·obtain rfl : i = m := by omega
  rw [hx] at hy; cases hy; exact h2
theorem high_next {l : List Vh} (h : Rise l) {k : ByteArray} {m : Nat} {x : Vh} (hx : l[m]? = some x) (hl : ¬ cmpS x.key k < 0) : High l k m := fun i hi y hy => by
 have h2 : Go.Op.bytesLess x.key.toList k.toList = false := by
  cases hb : Go.Op.bytesLess x.key.toList k.toList with
  | false => rfl
  | true => exact absurd (cmpS_neg.2 hb) hl
 rcases Nat.lt_or_ge m i with h3 | h3
 ·cases hb : Go.Op.bytesLess y.key.toList k.toList with
  | false => rfl
  | true => rw [bl_trans (rise_lt h h3 hx hy) hb] at h2; cases h2
 ·obtain rfl : i = m := by omega
  rw [hx] at hy; cases hy; exact h2
theorem bs_no {l : List Vh} {k : ByteArray} {a : Nat} (h : Rise l) (hl : Low l k a) (hh : High l k a) (hn : ∀ x, l[a]? = some x -> cmpS x.key k ≠ 0) : ixP (vhP k) l 0 = -1 := by
 rcases ixP_spec (p := vhP k) l 0 with ⟨h1, _⟩ | ⟨j, x, _, hx, hp, _⟩
 ·exact h1
 ·have he : x.key.toList = k.toList := by unfold vhP at hp; simpa using hp
  exfalso
  rcases Nat.lt_trichotomy j a with h2 | rfl | h2
  ·exact bl_ne (hl j h2 x hx) he
  ·exact hn x hx (cmpS_zero.2 ⟨by rw [he]; exact bl_irrefl _, he⟩)
  ·cases hy : l[a]? with
   | none =>
    have := (List.getElem?_eq_some_iff.1 hx).1
    have := List.getElem?_eq_none_iff.1 hy
    omega
   | some y =>
    have h3 := rise_lt h h2 hy hx
    rw [he] at h3
    have h4 := hh a (Nat.le_refl _) y hy
    rw [h3] at h4; cases h4
theorem bs_yes {l : List Vh} {k : ByteArray} {a : Nat} {x : Vh} (hl : Low l k a) (hx : l[a]? = some x) (hz : cmpS x.key k = 0) : ixP (vhP k) l 0 = (a : Int) := by
 have he := (cmpS_zero.1 hz).2
 have hp : vhP k x = true := by unfold vhP; simp [he]
 rcases ixP_spec (p := vhP k) l 0 with ⟨_, h1⟩ | ⟨j, y, h1, hy, hpy, hf⟩
 ·have := h1 x (List.mem_of_getElem? hx)
  rw [hp] at this; cases this
 ·rw [h1]
  have hye : y.key.toList = k.toList := by unfold vhP at hpy; simpa using hpy
  rcases Nat.lt_trichotomy j a with h2 | rfl | h2
  ·exact absurd hye (bl_ne (hl j h2 y hy))
  ·simp
  ·have := hf a h2 x hx
   rw [hp] at this; cases this
def leVh (p : Option Vh) (b : Vh) : Bool := match p with
 | none => false
 | some q => leB b.key q.key
def vhE (cs : List Cs) (p : Option Vh) (b : Vh) : Int := if !keyB b.key then 5 else if leVh p b then 7 else if ixP (csP b.cls) cs 0 < 0 then 8 else 0
def vehsE (cs : List Cs) (l : List Vh) : Int := if 500 < l.length then 2 else scanE (vhE cs) none l
def plOrd (a b : Pl) : Int := firstE [cmpI a.fr b.fr, cmpS a.veh b.veh, cmpS a.plate b.plate]
def plTwin (p o : Pl) : Bool := decide (o.fr = p.fr) && (o.veh.toList == p.veh.toList || o.plate.toList == p.plate.toList)
def plE (vs : List Vh) (pre : List Pl) (p : Pl) : Int :=
 if (!inB p.fr 0 5761439) = true then 1 else if ixP (vhP p.veh) vs 0 < 0 then 8 else if (!plateB p.plate) = true then 3 else if (match pre.getLast? with | none => false | some q => decide (0 <= plOrd q p)) = true then 7 else if pre.any (plTwin p) = true then 6 else 0
def plG (vs : List Vh) : List Pl -> List Pl -> Int
 | _, [] => 0
 | pre, p :: r => if plE vs pre p = 0 then plG vs (pre ++ [p]) r else plE vs pre p
def platesE (vs : List Vh) (l : List Pl) : Int := if 1000 < l.length then 2 else plG vs [] l
def fleetE (st : List St) (cs : List Cs) (vs : List Vh) (ps : List Pl) : Int := firstE [stationsE st, classesE cs, vehsE cs vs, platesE vs ps]
theorem rise_of {cs : List Cs} : ∀ {l : List Vh} {p : Option Vh}, scanE (vhE cs) p l = 0 -> Rise l /\ (∀ q, p = some q -> ∀ x ∈ l, Go.Op.bytesLess q.key.toList x.key.toList = true) /\ ∀ x ∈ l, keyB x.key = true /\ 0 <= ixP (csP x.cls) cs 0
 | [], _, _ => ⟨List.Pairwise.nil, (fun _ _ x hx => by cases hx), (fun x hx => by cases hx)⟩
 | b :: r, p, h => by
  unfold scanE at h
  by_cases hb : vhE cs p b = 0
  ·rw [if_pos hb] at h
   obtain ⟨h1, h2, h3⟩ := rise_of h
   have hb2 := hb
   unfold vhE at hb2
   by_cases k1 : (!keyB b.key) = true
   ·rw [if_pos k1] at hb2; cases hb2
   ·rw [if_neg k1] at hb2
    by_cases k2 : leVh p b = true
    ·rw [if_pos k2] at hb2; cases hb2
    ·rw [if_neg k2] at hb2
     by_cases k3 : ixP (csP b.cls) cs 0 < 0
     ·rw [if_pos k3] at hb2; cases hb2
     ·have hk : keyB b.key = true := by simpa using k1
      refine ⟨List.Pairwise.cons (fun x hx => h2 b rfl x hx) h1, fun q hq x hx => ?_, fun x hx => ?_⟩
      ·subst hq
       have hlt : Go.Op.bytesLess q.key.toList b.key.toList = true := leB_lt (by simpa [leVh] using k2)
       rcases List.mem_cons.1 hx with rfl | hx
       ·exact hlt
       ·exact bl_trans hlt (h2 b rfl x hx)
      ·rcases List.mem_cons.1 hx with rfl | hx
       ·exact ⟨hk, by omega⟩
       ·exact h3 x hx
  ·rw [if_neg hb] at h
   exact absurd h hb
theorem vehs_rise {cs : List Cs} {l : List Vh} (h : vehsE cs l = 0) : l.length <= 500 /\ Rise l := by
 unfold vehsE at h
 split at h
 ·cases h
 ·exact ⟨by omega, (rise_of h).1⟩
end Go.Proofs.YtempjmpfdniecaaGreatDoor
namespace Go.Proofs.YtempjmpfdniecaaGreatDoor
open Go.RowKit
open Go.ChangeMaps (setBlock)
def MapAt (g : Nat) (es : Array MapEntry) (ck : Nat) (w : World) : Prop := w.heap[g]? = some (.map es ck)
theorem MapAt.lasts2 {N : Nat} {row : Option Nat} {Tt : List TypeId} {g : Nat} {es : Array MapEntry} {ck : Nat} : Lasts2 N row Tt (MapAt g es ck) :=
  ⟨fun w w' h hx => (h.block g (Array.getElem?_eq_some_iff.1 hx).1 (by simp)).trans hx,
   fun w w' r T c h1 _ _ h3 hx => (h3.block g (Array.getElem?_eq_some_iff.1 hx).1 (fun e => by
     have e2 : g = r := by injection e
     subst e2
     unfold MapAt at hx
     rw [h1] at hx; cases hx)).trans hx⟩
def OwnMap (N g : Nat) (es : Array MapEntry) (ck : Nat) (w : World) : Prop := N <= g /\ MapAt g es ck w
theorem OwnMap.lasts2 {N M : Nat} {row : Option Nat} {Tt : List TypeId} {g : Nat} {es : Array MapEntry} {ck : Nat} : Lasts2 N row Tt (OwnMap M g es ck) :=
 ⟨fun w w' h hx => ⟨hx.1, MapAt.lasts2.gr (N := N) (row := row) (Tt := Tt) w w' h hx.2⟩, fun w w' r T c h1 h2 h3 h4 hx => ⟨hx.1, MapAt.lasts2.st w w' r T c h1 h2 h3 h4 hx.2⟩⟩
theorem BlkOld.far {N g b : Nat} {row : Option Nat} {T : TypeId} {cs : List Value} : ∀ w w' : World, N <= g -> w.grownBy w' (some g) -> BlkOld N row b T cs w -> BlkOld N row b T cs w' := fun _ _ h1 h2 ⟨h3, h4⟩ => ⟨h3, h4.grown h2 (fun e => by
 have e2 : b = g := by injection e
 omega)⟩
end Go.Proofs.YtempjmpfdniecaaGreatDoor
namespace Go.Proofs.YtempjmpfdniecaaGreatDoor
open Go.RowKit Go.MapKept
open Go.ChangeMaps (setBlock)
theorem bytes_ext {a b : ByteArray} (h : a.toList = b.toList) : a = b := by
 rw [ByteArray.toList_eq, ByteArray.toList_eq] at h
 cases a; cases b
 simp only at h
 exact congrArg ByteArray.mk (Array.toList_inj.1 h)
theorem bytes_eqb {a b : ByteArray} : (a.toList == b.toList) = true ↔ a = b :=
 ⟨fun h => bytes_ext (by simpa using h), fun h => by subst h; simp⟩
def fPut {α : Type} (f : ByteArray -> Option α) (k : ByteArray) (x : α) : ByteArray -> Option α := fun j => if (j.toList == k.toList) = true then some x else f j
def fDel {α : Type} (f : ByteArray -> Option α) (k : ByteArray) : ByteArray -> Option α := fun j => if (j.toList == k.toList) = true then none else f j
def fNil {α : Type} : ByteArray -> Option α := fun _ => none
theorem fPut_same {α : Type} (f : ByteArray -> Option α) (k : ByteArray) (x : α) : fPut f k x k = some x := by unfold fPut; rw [if_pos (by simp)]
theorem fPut_other {α : Type} (f : ByteArray -> Option α) {k j : ByteArray} (x : α) (h : j ≠ k) : fPut f k x j = f j := by unfold fPut; rw [if_neg (fun e => h (bytes_eqb.1 e))]
theorem fDel_same {α : Type} (f : ByteArray -> Option α) (k : ByteArray) : fDel f k k = none := by unfold fDel; rw [if_pos (by simp)]
theorem fDel_other {α : Type} (f : ByteArray -> Option α) {k j : ByteArray} (h : j ≠ k) : fDel f k j = f j := by unfold fDel; rw [if_neg (fun e => h (bytes_eqb.1 e))]
def Entries {α : Type} (enc : α -> Value) (f : ByteArray -> Option α) (es : Array MapEntry) (ck : Nat) : Prop :=
 Stamped es ck /\ (∀ x ∈ es.toList, IsKey .string x.key) /\ ∀ k v, (∃ e ∈ es.toList, e.key = .string k /\ e.val = v) ↔ ∃ x, f k = some x /\ v = enc x
def MapF {α : Type} (enc : α -> Value) (N g : Nat) (f : ByteArray -> Option α) (w : World) : Prop :=
 N <= g /\ ∃ es ck, w.heap[g]? = some (.map es ck) /\ Entries enc f es ck
theorem MapF.lt {α : Type} {enc : α -> Value} {N g : Nat} {f : ByteArray -> Option α} {w : World} (h : MapF enc N g f w) : g < w.heap.size := by
 obtain ⟨_, es, ck, hb, _⟩ := h
 exact (Array.getElem?_eq_some_iff.1 hb).1
theorem MapF.kept {α : Type} {enc : α -> Value} {N g : Nat} {f : ByteArray -> Option α} {w w' : World} {row : Option Nat} (h : MapF enc N g f w) (hg : w.grownBy w' row) (hne : some g ≠ row) : MapF enc N g f w' := by
 have hlt := h.lt
 obtain ⟨h0, es, ck, hb, he⟩ := h
 exact ⟨h0, es, ck, (hg.block g hlt hne).trans hb, he⟩
theorem MapF.lasts2 {α : Type} {enc : α -> Value} {N M : Nat} {row : Option Nat} {Tt : List TypeId} {g : Nat} {f : ByteArray -> Option α} : Lasts2 N row Tt (MapF enc M g f) :=
  ⟨fun w w' h hx => hx.kept h (by simp),
   fun w w' r T c h1 _ _ h3 hx => hx.kept h3 (fun e => by
     have e2 : g = r := by injection e
     subst e2
     obtain ⟨_, es, ck, hb, _⟩ := hx
     rw [h1] at hb; cases hb)⟩
theorem MapF.far {α : Type} {enc : α -> Value} {N M g g1 : Nat} {f : ByteArray -> Option α} (hne : g1 ≠ g) : ∀ w w' : World, N <= g -> w.grownBy w' (some g) -> MapF enc M g1 f w -> MapF enc M g1 f w' :=
 fun _ _ _ hg h => h.kept hg (fun e => hne (by injection e))
theorem SlOld.far {α : Type} {enc : α -> List Value} {k N g : Nat} {T : TypeId} {row : Option Nat} {A : Option Addr} {n : Nat} {l : List α} : ∀ w w' : World, N <= g -> w.grownBy w' (some g) -> SlOld enc k T N row A n l w -> SlOld enc k T N row A n l w' := fun w w' h1 h2 ⟨h3, h4⟩ => by
 refine ⟨⟨h3.len, fun hn => ?_⟩, h4⟩
 obtain ⟨b, off, cells, fz, e, hh, hr⟩ := h3.at_ hn
 exact ⟨b, off, cells, fz, e, (h2.block b (Array.getElem?_eq_some_iff.1 hh).1 (fun e2 => by
  have e3 : b = g := by injection e2
  obtain ⟨h5, _⟩ := h4 b off e hn
  omega)).trans hh, hr⟩
section
variable {α : Type} {enc : α -> Value} {f : ByteArray -> Option α} {es : Array MapEntry} {ck : Nat}
theorem Entries.nil : Entries enc fNil #[] 0 := ⟨stamped_empty 0, by simp, fun k v => by simp [fNil]⟩
theorem Entries.find (h : Entries enc f es ck) (k : ByteArray) : (Instr.findNow .string (.string k) es.toList 0 = some none /\ f k = none /\ ∀ x ∈ es.toList, x.key ≠ .string k) ∨ ∃ j e x, Instr.findNow .string (.string k) es.toList 0 = some (some (j, e.val)) /\ es[j]? = some e /\ e.key = .string k /\ f k = some x /\ e.val = enc x := by
 have hk : IsKey .string (.string k) := trivial
 rcases findNow_spec hk es.toList 0 h.2.1 with ⟨h1, h2⟩ | ⟨j, e, h1, h2, h3⟩
 ·left
  refine ⟨h1, ?_, h2⟩
  cases hf : f k with
  | none => rfl
  | some x =>
   obtain ⟨e, he, hek, _⟩ := (h.2.2 k (enc x)).2 ⟨x, hf, rfl⟩
   exact absurd hek (h2 e he)
 ·right
  obtain ⟨x, hx, hv⟩ := (h.2.2 k e.val).1 ⟨e, List.mem_of_getElem? h2, h3, rfl⟩
  refine ⟨j, e, x, by simpa using h1, by simpa using h2, h3, hx, hv⟩
theorem Entries.push (h : Entries enc f es ck) {k : ByteArray} (x : α) (hn : ∀ y ∈ es.toList, y.key ≠ .string k) : Entries enc (fPut f k x) (es.push ⟨.string k, enc x, ck⟩) (ck + 1) := by
 refine ⟨stamped_push h.1 hn, fun y hy => ?_, fun j v => ?_⟩
 ·simp only [Array.toList_push, List.mem_append, List.mem_singleton] at hy
  rcases hy with hy | rfl
  ·exact h.2.1 y hy
  ·trivial
 ·simp only [Array.toList_push, List.mem_append, List.mem_singleton]
  by_cases hj : j = k
  ·subst hj
   rw [fPut_same]
   constructor
   ·rintro ⟨e, he | rfl, h1, h2⟩
    ·exact absurd h1 (hn e he)
    ·exact ⟨x, rfl, h2.symm⟩
   ·rintro ⟨y, hy, rfl⟩
    cases hy
    exact ⟨_, .inr rfl, rfl, rfl⟩
  ·rw [fPut_other _ _ hj, <- h.2.2 j v]
   constructor
   ·rintro ⟨e, he | rfl, h1, h2⟩
    ·exact ⟨e, he, h1, h2⟩
    ·injection h1 with h1
     exact absurd h1.symm hj
   ·rintro ⟨e, he, h1, h2⟩
    exact ⟨e, .inl he, h1, h2⟩
theorem Entries.same (h : Entries enc f es ck) {k : ByteArray} (hn : f k = none) : Entries enc (fDel f k) es ck := by
 have e : fDel f k = f := by
  funext j
  by_cases hj : j = k
  ·subst hj; rw [fDel_same, hn]
  ·rw [fDel_other _ hj]
 rw [e]; exact h
end
end Go.Proofs.YtempjmpfdniecaaGreatDoor
namespace Go.Proofs.YtempjmpfdniecaaGreatDoor
open Go.RowKit
def stCells (key : ByteArray) (hs : List Int) : List Value := .string key :: hs.map (Value.int .i64)
theorem st_one (key : ByteArray) (hs : List Int) : ∀ v ∈ stCells key hs, v.oneCell' = true := by
 intro v hv
 simp only [stCells, List.mem_cons] at hv
 rcases hv with rfl | hv
 ·rfl
 ·exact ints_one _ v hv
theorem info_st : (Tryz.prog.info? 152).map (·.size) = some 15 := by kernel_rfl
theorem info_win : (Tryz.prog.info? 27).map (·.size) = some 2 := by kernel_rfl
theorem st_len (key : ByteArray) (hs : List Int) (h : hs.length = 14) : (stCells key hs).length = 15 := by simp [stCells, h]
theorem info_hours : (Tryz.prog.info? 150).map (·.size) = some 14 := by kernel_rfl
end Go.Proofs.YtempjmpfdniecaaGreatDoor
namespace Go.Proofs.YtempjmpfdniecaaGreatDoor
open Go.RowKit
def stEnc (s : St) : List Value := stCells s.key s.hs
def StOk (s : St) : Prop := s.hs.length = 14 /\ s.key.size <= 1000000 /\ ∀ h ∈ s.hs, -9223372036854775808 <= h /\ h <= 9223372036854775807
theorem hrs_pair (hs : List Int) (j : Nat) (h : j * 2 + 1 < hs.length) : ((hs.map (Value.int .i64)).drop (j * 2)).take 2 = [.int .i64 (frAt hs j), .int .i64 (toAt hs j)] := by
 have h0 : j * 2 < (hs.map (Value.int .i64)).length := by simp; omega
 have h1 : j * 2 + 1 < (hs.map (Value.int .i64)).length := by simp; omega
 rw [List.drop_eq_getElem_cons h0, List.drop_eq_getElem_cons h1]
 simp [frAt, toAt, List.getD_eq_getElem?_getD, List.getElem?_eq_getElem (show j * 2 < hs.length by omega), List.getElem?_eq_getElem h]
set_option maxRecDepth 100000 in
set_option maxHeartbeats 1000000 in
theorem checkStations_any (l : List St) (A : Option Addr) (n c : Nat) (w : World) (hl : SlT stEnc 15 152 w A n l) (hok : ∀ s ∈ l, StOk s) (hn : n <= 1000000) :
    Calls Tryz.prog 207 #[.slice A n c] w fun e w' => e = .returned (.int .i64 (stationsE l)) /\ w.grownBy w' none := by
  by_cases h50 : 50 < n
  · have hsp : stationsE l = 2 := by simp [stationsE, hl.len, h50]
    have Hsp := Lib.hid hsp; clear hsp
    go_enter Tryz.func207, Tryz.ntmps207
    go_wp2_with fail
    go_ret
    exact ⟨by rw [Hsp.out]; rfl, World.grownBy.refl _ _⟩
  · have hsp : stationsE l = scanE stationE (prevOf l 0) (l.drop 0) := by simp [stationsE, hl.len, h50, prevOf]
    have Hsp := Lib.hid hsp; clear hsp
    have hd : decide ((50 : Int) < (n : Int)) = false := by simp; omega
    go_enter Tryz.func207, Tryz.ntmps207
    go_wp2_with fail
    go_loopw [12] (fun i wr => ∃ k : Nat, k <= n /\ i = .int .i64 k /\ stationsE l = scanE stationE (prevOf l k) (l.drop k) /\ w.grownBy wr none) (fun i _ => n - (intOf i).toNat)
    case atStart => exact ⟨0, Nat.zero_le _, rfl, Hsp.out, World.grownBy.refl _ _⟩
    case round =>
      obtain ⟨k, hk, rfl, hE, hgr⟩ := hrel
      have HE := Lib.hid hE; clear hE
      by_cases hlt : k < n
      · have hlr := hl.grow0 hgr
        obtain ⟨b, off, rfl, hbl, hrg⟩ := hlr.get (by omega)
        obtain ⟨x, hx⟩ : ∃ x, l[k]? = some x := ⟨_, List.getElem?_eq_getElem (by have := hl.len; omega)⟩
        have hxo := hok x (List.mem_of_getElem? hx)
        have hrx := hrg k x hx
        have hat := scanE_at stationE l k x hx
        have Hat := Lib.hid hat; clear hat
        have Hrg := Lib.hid hrg; clear hrg
        obtain ⟨key, hs⟩ := x
        have hrx : wr.rangeAt b (off + k * 15) (stCells key hs) := hrx
        have hl14 := Lib.hid (show hs.length = 14 from hxo.1)
        have hks : key.size <= 1000000 := hxo.2.1
        have hhb : ∀ h ∈ hs, -9223372036854775808 <= h /\ h <= 9223372036854775807 := hxo.2.2
        have hln := fun (_ : True) => (st_len key hs hl14.out)
        have hst : (Tryz.prog.info? 152).map (·.size) = some (stCells key hs).length := by rw [hln trivial]; exact info_st
        have Hst := Lib.hid hst; clear hst hxo hln
        have hnew : Blk (wr.alloc (.cells #[.string ⟨#[]⟩, .int .i64 0, .int .i64 0, .int .i64 0, .int .i64 0, .int .i64 0, .int .i64 0, .int .i64 0, .int .i64 0, .int .i64 0, .int .i64 0, .int .i64 0, .int .i64 0, .int .i64 0, .int .i64 0] 152)) wr.heap.size 152 (stCells (⟨#[]⟩ : ByteArray) (List.replicate 14 0)) := Blk.at_ wr rfl _ _
        go_wp2_with (first
          | (with_reducible refine wpList_load_mid rfl 152 (.tmp 15) rfl b (off + k * 15) rfl (stCells key hs) _ hrx Tryz.underlying152 rfl Hst.out ?_)
          | (with_reducible refine wpList_store_all rfl 152 (.tmp 4) (.tmp 16) rfl wr.heap.size _ _ (stCells key hs) hnew rfl rfl 15 info_st (st_len _ _ hl14.out) (st_len _ _ (by simp)) (st_one _ _) ?_
             intro w1 hb1 hg1
             have hk1 : w1.cell? ⟨wr.heap.size, 0, none⟩ = some (.string key) := hb1.cell_of rfl))
        refine (isKey_any key _ (by omega)).mono ?_
        rintro e w2 ⟨rfl, rfl⟩
        have hgr1 : w.grownBy w1 none := grow_own (grow_alloc hgr _) hg1 (by simpa using hgr.size)
        have hgw : wr.grownBy w1 none := grow_own (grow_alloc (World.grownBy.refl _ _) _) hg1 (by simp)
        clear hrx hnew hg1
        by_cases hkey : keyB key = false
        · have h5 : stationE (prevOf l k) ⟨key, hs⟩ = 5 := by simp [stationE, hkey]
          have H5 := Lib.hid h5; clear h5
          go_wp2_with fail
          go_ret
          exact ⟨by rw [HE.out, Hat.out, if_neg (by rw [H5.out]; decide), H5.out]; rfl, hgr1⟩
        · have hkey : keyB key = true := by simpa using hkey
          obtain ⟨o8, ho8⟩ : ∃ o, o = prevB (prevOf l k) (fun q => leB key q.key) := ⟨_, rfl⟩
          have Ho8 := Lib.hid ho8; clear ho8
          go_upto_region 8 with fail
          go_cut [22] (fun v wx => v = .bool o8 /\ ∃ nq, wx = w1.drewN nq)
          case first =>
            by_cases hk0 : k = 0
            · have hz : decide ((0 : Int) < (k : Int)) = false := by simp; omega
              have hz2 : decide (0 < k) = false := by simp; omega
              have ho : o8 = false := by rw [Ho8.out]; simp [prevB, prevOf, hk0]
              have Ho := Lib.hid ho
              clear ho hk0
              go_quiet (fail)
              go_wp2_with fail
              go_meet
              exact ⟨by rw [Ho.out], _, rfl⟩
            · have hz : (0 : Int) < (k : Int) := by omega
              have hz2 : decide (0 < k) = true := decide_eq_true (by omega)
              obtain ⟨q, hq⟩ : ∃ q, l[k - 1]? = some q := ⟨_, List.getElem?_eq_getElem (by have := hl.len; omega)⟩
              have hrq := Hrg.out (k - 1) q hq
              have ho : o8 = leB key q.key := by rw [Ho8.out]; simp [prevB, prevOf, hk0, hq]
              have Ho := Lib.hid ho
              have hqk : wr.cell? ⟨b, off + (k - 1) * 15, none⟩ = some (.string q.key) := hrq 0 _ rfl
              have hki : (k : Int) - 1 = ((k - 1 : Nat) : Int) := by omega
              have hk1n : (k : Int) - 1 < (n : Int) := by omega
              have hqk1 : w1.cell? ⟨b, off + (k - 1) * 15, none⟩ = some (.string q.key) := (World.cell?_of_block (hgw.block b hbl (by simp))).trans hqk
              clear ho hk0 hq hrq
              go_quiet (fail)
              go_wp2_with fail
              go_meet
              exact ⟨by rw [Ho.out]; rfl, _, rfl⟩
          case rest =>
            obtain ⟨rfl, nq, rfl⟩ := hcut
            have hb2 : Blk (w1.drewN nq) wr.heap.size 152 (stCells key hs) := hb1.drewN nq
            have hgr2 : w.grownBy (w1.drewN nq) none := grow_drewN hgr1 nq
            clear hb1 hgr1 hgw
            obtain ⟨w2, hw2⟩ : ∃ w2, w2 = w1.drewN nq := ⟨_, rfl⟩
            rw [<- hw2] at hb2 hgr2 ⊢
            clear hw2
            cases o8
            · have hE1 : stationE (prevOf l k) ⟨key, hs⟩ = if hoursBad hs then 1 else 0 := by
                have ho := Ho8.out
                unfold stationE
                rw [if_neg (by simp [hkey]), show prevB (prevOf l k) (fun q => leB (⟨key, hs⟩ : St).key q.key) = _ from ho.symm]
                rfl
              have HE1 := Lib.hid hE1; clear hE1
              have hvv : ∀ j v, (hs.map (Value.int .i64))[j]? = some v -> (stCells key hs)[1 + j]? = some v := fun j v hv => by rw [Nat.add_comm]; exact hv
              have Hvv := Lib.hid hvv; clear hvv
              go_wp2_with (with_reducible refine wpList_load_blk rfl 150 (.tmp 36) rfl wr.heap.size 1 _ (stCells key hs) (hs.map (Value.int .i64)) _ hb2 rfl Tryz.underlying150 rfl 14 info_hours (by simpa using hl14.out) Hvv.out ?_)
              obtain ⟨wo, hwo⟩ : ∃ wo : World, wo = wr := ⟨_, rfl⟩
              rw [<- hwo] at hb2 ⊢
              clear hwo
              go_loopw [38] (fun i wr => ∃ j : Nat, j <= 7 /\ i = .int .i64 j /\ (∀ t, t < j -> winBad (frAt hs t) (toAt hs t) = false) /\ w.grownBy wr none) (fun i _ => 7 - (intOf i).toNat)
              case atStart => exact ⟨0, by omega, rfl, fun t ht => absurd ht (by omega), hgr2⟩
              case round =>
                obtain ⟨j, hj, rfl, hJ, hgj⟩ := hrel
                have HJ := Lib.hid hJ; clear hJ
                by_cases hj7 : j < 7
                · have hvs : ((hs.map (Value.int .i64)).drop (j * 2)).take 2 = [.int .i64 (frAt hs j), .int .i64 (toAt hs j)] := hrs_pair hs j (by have := hl14.out; omega)
                  have Hvs := Lib.hid hvs; clear hvs
                  obtain ⟨f, hf⟩ : ∃ f, f = frAt hs j := ⟨_, rfl⟩
                  obtain ⟨t, ht⟩ : ∃ t, t = toAt hs j := ⟨_, rfl⟩
                  rw [<- hf, <- ht] at Hvs
                  have Hf := Lib.hid hf
                  have Ht := Lib.hid ht
                  clear hf ht
                  go_wp2_with (with_reducible refine wpList_index_row rfl 150 (.tmp 37) (.tmp 38) rfl (hs.map (Value.int .i64)) j rfl rfl 7 _ Tryz.underlying150 _ Tryz.underlying27 rfl 2 info_win hj7 [.int .i64 f, .int .i64 t] Hvs.out ?_)
                  refine (in_any _ _ _ _).mono ?_
                  rintro e w3 ⟨rfl, rfl⟩
                  obtain ⟨x, hx⟩ : ∃ x, inB f 0 t = x := ⟨_, rfl⟩
                  rw [hx]
                  have Hx := Lib.hid hx; clear hx
                  by_cases hbad : winBad f t = true
                  · have hany : hoursBad hs = true := by
                      simp only [hoursBad, List.any_eq_true, List.mem_range]
                      exact ⟨j, hj7, by rw [<- Hf.out, <- Ht.out]; exact hbad⟩
                    have Hfin := Lib.hid (show stationE (prevOf l k) ⟨key, hs⟩ = 1 by rw [HE1.out, if_pos hany])
                    have Hb := Lib.hid hbad
                    clear hany hbad
                    cases x
                    · go_wp2_with fail
                      go_ret
                      exact ⟨by rw [HE.out, Hat.out, if_neg (by rw [Hfin.out]; decide), Hfin.out]; rfl, grow_alloc hgj _⟩
                    · have h14 : (1440 : Int) < t := by have := Hb.out; simp [winBad, Hx.out] at this; exact this
                      go_wp2_with fail
                      go_ret
                      exact ⟨by rw [HE.out, Hat.out, if_neg (by rw [Hfin.out]; decide), Hfin.out]; rfl, grow_alloc hgj _⟩
                  · have hx1 : x = true := by have := Hx.out; simp only [winBad, this] at hbad; cases x <;> simp_all
                    have h14 : ¬ (1440 : Int) < t := by intro h; apply hbad; simp [winBad, h]
                    have Hb := Lib.hid (show winBad f t = false by simpa using hbad)
                    subst hx1
                    clear hbad
                    go_wp2_with fail
                    go_roundw
                    case rel => exact ⟨j + 1, by omega, by go_num, fun i hi => by
                      rcases Nat.lt_or_ge i j with h | h
                      · exact HJ.out i h
                      · obtain rfl : i = j := by omega
                        rw [<- Hf.out, <- Ht.out]; exact Hb.out, grow_alloc hgj _⟩
                    case measure => simp [intOf]; omega
                · have hno : hoursBad hs = false := by
                    simp only [hoursBad, List.any_eq_false, List.mem_range]
                    intro i hi
                    rw [HJ.out i (by omega)]
                    decide
                  have Hfin := Lib.hid (show stationE (prevOf l k) ⟨key, hs⟩ = 0 by rw [HE1.out, if_neg (by simp [hno])])
                  clear hno
                  go_wp2_with fail
                  go_roundw
                  case rel => exact ⟨k + 1, by omega, by go_num, by rw [HE.out, Hat.out, if_pos Hfin.out], hgj⟩
                  case measure => simp [intOf]; omega
            · have hE1 : stationE (prevOf l k) ⟨key, hs⟩ = 7 := by
                have ho := Ho8.out
                unfold stationE
                rw [if_neg (by simp [hkey]), show prevB (prevOf l k) (fun q => leB (⟨key, hs⟩ : St).key q.key) = _ from ho.symm]
                rfl
              have Hfin := Lib.hid hE1; clear hE1
              go_wp2_with fail
              go_ret
              exact ⟨by rw [HE.out, Hat.out, if_neg (by rw [Hfin.out]; decide), Hfin.out]; rfl, hgr2⟩
      · go_wp2_with fail
        go_ret
        exact ⟨by rw [HE.out, scanE_end _ _ _ _ (by have := hl.len; omega)]; rfl, hgr⟩
end Go.Proofs.YtempjmpfdniecaaGreatDoor
namespace Go.Proofs.YtempjmpfdniecaaGreatDoor
open Go.RowKit
theorem fe_all : ∀ {l : List Int}, firstE l = 0 -> ∀ e ∈ l, e = 0
 | [], _, _, h => by cases h
 | x :: r, h, e, he => by
  simp only [firstE] at h
  by_cases hx : x = 0
  ·rw [if_pos hx] at h
   rcases List.mem_cons.1 he with rfl | he
   ·exact hx
   ·exact fe_all h e he
  ·rw [if_neg hx] at h; exact absurd h hx
end Go.Proofs.YtempjmpfdniecaaGreatDoor
namespace Go.Proofs.YtempjmpfdniecaaGreatDoor
open Go.RowKit
theorem prevCs_le {l : List Cs} {k : Nat} {b : Cs} (h : keyB b.key = true) : leB b.key (prevCs l k) = leCs (prevOf l k) b := by
 unfold prevCs leCs
 cases prevOf l k with
 | none => exact key_low h
 | some q => rfl
theorem cls_scan {l : List Cs} {v : Int} (h30 : ¬ 30 < l.length) (h : scanE csE none l = v) (hv : v ≠ 0) : classesE l = v := by
 unfold classesE
 rw [if_neg h30, if_pos (by rw [h]; exact hv), h]
theorem cls_up {l : List Cs} (h30 : ¬ 30 < l.length) (h : scanE csE none l = 0) (hu : l.any (upB l) = true) : classesE l = 8 := by
 unfold classesE
 rw [if_neg h30, if_neg (by rw [h]; decide), if_pos hu]
theorem cls_loop {l : List Cs} (h30 : ¬ 30 < l.length) (h : scanE csE none l = 0) (hu : l.any (upB l) = false) : classesE l = if loopB l l.length = true then 14 else 0 := by
 unfold classesE
 rw [if_neg h30, if_neg (by rw [h]; decide), if_neg (by rw [hu]; decide)]
theorem any_at {α : Type} {p : α -> Bool} {l : List α} {k : Nat} {x : α} (h : l[k]? = some x) : (l.drop k).any p = (p x || (l.drop (k + 1)).any p) := by
 obtain ⟨hk, rfl⟩ := List.getElem?_eq_some_iff.1 h
 rw [List.drop_eq_getElem_cons hk, List.any_cons]
theorem any_end {α : Type} {p : α -> Bool} {l : List α} {k : Nat} (h : l.length <= k) : (l.drop k).any p = false := by rw [List.drop_eq_nil_of_le h]; rfl
theorem path_more {l : List Cs} {n i : Nat} {k : ByteArray} (h : emptyS (upOf l k) = false) (hi : i < n) : pathN l (n - i) k = upOf l k :: pathN l (n - (i + 1)) (upOf l k) := by
 rw [show n - i = (n - (i + 1)) + 1 by omega]
 show (if emptyS (upOf l k) = true then [] else _) = _
 rw [if_neg (by rw [h]; decide)]
theorem path_stop {l : List Cs} {n : Nat} {k : ByteArray} (h : emptyS (upOf l k) = true) : pathN l n k = [] := by
 cases n with
 | zero => rfl
 | succ n =>
  show (if emptyS (upOf l k) = true then [] else _) = _
  rw [if_pos h]
theorem pred_classAt_1_lot (ke : ByteArray) (up : ByteArray) (gk : Nat) (k : ByteArray) (w : World) (hk : Blk w gk 9 [.string k]) :
  Calls Tryz.prog 273 #[.agg #[.string ke, .string up], .pointer (some ⟨gk, 0, none⟩)] w (fun e w' => e = .returned (.bool (csP k ⟨ke, up⟩)) /\ w.grownBy w' none) := by
 refine gw_enter ⟨8, w, none, []⟩ Tryz.func273 rfl Tryz.ntmps273 rfl (mem0 (X := [BlkOld w.heap.size none gk 9 [.string k]]) (allF_cons hk.old allF_nil) (allL_cons BlkOld.lasts allL_nil)) ?_
 refine sr_ ?_
 refine wl_box rfl rfl rfl fun g1 => ?_
 refine sg_ rfl (nn_ (sr_ (fd_ fo158_0 rfl rfl (lk_ sc9 0 rfl rfl rfl ?_))))
 refine wl_ov (ov_load (v := .string k) sc9 rfl (fun _ hm => (hm.fact 0 rfl).2) rfl) rfl ?_
 refine wl_ov (ov_seql rfl rfl) rfl (sg_ rfl (nn_ ?_))
 refine gw_ret ?_
 refine nx_ret1 rfl rfl fun wx hm => ?_
 exact ⟨rfl, hm.g⟩
theorem index_classAt_1_lot (l : List Cs) (A : Option Addr) (n c0 : Nat) (gk : Nat) (k : ByteArray) (w : World) (hl : SlT csEnc 2 158 w A n l) (hn : n <= 1000000) (hk : Blk w gk 9 [.string k]) :
  Calls Tryz.prog 235 #[.slice A n c0, .func (.func 273) #[] #[.pointer (some ⟨gk, 0, none⟩)]] w (GotE w (ixP (csP k) l 0)) := by
 refine gw_enter ⟨19, w, none, []⟩ Tryz.func235 rfl Tryz.ntmps235 rfl (mem0 (X := [SlOld csEnc 2 158 w.heap.size none A n l, BlkOld w.heap.size none gk 9 [.string k]]) (allF_cons hl.old (allF_cons hk.old allF_nil)) (allL_cons SlOld.lasts (allL_cons BlkOld.lasts allL_nil))) ?_
 refine sr_ ?_
 have hlen := hl.len
 refine sg_ rfl (nn_ (gw_seq (sr_ (mv_ rfl (wl_ov (ov_len es58 rfl) rfl (mv_ rfl (nn_ (gw_block ?_))))))))
 refine gw_loop (γ := Nat) (fun (i : Nat) => i <= n /\ ixP (csP k) l 0 = ixP (csP k) (l.drop i) i) (fun (i : Nat) => [(0, .slice A n c0), (1, .func (.func 273) #[] #[.pointer (some ⟨gk, 0, none⟩)]), (7, .int .i64 ((n : Nat) : Int)), (8, .int .i64 ((i : Nat) : Int))]) (fun (i : Nat) => fun _ => True) (fun (i : Nat) => []) (fun (i : Nat) => []) (fun (i : Nat) => [SlOld csEnc 2 158 w.heap.size none A n l, BlkOld w.heap.size none gk 9 [.string k]]) (fun (i : Nat) => n - i) 0 ⟨Nat.zero_le _, rfl⟩ ⟨rfl, rfl, rfl, rfl, trivial⟩ (fun _ hm => hm.pick [] [] [0, 1] rfl rfl) ?_
 intro i hinv
 replace hinv : i <= n /\ ixP (csP k) l 0 = ixP (csP k) (l.drop i) i := hinv
 refine sr_ (wl_ov (ov_lss rfl rfl) rfl (nn_ (gw_seq ?_)))
 refine gw_cond rfl (fun hh => ?_) (fun hh => ?_)
 ·have hi : ((i : Nat) : Int) < ((n : Nat) : Int) := by simpa using hh
  clear hh
  refine gw_skip (nx_then (gw_seq (gw_block (sr_ ?_))))
  obtain ⟨b, off, hA, _, _⟩ := hl.get (by omega)
  subst hA
  obtain ⟨x, hx⟩ : ∃ x, l[i]? = some x := ⟨_, List.getElem?_eq_getElem (by omega)⟩
  obtain ⟨ke, up⟩ := x
  have hat := ixP_at (p := csP k) hx
  refine mv_ rfl (sg_ rfl (nn_ (sr_ (mv_ rfl (mv_ rfl (mv_ rfl ?_))))))
  refine wl_ov (ov_index (j := i) es58 rfl rfl (by omega)) rfl ?_
  refine wl_ov (ov_elem (vs := [.string ke, .string up]) rz158 rfl (fun _ hm => (hm.fact 0 rfl).1) hx rfl rfl) rfl ?_
  refine wl_callv rfl cb273 rfl rfl (fun wx hm => (pred_classAt_1_lot ke up gk k wx (hm.fact 1 rfl).2)) ?_
  refine nn_ ?_
  refine gw_cond rfl (fun hh => ?_) (fun hh => ?_)
  ·have hq : (csP k ⟨ke, up⟩) = true := by simpa using hh
   clear hh
   refine sr_ (mv_ rfl (sg_ rfl (nn_ ?_)))
   refine gw_ret ?_
   refine nx_blk_ret (nx_then_ret (nx_then_ret (nx_blk_ret (nx_then_ret ?_))))
   refine nx_ret1 rfl rfl fun wx hm => ?_
   exact ⟨ret_int (by rw [hinv.2, hat, if_pos hq]), hm.g⟩
  have hq : (csP k ⟨ke, up⟩) = false := by simpa using hh
  clear hh
  refine gw_skip (nx_blk_nrm (nx_then (gw_region (ad_ rfl rfl (mv_ rfl (wl_nil ?_))))))
  exact nx_round (i + 1) ⟨by omega, by rw [hinv.2, hat, if_neg (by rw [hq]; decide)]⟩ (by omega) ⟨rfl, rfl, rfl, (some_int (by omega)), trivial⟩ (fun _ hm => hm.pick [] [] [0, 1] rfl rfl)
 have hi : ¬ (((i : Nat) : Int) < ((n : Nat) : Int)) := by simpa using hh
 clear hh
 refine gw_exit ?_
 refine nx_then_exit (nx_then_exit ?_)
 refine nx_blk_here ?_
 refine nx_then (sr_ (sg_ rfl ?_))
 refine wl_set 4 (v' := .int .i64 (-1)) rfl rfl ?_
 refine nn_ ?_
 refine gw_ret ?_
 refine nx_ret1 rfl rfl fun wx hm => ?_
 exact ⟨ret_int (by rw [hinv.2, List.drop_eq_nil_of_le (by omega)]; rfl), hm.g⟩
theorem classAt_any (l : List Cs) (A : Option Addr) (n c0 : Nat) (k : ByteArray) (w : World) (hl : SlT csEnc 2 158 w A n l) (hn : n <= 1000000) :
  Calls Tryz.prog 209 #[.slice A n c0, .string k] w (GotE w (ixP (csP k) l 0)) := by
 refine gw_enter ⟨8, w, none, []⟩ Tryz.func209 rfl Tryz.ntmps209 rfl (mem0 (X := [SlOld csEnc 2 158 w.heap.size none A n l]) (allF_cons hl.old allF_nil) (allL_cons SlOld.lasts allL_nil)) ?_
 refine sr_ ?_
 refine wl_box rfl rfl rfl fun g1 => ?_
 refine sg_ rfl (nn_ (sr_ (mv_ rfl (wl_ov (ov_makeFunc rfl rfl) rfl ?_))))
 refine wl_callv rfl cb235 rfl rfl (fun wx hm => (index_classAt_1_lot l A n c0 _ k wx (hm.fact 0 rfl).1 hn (hm.blkI 0 rfl))) ?_
 refine sg_ rfl (nn_ ?_)
 refine gw_ret ?_
 refine nx_ret1 rfl rfl fun wx hm => ?_
 exact ⟨rfl, hm.g⟩
theorem pred_ClassAt_1_rentref1 (ke : ByteArray) (up : ByteArray) (gk : Nat) (k : ByteArray) (w : World) (hk : Blk w gk 9 [.string k]) :
  Calls Tryz.prog 236 #[.agg #[.string ke, .string up], .pointer (some ⟨gk, 0, none⟩)] w (fun e w' => e = .returned (.bool (csP k ⟨ke, up⟩)) /\ w.grownBy w' none) := by
 refine gw_enter ⟨8, w, none, []⟩ Tryz.func236 rfl Tryz.ntmps236 rfl (mem0 (X := [BlkOld w.heap.size none gk 9 [.string k]]) (allF_cons hk.old allF_nil) (allL_cons BlkOld.lasts allL_nil)) ?_
 refine sr_ ?_
 refine wl_box rfl rfl rfl fun g1 => ?_
 refine sg_ rfl (nn_ (sr_ (fd_ fo158_0 rfl rfl (lk_ sc9 0 rfl rfl rfl ?_))))
 refine wl_ov (ov_load (v := .string k) sc9 rfl (fun _ hm => (hm.fact 0 rfl).2) rfl) rfl ?_
 refine wl_ov (ov_seql rfl rfl) rfl (sg_ rfl (nn_ ?_))
 refine gw_ret ?_
 refine nx_ret1 rfl rfl fun wx hm => ?_
 exact ⟨rfl, hm.g⟩
theorem index_ClassAt_1_rentref1 (l : List Cs) (A : Option Addr) (n c0 : Nat) (gk : Nat) (k : ByteArray) (w : World) (hl : SlT csEnc 2 158 w A n l) (hn : n <= 1000000) (hk : Blk w gk 9 [.string k]) :
  Calls Tryz.prog 235 #[.slice A n c0, .func (.func 236) #[] #[.pointer (some ⟨gk, 0, none⟩)]] w (GotE w (ixP (csP k) l 0)) := by
 refine gw_enter ⟨19, w, none, []⟩ Tryz.func235 rfl Tryz.ntmps235 rfl (mem0 (X := [SlOld csEnc 2 158 w.heap.size none A n l, BlkOld w.heap.size none gk 9 [.string k]]) (allF_cons hl.old (allF_cons hk.old allF_nil)) (allL_cons SlOld.lasts (allL_cons BlkOld.lasts allL_nil))) ?_
 refine sr_ ?_
 have hlen := hl.len
 refine sg_ rfl (nn_ (gw_seq (sr_ (mv_ rfl (wl_ov (ov_len es58 rfl) rfl (mv_ rfl (nn_ (gw_block ?_))))))))
 refine gw_loop (γ := Nat) (fun (i : Nat) => i <= n /\ ixP (csP k) l 0 = ixP (csP k) (l.drop i) i) (fun (i : Nat) => [(0, .slice A n c0), (1, .func (.func 236) #[] #[.pointer (some ⟨gk, 0, none⟩)]), (7, .int .i64 ((n : Nat) : Int)), (8, .int .i64 ((i : Nat) : Int))]) (fun (i : Nat) => fun _ => True) (fun (i : Nat) => []) (fun (i : Nat) => []) (fun (i : Nat) => [SlOld csEnc 2 158 w.heap.size none A n l, BlkOld w.heap.size none gk 9 [.string k]]) (fun (i : Nat) => n - i) 0 ⟨Nat.zero_le _, rfl⟩ ⟨rfl, rfl, rfl, rfl, trivial⟩ (fun _ hm => hm.pick [] [] [0, 1] rfl rfl) ?_
 intro i hinv
 replace hinv : i <= n /\ ixP (csP k) l 0 = ixP (csP k) (l.drop i) i := hinv
 refine sr_ (wl_ov (ov_lss rfl rfl) rfl (nn_ (gw_seq ?_)))
 refine gw_cond rfl (fun hh => ?_) (fun hh => ?_)
 ·have hi : ((i : Nat) : Int) < ((n : Nat) : Int) := by simpa using hh
  clear hh
  refine gw_skip (nx_then (gw_seq (gw_block (sr_ ?_))))
  obtain ⟨b, off, hA, _, _⟩ := hl.get (by omega)
  subst hA
  obtain ⟨x, hx⟩ : ∃ x, l[i]? = some x := ⟨_, List.getElem?_eq_getElem (by omega)⟩
  obtain ⟨ke, up⟩ := x
  have hat := ixP_at (p := csP k) hx
  refine mv_ rfl (sg_ rfl (nn_ (sr_ (mv_ rfl (mv_ rfl (mv_ rfl ?_))))))
  refine wl_ov (ov_index (j := i) es58 rfl rfl (by omega)) rfl ?_
  refine wl_ov (ov_elem (vs := [.string ke, .string up]) rz158 rfl (fun _ hm => (hm.fact 0 rfl).1) hx rfl rfl) rfl ?_
  refine wl_callv rfl cb236 rfl rfl (fun wx hm => (pred_ClassAt_1_rentref1 ke up gk k wx (hm.fact 1 rfl).2)) ?_
  refine nn_ ?_
  refine gw_cond rfl (fun hh => ?_) (fun hh => ?_)
  ·have hq : (csP k ⟨ke, up⟩) = true := by simpa using hh
   clear hh
   refine sr_ (mv_ rfl (sg_ rfl (nn_ ?_)))
   refine gw_ret ?_
   refine nx_blk_ret (nx_then_ret (nx_then_ret (nx_blk_ret (nx_then_ret ?_))))
   refine nx_ret1 rfl rfl fun wx hm => ?_
   exact ⟨ret_int (by rw [hinv.2, hat, if_pos hq]), hm.g⟩
  have hq : (csP k ⟨ke, up⟩) = false := by simpa using hh
  clear hh
  refine gw_skip (nx_blk_nrm (nx_then (gw_region (ad_ rfl rfl (mv_ rfl (wl_nil ?_))))))
  exact nx_round (i + 1) ⟨by omega, by rw [hinv.2, hat, if_neg (by rw [hq]; decide)]⟩ (by omega) ⟨rfl, rfl, rfl, (some_int (by omega)), trivial⟩ (fun _ hm => hm.pick [] [] [0, 1] rfl rfl)
 have hi : ¬ (((i : Nat) : Int) < ((n : Nat) : Int)) := by simpa using hh
 clear hh
 refine gw_exit ?_
 refine nx_then_exit (nx_then_exit ?_)
 refine nx_blk_here ?_
 refine nx_then (sr_ (sg_ rfl ?_))
 refine wl_set 4 (v' := .int .i64 (-1)) rfl rfl ?_
 refine nn_ ?_
 refine gw_ret ?_
 refine nx_ret1 rfl rfl fun wx hm => ?_
 exact ⟨ret_int (by rw [hinv.2, List.drop_eq_nil_of_le (by omega)]; rfl), hm.g⟩
theorem rClassAt_any (l : List Cs) (A : Option Addr) (n c0 : Nat) (k : ByteArray) (w : World) (hl : SlT csEnc 2 158 w A n l) (hn : n <= 1000000) :
  Calls Tryz.prog 153 #[.slice A n c0, .string k] w (GotE w (ixP (csP k) l 0)) := by
 refine gw_enter ⟨8, w, none, []⟩ Tryz.func153 rfl Tryz.ntmps153 rfl (mem0 (X := [SlOld csEnc 2 158 w.heap.size none A n l]) (allF_cons hl.old allF_nil) (allL_cons SlOld.lasts allL_nil)) ?_
 refine sr_ ?_
 refine wl_box rfl rfl rfl fun g1 => ?_
 refine sg_ rfl (nn_ (sr_ (mv_ rfl (wl_ov (ov_makeFunc rfl rfl) rfl ?_))))
 refine wl_callv rfl cb235 rfl rfl (fun wx hm => (index_ClassAt_1_rentref1 l A n c0 _ k wx (hm.fact 0 rfl).1 hn (hm.blkI 0 rfl))) ?_
 refine sg_ rfl (nn_ ?_)
 refine gw_ret ?_
 refine nx_ret1 rfl rfl fun wx hm => ?_
 exact ⟨rfl, hm.g⟩
theorem index_str (ks : List ByteArray) (A1 : Option Addr) (n1 c1 : Nat) (k : ByteArray) (w : World) (hs : SlT sgEnc 1 9 w A1 n1 ks) (hn : n1 <= 1000000) :
  Calls Tryz.prog 119 #[.slice A1 n1 c1, .string k] w (GotE w (ixP (fun y => k.toList == y.toList) ks 0)) := by
 refine gw_enter ⟨19, w, none, []⟩ Tryz.func119 rfl Tryz.ntmps119 rfl (mem0 (X := [SlOld sgEnc 1 9 w.heap.size none A1 n1 ks]) (allF_cons hs.old allF_nil) (allL_cons SlOld.lasts allL_nil)) ?_
 refine sr_ ?_
 have hlen := hs.len
 refine sg_ rfl (nn_ (gw_seq (sr_ (mv_ rfl (wl_ov (ov_len es103 rfl) rfl (mv_ rfl (nn_ (gw_block ?_))))))))
 refine gw_loop (γ := Nat) (fun (i : Nat) => i <= n1 /\ ixP (fun y => k.toList == y.toList) ks 0 = ixP (fun y => k.toList == y.toList) (ks.drop i) i) (fun (i : Nat) => [(0, .slice A1 n1 c1), (1, .string k), (7, .int .i64 ((n1 : Nat) : Int)), (8, .int .i64 ((i : Nat) : Int))]) (fun (i : Nat) => fun _ => True) (fun (i : Nat) => []) (fun (i : Nat) => []) (fun (i : Nat) => [SlOld sgEnc 1 9 w.heap.size none A1 n1 ks]) (fun (i : Nat) => n1 - i) 0 ⟨Nat.zero_le _, rfl⟩ ⟨rfl, rfl, rfl, rfl, trivial⟩ (fun _ hm => hm.pick [] [] [0] rfl rfl) ?_
 intro i hinv
 replace hinv : i <= n1 /\ ixP (fun y => k.toList == y.toList) ks 0 = ixP (fun y => k.toList == y.toList) (ks.drop i) i := hinv
 refine sr_ (wl_ov (ov_lss rfl rfl) rfl (nn_ (gw_seq ?_)))
 refine gw_cond rfl (fun hh => ?_) (fun hh => ?_)
 ·have hi : ((i : Nat) : Int) < ((n1 : Nat) : Int) := by simpa using hh
  clear hh
  refine gw_skip (nx_then (gw_seq (gw_block (sr_ ?_))))
  obtain ⟨b, off, hA, _, _⟩ := hs.get (by omega)
  subst hA
  obtain ⟨z0, hx⟩ : ∃ x, ks[i]? = some x := ⟨_, List.getElem?_eq_getElem (by omega)⟩
  have hat := ixP_at (p := (fun y => k.toList == y.toList)) hx
  refine mv_ rfl (sg_ rfl (nn_ (sr_ (mv_ rfl (mv_ rfl (mv_ rfl ?_))))))
  refine wl_ov (ov_index (j := i) es103 rfl rfl (by omega)) rfl ?_
  refine wl_ov (ov_elem1 (k := 0) (v := .string z0) sc9 rfl (fun _ hm => (hm.fact 0 rfl).1) hx rfl rfl) rfl ?_
  refine wl_ov (ov_seql rfl rfl) rfl (nn_ ?_)
  refine gw_cond rfl (fun hh => ?_) (fun hh => ?_)
  ·have hq : (k.toList == z0.toList) = true := by simpa using hh
   clear hh
   refine sr_ (mv_ rfl (sg_ rfl (nn_ ?_)))
   refine gw_ret ?_
   refine nx_blk_ret (nx_then_ret (nx_then_ret (nx_blk_ret (nx_then_ret ?_))))
   refine nx_ret1 rfl rfl fun wx hm => ?_
   exact ⟨ret_int (by rw [hinv.2, hat, if_pos hq]), hm.g⟩
  have hq : (k.toList == z0.toList) = false := by simpa using hh
  clear hh
  refine gw_skip (nx_blk_nrm (nx_then (gw_region (ad_ rfl rfl (mv_ rfl (wl_nil ?_))))))
  exact nx_round (i + 1) ⟨by omega, by rw [hinv.2, hat, if_neg (by rw [hq]; decide)]⟩ (by omega) ⟨rfl, rfl, rfl, (some_int (by omega)), trivial⟩ (fun _ hm => hm.pick [] [] [0] rfl rfl)
 have hi : ¬ (((i : Nat) : Int) < ((n1 : Nat) : Int)) := by simpa using hh
 clear hh
 refine gw_exit ?_
 refine nx_then_exit (nx_then_exit ?_)
 refine nx_blk_here ?_
 refine nx_then (sr_ (sg_ rfl ?_))
 refine wl_set 4 (v' := .int .i64 (-1)) rfl rfl ?_
 refine nn_ ?_
 refine gw_ret ?_
 refine nx_ret1 rfl rfl fun wx hm => ?_
 exact ⟨ret_int (by rw [hinv.2, List.drop_eq_nil_of_le (by omega)]; rfl), hm.g⟩
theorem contains_str (ks : List ByteArray) (A1 : Option Addr) (n1 c1 : Nat) (k : ByteArray) (w : World) (hs : SlT sgEnc 1 9 w A1 n1 ks) (hn : n1 <= 1000000) :
  Calls Tryz.prog 180 #[.slice A1 n1 c1, .string k] w (fun e w' => e = .returned (.bool (inK k ks)) /\ w.grownBy w' none) := by
 refine gw_enter ⟨9, w, none, []⟩ Tryz.func180 rfl Tryz.ntmps180 rfl (mem0 (X := [SlOld sgEnc 1 9 w.heap.size none A1 n1 ks]) (allF_cons hs.old allF_nil) (allL_cons SlOld.lasts allL_nil)) ?_
 refine sr_ (sg_ rfl (nn_ (sr_ (mv_ rfl (mv_ rfl ?_)))))
 refine wl_callv rfl cb119 rfl rfl (fun wx hm => (index_str ks A1 n1 c1 k wx (hm.fact 0 rfl).1 hn)) ?_
 refine wl_ov (ov_geq rfl rfl) rfl ?_
 refine sg_ rfl (nn_ ?_)
 refine gw_ret ?_
 refine nx_ret1 rfl rfl fun wx hm => ?_
 exact ⟨by unfold inK; rw [<- ix_any], hm.g⟩
theorem above_any (l : List Cs) (A : Option Addr) (n c : Nat) (k0 : ByteArray) (w : World) (hl : SlT csEnc 2 158 w A n l) (hc : Closed l) (hk0 : 0 <= ixP (csP k0) l 0) (hn : n <= 1000000) :
  Calls Tryz.prog 239 #[.slice A n c, .string k0] w (fun e w' => ∃ (A2 : Option Addr) (n2 c2 : Nat), e = .returned (.slice A2 n2 c2) /\ w'.ownsRow w.heap.size 9 1 (.slice A2 n2 c2) n2 ((pathN l n k0).flatMap sgEnc) /\ (pathN l n k0).length = n2 /\ w.grownBy w' none) := by
 refine gw_enter ⟨25, w, none, []⟩ Tryz.func239 rfl Tryz.ntmps239 rfl (mem0 (X := [SlOld csEnc 2 158 w.heap.size none A n l]) (allF_cons hl.old allF_nil) (allL_cons SlOld.lasts allL_nil)) ?_
 refine sr_ ?_
 have hlen := hl.len
 refine sg_ rfl (nn_ (sr_ (sg_ rfl (nn_ (gw_seq (sr_ (mv_ rfl (wl_ov (ov_len es58 rfl) rfl (mv_ rfl ?_)))))))))
 refine nn_ (gw_block ?_)
 refine gw_nilOwn 9 1 ?_
 refine gw_loop (γ := Nat × ByteArray × Value × List ByteArray × List Value) (fun g => g.1 <= n /\ 0 <= ixP (csP g.2.1) l 0 /\ g.2.2.2.1.length = g.1 /\ g.2.2.2.1 ++ pathN l (n - g.1) g.2.1 = pathN l n k0 /\ g.2.2.2.2 = g.2.2.2.1.flatMap sgEnc) (fun g => [(0, .slice A n c), (1, .string g.2.1), (4, .slice none 0 0), (5, g.2.2.1), (7, .int .i64 ((n : Nat) : Int)), (8, .int .i64 ((g.1 : Nat) : Int))]) (fun g => fun _ => True) (fun g => []) (fun g => [⟨g.2.2.1, 9, 1, g.1, g.2.2.2.2⟩]) (fun g => [SlOld csEnc 2 158 w.heap.size none A n l]) (fun g => n - g.1) (0, k0, .slice none 0 0, [], []) ⟨Nat.zero_le _, hk0, rfl, rfl, rfl⟩ ⟨rfl, rfl, rfl, rfl, rfl, rfl, trivial⟩ (fun _ hm => hm.pick [] [0] [0] rfl rfl) ?_
 rintro ⟨i, k, v, done, xs⟩ hinv
 replace hinv : i <= n /\ 0 <= ixP (csP k) l 0 /\ done.length = i /\ done ++ pathN l (n - i) k = pathN l n k0 /\ xs = done.flatMap sgEnc := hinv
 dsimp only
 refine sr_ ?_
 obtain ⟨hi0, hik, hdl, hdp, rfl⟩ := hinv
 refine wl_ov (ov_lss rfl rfl) rfl (nn_ (gw_seq ?_))
 refine gw_cond rfl (fun hh => ?_) (fun hh => ?_)
 ·have hi : ((i : Nat) : Int) < ((n : Nat) : Int) := by simpa using hh
  clear hh
  refine gw_skip (nx_then (gw_seq (gw_block (sr_ ?_))))
  obtain ⟨b, off, hA, _, _⟩ := hl.get (by omega)
  subst hA
  refine mv_ rfl (mv_ rfl (mv_ rfl ?_))
  obtain ⟨x, hx, hxl, hxk⟩ := ix_key hik
  obtain ⟨j, hj⟩ := Int.eq_ofNat_of_zero_le hik
  have hjx : (ixP (csP k) l 0).toNat = j := by omega
  rw [hjx] at hx
  have hup := upOf_at hj hx
  have hjn : j < n := by have := (List.getElem?_eq_some_iff.1 hx).1; omega
  obtain ⟨ke, up⟩ := x
  have hup : upOf l k = up := hup
  have hcl := hc ⟨ke, up⟩ hxl
  have hcl : emptyS up = false -> 0 <= ixP (csP up) l 0 := hcl
  refine wl_callv (v := .int .i64 ((j : Nat) : Int)) rfl cb209 rfl rfl (fun wx hm => (by rw [<- hj]; exact classAt_any l _ n c k wx (hm.fact 0 rfl).1 hn)) ?_
  refine wl_ov (ov_index (j := j) es58 rfl rfl (by omega)) rfl ?_
  refine fd_ fo158_1 rfl rfl ?_
  refine wl_ov (ov_elem1 (k := 1) (v := .string up) sc9 rfl (fun _ hm => (hm.fact 0 rfl).1) hx rfl rfl) rfl ?_
  refine sg_ rfl (nn_ (gw_seq (sr_ (mv_ rfl (wl_ov (ov_seql rfl rfl) rfl (nn_ ?_))))))
  refine gw_cond rfl (fun hh => ?_) (fun hh => ?_)
  ·have hq : (up.toList == (⟨#[]⟩ : ByteArray).toList) = true := by simpa using hh
   clear hh
   refine gw_exit ?_
   refine nx_then_exit ?_
   refine nx_blk_on rfl ?_
   refine nx_then_exit (nx_then_exit ?_)
   refine nx_blk_here ?_
   refine nx_then (sr_ ?_)
   refine wl_look (R := ∃ A cc, v = .slice A i cc) (fun wx hm => own_slice (hm.ownI 0 rfl)) ?_
   rintro ⟨A2, c2, rfl⟩
   refine mv_ rfl (sg_ rfl (nn_ ?_))
   refine gw_ret ?_
   have hall : done = pathN l n k0 := by rw [<- hdp, path_stop (by rw [hup]; unfold emptyS; exact hq), List.append_nil]
   refine nx_ret1 rfl rfl fun wx hm => ?_
   exact ⟨A2, i, c2, rfl, by rw [<- hall]; exact hm.ownI 0 rfl, by rw [<- hall]; exact hdl, hm.g⟩
  have hq : (up.toList == (⟨#[]⟩ : ByteArray).toList) = false := by simpa using hh
  clear hh
  refine gw_skip (nx_then (gw_region (mv_ rfl (mv_ rfl ?_))))
  refine wl_buildSlice (e := 9) (cs := [.string up]) rfl (by kernel_rfl) rfl fun g1 => ?_
  refine wl_append (news := [.string up]) 0 0 ap103 rfl rfl rfl rfl rfl rfl rfl (by omega) (by unfold maxLen; omega) rfl rfl fun v2 hv2 => ?_
  refine sg_ rfl (wl_nil (nx_blk_nrm (nx_then (gw_region (ad_ rfl rfl (mv_ rfl (wl_nil ?_)))))))
  have hue : emptyS (upOf l k) = false := by rw [hup]; unfold emptyS; exact hq
  have hpm := path_more hue (show i < n by omega)
  rw [hup] at hpm hue
  exact nx_round (i + 1, up, v2, done ++ [up], done.flatMap sgEnc ++ ([.string up] : List Value)) ⟨by dsimp only; omega, hcl hue, by simp [hdl], by dsimp only; rw [<- hdp, hpm, List.append_assoc]; rfl, by simp [sgEnc]⟩ (by dsimp only; omega) ⟨rfl, rfl, rfl, rfl, rfl, (some_int (by omega)), trivial⟩ (fun _ hm => hm.pick [] [0] [0] rfl rfl)
 have hi : ¬ (((i : Nat) : Int) < ((n : Nat) : Int)) := by simpa using hh
 clear hh
 refine gw_exit ?_
 refine nx_then_exit (nx_then_exit ?_)
 refine nx_blk_here ?_
 refine nx_then (sr_ ?_)
 refine wl_look (R := ∃ A cc, v = .slice A i cc) (fun wx hm => own_slice (hm.ownI 0 rfl)) ?_
 rintro ⟨A2, c2, rfl⟩
 refine mv_ rfl (sg_ rfl (nn_ ?_))
 refine gw_ret ?_
 have hin : i = n := by omega
 have hall : done = pathN l n k0 := by rw [<- hdp, hin, Nat.sub_self]; exact (List.append_nil _).symm
 refine nx_ret1 rfl rfl fun wx hm => ?_
 exact ⟨A2, i, c2, rfl, by rw [<- hall]; exact hm.ownI 0 rfl, by rw [<- hall]; exact hdl, hm.g⟩
theorem ups_any (l : List Cs) (A : Option Addr) (n c : Nat) (k0 : ByteArray) (w : World) (hl : SlT csEnc 2 158 w A n l) (hok : ∀ x ∈ l, CsOk x) (hn : n <= 1000000) :
  Calls Tryz.prog 222 #[.slice A n c, .string k0] w (fun e w' => ∃ (A2 : Option Addr) (n2 c2 : Nat), e = .returned (.slice A2 n2 c2) /\ w'.ownsRow w.heap.size 9 1 (.slice A2 n2 c2) n2 ((pathN l (n + 1) k0).flatMap sgEnc) /\ (pathN l (n + 1) k0).length = n2 /\ w.grownBy w' none) := by
 refine gw_enter ⟨43, w, none, []⟩ Tryz.func222 rfl Tryz.ntmps222 rfl (mem0 (X := [SlOld csEnc 2 158 w.heap.size none A n l]) (allF_cons hl.old allF_nil) (allL_cons SlOld.lasts allL_nil)) ?_
 refine sr_ ?_
 have hlen := hl.len
 refine sg_ rfl (nn_ (sr_ (sg_ rfl (nn_ (gw_seq (sr_ (mv_ rfl (mv_ rfl ?_))))))))
 refine wl_callv rfl cb153 rfl rfl (fun wx hm => (rClassAt_any l A n c k0 wx (hm.fact 0 rfl).1 hn)) ?_
 refine sg_ rfl (nn_ (gw_block ?_))
 refine gw_nilOwn 9 1 ?_
 refine gw_loop (γ := Nat × ByteArray × Value × List ByteArray × List Value) (fun g => g.1 <= n + 1 /\ g.2.2.2.1.length = g.1 /\ g.2.2.2.1 ++ pathN l (n + 1 - g.1) g.2.1 = pathN l (n + 1) k0 /\ g.2.2.2.2 = g.2.2.2.1.flatMap sgEnc) (fun g => [(0, .slice A n c), (4, .slice none 0 0), (5, g.2.2.1), (6, .int .i64 (ixP (csP g.2.1) l 0))]) (fun g => fun _ => True) (fun g => []) (fun g => [⟨g.2.2.1, 9, 1, g.1, g.2.2.2.2⟩]) (fun g => [SlOld csEnc 2 158 w.heap.size none A n l]) (fun g => n + 1 - g.1) (0, k0, .slice none 0 0, [], []) ⟨Nat.zero_le _, rfl, rfl, rfl⟩ ⟨rfl, rfl, rfl, rfl, trivial⟩ (fun _ hm => hm.pick [] [0] [0] rfl rfl) ?_
 rintro ⟨i, k, v, done, xs⟩ hinv
 replace hinv : i <= n + 1 /\ done.length = i /\ done ++ pathN l (n + 1 - i) k = pathN l (n + 1) k0 /\ xs = done.flatMap sgEnc := hinv
 dsimp only
 refine gw_seq (sr_ ?_)
 obtain ⟨hi0, hdl, hdp, rfl⟩ := hinv
 refine wl_look (R := ∃ A cc, v = .slice A i cc) (fun wx hm => own_slice (hm.ownI 0 rfl)) ?_
 rintro ⟨A2, c2, rfl⟩
 refine mv_ rfl ?_
 refine wl_ov (ov_geq rfl rfl) rfl ?_
 refine mv_ rfl ?_
 rcases Bool.eq_false_or_eq_true (decide (0 <= ixP (csP k) l 0)) with hik | hik
 ·refine wl_set 12 rfl (congrArg Value.bool hik) ?_
  have hik := of_decide_eq_true hik
  obtain ⟨x, hx, hxl, hxk⟩ := ix_key hik
  obtain ⟨j, hj⟩ := Int.eq_ofNat_of_zero_le hik
  have hjx : (ixP (csP k) l 0).toNat = j := by omega
  rw [hjx] at hx
  have hup := upOf_at hj hx
  have hjn : j < n := by have := (List.getElem?_eq_some_iff.1 hx).1; omega
  obtain ⟨ke, up⟩ := x
  have hup : upOf l k = up := hup
  have hsz := (hok _ hxl).2
  have hsz : up.size <= 1000000 := hsz
  obtain ⟨b, off, hA, _, _⟩ := hl.get (by omega)
  subst hA
  refine wl_set 6 (v' := .int .i64 ((j : Nat) : Int)) rfl (congrArg (Value.int .i64) hj) ?_
  refine wl_guard_on rfl rfl rfl (mv_ rfl (wl_guard_on rfl rfl rfl (mv_ rfl (wl_guard_on rfl rfl rfl ?_))))
  refine wl_ov (ov_index (j := j) es58 rfl rfl (by omega)) rfl ?_
  refine wl_guard_on rfl rfl rfl (fd_ fo158_1 rfl rfl (wl_guard_on rfl rfl rfl ?_))
  refine wl_ov (ov_elem1 (k := 1) (v := .string up) sc9 rfl (fun _ hm => (hm.fact 0 rfl).1) hx rfl rfl) rfl ?_
  refine wl_guard_on rfl rfl rfl (wl_ov (ov_sneq rfl rfl) rfl (pt_ rfl rfl (mv_ rfl ?_)))
  rcases Bool.eq_false_or_eq_true (!(up.toList == (⟨#[]⟩ : ByteArray).toList)) with hq | hq
  ·refine wl_set 20 rfl (congrArg Value.bool hq) ?_
   have hue : emptyS (upOf l k) = false := by rw [hup]; unfold emptyS; simpa only [Bool.not_eq_true'] using hq
   refine wl_guard_on rfl rfl rfl (mv_ rfl (wl_guard_on rfl rfl rfl (wl_ov (ov_len es103 rfl) rfl (wl_guard_on rfl rfl rfl (mv_ rfl (wl_guard_on rfl rfl rfl (wl_ov (ov_len es58 rfl) rfl (wl_guard_on rfl rfl rfl (wl_ov (ov_leq rfl rfl) rfl (pt_ rfl rfl (nn_ ?_)))))))))))
   refine gw_cond rfl (fun hh => ?_) (fun hh => ?_)
   ·have hcnt : ((i : Nat) : Int) <= ((n : Nat) : Int) := by simpa using hh
    clear hh
    refine gw_skip (nx_then (gw_seq (gw_block (gw_region (mv_ rfl (mv_ rfl (mv_ rfl ?_)))))))
    refine wl_ov (ov_index (j := j) es58 rfl rfl (by omega)) rfl ?_
    refine fd_ fo158_1 rfl rfl ?_
    refine wl_ov (ov_elem1 (k := 1) (v := .string up) sc9 rfl (fun _ hm => (hm.fact 0 rfl).1) hx rfl rfl) rfl ?_
    refine wl_buildSlice (e := 9) (cs := [.string up]) rfl (by kernel_rfl) rfl fun g1 => ?_
    refine wl_append (news := [.string up]) 0 0 ap103 rfl rfl rfl rfl rfl rfl rfl (by omega) (by unfold maxLen; omega) rfl rfl fun v2 hv2 => ?_
    refine sg_ rfl (wl_nil (nx_blk_nrm (nx_then (gw_region (mv_ rfl (mv_ rfl (mv_ rfl ?_)))))))
    refine wl_ov (ov_index (j := j) es58 rfl rfl (by omega)) rfl ?_
    refine fd_ fo158_1 rfl rfl ?_
    refine wl_ov (ov_elem1 (k := 1) (v := .string up) sc9 rfl (fun _ hm => (hm.fact 0 rfl).1) hx rfl rfl) rfl ?_
    refine wl_callv rfl cb153 rfl rfl (fun wx hm => (rClassAt_any l _ n c up wx (hm.fact 0 rfl).1 hn)) ?_
    refine sg_ rfl (wl_nil ?_)
    have hpm := path_more hue (show i < n + 1 by omega)
    rw [hup] at hpm
    exact nx_round (i + 1, up, v2, done ++ [up], done.flatMap sgEnc ++ ([.string up] : List Value)) ⟨by dsimp only; omega, by simp [hdl], by dsimp only; rw [<- hdp, hpm, List.append_assoc]; rfl, by simp [sgEnc]⟩ (by dsimp only; omega) ⟨rfl, rfl, rfl, rfl, trivial⟩ (fun _ hm => hm.pick [] [0] [0] rfl rfl)
   have hcnt : ¬ (((i : Nat) : Int) <= ((n : Nat) : Int)) := by simpa using hh
   clear hh
   refine gw_exit ?_
   refine nx_then_exit (nx_then_exit ?_)
   refine nx_blk_here ?_
   refine nx_then (sr_ (mv_ rfl (sg_ rfl (nn_ ?_))))
   refine gw_ret ?_
   have hin : i = n + 1 := by omega
   have hall : done = pathN l (n + 1) k0 := by rw [<- hdp, hin, Nat.sub_self]; exact (List.append_nil _).symm
   refine nx_ret1 rfl rfl fun wx hm => ?_
   exact ⟨A2, i, c2, rfl, by rw [<- hall]; exact hm.ownI 0 rfl, by rw [<- hall]; exact hdl, hm.g⟩
  refine wl_set 20 rfl (congrArg Value.bool hq) ?_
  refine goff rfl rfl rfl (goff rfl rfl rfl (goff rfl rfl rfl (goff rfl rfl rfl (goff rfl rfl rfl (pf_ rfl rfl (nn_ (cf_ rfl ?_)))))))
  refine gw_exit ?_
  refine nx_then_exit (nx_then_exit ?_)
  refine nx_blk_here ?_
  refine nx_then (sr_ (mv_ rfl (sg_ rfl (nn_ ?_))))
  refine gw_ret ?_
  have hall : done = pathN l (n + 1) k0 := by rw [<- hdp, path_stop (by rw [hup]; unfold emptyS; simpa only [Bool.not_eq_false'] using hq), List.append_nil]
  refine nx_ret1 rfl rfl fun wx hm => ?_
  exact ⟨A2, i, c2, rfl, by rw [<- hall]; exact hm.ownI 0 rfl, by rw [<- hall]; exact hdl, hm.g⟩
 refine wl_set 12 rfl (congrArg Value.bool hik) ?_
 refine goff rfl rfl rfl (goff rfl rfl rfl (goff rfl rfl rfl (goff rfl rfl rfl (goff rfl rfl rfl (goff rfl rfl rfl (pf_ rfl rfl (mv_ rfl (goff rfl rfl rfl (goff rfl rfl rfl (goff rfl rfl rfl (goff rfl rfl rfl (goff rfl rfl rfl (pf_ rfl rfl ?_)))))))))))))
 refine nn_ (cf_ rfl ?_)
 refine gw_exit ?_
 refine nx_then_exit (nx_then_exit ?_)
 refine nx_blk_here ?_
 refine nx_then (sr_ (mv_ rfl (sg_ rfl (nn_ ?_))))
 refine gw_ret ?_
 have hik := of_decide_eq_false hik
 have hall : done = pathN l (n + 1) k0 := by rw [<- hdp, path_stop (upOf_no (by omega)), List.append_nil]
 refine nx_ret1 rfl rfl fun wx hm => ?_
 exact ⟨A2, i, c2, rfl, by rw [<- hall]; exact hm.ownI 0 rfl, by rw [<- hall]; exact hdl, hm.g⟩
theorem checkClasses_any (l : List Cs) (A : Option Addr) (n c : Nat) (w : World) (hl : SlT csEnc 2 158 w A n l) (hok : ∀ x ∈ l, CsOk x) (hn : n <= 1000000) :
  Calls Tryz.prog 208 #[.slice A n c] w (GotE w (classesE l)) := by
 refine gw_enter ⟨80, w, none, []⟩ Tryz.func208 rfl Tryz.ntmps208 rfl (mem0 (X := [SlOld csEnc 2 158 w.heap.size none A n l]) (allF_cons hl.old allF_nil) (allL_cons SlOld.lasts allL_nil)) ?_
 refine sr_ ?_
 have hlen := hl.len
 refine sg_ rfl (nn_ (gw_seq (sr_ (mv_ rfl (wl_ov (ov_len es58 rfl) rfl ?_)))))
 refine wl_ov (ov_gtr rfl rfl) rfl ?_
 refine nn_ ?_
 refine gw_cond rfl (fun hh => ?_) (fun hh => ?_)
 ·have h1 : 30 < ((n : Nat) : Int) := by simpa using hh
  clear hh
  refine sr_ (sg_ rfl (nn_ ?_))
  refine gw_ret ?_
  refine nx_then_ret ?_
  refine nx_ret1 rfl rfl fun wx hm => ?_
  exact ⟨ret_int (by unfold classesE; rw [if_pos (by omega)]), hm.g⟩
 have h1 : ¬ (30 < ((n : Nat) : Int)) := by simpa using hh
 clear hh
 refine gw_skip (nx_then (gw_seq (sr_ ?_)))
 have h30 : ¬ 30 < l.length := by omega
 refine mv_ rfl (wl_ov (ov_len es58 rfl) rfl (mv_ rfl (nn_ (gw_block ?_))))
 refine gw_loop (γ := Nat) (fun (k : Nat) => k <= n /\ scanE csE none l = scanE csE (prevOf l k) (l.drop k)) (fun (k : Nat) => [(0, .slice A n c), (12, .slice A n c), (13, .int .i64 ((n : Nat) : Int)), (14, .int .i64 ((k : Nat) : Int))]) (fun (k : Nat) => fun _ => True) (fun (k : Nat) => []) (fun (k : Nat) => []) (fun (k : Nat) => [SlOld csEnc 2 158 w.heap.size none A n l]) (fun (k : Nat) => n - k) 0 ⟨Nat.zero_le _, rfl⟩ ⟨rfl, rfl, rfl, rfl, trivial⟩ (fun _ hm => hm.pick [] [] [0] rfl rfl) ?_
 intro k hinv
 replace hinv : k <= n /\ scanE csE none l = scanE csE (prevOf l k) (l.drop k) := hinv
 refine sr_ (wl_ov (ov_lss rfl rfl) rfl (nn_ (gw_seq ?_)))
 refine gw_cond rfl (fun hh => ?_) (fun hh => ?_)
 ·have hk : ((k : Nat) : Int) < ((n : Nat) : Int) := by simpa using hh
  clear hh
  refine gw_skip (nx_then (gw_seq (gw_block (sr_ ?_))))
  obtain ⟨b, off, hA, _, _⟩ := hl.get (by omega)
  subst hA
  obtain ⟨x, hx⟩ : ∃ x, l[k]? = some x := ⟨_, List.getElem?_eq_getElem (by omega)⟩
  obtain ⟨ke, up⟩ := x
  have hat := scanE_at csE l k _ hx
  have hk1 : ke.size <= 1000000 := (hok _ (List.mem_of_getElem? hx)).1
  have hk2 : up.size <= 1000000 := (hok _ (List.mem_of_getElem? hx)).2
  refine mv_ rfl ?_
  refine wl_ov (ov_index (j := k) es58 rfl rfl (by omega)) rfl ?_
  refine wl_ov (ov_elem (vs := [.string ke, .string up]) rz158 rfl (fun _ hm => (hm.fact 0 rfl).1) hx rfl rfl) rfl ?_
  refine wl_alloc zc158 rfl fun g1 => ?_
  refine sg_ rfl ?_
  refine wl_stores (cs' := [.string ke, .string up]) 0 rz158 rfl rfl rfl rfl rfl rfl rfl rfl ?_
  refine nn_ (gw_block (sr_ (fd_ fo158_0 rfl rfl (lk_ sc9 0 rfl rfl rfl ?_))))
  refine wl_callw rfl cb69 rfl rfl (fun wx hm => (isKey_any _ wx (by omega))) ?_
  refine wl_ov (ov_un_not rfl) rfl (sg_ rfl (nn_ ?_))
  refine gw_cond rfl (fun hh => ?_) (fun hh => ?_)
  ·have h2 : (keyB ke) = false := by simpa using hh
   clear hh
   refine sr_ (sg_ rfl (nn_ ?_))
   refine gw_ret ?_
   refine nx_blk_ret (nx_blk_ret (nx_then_ret (nx_then_ret (nx_blk_ret (nx_then_ret ?_)))))
   have hE : csE (prevOf l k) ⟨ke, up⟩ = 5 := by unfold csE; simp [h2]
   refine nx_ret1 rfl rfl fun wx hm => ?_
   exact ⟨ret_int (by rw [cls_scan h30 (v := 5) (by rw [hinv.2, hat, if_neg (by rw [hE]; decide), hE]) (by decide)]), hm.g⟩
  have h2 : (keyB ke) = true := by simpa using hh
  clear hh
  refine gw_seq ?_
  by_cases hk0 : k = 0
  ·have hO : leCs (prevOf l k) ⟨ke, up⟩ = false := by rw [prevOf_zero hk0]; rfl
   refine gd (fun wz => Blk wz g1 158 [.string ke, .string up] /\ (SlOld csEnc 2 158 w.heap.size none (some ⟨b, off, none⟩) n l) wz /\ True) mixed (fun _ hm => ⟨hm.bl 0, hm.fa 0, trivial⟩) fun z => ?_
   refine wt 0 14 1 rfl z (ov_move rfl) ?_
   refine wt 1 14 3 rfl z (ov_gtr rfl rfl) ?_
   refine wa_set 26 (v' := .bool false) rfl (congrArg Value.bool (decide_eq_false (by omega))) ?_
   refine wt 2 14 7 rfl z (ov_move rfl) ?_
   refine wtf 3 14 15 rfl rfl rfl z ?_
   refine wtf 4 14 31 rfl rfl rfl z ?_
   refine wtf 5 14 63 rfl rfl rfl z ?_
   refine wtf 6 14 127 rfl rfl rfl z ?_
   refine wtf 7 14 255 rfl rfl rfl z ?_
   refine wtf 8 14 511 rfl rfl rfl z ?_
   refine wtf 9 14 1023 rfl rfl rfl z ?_
   refine wtf 10 14 2047 rfl rfl rfl z ?_
   refine wtf 11 14 4095 rfl rfl rfl z ?_
   refine wt 12 14 8191 rfl z (ov_pick_f rfl rfl) ?_
   refine wt 13 14 16383 rfl z (ov_assign rfl) ?_
   refine wa_done (by kernel_rfl) ?_
   refine nx_then (cf_ rfl (sr_ (fd_ fo158_1 rfl rfl (lk_ sc9 0 rfl rfl rfl (wl_ov (ov_sneq rfl rfl) rfl (mv_ rfl ?_))))))
   rcases Bool.eq_false_or_eq_true (!(up.toList == (⟨#[]⟩ : ByteArray).toList)) with h31 | h31
   ·refine wl_set 42 rfl (congrArg Value.bool h31) ?_
    have h31 : emptyS up = false := by unfold emptyS; simpa only [Bool.not_eq_true'] using h31
    refine wl_guard_on rfl rfl rfl (fd_ fo158_1 rfl rfl (wl_guard_on rfl rfl rfl (lk_ sc9 0 rfl rfl rfl (wl_guard_on rfl rfl rfl ?_))))
    refine wl_callw rfl cb69 rfl rfl (fun wx hm => (isKey_any _ wx (by omega))) ?_
    refine wl_guard_on rfl rfl rfl (wl_ov (ov_un_not rfl) rfl (pt_ rfl rfl (sg_ rfl (nn_ ?_))))
    refine gw_cond rfl (fun hh => ?_) (fun hh => ?_)
    ·have h32 : (keyB up) = false := by simpa using hh
     clear hh
     refine sr_ (sg_ rfl (nn_ ?_))
     refine gw_ret ?_
     refine nx_blk_ret (nx_blk_ret (nx_then_ret (nx_then_ret (nx_blk_ret (nx_then_ret ?_)))))
     have hE : csE (prevOf l k) ⟨ke, up⟩ = 5 := by unfold csE; simp [h2, hO, h31, h32]
     refine nx_ret1 rfl rfl fun wx hm => ?_
     exact ⟨ret_int (by rw [cls_scan h30 (v := 5) (by rw [hinv.2, hat, if_neg (by rw [hE]; decide), hE]) (by decide)]), hm.g⟩
    have h32 : (keyB up) = true := by simpa using hh
    clear hh
    refine gw_skip (nx_blk_nrm (nx_blk_nrm (nx_then (gw_region ?_))))
    have hE : csE (prevOf l k) ⟨ke, up⟩ = 0 := by unfold csE; simp [h2, hO, h31, h32]
    refine ad_ rfl rfl (mv_ rfl (wl_nil ?_))
    exact nx_round (k + 1) ⟨by omega, by rw [hinv.2, hat, if_pos hE]⟩ (by omega) ⟨rfl, rfl, rfl, (some_int (by omega)), trivial⟩ (fun _ hm => hm.pick [] [] [0] rfl rfl)
   refine wl_set 42 rfl (congrArg Value.bool h31) ?_
   have h31 : emptyS up = true := by unfold emptyS; simpa only [Bool.not_eq_false'] using h31
   have hE : csE (prevOf l k) ⟨ke, up⟩ = 0 := by unfold csE; simp [h2, hO, h31]
   refine goff rfl rfl rfl (goff rfl rfl rfl (goff rfl rfl rfl (goff rfl rfl rfl (pf_ rfl rfl (sg_ rfl (nn_ (cf_ rfl (gw_skip (nx_blk_nrm (nx_blk_nrm (nx_then (gw_region ?_))))))))))))
   refine ad_ rfl rfl (mv_ rfl (wl_nil ?_))
   exact nx_round (k + 1) ⟨by omega, by rw [hinv.2, hat, if_pos hE]⟩ (by omega) ⟨rfl, rfl, rfl, (some_int (by omega)), trivial⟩ (fun _ hm => hm.pick [] [] [0] rfl rfl)
  obtain ⟨y, hy⟩ : ∃ x, l[k - 1]? = some x := ⟨_, List.getElem?_eq_getElem (by omega)⟩
  obtain ⟨p0, p1⟩ := y
  refine gd (fun wz => Blk wz g1 158 [.string ke, .string up] /\ (SlOld csEnc 2 158 w.heap.size none (some ⟨b, off, none⟩) n l) wz /\ True) mixed (fun _ hm => ⟨hm.bl 0, hm.fa 0, trivial⟩) fun z => ?_
  refine wt 0 14 1 rfl z (ov_move rfl) ?_
  refine wt 1 14 3 rfl z (ov_gtr rfl rfl) ?_
  refine wa_set 26 (v' := .bool true) rfl (congrArg Value.bool (decide_eq_true (by omega))) ?_
  refine wt 2 14 7 rfl z (ov_move rfl) ?_
  refine wto 3 14 15 rfl rfl rfl z (ov_field fo158_0 rfl rfl) ?_
  refine wto 4 14 31 rfl rfl rfl z (ov_load sc9 rfl (fun _ hm => hm.1) rfl) ?_
  refine wto 5 14 63 rfl rfl rfl z (ov_move rfl) ?_
  refine wto 6 14 127 rfl rfl rfl z (ov_move rfl) ?_
  refine wto 7 14 255 rfl rfl rfl z (ov_sub rfl rfl (by omega) (by omega)) ?_
  refine wa_set 32 (v' := .int .i64 ((k - 1 : Nat) : Int)) rfl (congrArg (Value.int .i64) (by omega)) ?_
  refine wto 8 14 511 rfl rfl rfl z (ov_index (j := k - 1) es58 rfl rfl (by omega)) ?_
  refine wto 9 14 1023 rfl rfl rfl z (ov_field fo158_0 rfl rfl) ?_
  refine wto 10 14 2047 rfl rfl rfl z (ov_elem1 (k := 0) (v := .string p0) sc9 rfl (fun _ hm => (hm.2.1).1) hy rfl rfl) ?_
  refine wto 11 14 4095 rfl rfl rfl z (ov_sleq rfl rfl) ?_
  refine wt 12 14 8191 rfl z (ov_pick_t rfl rfl) ?_
  refine wt 13 14 16383 rfl z (ov_assign rfl) ?_
  refine wa_done (by kernel_rfl) ?_
  refine nx_then ?_
  refine gw_cond rfl (fun hh => ?_) (fun hh => ?_)
  ·have h9 : (Op.bytesLess ke.toList p0.toList || ke.toList == p0.toList) = true := by simpa using hh
   clear hh
   refine sr_ ?_
   have hO : leCs (prevOf l k) ⟨ke, up⟩ = true := by rw [prevOf_pos hk0 hy]; exact h9
   refine sg_ rfl (nn_ ?_)
   refine gw_ret ?_
   refine nx_blk_ret (nx_blk_ret (nx_then_ret (nx_then_ret (nx_blk_ret (nx_then_ret ?_)))))
   have hE : csE (prevOf l k) ⟨ke, up⟩ = 7 := by unfold csE; simp [h2, hO]
   refine nx_ret1 rfl rfl fun wx hm => ?_
   exact ⟨ret_int (by rw [cls_scan h30 (v := 7) (by rw [hinv.2, hat, if_neg (by rw [hE]; decide), hE]) (by decide)]), hm.g⟩
  have h9 : (Op.bytesLess ke.toList p0.toList || ke.toList == p0.toList) = false := by simpa using hh
  clear hh
  refine sr_ ?_
  have hO : leCs (prevOf l k) ⟨ke, up⟩ = false := by rw [prevOf_pos hk0 hy]; exact h9
  refine fd_ fo158_1 rfl rfl (lk_ sc9 0 rfl rfl rfl (wl_ov (ov_sneq rfl rfl) rfl (mv_ rfl ?_)))
  rcases Bool.eq_false_or_eq_true (!(up.toList == (⟨#[]⟩ : ByteArray).toList)) with h31 | h31
  ·refine wl_set 42 rfl (congrArg Value.bool h31) ?_
   have h31 : emptyS up = false := by unfold emptyS; simpa only [Bool.not_eq_true'] using h31
   refine wl_guard_on rfl rfl rfl (fd_ fo158_1 rfl rfl (wl_guard_on rfl rfl rfl (lk_ sc9 0 rfl rfl rfl (wl_guard_on rfl rfl rfl ?_))))
   refine wl_callw rfl cb69 rfl rfl (fun wx hm => (isKey_any _ wx (by omega))) ?_
   refine wl_guard_on rfl rfl rfl (wl_ov (ov_un_not rfl) rfl (pt_ rfl rfl (sg_ rfl (nn_ ?_))))
   refine gw_cond rfl (fun hh => ?_) (fun hh => ?_)
   ·have h32 : (keyB up) = false := by simpa using hh
    clear hh
    refine sr_ (sg_ rfl (nn_ ?_))
    refine gw_ret ?_
    refine nx_blk_ret (nx_blk_ret (nx_then_ret (nx_then_ret (nx_blk_ret (nx_then_ret ?_)))))
    have hE : csE (prevOf l k) ⟨ke, up⟩ = 5 := by unfold csE; simp [h2, hO, h31, h32]
    refine nx_ret1 rfl rfl fun wx hm => ?_
    exact ⟨ret_int (by rw [cls_scan h30 (v := 5) (by rw [hinv.2, hat, if_neg (by rw [hE]; decide), hE]) (by decide)]), hm.g⟩
   have h32 : (keyB up) = true := by simpa using hh
   clear hh
   refine gw_skip (nx_blk_nrm (nx_blk_nrm (nx_then (gw_region ?_))))
   have hE : csE (prevOf l k) ⟨ke, up⟩ = 0 := by unfold csE; simp [h2, hO, h31, h32]
   refine ad_ rfl rfl (mv_ rfl (wl_nil ?_))
   exact nx_round (k + 1) ⟨by omega, by rw [hinv.2, hat, if_pos hE]⟩ (by omega) ⟨rfl, rfl, rfl, (some_int (by omega)), trivial⟩ (fun _ hm => hm.pick [] [] [0] rfl rfl)
  refine wl_set 42 rfl (congrArg Value.bool h31) ?_
  have h31 : emptyS up = true := by unfold emptyS; simpa only [Bool.not_eq_false'] using h31
  have hE : csE (prevOf l k) ⟨ke, up⟩ = 0 := by unfold csE; simp [h2, hO, h31]
  refine goff rfl rfl rfl (goff rfl rfl rfl (goff rfl rfl rfl (goff rfl rfl rfl (pf_ rfl rfl (sg_ rfl (nn_ (cf_ rfl (gw_skip (nx_blk_nrm (nx_blk_nrm (nx_then (gw_region ?_))))))))))))
  refine ad_ rfl rfl (mv_ rfl (wl_nil ?_))
  exact nx_round (k + 1) ⟨by omega, by rw [hinv.2, hat, if_pos hE]⟩ (by omega) ⟨rfl, rfl, rfl, (some_int (by omega)), trivial⟩ (fun _ hm => hm.pick [] [] [0] rfl rfl)
 have hk : ¬ (((k : Nat) : Int) < ((n : Nat) : Int)) := by simpa using hh
 clear hh
 refine gw_exit ?_
 refine nx_then_exit (nx_then_exit ?_)
 refine nx_blk_here ?_
 refine nx_then (gw_seq (sr_ ?_))
 have hsc : scanE csE none l = 0 := by rw [hinv.2, scanE_end _ _ _ _ (by omega)]
 clear hinv hk
 refine mv_ rfl (wl_ov (ov_len es58 rfl) rfl (mv_ rfl (nn_ (gw_block ?_))))
 refine gw_loop (γ := Nat) (fun (k2 : Nat) => k2 <= n /\ l.any (upB l) = (l.drop k2).any (upB l)) (fun (k2 : Nat) => [(0, .slice A n c), (49, .slice A n c), (50, .int .i64 ((n : Nat) : Int)), (51, .int .i64 ((k2 : Nat) : Int))]) (fun (k2 : Nat) => fun _ => True) (fun (k2 : Nat) => []) (fun (k2 : Nat) => []) (fun (k2 : Nat) => [SlOld csEnc 2 158 w.heap.size none A n l]) (fun (k2 : Nat) => n - k2) 0 ⟨Nat.zero_le _, rfl⟩ ⟨rfl, rfl, rfl, rfl, trivial⟩ (fun _ hm => hm.pick [] [] [0] rfl rfl) ?_
 intro k2 hinv
 replace hinv : k2 <= n /\ l.any (upB l) = (l.drop k2).any (upB l) := hinv
 refine sr_ (wl_ov (ov_lss rfl rfl) rfl (nn_ (gw_seq ?_)))
 refine gw_cond rfl (fun hh => ?_) (fun hh => ?_)
 ·have hk : ((k2 : Nat) : Int) < ((n : Nat) : Int) := by simpa using hh
  clear hh
  refine gw_skip (nx_then (gw_seq (gw_block (sr_ ?_))))
  obtain ⟨b, off, hA, _, _⟩ := hl.get (by omega)
  subst hA
  obtain ⟨x, hx⟩ : ∃ x, l[k2]? = some x := ⟨_, List.getElem?_eq_getElem (by omega)⟩
  obtain ⟨ke, up⟩ := x
  have hat := any_at (p := upB l) hx
  have hk2 : up.size <= 1000000 := (hok _ (List.mem_of_getElem? hx)).2
  refine wl_ov (ov_index (j := k2) es58 rfl rfl (by omega)) rfl ?_
  refine wl_ov (ov_elem (vs := [.string ke, .string up]) rz158 rfl (fun _ hm => (hm.fact 0 rfl).1) hx rfl rfl) rfl ?_
  refine wl_alloc zc158 rfl fun g2 => ?_
  refine wl_stores (cs' := [.string ke, .string up]) 0 rz158 rfl rfl rfl rfl rfl rfl rfl rfl ?_
  refine nn_ (sr_ (fd_ fo158_1 rfl rfl (lk_ sc9 0 rfl rfl rfl (wl_ov (ov_sneq rfl rfl) rfl (mv_ rfl ?_)))))
  rcases Bool.eq_false_or_eq_true (!(up.toList == (⟨#[]⟩ : ByteArray).toList)) with h31 | h31
  ·refine wl_set 58 rfl (congrArg Value.bool h31) ?_
   have h31 : emptyS up = false := by unfold emptyS; simpa only [Bool.not_eq_true'] using h31
   refine wl_guard_on rfl rfl rfl (mv_ rfl (wl_guard_on rfl rfl rfl (fd_ fo158_1 rfl rfl (wl_guard_on rfl rfl rfl (lk_ sc9 0 rfl rfl rfl (wl_guard_on rfl rfl rfl ?_))))))
   refine wl_callv rfl cb209 rfl rfl (fun wx hm => (classAt_any l _ n c up wx (hm.fact 0 rfl).1 (by omega))) ?_
   refine wl_guard_on rfl rfl rfl (wl_ov (ov_lss rfl rfl) rfl (pt_ rfl rfl (nn_ ?_)))
   refine gw_cond rfl (fun hh => ?_) (fun hh => ?_)
   ·have h32 : ixP (csP up) l 0 < 0 := by simpa using hh
    clear hh
    refine sr_ (sg_ rfl (nn_ ?_))
    refine gw_ret ?_
    refine nx_blk_ret (nx_then_ret (nx_then_ret (nx_blk_ret (nx_then_ret ?_))))
    have hE : upB l ⟨ke, up⟩ = true := by unfold upB; simp [h31, h32]
    refine nx_ret1 rfl rfl fun wx hm => ?_
    exact ⟨ret_int (by rw [cls_up h30 hsc (by rw [hinv.2, hat, hE]; rfl)]), hm.g⟩
   have h32 : ¬ (ixP (csP up) l 0 < 0) := by simpa using hh
   clear hh
   refine gw_skip (nx_blk_nrm (nx_then (gw_region ?_)))
   have hE : upB l ⟨ke, up⟩ = false := by unfold upB; simp [h31]; omega
   refine ad_ rfl rfl (mv_ rfl (wl_nil ?_))
   exact nx_round (k2 + 1) ⟨by omega, by rw [hinv.2, hat, hE]; rfl⟩ (by omega) ⟨rfl, rfl, rfl, (some_int (by omega)), trivial⟩ (fun _ hm => hm.pick [] [] [0] rfl rfl)
  refine wl_set 58 rfl (congrArg Value.bool h31) ?_
  have h31 : emptyS up = true := by unfold emptyS; simpa only [Bool.not_eq_false'] using h31
  have hE : upB l ⟨ke, up⟩ = false := by unfold upB; simp [h31]
  refine goff rfl rfl rfl (goff rfl rfl rfl (goff rfl rfl rfl (goff rfl rfl rfl (goff rfl rfl rfl (pf_ rfl rfl (nn_ (cf_ rfl (gw_skip (nx_blk_nrm (nx_then (gw_region (ad_ rfl rfl ?_))))))))))))
  refine mv_ rfl (wl_nil ?_)
  exact nx_round (k2 + 1) ⟨by omega, by rw [hinv.2, hat, hE]; rfl⟩ (by omega) ⟨rfl, rfl, rfl, (some_int (by omega)), trivial⟩ (fun _ hm => hm.pick [] [] [0] rfl rfl)
 have hk : ¬ (((k2 : Nat) : Int) < ((n : Nat) : Int)) := by simpa using hh
 clear hh
 refine gw_exit ?_
 refine nx_then_exit (nx_then_exit ?_)
 refine nx_blk_here ?_
 refine nx_then (gw_seq (sr_ ?_))
 have hup : l.any (upB l) = false := by rw [hinv.2, any_end (by omega)]
 clear hinv hk
 have hcl := closed_of hup
 have hlo := cls_loop h30 hsc hup
 refine mv_ rfl (wl_ov (ov_len es58 rfl) rfl (mv_ rfl (nn_ (gw_block ?_))))
 refine gw_loop (γ := Nat) (fun (k3 : Nat) => k3 <= n /\ l.any (fun x => inK x.key (pathN l (n) x.key)) = (l.drop k3).any (fun x => inK x.key (pathN l (n) x.key))) (fun (k3 : Nat) => [(0, .slice A n c), (66, .slice A n c), (67, .int .i64 ((n : Nat) : Int)), (68, .int .i64 ((k3 : Nat) : Int))]) (fun (k3 : Nat) => fun _ => True) (fun (k3 : Nat) => []) (fun (k3 : Nat) => []) (fun (k3 : Nat) => [SlOld csEnc 2 158 w.heap.size none A n l]) (fun (k3 : Nat) => n - k3) 0 ⟨Nat.zero_le _, rfl⟩ ⟨rfl, rfl, rfl, rfl, trivial⟩ (fun _ hm => hm.pick [] [] [0] rfl rfl) ?_
 intro k3 hinv
 replace hinv : k3 <= n /\ l.any (fun x => inK x.key (pathN l (n) x.key)) = (l.drop k3).any (fun x => inK x.key (pathN l (n) x.key)) := hinv
 refine sr_ ?_
 have hlo2 : classesE l = if l.any (fun x => inK x.key (pathN l (n) x.key)) = true then 14 else 0 := by rw [hlo]; unfold loopB; rw [hlen]
 refine wl_ov (ov_lss rfl rfl) rfl (nn_ (gw_seq ?_))
 refine gw_cond rfl (fun hh => ?_) (fun hh => ?_)
 ·have hk : ((k3 : Nat) : Int) < ((n : Nat) : Int) := by simpa using hh
  clear hh
  refine gw_skip (nx_then (gw_seq (gw_block (sr_ ?_))))
  obtain ⟨b, off, hA, _, _⟩ := hl.get (by omega)
  subst hA
  obtain ⟨x, hx⟩ : ∃ x, l[k3]? = some x := ⟨_, List.getElem?_eq_getElem (by omega)⟩
  obtain ⟨ke, up⟩ := x
  have hat := any_at (p := (fun x => inK x.key (pathN l (n) x.key))) hx
  have hk2 : ke.size <= 1000000 := (hok _ (List.mem_of_getElem? hx)).1
  have hix : 0 <= ixP (csP ke) l 0 := by
   rcases ixP_spec (p := csP ke) l 0 with ⟨_, h⟩ | ⟨j, x, h, _⟩
   ·have := h _ (List.mem_of_getElem? hx)
    simp [csP] at this
   omega
  refine wl_ov (ov_index (j := k3) es58 rfl rfl (by omega)) rfl ?_
  refine wl_ov (ov_elem (vs := [.string ke, .string up]) rz158 rfl (fun _ hm => (hm.fact 0 rfl).1) hx rfl rfl) rfl ?_
  refine wl_alloc zc158 rfl fun g3 => ?_
  refine wl_stores (cs' := [.string ke, .string up]) 0 rz158 rfl rfl rfl rfl rfl rfl rfl rfl ?_
  refine nn_ (gw_seq ?_)
  refine gd (fun wz => Blk wz g3 158 [.string ke, .string up] /\ (SlOld csEnc 2 158 w.heap.size none (some ⟨b, off, none⟩) n l) wz /\ True) mixed (fun _ hm => ⟨hm.bl 0, hm.fa 0, trivial⟩) fun z => ?_
  refine wt 0 7 1 rfl z (ov_move rfl) ?_
  refine wt 1 7 3 rfl z (ov_field fo158_0 rfl rfl) ?_
  refine wt 2 7 7 rfl z (ov_load sc9 rfl (fun _ hm => hm.1) rfl) ?_
  refine wt 4 7 23 rfl z (ov_field fo158_0 rfl rfl) ?_
  refine wt 5 7 55 rfl z (ov_load sc9 rfl (fun _ hm => hm.1) rfl) ?_
  refine wa1 3 rfl ?_
  refine wl_callgo (γ := Option Addr × Nat × Nat) (val := (fun g => .slice g.1 g.2.1 g.2.2)) (φ := (fun g => (pathN l (n) ke).length = g.2.1)) (fun g => ⟨.slice g.1 g.2.1 g.2.2, 9, 1, g.2.1, (pathN l (n) ke).flatMap sgEnc⟩) rfl cb239 rfl rfl (fun wx hm => (above_any l _ n c ke wx (hm.fact 0 rfl).1 hcl hix (by omega)).mono fun _ _ ⟨A2, n2, c2, he, ho, hl2, hg⟩ => ⟨(A2, n2, c2), he, hl2, ho, hg⟩) ?_
  rintro ⟨A2, n2, c2⟩ hpl
  dsimp only at hpl ⊢
  have hpb := pathN_len l (n) ke
  refine wl_nil ?_
  refine nw 7 63 (fun _ hm => ⟨hm.bl 0, hm.fa 0, trivial⟩) fun z => ?_
  refine wa1 6 rfl ?_
  refine wl_callv rfl cb180 rfl rfl (fun wx hm => (contains_str (pathN l (n) ke) A2 n2 c2 ke wx (SlT.ofOwn sg_len (hm.ownI 0 rfl) hpl) (by omega))) ?_
  refine wl_nil ?_
  refine nw 7 127 (fun _ hm => ⟨hm.bl 0, hm.fa 0, trivial⟩) fun z => ?_
  refine wa_done (by kernel_rfl) ?_
  refine nx_then ?_
  refine gw_cond rfl (fun hh => ?_) (fun hh => ?_)
  ·have h33 : (inK ke (pathN l (n) ke)) = true := by simpa using hh
   clear hh
   refine sr_ (sg_ rfl (nn_ ?_))
   refine gw_ret ?_
   refine nx_blk_ret (nx_then_ret (nx_then_ret (nx_blk_ret (nx_then_ret ?_))))
   refine nx_ret1 rfl rfl fun wx hm => ?_
   exact ⟨ret_int (by rw [hlo2, if_pos (by rw [hinv.2, hat, h33]; rfl)]), hm.g⟩
  have h33 : (inK ke (pathN l (n) ke)) = false := by simpa using hh
  clear hh
  refine gw_skip (nx_blk_nrm (nx_then (gw_region (ad_ rfl rfl (mv_ rfl (wl_nil ?_))))))
  exact nx_round (k3 + 1) ⟨by omega, by rw [hinv.2, hat, h33]; rfl⟩ (by omega) ⟨rfl, rfl, rfl, (some_int (by omega)), trivial⟩ (fun _ hm => hm.pick [] [] [0] rfl rfl)
 have hk : ¬ (((k3 : Nat) : Int) < ((n : Nat) : Int)) := by simpa using hh
 clear hh
 refine gw_exit ?_
 refine nx_then_exit (nx_then_exit ?_)
 refine nx_blk_here ?_
 refine nx_then (sr_ (sg_ rfl (nn_ ?_)))
 refine gw_ret ?_
 refine nx_ret1 rfl rfl fun wx hm => ?_
 exact ⟨ret_int (by rw [hlo2, if_neg (by rw [hinv.2, any_end (by omega)]; decide)]), hm.g⟩
theorem classesFault_any (l : List Cs) (A : Option Addr) (n c : Nat) (w : World) (hl : SlT csEnc 2 158 w A n l) (hok : ∀ x ∈ l, CsOk x) (hn : n <= 1000000) :
  Calls Tryz.prog 148 #[.slice A n c] w (GotE w (classesE l)) := by
 refine gw_enter ⟨73, w, none, []⟩ Tryz.func148 rfl Tryz.ntmps148 rfl (mem0 (X := [SlOld csEnc 2 158 w.heap.size none A n l]) (allF_cons hl.old allF_nil) (allL_cons SlOld.lasts allL_nil)) ?_
 refine sr_ ?_
 have hlen := hl.len
 refine sg_ rfl (nn_ (gw_seq (sr_ (mv_ rfl (wl_ov (ov_len es58 rfl) rfl ?_)))))
 refine wl_ov (ov_gtr rfl rfl) rfl ?_
 refine nn_ ?_
 refine gw_cond rfl (fun hh => ?_) (fun hh => ?_)
 ·have h1 : 30 < ((n : Nat) : Int) := by simpa using hh
  clear hh
  refine sr_ (sg_ rfl (nn_ ?_))
  refine gw_ret ?_
  refine nx_then_ret ?_
  refine nx_ret1 rfl rfl fun wx hm => ?_
  exact ⟨ret_int (by unfold classesE; rw [if_pos (by omega)]), hm.g⟩
 have h1 : ¬ (30 < ((n : Nat) : Int)) := by simpa using hh
 clear hh
 refine gw_skip (nx_then (sr_ ?_))
 have h30 : ¬ 30 < l.length := by omega
 refine sg_ rfl (nn_ (gw_seq (sr_ (mv_ rfl (wl_ov (ov_len es58 rfl) rfl (mv_ rfl (nn_ (gw_block ?_))))))))
 refine gw_loop (γ := Nat) (fun (k : Nat) => k <= n /\ scanE csE none l = scanE csE (prevOf l k) (l.drop k)) (fun (k : Nat) => [(0, .slice A n c), (3, .string (prevCs l k)), (13, .slice A n c), (14, .int .i64 ((n : Nat) : Int)), (15, .int .i64 ((k : Nat) : Int))]) (fun (k : Nat) => fun _ => True) (fun (k : Nat) => []) (fun (k : Nat) => []) (fun (k : Nat) => [SlOld csEnc 2 158 w.heap.size none A n l]) (fun (k : Nat) => n - k) 0 ⟨Nat.zero_le _, rfl⟩ ⟨rfl, rfl, rfl, rfl, rfl, trivial⟩ (fun _ hm => hm.pick [] [] [0] rfl rfl) ?_
 intro k hinv
 replace hinv : k <= n /\ scanE csE none l = scanE csE (prevOf l k) (l.drop k) := hinv
 refine sr_ (wl_ov (ov_lss rfl rfl) rfl (nn_ (gw_seq ?_)))
 refine gw_cond rfl (fun hh => ?_) (fun hh => ?_)
 ·have hk : ((k : Nat) : Int) < ((n : Nat) : Int) := by simpa using hh
  clear hh
  refine gw_skip (nx_then (gw_seq (gw_block (sr_ ?_))))
  obtain ⟨b, off, hA, _, _⟩ := hl.get (by omega)
  subst hA
  obtain ⟨x, hx⟩ : ∃ x, l[k]? = some x := ⟨_, List.getElem?_eq_getElem (by omega)⟩
  obtain ⟨ke, up⟩ := x
  have hat := scanE_at csE l k _ hx
  have hk1 : ke.size <= 1000000 := (hok _ (List.mem_of_getElem? hx)).1
  have hk2 : up.size <= 1000000 := (hok _ (List.mem_of_getElem? hx)).2
  refine wl_ov (ov_index (j := k) es58 rfl rfl (by omega)) rfl ?_
  refine wl_ov (ov_elem (vs := [.string ke, .string up]) rz158 rfl (fun _ hm => (hm.fact 0 rfl).1) hx rfl rfl) rfl ?_
  refine wl_alloc zc158 rfl fun g1 => ?_
  refine wl_stores (cs' := [.string ke, .string up]) 0 rz158 rfl rfl rfl rfl rfl rfl rfl rfl ?_
  refine nn_ (gw_seq (gw_block (sr_ (fd_ fo158_0 rfl rfl (lk_ sc9 0 rfl rfl rfl ?_)))))
  refine wl_callv rfl cb197 rfl rfl (fun wx hm => (key_any _ wx (by omega))) ?_
  refine wl_ov (ov_un_not rfl) rfl (sg_ rfl (nn_ ?_))
  refine gw_cond rfl (fun hh => ?_) (fun hh => ?_)
  ·have h2 : (keyB ke) = false := by simpa using hh
   clear hh
   refine sr_ (sg_ rfl (nn_ ?_))
   refine gw_ret ?_
   refine nx_blk_ret (nx_then_ret (nx_blk_ret (nx_then_ret (nx_then_ret (nx_blk_ret (nx_then_ret ?_))))))
   have hE : csE (prevOf l k) ⟨ke, up⟩ = 5 := by unfold csE; simp [h2]
   refine nx_ret1 rfl rfl fun wx hm => ?_
   exact ⟨ret_int (by rw [cls_scan h30 (v := 5) (by rw [hinv.2, hat, if_neg (by rw [hE]; decide), hE]) (by decide)]), hm.g⟩
  have h2 : (keyB ke) = true := by simpa using hh
  clear hh
  refine sr_ (fd_ fo158_0 rfl rfl (lk_ sc9 0 rfl rfl rfl (mv_ rfl ?_)))
  refine wl_ov (ov_sleq rfl rfl) rfl ?_
  refine sg_ rfl (nn_ ?_)
  refine gw_cond rfl (fun hh => ?_) (fun hh => ?_)
  ·have h9 : (Op.bytesLess ke.toList (prevCs l k).toList || ke.toList == (prevCs l k).toList) = true := by simpa using hh
   clear hh
   refine sr_ ?_
   have hO : leCs (prevOf l k) ⟨ke, up⟩ = true := (prevCs_le (b := ⟨ke, up⟩) (by simpa using h2)).symm.trans h9
   refine sg_ rfl (nn_ ?_)
   refine gw_ret ?_
   refine nx_blk_ret (nx_then_ret (nx_blk_ret (nx_then_ret (nx_then_ret (nx_blk_ret (nx_then_ret ?_))))))
   have hE : csE (prevOf l k) ⟨ke, up⟩ = 7 := by unfold csE; simp [h2, hO]
   refine nx_ret1 rfl rfl fun wx hm => ?_
   exact ⟨ret_int (by rw [cls_scan h30 (v := 7) (by rw [hinv.2, hat, if_neg (by rw [hE]; decide), hE]) (by decide)]), hm.g⟩
  have h9 : (Op.bytesLess ke.toList (prevCs l k).toList || ke.toList == (prevCs l k).toList) = false := by simpa using hh
  clear hh
  refine sr_ ?_
  have hO : leCs (prevOf l k) ⟨ke, up⟩ = false := (prevCs_le (b := ⟨ke, up⟩) (by simpa using h2)).symm.trans h9
  refine fd_ fo158_1 rfl rfl (lk_ sc9 0 rfl rfl rfl (wl_ov (ov_sneq rfl rfl) rfl (mv_ rfl ?_)))
  rcases Bool.eq_false_or_eq_true (!(up.toList == (⟨#[]⟩ : ByteArray).toList)) with h31 | h31
  ·refine wl_set 33 rfl (congrArg Value.bool h31) ?_
   have h31 : emptyS up = false := by unfold emptyS; simpa only [Bool.not_eq_true'] using h31
   refine wl_guard_on rfl rfl rfl (fd_ fo158_1 rfl rfl (wl_guard_on rfl rfl rfl (lk_ sc9 0 rfl rfl rfl (wl_guard_on rfl rfl rfl ?_))))
   refine wl_callv rfl cb197 rfl rfl (fun wx hm => (key_any _ wx (by omega))) ?_
   refine wl_guard_on rfl rfl rfl (wl_ov (ov_un_not rfl) rfl (pt_ rfl rfl (sg_ rfl (nn_ ?_))))
   refine gw_cond rfl (fun hh => ?_) (fun hh => ?_)
   ·have h32 : (keyB up) = false := by simpa using hh
    clear hh
    refine sr_ (sg_ rfl (nn_ ?_))
    refine gw_ret ?_
    refine nx_blk_ret (nx_then_ret (nx_blk_ret (nx_then_ret (nx_then_ret (nx_blk_ret (nx_then_ret ?_))))))
    have hE : csE (prevOf l k) ⟨ke, up⟩ = 5 := by unfold csE; simp [h2, hO, h31, h32]
    refine nx_ret1 rfl rfl fun wx hm => ?_
    exact ⟨ret_int (by rw [cls_scan h30 (v := 5) (by rw [hinv.2, hat, if_neg (by rw [hE]; decide), hE]) (by decide)]), hm.g⟩
   have h32 : (keyB up) = true := by simpa using hh
   clear hh
   refine gw_skip (nx_blk_nrm (nx_then (gw_region ?_)))
   have hE : csE (prevOf l k) ⟨ke, up⟩ = 0 := by unfold csE; simp [h2, hO, h31, h32]
   refine fd_ fo158_0 rfl rfl (lk_ sc9 0 rfl rfl rfl (sg_ rfl (wl_nil (nx_blk_nrm (nx_then (gw_region (ad_ rfl rfl (mv_ rfl (wl_nil ?_)))))))))
   exact nx_round (k + 1) ⟨by omega, by rw [hinv.2, hat, if_pos hE]⟩ (by omega) ⟨rfl, (congrArg (fun z => some (Value.string z)) (prevCs_succ hx).symm), rfl, rfl, (some_int (by omega)), trivial⟩ (fun _ hm => hm.pick [] [] [0] rfl rfl)
  refine wl_set 33 rfl (congrArg Value.bool h31) ?_
  have h31 : emptyS up = true := by unfold emptyS; simpa only [Bool.not_eq_false'] using h31
  have hE : csE (prevOf l k) ⟨ke, up⟩ = 0 := by unfold csE; simp [h2, hO, h31]
  refine goff rfl rfl rfl (goff rfl rfl rfl (goff rfl rfl rfl (goff rfl rfl rfl (pf_ rfl rfl (sg_ rfl (nn_ (cf_ rfl (gw_skip (nx_blk_nrm (nx_then (gw_region (fd_ fo158_0 rfl rfl ?_))))))))))))
  refine lk_ sc9 0 rfl rfl rfl (sg_ rfl (wl_nil (nx_blk_nrm (nx_then (gw_region (ad_ rfl rfl (mv_ rfl (wl_nil ?_))))))))
  exact nx_round (k + 1) ⟨by omega, by rw [hinv.2, hat, if_pos hE]⟩ (by omega) ⟨rfl, (congrArg (fun z => some (Value.string z)) (prevCs_succ hx).symm), rfl, rfl, (some_int (by omega)), trivial⟩ (fun _ hm => hm.pick [] [] [0] rfl rfl)
 have hk : ¬ (((k : Nat) : Int) < ((n : Nat) : Int)) := by simpa using hh
 clear hh
 refine gw_exit ?_
 refine nx_then_exit (nx_then_exit ?_)
 refine nx_blk_here ?_
 refine nx_then (gw_seq (sr_ ?_))
 have hsc : scanE csE none l = 0 := by rw [hinv.2, scanE_end _ _ _ _ (by omega)]
 clear hinv hk
 refine mv_ rfl (wl_ov (ov_len es58 rfl) rfl (mv_ rfl (nn_ (gw_block ?_))))
 refine gw_loop (γ := Nat) (fun (k2 : Nat) => k2 <= n /\ l.any (upB l) = (l.drop k2).any (upB l)) (fun (k2 : Nat) => [(0, .slice A n c), (42, .slice A n c), (43, .int .i64 ((n : Nat) : Int)), (44, .int .i64 ((k2 : Nat) : Int))]) (fun (k2 : Nat) => fun _ => True) (fun (k2 : Nat) => []) (fun (k2 : Nat) => []) (fun (k2 : Nat) => [SlOld csEnc 2 158 w.heap.size none A n l]) (fun (k2 : Nat) => n - k2) 0 ⟨Nat.zero_le _, rfl⟩ ⟨rfl, rfl, rfl, rfl, trivial⟩ (fun _ hm => hm.pick [] [] [0] rfl rfl) ?_
 intro k2 hinv
 replace hinv : k2 <= n /\ l.any (upB l) = (l.drop k2).any (upB l) := hinv
 refine sr_ (wl_ov (ov_lss rfl rfl) rfl (nn_ (gw_seq ?_)))
 refine gw_cond rfl (fun hh => ?_) (fun hh => ?_)
 ·have hk : ((k2 : Nat) : Int) < ((n : Nat) : Int) := by simpa using hh
  clear hh
  refine gw_skip (nx_then (gw_seq (gw_block (sr_ ?_))))
  obtain ⟨b, off, hA, _, _⟩ := hl.get (by omega)
  subst hA
  obtain ⟨x, hx⟩ : ∃ x, l[k2]? = some x := ⟨_, List.getElem?_eq_getElem (by omega)⟩
  obtain ⟨ke, up⟩ := x
  have hat := any_at (p := upB l) hx
  have hk2 : up.size <= 1000000 := (hok _ (List.mem_of_getElem? hx)).2
  refine wl_ov (ov_index (j := k2) es58 rfl rfl (by omega)) rfl ?_
  refine wl_ov (ov_elem (vs := [.string ke, .string up]) rz158 rfl (fun _ hm => (hm.fact 0 rfl).1) hx rfl rfl) rfl ?_
  refine wl_alloc zc158 rfl fun g2 => ?_
  refine wl_stores (cs' := [.string ke, .string up]) 0 rz158 rfl rfl rfl rfl rfl rfl rfl rfl ?_
  refine nn_ (sr_ (fd_ fo158_1 rfl rfl (lk_ sc9 0 rfl rfl rfl (wl_ov (ov_sneq rfl rfl) rfl (mv_ rfl ?_)))))
  rcases Bool.eq_false_or_eq_true (!(up.toList == (⟨#[]⟩ : ByteArray).toList)) with h31 | h31
  ·refine wl_set 51 rfl (congrArg Value.bool h31) ?_
   have h31 : emptyS up = false := by unfold emptyS; simpa only [Bool.not_eq_true'] using h31
   refine wl_guard_on rfl rfl rfl (mv_ rfl (wl_guard_on rfl rfl rfl (fd_ fo158_1 rfl rfl (wl_guard_on rfl rfl rfl (lk_ sc9 0 rfl rfl rfl (wl_guard_on rfl rfl rfl ?_))))))
   refine wl_callv rfl cb153 rfl rfl (fun wx hm => (rClassAt_any l _ n c up wx (hm.fact 0 rfl).1 (by omega))) ?_
   refine wl_guard_on rfl rfl rfl (wl_ov (ov_lss rfl rfl) rfl (pt_ rfl rfl (nn_ ?_)))
   refine gw_cond rfl (fun hh => ?_) (fun hh => ?_)
   ·have h32 : ixP (csP up) l 0 < 0 := by simpa using hh
    clear hh
    refine sr_ (sg_ rfl (nn_ ?_))
    refine gw_ret ?_
    refine nx_blk_ret (nx_then_ret (nx_then_ret (nx_blk_ret (nx_then_ret ?_))))
    have hE : upB l ⟨ke, up⟩ = true := by unfold upB; simp [h31, h32]
    refine nx_ret1 rfl rfl fun wx hm => ?_
    exact ⟨ret_int (by rw [cls_up h30 hsc (by rw [hinv.2, hat, hE]; rfl)]), hm.g⟩
   have h32 : ¬ (ixP (csP up) l 0 < 0) := by simpa using hh
   clear hh
   refine gw_skip (nx_blk_nrm (nx_then (gw_region ?_)))
   have hE : upB l ⟨ke, up⟩ = false := by unfold upB; simp [h31]; omega
   refine ad_ rfl rfl (mv_ rfl (wl_nil ?_))
   exact nx_round (k2 + 1) ⟨by omega, by rw [hinv.2, hat, hE]; rfl⟩ (by omega) ⟨rfl, rfl, rfl, (some_int (by omega)), trivial⟩ (fun _ hm => hm.pick [] [] [0] rfl rfl)
  refine wl_set 51 rfl (congrArg Value.bool h31) ?_
  have h31 : emptyS up = true := by unfold emptyS; simpa only [Bool.not_eq_false'] using h31
  have hE : upB l ⟨ke, up⟩ = false := by unfold upB; simp [h31]
  refine goff rfl rfl rfl (goff rfl rfl rfl (goff rfl rfl rfl (goff rfl rfl rfl (goff rfl rfl rfl (pf_ rfl rfl (nn_ (cf_ rfl (gw_skip (nx_blk_nrm (nx_then (gw_region (ad_ rfl rfl ?_))))))))))))
  refine mv_ rfl (wl_nil ?_)
  exact nx_round (k2 + 1) ⟨by omega, by rw [hinv.2, hat, hE]; rfl⟩ (by omega) ⟨rfl, rfl, rfl, (some_int (by omega)), trivial⟩ (fun _ hm => hm.pick [] [] [0] rfl rfl)
 have hk : ¬ (((k2 : Nat) : Int) < ((n : Nat) : Int)) := by simpa using hh
 clear hh
 refine gw_exit ?_
 refine nx_then_exit (nx_then_exit ?_)
 refine nx_blk_here ?_
 refine nx_then (gw_seq (sr_ ?_))
 have hup : l.any (upB l) = false := by rw [hinv.2, any_end (by omega)]
 clear hinv hk
 have hcl := closed_of hup
 have hlo := cls_loop h30 hsc hup
 rw [<- loop_same hcl] at hlo
 refine mv_ rfl (wl_ov (ov_len es58 rfl) rfl (mv_ rfl (nn_ (gw_block ?_))))
 refine gw_loop (γ := Nat) (fun (k3 : Nat) => k3 <= n /\ l.any (fun x => inK x.key (pathN l (n + 1) x.key)) = (l.drop k3).any (fun x => inK x.key (pathN l (n + 1) x.key))) (fun (k3 : Nat) => [(0, .slice A n c), (59, .slice A n c), (60, .int .i64 ((n : Nat) : Int)), (61, .int .i64 ((k3 : Nat) : Int))]) (fun (k3 : Nat) => fun _ => True) (fun (k3 : Nat) => []) (fun (k3 : Nat) => []) (fun (k3 : Nat) => [SlOld csEnc 2 158 w.heap.size none A n l]) (fun (k3 : Nat) => n - k3) 0 ⟨Nat.zero_le _, rfl⟩ ⟨rfl, rfl, rfl, rfl, trivial⟩ (fun _ hm => hm.pick [] [] [0] rfl rfl) ?_
 intro k3 hinv
 replace hinv : k3 <= n /\ l.any (fun x => inK x.key (pathN l (n + 1) x.key)) = (l.drop k3).any (fun x => inK x.key (pathN l (n + 1) x.key)) := hinv
 refine sr_ ?_
 have hlo2 : classesE l = if l.any (fun x => inK x.key (pathN l (n + 1) x.key)) = true then 14 else 0 := by rw [hlo]; unfold loopB; rw [hlen]
 refine wl_ov (ov_lss rfl rfl) rfl (nn_ (gw_seq ?_))
 refine gw_cond rfl (fun hh => ?_) (fun hh => ?_)
 ·have hk : ((k3 : Nat) : Int) < ((n : Nat) : Int) := by simpa using hh
  clear hh
  refine gw_skip (nx_then (gw_seq (gw_block (sr_ ?_))))
  obtain ⟨b, off, hA, _, _⟩ := hl.get (by omega)
  subst hA
  obtain ⟨x, hx⟩ : ∃ x, l[k3]? = some x := ⟨_, List.getElem?_eq_getElem (by omega)⟩
  obtain ⟨ke, up⟩ := x
  have hat := any_at (p := (fun x => inK x.key (pathN l (n + 1) x.key))) hx
  have hk2 : ke.size <= 1000000 := (hok _ (List.mem_of_getElem? hx)).1
  have hix : 0 <= ixP (csP ke) l 0 := by
   rcases ixP_spec (p := csP ke) l 0 with ⟨_, h⟩ | ⟨j, x, h, _⟩
   ·have := h _ (List.mem_of_getElem? hx)
    simp [csP] at this
   omega
  refine wl_ov (ov_index (j := k3) es58 rfl rfl (by omega)) rfl ?_
  refine wl_ov (ov_elem (vs := [.string ke, .string up]) rz158 rfl (fun _ hm => (hm.fact 0 rfl).1) hx rfl rfl) rfl ?_
  refine wl_alloc zc158 rfl fun g3 => ?_
  refine wl_stores (cs' := [.string ke, .string up]) 0 rz158 rfl rfl rfl rfl rfl rfl rfl rfl ?_
  refine nn_ (gw_seq ?_)
  refine gd (fun wz => Blk wz g3 158 [.string ke, .string up] /\ (SlOld csEnc 2 158 w.heap.size none (some ⟨b, off, none⟩) n l) wz /\ True) mixed (fun _ hm => ⟨hm.bl 0, hm.fa 0, trivial⟩) fun z => ?_
  refine wt 0 7 1 rfl z (ov_move rfl) ?_
  refine wt 1 7 3 rfl z (ov_field fo158_0 rfl rfl) ?_
  refine wt 2 7 7 rfl z (ov_load sc9 rfl (fun _ hm => hm.1) rfl) ?_
  refine wt 4 7 23 rfl z (ov_field fo158_0 rfl rfl) ?_
  refine wt 5 7 55 rfl z (ov_load sc9 rfl (fun _ hm => hm.1) rfl) ?_
  refine wa1 3 rfl ?_
  refine wl_callgo (γ := Option Addr × Nat × Nat) (val := (fun g => .slice g.1 g.2.1 g.2.2)) (φ := (fun g => (pathN l (n + 1) ke).length = g.2.1)) (fun g => ⟨.slice g.1 g.2.1 g.2.2, 9, 1, g.2.1, (pathN l (n + 1) ke).flatMap sgEnc⟩) rfl cb222 rfl rfl (fun wx hm => (ups_any l _ n c ke wx (hm.fact 0 rfl).1 hok (by omega)).mono fun _ _ ⟨A2, n2, c2, he, ho, hl2, hg⟩ => ⟨(A2, n2, c2), he, hl2, ho, hg⟩) ?_
  rintro ⟨A2, n2, c2⟩ hpl
  dsimp only at hpl ⊢
  have hpb := pathN_len l (n + 1) ke
  refine wl_nil ?_
  refine nw 7 63 (fun _ hm => ⟨hm.bl 0, hm.fa 0, trivial⟩) fun z => ?_
  refine wa1 6 rfl ?_
  refine wl_callv rfl cb180 rfl rfl (fun wx hm => (contains_str (pathN l (n + 1) ke) A2 n2 c2 ke wx (SlT.ofOwn sg_len (hm.ownI 0 rfl) hpl) (by omega))) ?_
  refine wl_nil ?_
  refine nw 7 127 (fun _ hm => ⟨hm.bl 0, hm.fa 0, trivial⟩) fun z => ?_
  refine wa_done (by kernel_rfl) ?_
  refine nx_then ?_
  refine gw_cond rfl (fun hh => ?_) (fun hh => ?_)
  ·have h33 : (inK ke (pathN l (n + 1) ke)) = true := by simpa using hh
   clear hh
   refine sr_ (sg_ rfl (nn_ ?_))
   refine gw_ret ?_
   refine nx_blk_ret (nx_then_ret (nx_then_ret (nx_blk_ret (nx_then_ret ?_))))
   refine nx_ret1 rfl rfl fun wx hm => ?_
   exact ⟨ret_int (by rw [hlo2, if_pos (by rw [hinv.2, hat, h33]; rfl)]), hm.g⟩
  have h33 : (inK ke (pathN l (n + 1) ke)) = false := by simpa using hh
  clear hh
  refine gw_skip (nx_blk_nrm (nx_then (gw_region (ad_ rfl rfl (mv_ rfl (wl_nil ?_))))))
  exact nx_round (k3 + 1) ⟨by omega, by rw [hinv.2, hat, h33]; rfl⟩ (by omega) ⟨rfl, rfl, rfl, (some_int (by omega)), trivial⟩ (fun _ hm => hm.pick [] [] [0] rfl rfl)
 have hk : ¬ (((k3 : Nat) : Int) < ((n : Nat) : Int)) := by simpa using hh
 clear hh
 refine gw_exit ?_
 refine nx_then_exit (nx_then_exit ?_)
 refine nx_blk_here ?_
 refine nx_then (sr_ (sg_ rfl (nn_ ?_)))
 refine gw_ret ?_
 refine nx_ret1 rfl rfl fun wx hm => ?_
 exact ⟨ret_int (by rw [hlo2, if_neg (by rw [hinv.2, any_end (by omega)]; decide)]), hm.g⟩
end Go.Proofs.YtempjmpfdniecaaGreatDoor
namespace Go.Proofs.YtempjmpfdniecaaGreatDoor
open Go.RowKit
theorem isBelow_lt {n v : Int} (h : IsBelow n v) (hn : 1 <= n) : 0 <= v /\ v < n := by unfold IsBelow at h; omega
set_option maxHeartbeats 400000 in
theorem range_any (lo hi : Int) (w : World) (B sb m : Nat) (hS : Strm 25 w B sb m) (hm : m <= 1000000000000) (h1 : -4611686018427387904 <= lo) (h2 : hi <= 4611686018427387902) (h3 : lo <= 4611686018427387902) (h4 : -4611686018427387904 <= hi) :
  Calls Tryz.prog 26 #[.pointer (some ⟨sb, 0, none⟩), .int .i64 lo, .int .i64 hi] w (GotInt 25 w B sb (m + 1) (fun v => lo <= v /\ (v <= hi ∨ v = lo))) := by
 by_cases hlt : hi < lo
 ·go_enter Tryz.func26, Tryz.ntmps26
  go_wp2_with fail
  go_ret
  exact ⟨lo, ⟨by omega, .inr rfl⟩, rfl, hS.more (by omega), World.grownBy.refl _ _⟩
 ·go_enter Tryz.func26, Tryz.ntmps26
  go_wp2_with fail
  refine (next_any _ _ B sb m hS hm (by omega) (by omega)).mono ?_
  rintro e w1 ⟨v, hv, rfl, hS1, hg1⟩
  have hv := isBelow_lt hv (by omega)
  go_wp2_with fail
  go_ret
  exact ⟨lo + v, ⟨by omega, .inl (by omega)⟩, rfl, hS1, hg1⟩
set_option maxHeartbeats 400000 in
theorem flip_any (n : Int) (w : World) (B sb m : Nat) (hS : Strm 25 w B sb m) (hm : m <= 1000000000000) (hn1 : -9223372036854775808 <= n) (hn2 : n <= 9223372036854775807) :
  Calls Tryz.prog 64 #[.pointer (some ⟨sb, 0, none⟩), .int .i64 n] w (GotBool 25 w B sb (m + 1)) := by
 go_enter Tryz.func64, Tryz.ntmps64
 go_wp2_with fail
 refine (next_any _ _ B sb m hS hm hn1 hn2).mono ?_
 rintro e w1 ⟨v, hv, rfl, hS1, hg1⟩
 go_wp2_with fail
 go_ret
 exact ⟨_, rfl, hS1, hg1⟩
set_option maxHeartbeats 400000 in
theorem pick_any (xs : List Int) (g c : Nat) (T : TypeId) (w : World) (B sb m : Nat) (hS : Strm 25 w B sb m) (hm : m <= 1000000000000) (hx : 0 < xs.length) (hx2 : xs.length <= 1000000) (hg : Blk w g T (xs.map (Value.int .i64))) (hne : g ≠ sb) :
  Calls Tryz.prog 11 #[.pointer (some ⟨sb, 0, none⟩), .slice (some ⟨g, 0, none⟩) xs.length c] w (GotInt 25 w B sb (m + 1) (fun v => v ∈ xs)) := by
 obtain ⟨n, hn⟩ : ∃ n, n = xs.length := ⟨_, rfl⟩
 rw [<- hn] at hx hx2 ⊢
 have Hn := Lib.hid hn; clear hn
 go_enter Tryz.func11, Tryz.ntmps11
 go_wp2_with fail
 refine (next_any _ _ B sb m hS hm (by omega) (by omega)).mono ?_
 rintro e w1 ⟨v, hv, rfl, hS1, hg1⟩
 have hv := isBelow_lt hv (by omega)
 obtain ⟨i, rfl⟩ := Int.eq_ofNat_of_zero_le hv.1
 have hi : i < n := by omega
 have hgb := hg.grown hg1 (by simpa using hne)
 obtain ⟨x, hx⟩ : ∃ x, xs[i]? = some x := ⟨_, List.getElem?_eq_getElem (by have := Hn.out; omega)⟩
 have hc : w1.cell? ⟨g, i, none⟩ = some (.int .i64 x) := hgb.cell_of (by simp [hx])
 have hmem : x ∈ xs := List.mem_of_getElem? hx
 clear hx hgb
 go_wp2_with fail
 go_ret
 exact ⟨x, hmem, rfl, hS1, hg1⟩
set_option maxHeartbeats 400000 in
theorem some_any (xs : List ByteArray) (g c : Nat) (T : TypeId) (w : World) (B sb m : Nat) (hS : Strm 25 w B sb m) (hm : m <= 1000000000000) (hx : 0 < xs.length) (hx2 : xs.length <= 1000000) (hg : Blk w g T (xs.map Value.string)) (hne : g ≠ sb) :
  Calls Tryz.prog 49 #[.pointer (some ⟨sb, 0, none⟩), .slice (some ⟨g, 0, none⟩) xs.length c] w (GotStr 25 w B sb (m + 1) (fun v => v ∈ xs)) := by
 obtain ⟨n, hn⟩ : ∃ n, n = xs.length := ⟨_, rfl⟩
 rw [<- hn] at hx hx2 ⊢
 have Hn := Lib.hid hn; clear hn
 go_enter Tryz.func49, Tryz.ntmps49
 go_wp2_with fail
 refine (next_any _ _ B sb m hS hm (by omega) (by omega)).mono ?_
 rintro e w1 ⟨v, hv, rfl, hS1, hg1⟩
 have hv := isBelow_lt hv (by omega)
 obtain ⟨i, rfl⟩ := Int.eq_ofNat_of_zero_le hv.1
 have hi : i < n := by omega
 have hgb := hg.grown hg1 (by simpa using hne)
 obtain ⟨x, hx⟩ : ∃ x, xs[i]? = some x := ⟨_, List.getElem?_eq_getElem (by have := Hn.out; omega)⟩
 have hc : w1.cell? ⟨g, i, none⟩ = some (.string x) := hgb.cell_of (by simp [hx])
 have hmem : x ∈ xs := List.mem_of_getElem? hx
 clear hx hgb
 go_wp2_with fail
 go_ret
 exact ⟨x, hmem, rfl, hS1, hg1⟩
set_option maxHeartbeats 400000 in
theorem odd_any (lo hi : Int) (w : World) (B sb m : Nat) (hS : Strm 25 w B sb m) (hm : m <= 900000000000) (h1 : -1000000000000000 <= lo) (h2 : hi <= 1000000000000000) (h3 : lo <= hi) :
  Calls Tryz.prog 88 #[.pointer (some ⟨sb, 0, none⟩), .int .i64 lo, .int .i64 hi] w (GotInt 25 w B sb (m + 2) (fun v => -2000000000000000 <= v /\ v <= 2000000000000000)) := by
 go_enter Tryz.func88, Tryz.ntmps88
 go_wp2_with fail
 refine (flip_any _ _ B sb m hS (by omega) (by omega) (by omega)).mono ?_
 rintro e w1 ⟨b, rfl, hS1, hg1⟩
 rcases b with _ | _
 ·go_wp2_with fail
  refine (range_any _ _ _ B sb (m + 1) hS1 (by omega) (by omega) (by omega) (by omega) (by omega)).mono ?_
  rintro e w2 ⟨v, hv, rfl, hS2, hg2⟩
  go_wp2_with fail
  go_ret
  exact ⟨v, by omega, rfl, hS2, grow_trans hg1 hg2⟩
 ·go_wp2_with fail
  refine (pick_any [lo - 1, hi + 1, lo, hi, -1099511627776, 1099511627776] _ _ _ _ B sb (m + 1) (hS1.alloc _) (by omega) (by simp) (by simp) (Blk.new _ _ _) (by have := hS1.lt; omega)).mono ?_
  rintro e w2 ⟨v, hv, rfl, hS2, hg2⟩
  go_wp2_with fail
  go_ret
  refine ⟨v, by simp at hv; omega, rfl, hS2, grow_trans hg1 (grow_trans (grow_alloc (World.grownBy.refl _ _) _) hg2)⟩
end Go.Proofs.YtempjmpfdniecaaGreatDoor
namespace Go.Proofs.YtempjmpfdniecaaGreatDoor
open Go.RowKit
theorem scanE_snoc {α : Type} {f : Option α -> α -> Int} {x : α} : ∀ {l : List α} {p : Option α}, scanE f p l = 0 -> f p x = 0 -> (∀ y ∈ l, f (some y) x = 0) -> scanE f p (l ++ [x]) = 0
 | [], p, _, h, _ => by
  show (if f p x = 0 then 0 else f p x) = 0
  rw [if_pos h]
 | y :: r, p, h, _, hq => by
  have h1 : f p y = 0 := by
   unfold scanE at h
   by_cases e : f p y = 0
   ·exact e
   ·rw [if_neg e] at h; exact h
  show (if f p y = 0 then scanE f (some y) (r ++ [x]) else f p y) = 0
  rw [if_pos h1]
  refine scanE_snoc ?_ (hq y (List.mem_cons_self ..)) (fun z hz => hq z (List.mem_cons_of_mem _ hz))
  unfold scanE at h
  rw [if_pos h1] at h; exact h
theorem mem_take_more {α : Type} {l : List α} {i : Nat} {x : α} (h : x ∈ l.take i) : x ∈ l.take (i + 1) := by
 obtain ⟨j, hj⟩ := List.getElem?_of_mem h
 rw [List.getElem?_take] at hj
 split at hj
 ·exact List.mem_of_getElem? (i := j) (by rw [List.getElem?_take, if_pos (by omega)]; exact hj)
 ·cases hj
theorem mem_take_at {α : Type} {l : List α} {i : Nat} {x : α} (h : l[i]? = some x) : x ∈ l.take (i + 1) :=
 List.mem_of_getElem? (i := i) (by rw [List.getElem?_take, if_pos (by omega)]; exact h)
def Wd (a b : Int) : Prop := 0 <= a /\ a <= b /\ b <= 1440
def K3 : List ByteArray := [⟨#[115, 49]⟩, ⟨#[115, 50]⟩, ⟨#[115, 51]⟩]
def K4 : List ByteArray := [⟨#[118, 49]⟩, ⟨#[118, 50]⟩, ⟨#[118, 51]⟩, ⟨#[118, 52]⟩]
def riseK (l : List ByteArray) : Bool := (List.range l.length).all fun i => (l[i]?.elim true fun k => keyB k && (l.take i).all fun a => !leB k a)
theorem rise3 : riseK K3 = true := by decide +kernel
theorem rise4 : riseK K4 = true := by decide +kernel
theorem riseK_at {l : List ByteArray} {i : Nat} {k : ByteArray} (h : riseK l = true) (hk : l[i]? = some k) : keyB k = true /\ ∀ a ∈ l.take i, leB k a = false := by
 have hi := (List.getElem?_eq_some_iff.1 hk).1
 have h1 := (List.all_eq_true.1 h) i (List.mem_range.2 hi)
 rw [hk] at h1
 have h2 : (keyB k && (l.take i).all fun a => !leB k a) = true := h1
 rw [Bool.and_eq_true] at h2
 refine ⟨h2.1, fun a ha => ?_⟩
 have h3 := (List.all_eq_true.1 h2.2) a ha
 cases h4 : leB k a with
 | false => rfl
 | true => rw [h4] at h3; cases h3
def StG (i : Nat) (l : List St) : Prop := scanE stationE none l = 0 /\ ∀ x ∈ l, x.key ∈ K3.take i
theorem stG_nil {i : Nat} : StG i [] := ⟨rfl, fun _ h => by cases h⟩
theorem stG_more {i : Nat} {l : List St} (h : StG i l) : StG (i + 1) l := ⟨h.1, fun x hx => mem_take_more (h.2 x hx)⟩
theorem stationE_zero {p : Option St} {x : St} (h1 : keyB x.key = true) (h2 : prevB p (fun q => leB x.key q.key) = false) (h3 : hoursBad x.hs = false) : stationE p x = 0 := by
 unfold stationE
 rw [h1, h2, h3]; rfl
theorem stG_snoc {i : Nat} {l : List St} {k : ByteArray} {hs : List Int} (h : StG i l) (hk : K3[i]? = some k) (hh : hoursBad hs = false) : StG (i + 1) (l ++ [⟨k, hs⟩]) := by
 obtain ⟨h1, h2⟩ := riseK_at rise3 hk
 refine ⟨scanE_snoc h.1 (stationE_zero h1 rfl hh) (fun y hy => stationE_zero h1 (h2 _ (h.2 y hy)) hh), fun x hx => ?_⟩
 rcases List.mem_append.1 hx with hx | hx
 ·exact mem_take_more (h.2 x hx)
 ·rw [List.mem_singleton.1 hx]; exact mem_take_at hk
theorem hours_fine {h0 h1 h2 h3 h4 h5 h6 h7 h8 h9 h10 h11 h12 h13 : Int} (p : Wd h0 h1 /\ Wd h2 h3 /\ Wd h4 h5 /\ Wd h6 h7 /\ Wd h8 h9 /\ Wd h10 h11 /\ Wd h12 h13) :
  hoursBad [h0, h1, h2, h3, h4, h5, h6, h7, h8, h9, h10, h11, h12, h13] = false := by
 have good : ∀ {a b : Int}, Wd a b -> winBad a b = false := fun {a b} ⟨h1, h2, h3⟩ => by
  unfold winBad inB
  rw [decide_eq_true h1, decide_eq_true h2, decide_eq_false (show ¬ 1440 < b by omega)]; rfl
 obtain ⟨p0, p1, p2, p3, p4, p5, p6⟩ := p
 show (winBad h0 h1 || (winBad h2 h3 || (winBad h4 h5 || (winBad h6 h7 || (winBad h8 h9 || (winBad h10 h11 || (winBad h12 h13 || false))))))) = false
 rw [good p0, good p1, good p2, good p3, good p4, good p5, good p6]; rfl
theorem stG_right {i : Nat} {l : List St} (h : StG i l) (hl : l.length <= 50) : stationsE l = 0 := by
 unfold stationsE
 rw [if_neg (by omega)]; exact h.1
theorem s1_right : stationsE [⟨⟨#[115, 49]⟩, [0, 0, 0, 0, 0, 0, 0, 0, 0, 0, 0, 0, 0, 0]⟩] = 0 := by decide +kernel
def kBig : ByteArray := ⟨#[98, 105, 103]⟩
def kMaxi : ByteArray := ⟨#[109, 97, 120, 105]⟩
def kMidi : ByteArray := ⟨#[109, 105, 100, 105]⟩
def kMini : ByteArray := ⟨#[109, 105, 110, 105]⟩
def kNo : ByteArray := ⟨#[]⟩
def clOf (u1 u2 u3 : ByteArray) : List Cs := [⟨kBig, kNo⟩, ⟨kMaxi, u1⟩, ⟨kMidi, u2⟩, ⟨kMini, u3⟩]
def ClG (l : List Cs) : Prop := ∃ u1 u2 u3, u1 ∈ [kNo, kBig] /\ u2 ∈ [kNo, kBig, kMaxi] /\ u3 ∈ [kNo, kBig, kMaxi, kMidi] /\ l = clOf u1 u2 u3
theorem clG_start : ClG [⟨⟨#[98, 105, 103]⟩, ⟨#[]⟩⟩, ⟨⟨#[109, 97, 120, 105]⟩, ⟨#[]⟩⟩, ⟨⟨#[109, 105, 100, 105]⟩, ⟨#[]⟩⟩, ⟨⟨#[109, 105, 110, 105]⟩, ⟨#[]⟩⟩] :=
 ⟨kNo, kNo, kNo, List.mem_cons_self .., List.mem_cons_self .., List.mem_cons_self .., rfl⟩
theorem cl_all : ([kNo, kBig].all fun u1 => [kNo, kBig, kMaxi].all fun u2 => [kNo, kBig, kMaxi, kMidi].all fun u3 => decide (classesE (clOf u1 u2 u3) = 0)) = true := by decide +kernel
theorem clG_right {l : List Cs} (h : ClG l) : classesE l = 0 := by
 obtain ⟨u1, u2, u3, h1, h2, h3, rfl⟩ := h
 exact of_decide_eq_true (List.all_eq_true.1 (List.all_eq_true.1 (List.all_eq_true.1 cl_all u1 h1) u2 h2) u3 h3)
theorem clG_set {l : List Cs} {i j : Nat} {y0 y1 z0 z1 : ByteArray} (h : ClG l) (hj : j < i) (hi : i < 4) (hy : l[j]? = some ⟨y0, y1⟩) (hz : l[i]? = some ⟨z0, z1⟩) : ClG (l.set i ⟨z0, y0⟩) := by
 obtain ⟨u1, u2, u3, h1, h2, h3, rfl⟩ := h
 unfold clOf at hy hz ⊢
 have hc : i = 1 ∨ i = 2 ∨ i = 3 := by omega
 have hd : j = 0 ∨ j = 1 ∨ j = 2 := by omega
 rcases hc with rfl | rfl | rfl <;> rcases hd with rfl | rfl | rfl <;> try omega
 all_goals
  simp only [List.getElem?_cons_zero, List.getElem?_cons_succ, Option.some.injEq, Cs.mk.injEq] at hy hz
  obtain ⟨rfl, _⟩ := hy
  obtain ⟨rfl, _⟩ := hz
  first
   | exact ⟨_, u2, u3, List.mem_cons_of_mem _ (List.mem_cons_self ..), h2, h3, rfl⟩
   | exact ⟨u1, _, u3, h1, List.mem_cons_of_mem _ (List.mem_cons_self ..), h3, rfl⟩
   | exact ⟨u1, _, u3, h1, List.mem_cons_of_mem _ (List.mem_cons_of_mem _ (List.mem_cons_self ..)), h3, rfl⟩
   | exact ⟨u1, u2, _, h1, h2, List.mem_cons_of_mem _ (List.mem_cons_self ..), rfl⟩
   | exact ⟨u1, u2, _, h1, h2, List.mem_cons_of_mem _ (List.mem_cons_of_mem _ (List.mem_cons_self ..)), rfl⟩
   | exact ⟨u1, u2, _, h1, h2, List.mem_cons_of_mem _ (List.mem_cons_of_mem _ (List.mem_cons_of_mem _ (List.mem_cons_self ..))), rfl⟩
def VhG (cl : List Cs) (i : Nat) (l : List Vh) : Prop := scanE (vhE cl) none l = 0 /\ ∀ x ∈ l, x.key ∈ K4.take i
theorem vhG_nil {cl : List Cs} {i : Nat} : VhG cl i [] := ⟨rfl, fun _ h => by cases h⟩
theorem vhG_more {cl : List Cs} {i : Nat} {l : List Vh} (h : VhG cl i l) : VhG cl (i + 1) l := ⟨h.1, fun x hx => mem_take_more (h.2 x hx)⟩
theorem vhE_zero {cl : List Cs} {p : Option Vh} {x : Vh} (h1 : keyB x.key = true) (h2 : leVh p x = false) (h3 : ¬ ixP (csP x.cls) cl 0 < 0) : vhE cl p x = 0 := by
 unfold vhE
 rw [h1, h2, if_neg h3]; rfl
theorem cls_in {cl : List Cs} {j : Nat} {c : Cs} (h : cl[j]? = some c) : ¬ ixP (csP c.key) cl 0 < 0 := by
 rcases ixP_spec (p := csP c.key) cl 0 with ⟨_, h2⟩ | ⟨j, y, h2, _⟩
 ·have := h2 c (List.mem_of_getElem? h)
  unfold csP at this
  simp at this
 ·omega
theorem vhG_snoc {cl : List Cs} {i j : Nat} {l : List Vh} {k c0 c1 : ByteArray} (h : VhG cl i l) (hk : K4[i]? = some k) (hc : cl[j]? = some ⟨c0, c1⟩) : VhG cl (i + 1) (l ++ [⟨k, c0⟩]) := by
 obtain ⟨h1, h2⟩ := riseK_at rise4 hk
 refine ⟨scanE_snoc h.1 (vhE_zero h1 rfl (cls_in hc)) (fun y hy => vhE_zero h1 (h2 _ (h.2 y hy)) (cls_in hc)), fun x hx => ?_⟩
 rcases List.mem_append.1 hx with hx | hx
 ·exact mem_take_more (h.2 x hx)
 ·rw [List.mem_singleton.1 hx]; exact mem_take_at hk
theorem fleet_start {sl : List St} {cl : List Cs} {vl : List Vh} {i : Nat} (hs : stationsE sl = 0) (hc : classesE cl = 0) (hv : VhG cl i vl) (hl : vl.length <= 500) : fleetE sl cl vl [] = 0 := by
 unfold fleetE vehsE
 rw [hs, hc, if_neg (by omega), hv.1]; rfl
end Go.Proofs.YtempjmpfdniecaaGreatDoor
namespace Go.Proofs.YtempjmpfdniecaaGreatDoor
open Go.RowKit
theorem cs_mem {l : List Cs} {x : Cs} {j : Nat} (h : ∀ y ∈ l, CsOk y) (hx : CsOk x) : ∀ y ∈ l.set j x, CsOk y := fun y hy => by
 rcases List.mem_or_eq_of_mem_set hy with hy | rfl
 ·exact h y hy
 ·exact hx
theorem gclasses_anyF (w : World) (B sb m : Nat) (hS : Strm 25 w B sb m) (hm : m <= 100000000000) :
  Calls Tryz.prog 56 #[.pointer (some ⟨sb, 0, none⟩)] w (fun e w' => ∃ (A : Option Addr) (c : Nat) (l : List Cs), e = .returned (.slice A 4 c) /\ w'.ownsRow w.heap.size 158 2 (.slice A 4 c) 4 (l.flatMap csEnc) /\ (l.length = 4 /\ classesE l = 0) /\ (∀ x ∈ l, CsOk x) /\ Strm 25 w' B sb (m + 20) /\ w.grownBy w' (some sb)) := by
 refine gw_enter ⟨35, w, (some sb), []⟩ Tryz.func56 rfl Tryz.ntmps56 rfl (memS (X := []) hS allF_nil allL_nil) ?_
 refine sr_ (sg_ rfl (nn_ (sr_ ?_)))
 refine wl_ov (ov_build (cs := [.string ⟨#[98, 105, 103]⟩, .string ⟨#[]⟩]) rfl (by kernel_rfl)) rfl ?_
 refine wl_ov (ov_build (cs := [.string ⟨#[109, 97, 120, 105]⟩, .string ⟨#[]⟩]) rfl (by kernel_rfl)) rfl ?_
 refine wl_ov (ov_build (cs := [.string ⟨#[109, 105, 100, 105]⟩, .string ⟨#[]⟩]) rfl (by kernel_rfl)) rfl ?_
 refine wl_ov (ov_build (cs := [.string ⟨#[109, 105, 110, 105]⟩, .string ⟨#[]⟩]) rfl (by kernel_rfl)) rfl ?_
 refine wl_buildSlice (e := 158) (cs := [.string ⟨#[98, 105, 103]⟩, .string ⟨#[]⟩, .string ⟨#[109, 97, 120, 105]⟩, .string ⟨#[]⟩, .string ⟨#[109, 105, 100, 105]⟩, .string ⟨#[]⟩, .string ⟨#[109, 105, 110, 105]⟩, .string ⟨#[]⟩]) rfl (by kernel_rfl) rfl fun g1 => ?_
 refine sg_ rfl (nn_ (gw_seq (sr_ (mv_ rfl (wl_ov (ov_len es58 rfl) rfl ?_)))))
 refine wl_set 11 (v' := .int .i64 4) rfl rfl ?_
 refine mv_ rfl (nn_ (gw_block ?_))
 refine gw_toOwn (sz := 2) (n := 4) 0 [] rfl rfl rfl (by unfold maxLen; omega) ?_
 refine gw_loop (γ := Nat × List Cs) (fun g => g.1 <= 4 /\ (g.2.length = 4 /\ ClG g.2) /\ (∀ x ∈ g.2, CsOk x)) (fun g => [(0, .pointer (some ⟨sb, 0, none⟩)), (2, .slice none 0 0), (3, .slice (some ⟨g1, 0, none⟩) 4 4), (11, .int .i64 4), (12, .int .i64 ((g.1 : Nat) : Int))]) (fun g => fun w => Strm 25 w B sb (m + 2 * g.1)) (fun g => []) (fun g => [⟨.slice (some ⟨g1, 0, none⟩) 4 4, 158, 2, 4, g.2.flatMap csEnc⟩]) (fun g => []) (fun g => 4 - g.1) (0, [⟨⟨#[98, 105, 103]⟩, ⟨#[]⟩⟩, ⟨⟨#[109, 97, 120, 105]⟩, ⟨#[]⟩⟩, ⟨⟨#[109, 105, 100, 105]⟩, ⟨#[]⟩⟩, ⟨⟨#[109, 105, 110, 105]⟩, ⟨#[]⟩⟩]) ⟨Nat.zero_le _, ⟨rfl, clG_start⟩, by simp [CsOk] <;> decide⟩ ⟨rfl, rfl, rfl, rfl, rfl, trivial⟩ (fun _ hm => (hm.more rfl (by first | omega | (dsimp only; omega))).pick [] [0] [] rfl rfl) ?_
 rintro ⟨i, l⟩ hinv
 replace hinv : i <= 4 /\ (l.length = 4 /\ ClG l) /\ (∀ x ∈ l, CsOk x) := hinv
 dsimp only
 refine sr_ ?_
 obtain ⟨hi0, ⟨hl4, hcg⟩, hok⟩ := hinv
 refine wl_ov (ov_lss rfl rfl) rfl (nn_ (gw_seq ?_))
 refine gw_cond rfl (fun hh => ?_) (fun hh => ?_)
 ·have hi : ((i : Nat) : Int) < 4 := by simpa using hh
  clear hh
  refine gw_skip (nx_then (gw_seq (gw_block (sr_ (mv_ rfl (sg_ rfl (nn_ (sr_ (mv_ rfl ?_)))))))))
  refine wl_ov (ov_gtr rfl rfl) rfl ?_
  refine mv_ rfl ?_
  rcases Bool.eq_false_or_eq_true (decide (0 < ((i : Nat) : Int))) with h0 | h0
  ·refine wl_set 17 rfl (congrArg Value.bool h0) ?_
   have h0 := of_decide_eq_true h0
   refine wl_guard_on rfl rfl rfl (mv_ rfl (wl_guard_on rfl rfl rfl ?_))
   refine wl_got (γ := Bool) (val := fun v => .bool v) (φ := fun v => True) rfl cb64 rfl rfl rfl rfl (fun wx hm => ((flip_any _ wx B sb _ hm.k (by omega) (by omega) (by omega)).mono fun _ _ ⟨v, he, hS, hg⟩ => ⟨v, trivial, he, hS, hg⟩)) fun f2 _ => ?_
   refine wl_guard_on rfl rfl rfl (wl_ov (ov_un_not rfl) rfl (pt_ rfl rfl (nn_ ?_)))
   refine gw_cond rfl (fun hh => ?_) (fun hh => ?_)
   ·have hf : f2 = false := by simpa using hh
    clear hh
    refine gw_region (mv_ rfl (mv_ rfl (mv_ rfl (mv_ rfl (mv_ rfl ?_)))))
    refine wl_got (γ := Int) (val := fun v => .int .i64 v) (φ := fun v => IsBelow ((i : Nat) : Int) v) rfl cb66 rfl rfl rfl rfl (fun wx hm => (next_any _ wx B sb _ hm.k (by omega) (by omega) (by omega))) fun vj hvj => ?_
    have hj := isBelow_lt hvj (by omega)
    obtain ⟨j, rfl⟩ := Int.eq_ofNat_of_zero_le hj.1
    have hji : j < 4 := by omega
    obtain ⟨y, hy⟩ : ∃ y, l[j]? = some y := ⟨_, List.getElem?_eq_getElem (by omega)⟩
    obtain ⟨z, hz⟩ : ∃ z, l[i]? = some z := ⟨_, List.getElem?_eq_getElem (by omega)⟩
    obtain ⟨y0, y1⟩ := y
    obtain ⟨z0, z1⟩ := z
    obtain ⟨hy0, hy1⟩ := hok _ (List.mem_of_getElem? hy)
    obtain ⟨hz0, hz1⟩ := hok _ (List.mem_of_getElem? hz)
    refine wl_ov (ov_index (j := j) es58 rfl rfl (by omega)) rfl ?_
    refine fd_ fo158_0 rfl rfl ?_
    refine wl_ov (ov_elem1 (k := 0) (v := .string y0) sc9 rfl (fun _ hm => (SlT.ofOwn cs_len (hm.ownI 0 rfl) hl4)) hy rfl rfl) rfl ?_
    refine wl_ov (ov_index (j := i) es58 rfl rfl (by omega)) rfl ?_
    refine fd_ fo158_1 rfl rfl ?_
    refine wl_storeE (l := l) (j := i) (r := 1) (el := ⟨z0, z1⟩) (el' := ⟨z0, y0⟩) 0 sc9 rfl rfl rfl rfl cs_len rfl hz hl4 (show 1 < 2 by decide) rfl rfl ?_
    refine wl_nil (nx_blk_nrm (nx_then (gw_region (ad_ rfl rfl (mv_ rfl (wl_nil ?_))))))
    exact nx_round (i + 1, l.set i ⟨z0, y0⟩) ⟨by dsimp only; omega, ⟨by simp [hl4], clG_set hcg (show j < i by omega) (by omega) hy hz⟩, cs_mem hok ⟨hz0, hy0⟩⟩ (by dsimp only; omega) ⟨rfl, rfl, rfl, rfl, (some_int (by omega)), trivial⟩ (fun _ hm => (hm.more rfl (by first | omega | (dsimp only; omega))).pick [] [0] [] rfl rfl)
   have hf : f2 = true := by simpa using hh
   clear hh
   refine gw_skip (nx_blk_nrm (nx_then (gw_region (ad_ rfl rfl (mv_ rfl (wl_nil ?_))))))
   exact nx_round (i + 1, l) ⟨by dsimp only; omega, ⟨hl4, hcg⟩, hok⟩ (by dsimp only; omega) ⟨rfl, rfl, rfl, rfl, (some_int (by omega)), trivial⟩ (fun _ hm => (hm.more rfl (by first | omega | (dsimp only; omega))).pick [] [0] [] rfl rfl)
  refine wl_set 17 rfl (congrArg Value.bool h0) ?_
  refine goff rfl rfl rfl (goff rfl rfl rfl (goff rfl rfl rfl (pf_ rfl rfl (nn_ (cf_ rfl (gw_skip (nx_blk_nrm (nx_then (gw_region (ad_ rfl rfl (mv_ rfl (wl_nil ?_))))))))))))
  exact nx_round (i + 1, l) ⟨by dsimp only; omega, ⟨hl4, hcg⟩, hok⟩ (by dsimp only; omega) ⟨rfl, rfl, rfl, rfl, (some_int (by omega)), trivial⟩ (fun _ hm => (hm.more rfl (by first | omega | (dsimp only; omega))).pick [] [0] [] rfl rfl)
 have hi : ¬ (((i : Nat) : Int) < 4) := by simpa using hh
 clear hh
 refine gw_exit ?_
 refine nx_then_exit (nx_then_exit ?_)
 refine nx_blk_here ?_
 refine nx_then (sr_ (mv_ rfl (sg_ rfl (nn_ ?_))))
 refine gw_ret ?_
 refine nx_ret1 rfl rfl fun wx hm => ?_
 exact ⟨_, 4, l, rfl, hm.ownI 0 rfl, ⟨hl4, clG_right hcg⟩, hok, hm.k.more (by omega), hm.g⟩
end Go.Proofs.YtempjmpfdniecaaGreatDoor
namespace Go.Proofs.YtempjmpfdniecaaGreatDoor
open Go.RowKit
def FtB (sl : List St) (cl : List Cs) (vl : List Vh) (pl : List Pl) : Prop := (∀ x ∈ sl, x.key.size <= 100) /\ (∀ x ∈ cl, x.key.size <= 100 /\ x.up.size <= 100) /\ (∀ x ∈ vl, x.key.size <= 100 /\ x.cls.size <= 100) /\ (∀ x ∈ pl, (0 <= x.fr /\ x.fr <= 5761439) /\ x.veh.size <= 100 /\ x.plate.size <= 100)
theorem fkey_sz {s : ByteArray} (h : keyB s = true) : s.size <= 100 := by
 have e : s.size = s.data.toList.length := Array.length_toList.symm
 rw [e]
 unfold keyB at h
 cases hs : s.data.toList with
 | nil => exact Nat.zero_le _
 | cons c r =>
  rw [hs] at h
  unfold keyLB at h
  simp only [Bool.and_eq_true, decide_eq_true_eq] at h
  rw [List.length_cons]; omega
theorem fempty_sz {s : ByteArray} (h : emptyS s = true) : s.size <= 100 := by
 have e : s = ⟨#[]⟩ := bytes_ext (by unfold emptyS at h; simpa using h)
 rw [e]; exact Nat.zero_le _
theorem fst_B {sl : List St} (h : stationsE sl = 0) : ∀ x ∈ sl, x.key.size <= 100 := fun x hx => by
 unfold stationsE at h
 split at h
 ·cases h
 ·obtain ⟨q, hq⟩ := scanE_all h x hx
  unfold stationE at hq
  split at hq
  ·cases hq
  ·rename_i h1; exact fkey_sz (by simpa using h1)
theorem fcs_B {cl : List Cs} (h : classesE cl = 0) : ∀ x ∈ cl, x.key.size <= 100 /\ x.up.size <= 100 := fun x hx => by
 unfold classesE at h
 split at h
 ·cases h
 ·split at h
  ·rename_i h2; exact absurd h h2
  ·rename_i h2
   obtain ⟨q, hq⟩ := scanE_all (by simpa using h2 : scanE csE none cl = 0) x hx
   unfold csE at hq
   cases hk : keyB x.key with
   | false => rw [hk] at hq; simp at hq
   | true =>
    refine ⟨fkey_sz hk, ?_⟩
    cases he : emptyS x.up with
    | true => exact fempty_sz he
    | false =>
     cases hu : keyB x.up with
     | true => exact fkey_sz hu
     | false =>
      rw [hk, he, hu] at hq
      simp at hq
      split at hq <;> cases hq
theorem fix_key {α : Type} {p : α -> Bool} {l : List α} {k : α -> ByteArray} {b : ByteArray} (hp : ∀ x, p x = true -> k x = b) (h : 0 <= ixP p l 0) : ∃ x ∈ l, k x = b := by
 rcases ixP_spec (p := p) l 0 with ⟨h1, _⟩ | ⟨j, y, h1, hj, hq, _⟩
 ·omega
 ·exact ⟨y, List.mem_of_getElem? hj, hp y hq⟩
theorem fvh_B {cl : List Cs} {vl : List Vh} (hc : ∀ x ∈ cl, x.key.size <= 100 /\ x.up.size <= 100) (h : vehsE cl vl = 0) : ∀ x ∈ vl, x.key.size <= 100 /\ x.cls.size <= 100 := fun x hx => by
 unfold vehsE at h
 split at h
 ·cases h
 ·obtain ⟨h1, h2⟩ := (rise_of h).2.2 x hx
  obtain ⟨y, hy, e⟩ := fix_key (k := Cs.key) (fun z hz => bytes_ext (by unfold csP at hz; simpa using hz)) h2
  exact ⟨fkey_sz h1, by rw [<- e]; exact (hc y hy).1⟩
theorem plG_all {vs : List Vh} : ∀ {l pre : List Pl}, plG vs pre l = 0 -> ∀ p ∈ l, ∃ q, plE vs q p = 0
 | [], _, _, p, hp => by cases hp
 | y :: r, pre, h, p, hp => by
  unfold plG at h
  split at h
  ·rename_i h1
   rcases List.mem_cons.1 hp with rfl | hp
   ·exact ⟨pre, h1⟩
   ·exact plG_all h p hp
  ·rename_i h1; exact absurd h h1
theorem fpl_B {vl : List Vh} {pl : List Pl} (hv : ∀ x ∈ vl, x.key.size <= 100) (h : platesE vl pl = 0) : ∀ x ∈ pl, (0 <= x.fr /\ x.fr <= 5761439) /\ x.veh.size <= 100 /\ x.plate.size <= 100 := fun x hx => by
 unfold platesE at h
 split at h
 ·cases h
 ·obtain ⟨q, hq⟩ := plG_all h x hx
  unfold plE at hq
  split at hq
  ·cases hq
  ·rename_i h1
   split at hq
   ·cases hq
   ·rename_i h2
    split at hq
    ·cases hq
    ·rename_i h3
     obtain ⟨y, hy, e⟩ := fix_key (k := Vh.key) (b := x.veh) (fun z hz => bytes_ext (by unfold vhP at hz; simpa using hz)) (show 0 <= ixP (vhP x.veh) vl 0 by omega)
     have k1 : inB x.fr 0 5761439 = true := by simpa using h1
     have k3 : plateB x.plate = true := by simpa using h3
     unfold plateB at k3
     rw [Bool.and_eq_true] at k3
     have k4 := inB_iff.1 k3.1
     exact ⟨inB_iff.1 k1, by rw [<- e]; exact hv y hy, by omega⟩
theorem ftB_of {sl : List St} {cl : List Cs} {vl : List Vh} {pl : List Pl} (h : fleetE sl cl vl pl = 0) : FtB sl cl vl pl := by
 have h1 := fe_all h (stationsE sl) (by simp)
 have h2 := fe_all h (classesE cl) (by simp)
 have h3 := fe_all h (vehsE cl vl) (by simp)
 have h4 := fe_all h (platesE vl pl) (by simp)
 have hc := fcs_B h2
 have hv := fvh_B hc h3
 exact ⟨fst_B h1, hc, hv, fpl_B (fun x hx => (hv x hx).1) h4⟩
def stW : ByteArray := ⟨#[115, 116, 97, 116, 105, 111, 110]⟩
def clW : ByteArray := ⟨#[99, 108, 97, 115, 115]⟩
def vhW : ByteArray := ⟨#[118, 101, 104, 105, 99, 108, 101]⟩
def plW : ByteArray := ⟨#[112, 108, 97, 116, 101]⟩
def dashS : ByteArray := ⟨#[45]⟩
def dsh (s : ByteArray) : ByteArray := if (s.toList == (⟨#[]⟩ : ByteArray).toList) = true then dashS else s
theorem dsh_sz {s : ByteArray} (h : s.size <= 100) : (dsh s).size <= 100 := by
 unfold dsh
 split
 ·show 1 <= 100; decide
 ·exact h
def mkB (l : List UInt8) : ByteArray := ⟨l.toArray⟩
theorem mkB_sz (l : List UInt8) : (mkB l).size = l.length := sz_mk l
theorem mkB_app (l : List UInt8) (s : ByteArray) : mkB l ++ s = mkB (l ++ s.data.toList) := by
 refine ba_eq ?_
 rw [ByteArray.data_append, Array.toList_append]
 unfold mkB
 simp
def winT (a b : Int) : ByteArray := ((((⟨#[32]⟩ : ByteArray) ++ itoaS a) ++ (⟨#[45]⟩ : ByteArray)) ++ itoaS b)
theorem winT_sz {a b : Int} (ha : -9223372036854775808 <= a /\ a <= 9223372036854775807) (hb : -9223372036854775808 <= b /\ b <= 9223372036854775807) : (winT a b).size <= 44 := by
 have e1 := itoa_sz ha
 have e2 := itoa_sz hb
 have h1 : (⟨#[32]⟩ : ByteArray).size = 1 := rfl
 have h2 : (⟨#[45]⟩ : ByteArray).size = 1 := rfl
 unfold winT
 rw [ByteArray.size_append, ByteArray.size_append, ByteArray.size_append]; omega
def stHd (k : ByteArray) : ByteArray := (⟨#[115, 116, 97, 116, 105, 111, 110, 32]⟩ : ByteArray) ++ k
def winsL : List Int -> List UInt8
 | a :: b :: r => (winT a b).data.toList ++ winsL r
 | _ => []
def stLnL (x : St) : List UInt8 := ((stHd x.key).data.toList ++ winsL x.hs) ++ [10]
def clLn (x : Cs) : ByteArray := joinS [clW, x.key, dsh x.up] ⟨#[32]⟩ ++ (⟨#[10]⟩ : ByteArray)
def vhLn (x : Vh) : ByteArray := joinS [vhW, x.key, x.cls] ⟨#[32]⟩ ++ (⟨#[10]⟩ : ByteArray)
def plLn (x : Pl) : ByteArray := joinS [plW, itoaS x.fr, x.veh, x.plate] ⟨#[32]⟩ ++ (⟨#[10]⟩ : ByteArray)
def flA (sl : List St) : List UInt8 := sl.flatMap stLnL
def flB (sl : List St) (cl : List Cs) : List UInt8 := flA sl ++ cl.flatMap fun x => (clLn x).data.toList
def flC (sl : List St) (cl : List Cs) (vl : List Vh) : List UInt8 := flB sl cl ++ vl.flatMap fun x => (vhLn x).data.toList
def flD (sl : List St) (cl : List Cs) (vl : List Vh) (pl : List Pl) : List UInt8 := flC sl cl vl ++ pl.flatMap fun x => (plLn x).data.toList
theorem flA_at {l : List St} {i : Nat} {x : St} (h : l[i]? = some x) : flA (l.take (i + 1)) = flA (l.take i) ++ stLnL x := by
 unfold flA
 rw [List.take_add_one, h, Option.toList_some, List.flatMap_append]; simp
theorem flB_at {sl : List St} {l : List Cs} {i : Nat} {x : Cs} (h : l[i]? = some x) : flB sl (l.take (i + 1)) = flB sl (l.take i) ++ (clLn x).data.toList := by
 unfold flB
 rw [List.take_add_one, h, Option.toList_some, List.flatMap_append]; simp
theorem flC_at {sl : List St} {cl : List Cs} {l : List Vh} {i : Nat} {x : Vh} (h : l[i]? = some x) : flC sl cl (l.take (i + 1)) = flC sl cl (l.take i) ++ (vhLn x).data.toList := by
 unfold flC
 rw [List.take_add_one, h, Option.toList_some, List.flatMap_append]; simp
theorem flD_at {sl : List St} {cl : List Cs} {vl : List Vh} {l : List Pl} {i : Nat} {x : Pl} (h : l[i]? = some x) : flD sl cl vl (l.take (i + 1)) = flD sl cl vl (l.take i) ++ (plLn x).data.toList := by
 unfold flD
 rw [List.take_add_one, h, Option.toList_some, List.flatMap_append]; simp
theorem flB_nil (sl : List St) : flB sl [] = flA sl := by unfold flB; simp
theorem flC_nil (sl : List St) (cl : List Cs) : flC sl cl [] = flB sl cl := by unfold flC; simp
theorem flD_nil (sl : List St) (cl : List Cs) (vl : List Vh) : flD sl cl vl [] = flC sl cl vl := by unfold flD; simp
theorem wins_len : ∀ {l : List Int}, (∀ h ∈ l, -9223372036854775808 <= h /\ h <= 9223372036854775807) -> (winsL l).length <= l.length * 44
 | [], _ => Nat.zero_le _
 | [_], _ => Nat.zero_le _
 | a :: b :: r, h => by
  have h1 := wins_len (l := r) fun x hx => h x (List.mem_cons_of_mem _ (List.mem_cons_of_mem _ hx))
  have h2 := winT_sz (h a (by simp)) (h b (by simp))
  show ((winT a b).data.toList ++ winsL r).length <= _
  rw [List.length_append, dl_size, List.length_cons, List.length_cons]
  omega
theorem stLnL_len {x : St} (hk : x.key.size <= 100) (ho : StOk x) : (stLnL x).length <= 800 := by
 have h1 := wins_len ho.2.2
 have h2 : (⟨#[115, 116, 97, 116, 105, 111, 110, 32]⟩ : ByteArray).size = 8 := rfl
 rw [ho.1] at h1
 unfold stLnL stHd
 rw [List.length_append, List.length_append, dl_size, ByteArray.size_append]
 simp only [List.length_cons, List.length_nil]
 omega
theorem j_sz {l : List ByteArray} {n : Nat} (h : ∀ x ∈ l, x.size <= 100) (hn : l.length = n) : (joinS l ⟨#[32]⟩).size <= n * 101 := by
 have h1 := join_len (sep := ⟨#[32]⟩) h
 have h2 : (⟨#[32]⟩ : ByteArray).size = 1 := rfl
 rw [h2, hn] at h1
 omega
theorem clJ_sz {x : Cs} (h : x.key.size <= 100 /\ x.up.size <= 100) : (joinS [clW, x.key, dsh x.up] ⟨#[32]⟩).size <= 303 := Nat.le_trans (j_sz (n := 3) (fun y hy => by
 simp only [List.mem_cons, List.not_mem_nil, or_false] at hy
 rcases hy with rfl | rfl | rfl
 ·decide
 ·exact h.1
 ·exact dsh_sz h.2) rfl) (by decide)
theorem vhJ_sz {x : Vh} (h : x.key.size <= 100 /\ x.cls.size <= 100) : (joinS [vhW, x.key, x.cls] ⟨#[32]⟩).size <= 303 := Nat.le_trans (j_sz (n := 3) (fun y hy => by
 simp only [List.mem_cons, List.not_mem_nil, or_false] at hy
 rcases hy with rfl | rfl | rfl
 ·decide
 ·exact h.1
 ·exact h.2) rfl) (by decide)
theorem plJ_sz {x : Pl} (h : (0 <= x.fr /\ x.fr <= 5761439) /\ x.veh.size <= 100 /\ x.plate.size <= 100) : (joinS [plW, itoaS x.fr, x.veh, x.plate] ⟨#[32]⟩).size <= 404 := Nat.le_trans (j_sz (n := 4) (fun y hy => by
 have e := itoa_sz (v := x.fr) (by omega)
 simp only [List.mem_cons, List.not_mem_nil, or_false] at hy
 rcases hy with rfl | rfl | rfl | rfl
 ·decide
 ·omega
 ·exact h.2.1
 ·exact h.2.2) rfl) (by decide)
theorem fm_len {α : Type} {f : α -> List UInt8} {l : List α} (h : ∀ x ∈ l, (f x).length <= 800) : (l.flatMap f).length <= l.length * 800 := by
 induction l with
 | nil => exact Nat.zero_le _
 | cons x r ih =>
  have h1 := ih fun y hy => h y (List.mem_cons_of_mem _ hy)
  have h2 := h x (List.mem_cons_self ..)
  rw [List.flatMap_cons, List.length_append, List.length_cons]
  omega
theorem flA_len {sl : List St} (h : ∀ x ∈ sl, x.key.size <= 100) (ho : ∀ x ∈ sl, StOk x) : (flA sl).length <= sl.length * 800 := fm_len fun x hx => stLnL_len (h x hx) (ho x hx)
theorem clLn_len {cl : List Cs} (h : ∀ x ∈ cl, x.key.size <= 100 /\ x.up.size <= 100) : (cl.flatMap fun x => (clLn x).data.toList).length <= cl.length * 800 := fm_len fun x hx => by
 have h1 := clJ_sz (h x hx)
 have h2 : (⟨#[10]⟩ : ByteArray).size = 1 := rfl
 rw [dl_size]; unfold clLn; rw [ByteArray.size_append]; omega
theorem vhLn_len {vl : List Vh} (h : ∀ x ∈ vl, x.key.size <= 100 /\ x.cls.size <= 100) : (vl.flatMap fun x => (vhLn x).data.toList).length <= vl.length * 800 := fm_len fun x hx => by
 have h1 := vhJ_sz (h x hx)
 have h2 : (⟨#[10]⟩ : ByteArray).size = 1 := rfl
 rw [dl_size]; unfold vhLn; rw [ByteArray.size_append]; omega
theorem plLn_len {pl : List Pl} (h : ∀ x ∈ pl, (0 <= x.fr /\ x.fr <= 5761439) /\ x.veh.size <= 100 /\ x.plate.size <= 100) : (pl.flatMap fun x => (plLn x).data.toList).length <= pl.length * 800 := fm_len fun x hx => by
 have h1 := plJ_sz (h x hx)
 have h2 : (⟨#[10]⟩ : ByteArray).size = 1 := rfl
 rw [dl_size]; unfold plLn; rw [ByteArray.size_append]; omega
theorem fl_len {sl : List St} {cl : List Cs} {vl : List Vh} {pl : List Pl} (h : FtB sl cl vl pl) (ho : ∀ x ∈ sl, StOk x) : (flB sl cl).length <= (sl.length + cl.length) * 800 /\ (flC sl cl vl).length <= (sl.length + cl.length + vl.length) * 800 /\ (flD sl cl vl pl).length <= (sl.length + cl.length + vl.length + pl.length) * 800 := by
 have h1 := flA_len h.1 ho
 have h2 := clLn_len h.2.1
 have h3 := vhLn_len h.2.2.1
 have h4 := plLn_len h.2.2.2
 have e1 : (flB sl cl).length <= (sl.length + cl.length) * 800 := by unfold flB; rw [List.length_append]; omega
 have e2 : (flC sl cl vl).length <= (sl.length + cl.length + vl.length) * 800 := by unfold flC; rw [List.length_append]; omega
 exact ⟨e1, e2, by unfold flD; rw [List.length_append]; omega⟩
theorem join_one (s sep : ByteArray) : joinS [s] sep = s := by
 refine ba_eq ?_
 unfold joinS
 simp [Lib.join_cons, Lib.joinTail]
theorem clLn_eq (k u : ByteArray) : ((((⟨#[99, 108, 97, 115, 115, 32]⟩ : ByteArray) ++ k) ++ (⟨#[32]⟩ : ByteArray)) ++ dsh u) ++ (⟨#[10]⟩ : ByteArray) = clLn ⟨k, u⟩ := by
 refine ba_eq ?_
 unfold clLn joinS clW
 simp [Lib.join_cons, Lib.joinTail]
theorem vhLn_eq (k c : ByteArray) : ((((⟨#[118, 101, 104, 105, 99, 108, 101, 32]⟩ : ByteArray) ++ k) ++ (⟨#[32]⟩ : ByteArray)) ++ c) ++ (⟨#[10]⟩ : ByteArray) = vhLn ⟨k, c⟩ := by
 refine ba_eq ?_
 unfold vhLn joinS vhW
 simp [Lib.join_cons, Lib.joinTail]
theorem plLn_eq (f : Int) (v p : ByteArray) : ((((((⟨#[112, 108, 97, 116, 101, 32]⟩ : ByteArray) ++ itoaS f) ++ (⟨#[32]⟩ : ByteArray)) ++ v) ++ (⟨#[32]⟩ : ByteArray)) ++ p) ++ (⟨#[10]⟩ : ByteArray) = plLn ⟨f, v, p⟩ := by
 refine ba_eq ?_
 unfold plLn joinS plW
 simp [Lib.join_cons, Lib.joinTail]
def cutD (x : ByteArray) : ByteArray × ByteArray × Bool := cutS x dashS
def wF (x : ByteArray) : Int := numV (cutD x).1
def wT (x : ByteArray) : Int := numV (cutD x).2.1
def winB (x : ByteArray) : Bool := (((cutD x).2.2 && [(cutD x).1, (cutD x).2.1].all numB) && decide (0 <= wF x)) && decide (0 <= wT x)
inductive FIt where
  | st (x : St)
  | cs (x : Cs)
  | vh (x : Vh)
  | pl (x : Pl)
def FIt.kd : FIt -> Int
 | .st _ => 1
 | .cs _ => 2
 | .vh _ => 3
 | .pl _ => 4
def und (s : ByteArray) : ByteArray := if (s.toList == dashS.toList) = true then ⟨#[]⟩ else s
def stOf (k x0 x1 x2 x3 x4 x5 x6 : ByteArray) : St := ⟨k, [wF x0, wT x0, wF x1, wT x1, wF x2, wT x2, wF x3, wT x3, wF x4, wT x4, wF x5, wT x5, wF x6, wT x6]⟩
def fItem : List ByteArray -> Option FIt
 | [a0, a1, a2] => if eqS a0 clW = true then some (.cs ⟨a1, und a2⟩) else if eqS a0 vhW = true then some (.vh ⟨a1, a2⟩) else none
 | [a0, a1, a2, a3] => if (eqS a0 plW && numB a1) = true then some (.pl ⟨numV a1, a2, a3⟩) else none
 | [a0, a1, x0, x1, x2, x3, x4, x5, x6] => if (eqS a0 stW && [x0, x1, x2, x3, x4, x5, x6].all winB) = true then some (.st (stOf a1 x0 x1 x2 x3 x4 x5 x6)) else none
 | _ => none
structure FsZ where
  sl : List St
  cl : List Cs
  vl : List Vh
  pl : List Pl
  last : Int
def fPush (s : FsZ) : FIt -> FsZ
 | .st x => ⟨s.sl ++ [x], s.cl, s.vl, s.pl, 1⟩
 | .cs x => ⟨s.sl, s.cl ++ [x], s.vl, s.pl, 2⟩
 | .vh x => ⟨s.sl, s.cl, s.vl ++ [x], s.pl, 3⟩
 | .pl x => ⟨s.sl, s.cl, s.vl, s.pl ++ [x], 4⟩
def fIt (t : ByteArray) : Option FIt := if wdB t = true then fItem (wdL t) else none
def fStep (t : ByteArray) (s : FsZ) : FsZ × Bool := match fIt t with
 | some x => if x.kd < s.last then (s, false) else (fPush s x, true)
 | none => (s, false)
theorem fStep_no {t : ByteArray} {s : FsZ} (h : fIt t = none) : fStep t s = (s, false) := by unfold fStep; rw [h]
theorem fStep_low {t : ByteArray} {s : FsZ} {x : FIt} (h : fIt t = some x) (h2 : x.kd < s.last) : fStep t s = (s, false) := by unfold fStep; rw [h]; exact if_pos h2
theorem fStep_yes {t : ByteArray} {s : FsZ} {x : FIt} (h : fIt t = some x) (h2 : ¬ x.kd < s.last) : fStep t s = (fPush s x, true) := by unfold fStep; rw [h]; exact if_neg h2
theorem fIt_wd {t : ByteArray} (h : (!wdB t) = true) : fIt t = none := by
 unfold fIt
 cases hb : wdB t with
 | false => rfl
 | true => rw [hb] at h; cases h
theorem fIt_go {t : ByteArray} (h : (!wdB t) = false) : fIt t = fItem (wdL t) := by
 unfold fIt
 cases hb : wdB t with
 | true => rfl
 | false => rw [hb] at h; cases h
theorem list3f {l : List ByteArray} (h : l.length = 3) : ∃ a0 a1 a2, l = [a0, a1, a2] := by
 match l, h with
 | [a0, a1, a2], _ => exact ⟨a0, a1, a2, rfl⟩
theorem list4f {l : List ByteArray} (h : l.length = 4) : ∃ a0 a1 a2 a3, l = [a0, a1, a2, a3] := by
 match l, h with
 | [a0, a1, a2, a3], _ => exact ⟨a0, a1, a2, a3, rfl⟩
theorem list9f {l : List ByteArray} (h : l.length = 9) : ∃ a0 a1 a2 a3 a4 a5 a6 a7 a8, l = [a0, a1, a2, a3, a4, a5, a6, a7, a8] := by
 match l, h with
 | [a0, a1, a2, a3, a4, a5, a6, a7, a8], _ => exact ⟨a0, a1, a2, a3, a4, a5, a6, a7, a8, rfl⟩
theorem win_no1 {x : ByteArray} (h : (cutD x).2.2 = false) : winB x = false := by unfold winB; rw [h]; rfl
theorem win_no2 {x : ByteArray} (h : [(cutD x).1, (cutD x).2.1].all numB = false) : winB x = false := by unfold winB; rw [h, Bool.and_false]; rfl
theorem win_no3 {x : ByteArray} (h : wF x < 0) : winB x = false := by unfold winB; rw [decide_eq_false (show ¬ 0 <= wF x by omega), Bool.and_false]; rfl
theorem win_no4 {x : ByteArray} (h : wT x < 0) : winB x = false := by unfold winB; rw [decide_eq_false (show ¬ 0 <= wT x by omega), Bool.and_false]
theorem win_yes {x : ByteArray} (h1 : (cutD x).2.2 = true) (h2 : [(cutD x).1, (cutD x).2.1].all numB = true) (h3 : ¬ wF x < 0) (h4 : ¬ wT x < 0) : winB x = true := by
 unfold winB; rw [h1, h2, decide_eq_true (show 0 <= wF x by omega), decide_eq_true (show 0 <= wT x by omega)]; rfl
theorem fnd_lt : ∀ (k u : Nat), (Lib.decDigits u).length <= k + 1 -> u < 10 ^ (k + 1)
 | 0, u, h => by
  by_cases h1 : u < 10
  ·simpa using h1
  ·rw [Lib.decDigits_length, Lib.nDigits_big h1] at h
   have h2 : (Lib.decDigits (u / 10)).length = Lib.nDigits (u / 10) := Lib.decDigits_length _
   have h3 : Lib.decDigits (u / 10) ≠ [] := (dec_dig _).2
   have h4 : (Lib.decDigits (u / 10)).length ≠ 0 := fun e => h3 (List.eq_nil_of_length_eq_zero e)
   omega
 | k + 1, u, h => by
  by_cases h1 : u < 10
  ·have h9 : 0 < 10 ^ (k + 1) := Nat.pow_pos (by decide)
   rw [Nat.pow_succ]; omega
  ·rw [Lib.decDigits_length, Lib.nDigits_big h1] at h
   have h2 := fnd_lt k (u / 10) (by rw [Lib.decDigits_length]; omega)
   rw [Nat.div_lt_iff_lt_mul (by decide)] at h2
   rw [Nat.pow_succ]; exact h2
theorem fnumV_bd {s : ByteArray} (h : numB s = true) : -1000000000 <= numV s /\ numV s <= 1000000000 := by
  unfold numB at h
  unfold numV
  split at h
  · rename_i v hv
    show -1000000000 <= v /\ v <= 1000000000
    simp only [Bool.and_eq_true, decide_eq_true_eq] at h
    obtain ⟨h1, h2⟩ := h
    have h1 : Lib.itoa v = s.data.toList := by simpa using h1
    rw [<- h1] at h2
    unfold Lib.itoa at h2
    split at h2
    · have h3 : Lib.trimPrefix (45 :: Lib.decDigits v.natAbs) [45] = Lib.decDigits v.natAbs := rfl
      rw [h3] at h2
      have := fnd_lt 8 _ h2
      omega
    · have h4 : (Lib.decDigits v.toNat).length <= 9 := by
        have h5 : Lib.trimPrefix (Lib.decDigits v.toNat) [45] = Lib.decDigits v.toNat := by
          cases hd : Lib.decDigits v.toNat with
          | nil => rfl
          | cons c r =>
            have h6 := (dec_dig v.toNat).1
            rw [hd, List.all_cons, Bool.and_eq_true] at h6
            have h7 : (c == 45) = false := by
              cases hc : c == 45 with
              | false => rfl
              | true =>
                have : c = 45 := by simpa using hc
                subst this
                exact absurd h6.1 (by decide)
            have h8 : Lib.hasPrefix (c :: r) [45] = false := by
              show ((45 : UInt8) == c && List.isPrefixOf [] r) = false
              rw [show ((45 : UInt8) == c) = (c == 45) from by rw [Bool.eq_iff_iff]; simp only [beq_iff_eq]; exact eq_comm, h7]; rfl
            unfold Lib.trimPrefix
            rw [h8]; rfl
        rw [h5] at h2; exact h2
      have := fnd_lt 8 _ h4
      omega
  · cases h
  · cases h
def FsQ (s : FsZ) : Prop := (∀ x ∈ s.sl, StOk x) /\ (∀ x ∈ s.cl, CsOk x) /\ (∀ x ∈ s.vl, VhOk x) /\ (∀ x ∈ s.pl, PlOk x)
def fsM (s : FsZ) : Nat := s.sl.length + s.cl.length + s.vl.length + s.pl.length
def FItOk : FIt -> Prop
 | .st x => StOk x
 | .cs x => CsOk x
 | .vh x => VhOk x
 | .pl x => PlOk x
theorem win_bd {x : ByteArray} (h : winB x = true) : (-9223372036854775808 <= wF x /\ wF x <= 9223372036854775807) /\ (-9223372036854775808 <= wT x /\ wT x <= 9223372036854775807) := by
 unfold winB at h
 simp only [Bool.and_eq_true, List.all_cons, List.all_nil] at h
 obtain ⟨⟨⟨_, h1, h2, _⟩, _⟩, _⟩ := h
 have e1 := fnumV_bd h1
 have e2 := fnumV_bd h2
 unfold wF wT
 omega
theorem und_sz {s : ByteArray} (h : s.size <= 1000000) : (und s).size <= 1000000 := by
 unfold und
 split
 ·exact Nat.zero_le _
 ·exact h
theorem fItem_ok {l : List ByteArray} {x : FIt} (hz : ∀ y ∈ l, y.size <= 1000000) (h : fItem l = some x) : FItOk x := by
 unfold fItem at h
 split at h
 ·rename_i a0 a1 a2
  split at h
  ·obtain rfl := Option.some.inj h
   exact ⟨hz a1 (by simp), und_sz (hz a2 (by simp))⟩
  ·split at h
   ·obtain rfl := Option.some.inj h
    exact ⟨hz a1 (by simp), hz a2 (by simp)⟩
   ·cases h
 ·rename_i a0 a1 a2 a3
  split at h
  ·rename_i hc
   obtain rfl := Option.some.inj h
   rw [Bool.and_eq_true] at hc
   have e := fnumV_bd hc.2
   exact ⟨by dsimp only; omega, hz a2 (by simp), hz a3 (by simp)⟩
  ·cases h
 ·rename_i a0 a1 x0 x1 x2 x3 x4 x5 x6
  split at h
  ·rename_i hc
   obtain rfl := Option.some.inj h
   rw [Bool.and_eq_true] at hc
   have hw := List.all_eq_true.1 hc.2
   refine ⟨rfl, hz a1 (by simp), fun y hy => ?_⟩
   have k0 := win_bd (hw x0 (by simp))
   have k1 := win_bd (hw x1 (by simp))
   have k2 := win_bd (hw x2 (by simp))
   have k3 := win_bd (hw x3 (by simp))
   have k4 := win_bd (hw x4 (by simp))
   have k5 := win_bd (hw x5 (by simp))
   have k6 := win_bd (hw x6 (by simp))
   unfold stOf at hy
   simp only [List.mem_cons, List.not_mem_nil, or_false] at hy
   rcases hy with rfl | rfl | rfl | rfl | rfl | rfl | rfl | rfl | rfl | rfl | rfl | rfl | rfl | rfl
   ·exact k0.1
   ·exact k0.2
   ·exact k1.1
   ·exact k1.2
   ·exact k2.1
   ·exact k2.2
   ·exact k3.1
   ·exact k3.2
   ·exact k4.1
   ·exact k4.2
   ·exact k5.1
   ·exact k5.2
   ·exact k6.1
   ·exact k6.2
  ·cases h
 ·cases h
theorem snoc_all {α : Type} {P : α -> Prop} {l : List α} {x : α} (h : ∀ y ∈ l, P y) (hx : P x) : ∀ y ∈ l ++ [x], P y := fun y hy => by
 rcases List.mem_append.1 hy with hy | hy
 ·exact h y hy
 ·rw [List.mem_singleton.1 hy]; exact hx
theorem fPush_ok {s : FsZ} {x : FIt} (hq : FsQ s) (hx : FItOk x) : FsQ (fPush s x) /\ fsM (fPush s x) = fsM s + 1 := by
 obtain ⟨q1, q2, q3, q4⟩ := hq
 cases x with
 | st y => exact ⟨⟨snoc_all q1 hx, q2, q3, q4⟩, by unfold fsM fPush; dsimp only; rw [List.length_append, List.length_singleton]; omega⟩
 | cs y => exact ⟨⟨q1, snoc_all q2 hx, q3, q4⟩, by unfold fsM fPush; dsimp only; rw [List.length_append, List.length_singleton]; omega⟩
 | vh y => exact ⟨⟨q1, q2, snoc_all q3 hx, q4⟩, by unfold fsM fPush; dsimp only; rw [List.length_append, List.length_singleton]; omega⟩
 | pl y => exact ⟨⟨q1, q2, q3, snoc_all q4 hx⟩, by unfold fsM fPush; dsimp only; rw [List.length_append, List.length_singleton]; omega⟩
theorem fStep_ok (t : ByteArray) (s : FsZ) (ht : t.size <= 200000) (hq : FsQ s) : FsQ (fStep t s).1 /\ fsM (fStep t s).1 <= fsM s + 1 := by
 cases hi : fIt t with
 | none => rw [fStep_no hi]; exact ⟨hq, Nat.le_succ _⟩
 | some x =>
  have hx : FItOk x := by
   unfold fIt at hi
   split at hi
   ·exact fItem_ok (fun y hy => Nat.le_trans (wdL_sz t y hy) (by omega)) hi
   ·cases hi
  by_cases hk : x.kd < s.last
  ·rw [fStep_low hi hk]; exact ⟨hq, Nat.le_succ _⟩
  ·rw [fStep_yes hi hk]
   have := fPush_ok hq hx
   exact ⟨this.1, Nat.le_of_eq this.2⟩
def fs0 : FsZ := ⟨[], [], [], [], 1⟩
def flR (t : ByteArray) : Int × Bool × FsZ := linesR fStep fs0 t
theorem fs0_ok : FsQ fs0 := ⟨(fun _ h => by cases h), (fun _ h => by cases h), (fun _ h => by cases h), (fun _ h => by cases h)⟩
theorem flR_all {t : ByteArray} (ht : t.size <= 200000) : FsQ (flR t).2.2 /\ fsM (flR t).2.2 <= t.size := by
 have h := linesR_all (Q := FsQ) (ms := fsM) (M := 200000) fStep_ok ht (st := fs0) fs0_ok
 exact ⟨h.1, by have := h.2; rw [show fsM fs0 = 0 from rfl, Nat.zero_add] at this; exact this⟩
def fsE (s : FsZ) : Int := fleetE s.sl s.cl s.vl s.pl
def flE (t : ByteArray) : Int := if 200000 < t.size then 2 else if (flR t).2.1 = false then 9 else fsE (flR t).2.2
def flAt (t : ByteArray) : Int := if 200000 < t.size then 0 else if (flR t).2.1 = false then (flR t).1 else 0
def flF (t : ByteArray) : FsZ := if 200000 < t.size then fs0 else if (flR t).2.1 = false then fs0 else if fsE (flR t).2.2 = 0 then (flR t).2.2 else fs0
section
variable {t : ByteArray}
theorem fl_big (h : 200000 < t.size) : flE t = 2 /\ flAt t = 0 /\ flF t = fs0 := by unfold flE flAt flF; simp [h]
theorem fl_syn (h : ¬ 200000 < t.size) (h2 : (flR t).2.1 = false) : flE t = 9 /\ flAt t = (flR t).1 /\ flF t = fs0 := by unfold flE flAt flF; simp [h, h2]
theorem fl_form (h : ¬ 200000 < t.size) (h2 : (flR t).2.1 = true) (h3 : ¬ fsE (flR t).2.2 = 0) : flE t = fsE (flR t).2.2 /\ flAt t = 0 /\ flF t = fs0 := by unfold flE flAt flF; simp [h, h2, h3]
theorem fl_right (h : ¬ 200000 < t.size) (h2 : (flR t).2.1 = true) (h3 : fsE (flR t).2.2 = 0) : flE t = 0 /\ flAt t = 0 /\ flF t = (flR t).2.2 := by unfold flE flAt flF; simp [h, h2, h3]
theorem flF_all (ht : t.size <= 200000) : FsQ (flF t) /\ fsM (flF t) <= t.size := by
 have h := flR_all ht
 have h0 : FsQ fs0 /\ fsM fs0 <= t.size := ⟨fs0_ok, Nat.zero_le _⟩
 unfold flF
 split
 ·exact h0
 ·split
  ·exact h0
  ·split
   ·exact h
   ·exact h0
end
end Go.Proofs.YtempjmpfdniecaaGreatDoor
namespace Go.Proofs.YtempjmpfdniecaaGreatDoor
open Go.RowKit
def rowArr (P : Program) (t : TypeId) : Option (Nat × TypeId × Nat) :=
 match P.underlying t with
 | some (.array n e) => match P.underlying e with
  | some d => if d.isRow then (P.info? e).map fun i => (n, e, i.size) else none
  | none => none
 | _ => none
section
variable {P : Program} {nn : Nat} {S : List (Nat × Value)} {Z : World -> Prop} {d : Nat} {ty : TypeId} {pos : String} {aft : Array Edge}
theorem ov_indexA {t e : TypeId} {x y : Operand} {len sz i : Nat} {cs vs : List Value} (ht : rowArr P t = some (len, e, sz)) (hx : rd S x = some (.agg cs.toArray)) (hy : rd S y = some (.int .i64 (i : Int))) (hlt : i < len) (hv : (cs.drop (i * sz)).take sz = vs) :
  OV P nn S Z ⟨some d, .index t x y, ty, pos, aft, none⟩ (.agg vs.toArray) := fun a w ha hm => by
 unfold rowArr at ht
 split at ht
 ·rename_i n e' hu
  split at ht
  ·rename_i dd he
   split at ht
   ·rename_i hrow
    cases hq : P.info? e' with
    | none => simp [hq] at ht
    | some inf =>
     simp only [hq, Option.map_some, Option.some.injEq, Prod.mk.injEq] at ht
     obtain ⟨rfl, rfl, hs⟩ := ht
     have hagg : (isAgg e').run P w = .ok true w := by
      unfold isAgg
      rw [Sem.run_bind, run_underlying he w]
      cases dd <;> simp_all [TypeDesc.isRow]
     have hb : 0 <= (i : Int) /\ (i : Int) < (n : Int) := ⟨by omega, by omega⟩
     have hr : (Instr.index t (.agg cs.toArray) (.int .i64 (i : Int))).run P w = .ok (.agg vs.toArray) w := by
      subst hv
      simp [Instr.index, asIntOf, run_underlying hu, sizeOf, typeInfo, hq, hs, part, hagg]
      omega
     simp [execOp, ha.eval hx, ha.eval hy, hr, Result.andThen]
   ·cases ht
  ·cases ht
 ·cases ht
end
end Go.Proofs.YtempjmpfdniecaaGreatDoor
