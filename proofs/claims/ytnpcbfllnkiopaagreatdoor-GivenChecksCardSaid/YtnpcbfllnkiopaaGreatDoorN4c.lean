/- Several texts as one: Gi Srt Gq Sl Sk Stc Bt Gu Gl Go Gov Gow Cells Lst Mp Md Ev Yp Gox Goy Bv Goa Az Gob Gos Gck Goc -/
import Derived.Test.YtnpcbfllnkiopaaGreatDoorN4b
import Derived.Test.YtnpcbfllnkiopaaGreatDoorN4a
import Derived.Test.YtnpcbfllnkiopaaGreatDoorProg
import Derived.Ground.NamesProg
import Derived.Shelf.Small.Bits
import Derived.Shelf.Small.Strs
import Derived.Laws.BitsLemmas
import Derived.Laws.Shifts
import Derived.Deep.LoopGhost
import Derived.Deep.DeepCutAuto
import Derived.Maps.Own
import Derived.MapKept
import Derived.Lib.AppendZeros
import Derived.OneCell
set_option maxRecDepth 100000
set_option maxHeartbeats 4000000
namespace Go.Proofs.YtnpcbfllnkiopaaGreatDoor
open Go.RowKit
/-- Whether two times have a moment in common. -/
def meetW (a b c d : Int) : Bool := decide (a < d) && decide (c < b)
def meetB (x y : Bk) : Bool := meetW x.fr x.to_ y.fr y.to_
def sgnI (z : Int) : Int := if z < 0 then -1 else if 0 < z then 1 else 0
theorem sgn_cmp (a b : Int) : sgnI (a - b) = cmpI a b := by
  unfold sgnI cmpI
  by_cases h1 : a < b
  · rw [if_pos (by omega), if_pos h1]
  · by_cases h2 : b < a
    · rw [if_neg (by omega), if_pos (by omega), if_neg h1, if_pos h2]
    · rw [if_neg (by omega), if_neg (by omega), if_neg h1, if_neg h2]
theorem meet_any (a b c d : Int) (w : World) :
  Calls Tryz.prog 156 #[.agg #[.int .i64 a, .int .i64 b], .agg #[.int .i64 c, .int .i64 d]] w (fun e w' => e = .returned (.bool (meetW a b c d)) ∧ w.grownBy w' none) := by
 refine gw_enter ⟨17, w, none, []⟩ Tryz.func156 rfl Tryz.ntmps156 rfl (mem0 (X := []) allF_nil allL_nil) ?_
 refine sr_ ?_
 refine wl_box rfl rfl rfl fun g1 => ?_
 refine wl_box rfl rfl rfl fun g2 => ?_
 refine sg_ rfl (nn_ (sr_ (fd_ fo42_0 rfl rfl (lk_ sc3 1 rfl rfl rfl (fd_ fo42_1 rfl rfl (lk_ sc3 0 rfl rfl rfl (wl_ov (ov_lss rfl rfl) rfl (mv_ rfl ?_))))))))
 rcases Bool.eq_false_or_eq_true (decide (a < d)) with h1 | h1
 ·refine wl_set 10 rfl (congrArg Value.bool h1) ?_
  refine wl_guard_on rfl rfl rfl (fd_ fo42_0 rfl rfl (wl_guard_on rfl rfl rfl (lk_ sc3 0 rfl rfl rfl (wl_guard_on rfl rfl rfl (fd_ fo42_1 rfl rfl (wl_guard_on rfl rfl rfl (lk_ sc3 1 rfl rfl rfl (wl_guard_on rfl rfl rfl (wl_ov (ov_lss rfl rfl) rfl (pt_ rfl rfl (sg_ rfl (nn_ ?_))))))))))))
  refine gw_ret ?_
  refine nx_ret1 rfl rfl fun wx hm => ?_
  exact ⟨by unfold meetW; simp [h1], hm.g⟩
 refine wl_set 10 rfl (congrArg Value.bool h1) ?_
 refine goff rfl rfl rfl (goff rfl rfl rfl (goff rfl rfl rfl (goff rfl rfl rfl (goff rfl rfl rfl (pf_ rfl rfl (sg_ rfl (nn_ ?_)))))))
 refine gw_ret ?_
 refine nx_ret1 rfl rfl fun wx hm => ?_
 exact ⟨by unfold meetW; simp [h1], hm.g⟩
theorem rmeet_any (a b c d : Int) (w : World) (hab : a < b) (hcd : c < d) :
  Calls Tryz.prog 149 #[.agg #[.int .i64 a, .int .i64 b], .agg #[.int .i64 c, .int .i64 d]] w (fun e w' => e = .returned (.bool (meetW a b c d)) ∧ w.grownBy w' none) := by
 refine gw_enter ⟨16, w, none, []⟩ Tryz.func149 rfl Tryz.ntmps149 rfl (mem0 (X := []) allF_nil allL_nil) ?_
 refine sr_ ?_
 refine wl_box rfl rfl rfl fun g1 => ?_
 refine wl_box rfl rfl rfl fun g2 => ?_
 refine sg_ rfl (nn_ (sr_ (fd_ fo42_0 rfl rfl (lk_ sc3 1 rfl rfl rfl (fd_ fo42_0 rfl rfl (lk_ sc3 0 rfl rfl rfl ?_))))))
 refine wl_ov (ov_max rfl rfl) rfl ?_
 refine fd_ fo42_1 rfl rfl (lk_ sc3 1 rfl rfl rfl (fd_ fo42_1 rfl rfl (lk_ sc3 0 rfl rfl rfl ?_)))
 refine wl_ov (ov_min rfl rfl) rfl ?_
 refine wl_ov (ov_lss rfl rfl) rfl (sg_ rfl (nn_ ?_))
 refine gw_ret ?_
 refine nx_ret1 rfl rfl fun wx hm => ?_
 refine ⟨?_, hm.g⟩
 refine congrArg (fun z => Ending.returned (.bool z)) ?_
 unfold meetW
 rw [Bool.eq_iff_iff]
 simp only [Bool.and_eq_true, decide_eq_true_eq]
 omega
theorem sign_any (z : Int) (w : World) : Calls Tryz.prog 178 #[.int .i64 z] w (fun e w' => e = .returned (.int .i64 (sgnI z)) ∧ w.grownBy w' none) := by
 refine gw_enter ⟨9, w, none, []⟩ Tryz.func178 rfl Tryz.ntmps178 rfl (mem0 (X := []) allF_nil allL_nil) ?_
 refine sr_ (sg_ rfl (nn_ (gw_seq (gw_block (sr_ (mv_ rfl (wl_ov (ov_lss rfl rfl) rfl (sg_ rfl (nn_ ?_)))))))))
 refine gw_cond rfl (fun hh => ?_) (fun hh => ?_)
 ·have h1 : z < 0 := by simpa using hh
  clear hh
  refine sr_ (sg_ rfl ?_)
  refine wl_set 2 (v' := .int .i64 (-1)) rfl rfl ?_
  refine nn_ ?_
  refine gw_ret ?_
  refine nx_blk_ret (nx_then_ret ?_)
  refine nx_ret1 rfl rfl fun wx hm => ?_
  exact ⟨by unfold sgnI; rw [if_pos h1], hm.g⟩
 have h1 : ¬ (z < 0) := by simpa using hh
 clear hh
 refine sr_ (mv_ rfl ?_)
 refine wl_ov (ov_gtr rfl rfl) rfl ?_
 refine sg_ rfl (nn_ ?_)
 refine gw_cond rfl (fun hh => ?_) (fun hh => ?_)
 ·have h2 : 0 < z := by simpa using hh
  clear hh
  refine sr_ (sg_ rfl (nn_ ?_))
  refine gw_ret ?_
  refine nx_blk_ret (nx_then_ret ?_)
  refine nx_ret1 rfl rfl fun wx hm => ?_
  exact ⟨by unfold sgnI; rw [if_neg (by omega), if_pos (by omega)], hm.g⟩
 have h2 : ¬ (0 < z) := by simpa using hh
 clear hh
 refine gw_skip (nx_blk_nrm (nx_then (sr_ (sg_ rfl (nn_ ?_)))))
 refine gw_ret ?_
 refine nx_ret1 rfl rfl fun wx hm => ?_
 exact ⟨by unfold sgnI; rw [if_neg (by omega), if_neg (by omega)], hm.g⟩
theorem greedy1_any (k1 c1 k2 c2 : ByteArray) (f1 t1 m1 o1 f2 t2 m2 o2 : Int) (w : World) (hb : -1000000000000 ≤ f1 ∧ f1 ≤ 1000000000000) (hb2 : -1000000000000 ≤ f2 ∧ f2 ≤ 1000000000000) :
  Calls Tryz.prog 220 #[.agg #[.string k1, .string c1, .int .i64 f1, .int .i64 t1, .int .i64 m1, .int .i64 o1], .agg #[.string k2, .string c2, .int .i64 f2, .int .i64 t2, .int .i64 m2, .int .i64 o2]] w (fun e w' => e = .returned (.int .i64 (cmpI f1 f2)) ∧ w.grownBy w' none) := by
 refine gw_enter ⟨13, w, none, []⟩ Tryz.func220 rfl Tryz.ntmps220 rfl (mem0 (X := []) allF_nil allL_nil) ?_
 refine sr_ ?_
 refine wl_box rfl rfl rfl fun g1 => ?_
 refine wl_box rfl rfl rfl fun g2 => ?_
 refine sg_ rfl (nn_ (sr_ (fd_ fo199_2 rfl rfl (fd_ fo42_0 rfl rfl (lk_ sc3 1 rfl rfl rfl (fd_ fo199_2 rfl rfl (fd_ fo42_0 rfl rfl (lk_ sc3 0 rfl rfl rfl ?_))))))))
 refine wl_ov (ov_sub rfl rfl (by omega) (by omega)) rfl ?_
 refine wl_callv rfl cb178 rfl rfl (fun wx hm => (sign_any (f1 - f2) wx)) ?_
 refine sg_ rfl (nn_ ?_)
 refine gw_ret ?_
 refine nx_ret1 rfl rfl fun wx hm => ?_
 exact ⟨by rw [sgn_cmp], hm.g⟩
end Go.Proofs.YtnpcbfllnkiopaaGreatDoor
namespace Go.Proofs.YtnpcbfllnkiopaaGreatDoor
open Go.RowKit
section
variable {α : Type}
def sink (lt : α → α → Bool) : Nat → List α → List α
  | 0, l => l
  | j + 1, l => match l[j + 1]?, l[j]? with
    | some x, some y => if lt x y then sink lt j ((l.set (j + 1) y).set j x) else l
    | _, _ => l
def isortF (lt : α → α → Bool) : Nat → Nat → List α → List α
  | 0, _, l => l
  | f + 1, i, l => isortF lt f (i + 1) (sink lt i l)
def isort (lt : α → α → Bool) (l : List α) : List α := isortF lt (l.length - 1) 1 l
theorem sink_yes {lt : α → α → Bool} {j : Nat} {l : List α} {x y : α} (hx : l[j + 1]? = some x) (hy : l[j]? = some y) (h : lt x y = true) : sink lt (j + 1) l = sink lt j ((l.set (j + 1) y).set j x) := by
  simp only [sink, hx, hy, h, if_true]
theorem sink_no {lt : α → α → Bool} {j : Nat} {l : List α} {x y : α} (hx : l[j + 1]? = some x) (hy : l[j]? = some y) (h : lt x y = false) : sink lt (j + 1) l = l := by
  simp only [sink, hx, hy, h, Bool.false_eq_true, if_false]
theorem sink_len (lt : α → α → Bool) : ∀ (j : Nat) (l : List α), (sink lt j l).length = l.length
  | 0, _ => rfl
  | j + 1, l => by
    unfold sink
    split
    · split
      · rw [sink_len lt j]; simp
      · rfl
    · rfl
theorem isortF_len (lt : α → α → Bool) : ∀ (f i : Nat) (l : List α), (isortF lt f i l).length = l.length
  | 0, _, _ => rfl
  | f + 1, i, l => by
    unfold isortF
    rw [isortF_len lt f, sink_len]
theorem isort_len (lt : α → α → Bool) (l : List α) : (isort lt l).length = l.length := isortF_len lt _ _ _
theorem swap_perm {l : List α} {j : Nat} {x y : α} (hx : l[j + 1]? = some x) (hy : l[j]? = some y) : ((l.set (j + 1) y).set j x).Perm l := by
  obtain ⟨h1, rfl⟩ := List.getElem?_eq_some_iff.1 hx
  obtain ⟨h2, rfl⟩ := List.getElem?_eq_some_iff.1 hy
  have e : l = l.take j ++ l[j] :: l[j + 1] :: l.drop (j + 2) := by
    conv => lhs; rw [← List.take_append_drop j l, List.drop_eq_getElem_cons h2, List.drop_eq_getElem_cons h1]
  have hl : (l.take j).length = j := by simp; omega
  have e2 : (l.set (j + 1) l[j]).set j l[j + 1] = l.take j ++ l[j + 1] :: l[j] :: l.drop (j + 2) := by
    refine List.ext_getElem? fun k => ?_
    rw [List.getElem?_set, List.length_set, List.getElem?_set]
    rcases Nat.lt_trichotomy k j with hk | rfl | hk
    · rw [if_neg (by omega), if_neg (by omega), List.getElem?_append_left (by rw [hl]; exact hk), List.getElem?_take, if_pos hk]
    · rw [if_pos rfl, if_pos h2, List.getElem?_append_right (by omega), hl, Nat.sub_self]; rfl
    · rw [if_neg (by omega), List.getElem?_append_right (by omega), hl]
      rcases Nat.lt_trichotomy k (j + 1) with h3 | rfl | h3
      · omega
      · rw [if_pos rfl, if_pos h1, show j + 1 - j = 1 by omega]; rfl
      · rw [if_neg (by omega), show k - j = (k - (j + 2)) + 2 by omega]
        simp only [List.getElem?_cons_succ, List.getElem?_drop]
        congr 1; omega
  rw [e2]
  conv => rhs; rw [e]
  exact List.Perm.append_left _ (List.Perm.swap _ _ _)
theorem sink_perm (lt : α → α → Bool) : ∀ (j : Nat) (l : List α), (sink lt j l).Perm l
  | 0, _ => List.Perm.refl _
  | j + 1, l => by
    unfold sink
    split
    · rename_i x y hx hy
      split
      · exact (sink_perm lt j _).trans (swap_perm hx hy)
      · exact List.Perm.refl _
    · exact List.Perm.refl _
theorem isortF_perm (lt : α → α → Bool) : ∀ (f i : Nat) (l : List α), (isortF lt f i l).Perm l
  | 0, _, _ => List.Perm.refl _
  | f + 1, i, l => (isortF_perm lt f (i + 1) _).trans (sink_perm lt i l)
theorem isort_perm (lt : α → α → Bool) (l : List α) : (isort lt l).Perm l := isortF_perm lt _ _ _
theorem mem_in {lt : α → α → Bool} {l0 R S m : List α} {f i j : Nat} (hR : R = isort lt l0) (hF : isortF lt f i S = R) (hS : sink lt j m = S) {z : α} (hz : z ∈ m) : z ∈ l0 := by
  have h1 : z ∈ S := by rw [← hS]; exact (sink_perm lt j m).mem_iff.2 hz
  have h2 : z ∈ R := by rw [← hF]; exact (isortF_perm lt f i S).mem_iff.2 h1
  rw [hR] at h2
  exact (isort_perm lt l0).mem_iff.1 h2
theorem isort_mem {lt : α → α → Bool} {l : List α} {x : α} : x ∈ isort lt l ↔ x ∈ l := (isort_perm lt l).mem_iff
end
section
variable {P : Program} {c : Cx} {ops : Array Oper} {Q : Exit → Act → World → Prop} {rest : List Oper} {S : List (Nat × Value)} {K : World → Prop} {L : List (Nat × TypeId × List Value)} {O : List Own} {X : List (World → Prop)} {d : Nat} {ty : TypeId} {pos : String} {aft : Array Edge}
theorem memR {n0 : Nat} {Tt : List TypeId} {w : World} {base : Nat} {e : TypeId} {sz n cap g : Nat} {xs : List Value} (hS : w.ownsRow base e sz (.slice (some ⟨g, 0, none⟩) n cap) n xs) (hX : ∀ A ∈ X, A w) (hl : ∀ A ∈ X, Lasts2 w.heap.size (some g) Tt A) : Mem ⟨n0, w, some g, Tt⟩ (RowK base e sz n cap g xs) [] [] X w :=
  have hS2 : RowK base e sz n cap g xs w := hS
  ⟨World.grownBy.refl _ _, hS2, (fun _ hx => by cases hx), List.Pairwise.nil, (fun _ hx => by cases hx), (fun _ hx => by cases hx), List.Pairwise.nil, hX, RowK.keeps hS2.lt.2, hl, (fun _ hr => by cases hr; exact hS2.lt.2)⟩
/-- The row has turned. -/
theorem Mem.turned {base g n cap sz : Nat} {e : TypeId} {xs xs' : List Value} {w w' : World} (h : Mem c (RowK base e sz n cap g xs) L O X w) (hrow : c.row = some g) (hT : c.Tt.contains e = false) (hown : w'.ownsRow base e sz (.slice (some ⟨g, 0, none⟩) n cap) n xs') (hg : w.grownBy w' (some g)) : Mem c (RowK base e sz n cap g xs') L O X w' := by
  have hlt0 := h.rs g hrow
  have hk : w.ownsRow base e sz (.slice (some ⟨g, 0, none⟩) n cap) n xs := h.k
  obtain ⟨cells, hcells⟩ : ∃ cells, w.heap[g]? = some (.cells cells e (0, 0)) := by
    rcases hk.2 with ⟨h1, _⟩ | ⟨g', cap', cur, h1, _, h2, _⟩
    · cases h1
    · injection h1 with h1 _ _
      injection h1 with h1
      injection h1 with h1 _ _
      subst h1
      exact ⟨_, h2⟩
  refine ⟨grow_trans h.g (hrow ▸ hg), hown, fun x hx => ⟨(h.b x hx).1, (h.b x hx).2.grown hg (fun e => ?_)⟩, h.nd, fun r hr => (h.o r hr).kept hg ?_, h.od, h.oo, fun A hA => ?_, RowK.keeps hlt0, h.l, h.rs⟩
  · have := (h.b x hx).1; injection e with e; omega
  · cases hv : r.v.ownBlock with
    | none => exact .inl rfl
    | some g' => exact .inr (fun e => by have := ((h.o r hr).lt g' hv).1; injection e with e; omega)
  · exact (h.l A hA).st w _ g e cells hcells (fun e => by simp [e] at hT) (.inr hrow) hg (h.x A hA)
theorem wl_storesRow {α : Type} {enc : α → List Value} {t : TypeId} {x y : Operand} {base g n cap sz o j r m : Nat} {e : TypeId} {vs : List Value} {l : List α} {el el' : α} (hrow : c.row = some g) (hs : rowSz P t = some m) (hx : rd S x = some (.pointer (some ⟨g, o, none⟩))) (hy : rd S y = some (.agg vs.toArray)) (h1 : vs.all (·.oneCell') = true) (hn : vs.length = m)
    (hk : ∀ x, (enc x).length = sz) (ho : 0 + j * sz + r = o) (hj : l[j]? = some el) (hl : l.length = n) (hr : r + m ≤ sz) (he : splice (enc el) r vs = enc el') (hT : c.Tt.contains e = false)
    (h : WL P c ops Q rest S (RowK base e sz n cap g ((l.set j el').flatMap enc)) L O X) : WL P c ops Q (⟨none, .store t x y, ty, pos, aft, none⟩ :: rest) S (RowK base e sz n cap g (l.flatMap enc)) L O X := by
  intro a w ha hm
  have hown : w.ownsRow base e sz (.slice (some ⟨g, 0, none⟩) n cap) n (l.flatMap enc) := hm.k
  have hjl := (List.getElem?_eq_some_iff.1 hj).1
  have hlt : o + m ≤ n * sz := by
    have : (j + 1) * sz ≤ n * sz := Nat.mul_le_mul_right sz (by omega)
    rw [Nat.add_mul] at this
    omega
  obtain ⟨dd, hu, _, hi⟩ := run_row hs
  rcases hown.2 with ⟨h', _⟩ | ⟨g', cap', cur, h', hb, hg, hnc, hcm, hcs, htake⟩
  · simp at h'
  · simp only [Value.slice.injEq, Option.some.injEq, Addr.mk.injEq, and_true, true_and] at h'
    obtain ⟨rfl, rfl⟩ := h'
    have hbk : Blk w g e cur.toList := by unfold Blk; rw [Array.toArray_toList]; exact hg
    have hcl : n * sz ≤ cur.toList.length := by
      have := Nat.mul_le_mul_right sz hnc
      simp [hcs]; exact this
    refine wpList_store_blk rfl t x y rfl g o e cur.toList vs hbk (ha.eval hx) (ha.eval hy) m hi hn (by omega) (by simpa using h1) fun w' hb' hgr => ?_
    have hsl := splice_length cur.toList o vs (by omega)
    have hfl := flat_len enc sz hk (l.set j el')
    rw [List.length_set, hl] at hfl
    refine h _ _ ⟨ha.size, ha.val, ha.df⟩ (hm.turned hrow hT ⟨hfl, .inr ⟨g, cap, (splice cur.toList o vs).toArray, rfl, hb, hb', hnc, hcm, by simpa [hsl] using hcs, ?_⟩⟩ hgr)
    rw [List.toList_toArray, own_take_splice hcl (by omega), htake, ← ho, Nat.zero_add, own_flat_splice enc sz hk hj he (by omega)]
/-- A call that turns the row. -/
theorem wl_callK {f : FuncId} {x : Operand} {ags : List Operand} {ats : Array TypeId} {vs fs cs : List Value} {v : Value} {base g n cap sz : Nat} {e : TypeId} {xs xs' : List Value} (hrow : c.row = some g) (hT : c.Tt.contains e = false) (hx : rd S x = some (.func (.func f) fs.toArray cs.toArray)) (hf : callableB P f = true) (ha : evArgs S ags = some vs) (hd : Nat.ble (d + 1) c.n = true)
    (hC : ∀ w, Mem c (RowK base e sz n cap g xs) L O X w → Calls P f (fs ++ vs ++ cs).toArray w (fun e1 w' => e1 = .returned v ∧ w'.ownsRow base e sz (.slice (some ⟨g, 0, none⟩) n cap) n xs' ∧ w.grownBy w' (some g))) (h : WL P c ops Q rest ((d, v) :: S) (RowK base e sz n cap g xs') L O X) :
    WL P c ops Q (⟨some d, .call ⟨.value x, ags.toArray, ats⟩, ty, pos, aft, none⟩ :: rest) S (RowK base e sz n cap g xs) L O X :=
  wl_callG (γ := Unit) (val := fun _ => v) (φ := fun _ => True) (K' := fun _ => RowK base e sz n cap g xs') (L' := fun _ => L) (O' := fun _ => O) (X' := fun _ => X) hx hf ha hd (fun w hm => (hC w hm).mono fun _ _ ⟨he, ho, hg⟩ => ⟨(), he, trivial, hm.turned hrow hT ho hg⟩) (fun _ _ => h)
end
/-- A call on a row of the call's own ends by the row's contract. -/
theorem fin_row {base : Nat} {e : TypeId} {sz n cap g : Nat} {xs : List Value} {w0 w : World} (hk : RowK base e sz n cap g xs w) (hg : w0.grownBy w (some g)) : w.ownsRow base e sz (.slice (some ⟨g, 0, none⟩) n cap) n xs ∧ w0.grownBy w (some g) := ⟨hk, hg⟩
end Go.Proofs.YtnpcbfllnkiopaaGreatDoor
namespace Go.Proofs.YtnpcbfllnkiopaaGreatDoor
open Go.RowKit
theorem bk_one : ∀ (x : Bk), ∀ v ∈ bkEnc x, v.oneCell' = true := fun x v hv => by
  unfold bkEnc at hv
  simp only [List.mem_cons, List.not_mem_nil, or_false] at hv
  rcases hv with rfl | rfl | rfl | rfl | rfl | rfl <;> rfl
def grLt (x y : Bk) : Bool := decide (cmpI x.fr y.fr < 0)
def FrB (x : Bk) : Prop := -1000000000000 ≤ x.fr ∧ x.fr ≤ 1000000000000
theorem ins_gr  (l0 : List Bk) (br n cap base : Nat) (w : World) (h : w.ownsRow base 199 6 (.slice (some ⟨br, 0, none⟩) n cap) n (l0.flatMap bkEnc)) (hl0 : l0.length = n) (hn : n ≤ 1000000) (hall : ∀ x ∈ l0, FrB x) :
  Calls Tryz.prog 323 #[.slice (some ⟨br, 0, none⟩) n cap, .int .i64 0, .int .i64 ((n : Nat) : Int), .func (.func 220) #[] #[]] w (fun e w' => e = .returned (.tuple #[]) ∧ w'.ownsRow base 199 6 (.slice (some ⟨br, 0, none⟩) n cap) n ((isort (grLt) l0).flatMap bkEnc) ∧ w.grownBy w' (some br)) := by
 obtain ⟨R, hR⟩ : ∃ z, z = isort (grLt) l0 := ⟨_, rfl⟩
 rw [← hR]
 refine gw_enter ⟨53, w, (some br), []⟩ Tryz.func323 rfl Tryz.ntmps323 rfl (memR (X := []) h allF_nil allL_nil) ?_
 refine sr_ (mv_ rfl (ad_ rfl rfl ?_))
 refine wl_set 11 (v' := .int .i64 1) rfl rfl ?_
 refine sg_ rfl (nn_ (gw_block ?_))
 refine gw_loop (γ := Nat × List Bk) (fun gg => (1 ≤ gg.1 ∧ gg.1 ≤ n + 1) ∧ gg.2.length = n ∧ isortF (grLt) (n - gg.1) gg.1 gg.2 = R) (fun gg => [(0, .slice (some ⟨br, 0, none⟩) n cap), (1, .int .i64 0), (2, .int .i64 ((n : Nat) : Int)), (3, .func (.func 220) #[] #[]), (8, .int .i64 ((gg.1 : Nat) : Int))]) (fun gg => RowK base 199 6 n cap br ((gg.2).flatMap bkEnc)) (fun gg => []) (fun gg => []) (fun gg => []) (fun gg => n + 1 - gg.1) (1, l0) ⟨⟨Nat.le_refl _, by omega⟩, hl0, by rw [hR]; unfold isort; rw [hl0]⟩ ⟨rfl, rfl, rfl, rfl, (some_int (by omega)), trivial⟩ (fun _ hm => hm.pick [] [] [] rfl rfl) ?_
 rintro ⟨i, l⟩ hinv
 replace hinv : (1 ≤ i ∧ i ≤ n + 1) ∧ l.length = n ∧ isortF (grLt) (n - i) i l = R := hinv
 dsimp only
 refine gw_seq (sr_ ?_)
 obtain ⟨⟨hi1, hi2⟩, hl1, hR1⟩ := hinv
 refine mv_ rfl (mv_ rfl (wl_ov (ov_lss rfl rfl) rfl (nn_ ?_)))
 refine gw_cond rfl (fun hh => ?_) (fun hh => ?_)
 ·have hi : ((i : Nat) : Int) < ((n : Nat) : Int) := by simpa using hh
  clear hh
  refine gw_skip (nx_then (gw_seq (gw_block (sr_ ?_))))
  have hRi : isortF (grLt) (n - (i + 1)) (i + 1) (sink (grLt) i l) = R := by rw [← hR1, show n - i = (n - (i + 1)) + 1 by omega]; rfl
  obtain ⟨S, hS⟩ : ∃ z, z = sink (grLt) i l := ⟨_, rfl⟩
  rw [← hS] at hRi
  have hSl : S.length = n := by rw [hS, sink_len]; exact hl1
  refine mv_ rfl (sg_ rfl (nn_ (gw_block ?_)))
  refine gw_loop (γ := Nat × List Bk) (fun gg => (gg.1 ≤ i) ∧ gg.2.length = n ∧ sink (grLt) gg.1 gg.2 = S) (fun gg => [(0, .slice (some ⟨br, 0, none⟩) n cap), (1, .int .i64 0), (2, .int .i64 ((n : Nat) : Int)), (3, .func (.func 220) #[] #[]), (8, .int .i64 ((i : Nat) : Int)), (9, .int .i64 ((gg.1 : Nat) : Int))]) (fun gg => RowK base 199 6 n cap br ((gg.2).flatMap bkEnc)) (fun gg => []) (fun gg => []) (fun gg => []) (fun gg => gg.1) (i, l) ⟨Nat.le_refl _, hl1, hS.symm⟩ ⟨rfl, rfl, rfl, rfl, rfl, rfl, trivial⟩ (fun _ hm => hm.pick [] [] [] rfl rfl) ?_
  rintro ⟨jj, m⟩ hinv
  replace hinv : (jj ≤ i) ∧ m.length = n ∧ sink (grLt) jj m = S := hinv
  dsimp only
  refine gw_seq (gw_seq ?_)
  obtain ⟨hj1, hm1, hS1⟩ := hinv
  rcases jj with _ | j
  ·refine gd (fun wz => True) mixed (fun _ _ => trivial) fun z => ?_
   refine wt 0 17 1 rfl z (ov_move rfl) ?_
   refine wa_set 18 (v' := .int .i64 0) rfl rfl ?_
   refine wt 1 17 3 rfl z (ov_move rfl) ?_
   refine wt 2 17 7 rfl z (ov_gtr rfl rfl) ?_
   refine wa_set 20 (v' := .bool false) rfl (congrArg Value.bool (by decide)) ?_
   refine wt 3 17 15 rfl z (ov_move rfl) ?_
   refine wtf 4 17 31 rfl rfl rfl z ?_
   refine wtf 5 17 63 rfl rfl rfl z ?_
   refine wtf 6 17 127 rfl rfl rfl z ?_
   refine wtf 7 17 255 rfl rfl rfl z ?_
   refine wtf 8 17 511 rfl rfl rfl z ?_
   refine wtf 9 17 1023 rfl rfl rfl z ?_
   refine wtf 10 17 2047 rfl rfl rfl z ?_
   refine wtf 11 17 4095 rfl rfl rfl z ?_
   refine wtf 12 17 8191 rfl rfl rfl z ?_
   refine wtf 13 17 16383 rfl rfl rfl z ?_
   refine wtf 14 17 32767 rfl rfl rfl z ?_
   refine wtf 15 17 65535 rfl rfl rfl z ?_
   refine wt 16 17 131071 rfl z (ov_pick_f rfl rfl) ?_
   refine wa_done (by kernel_rfl) ?_
   refine nx_then (cf_ rfl ?_)
   refine gw_exit ?_
   refine nx_then_exit (nx_then_exit ?_)
   refine nx_blk_here ?_
   refine nx_blk_nrm (nx_then (gw_region (mv_ rfl (ad_ rfl rfl (sg_ rfl (wl_nil ?_))))))
   have hm2 : m = S := hS1
   exact nx_round (i + 1, m) ⟨⟨by dsimp only; omega, by dsimp only; omega⟩, by rw [hm2]; exact hSl, by rw [hm2]; exact hRi⟩ (by dsimp only; omega) ⟨rfl, rfl, rfl, rfl, (some_int (by omega)), trivial⟩ (fun _ hm => hm.pick [] [] [] rfl rfl)
  have hj2 : j + 1 < n := by omega
  have hin : ∀ z ∈ m, z ∈ l0 := fun z hz => mem_in hR hRi hS1 hz
  obtain ⟨xx, hx⟩ : ∃ x, m[j + 1]? = some x := ⟨_, List.getElem?_eq_getElem (by omega)⟩
  obtain ⟨x0, x1, x2, x3, x4, x5⟩ := xx
  obtain ⟨yy, hy⟩ : ∃ x, m[j]? = some x := ⟨_, List.getElem?_eq_getElem (by omega)⟩
  obtain ⟨y0, y1, y2, y3, y4, y5⟩ := yy
  refine gd (fun wz => (RowK base 199 6 n cap br ((m).flatMap bkEnc)) wz ∧ True) mixed (fun _ hm => ⟨hm.k, trivial⟩) fun z => ?_
  refine wt 0 17 1 rfl z (ov_move rfl) ?_
  refine wt 1 17 3 rfl z (ov_move rfl) ?_
  refine wt 2 17 7 rfl z (ov_gtr rfl rfl) ?_
  refine wa_set 20 (v' := .bool true) rfl (congrArg Value.bool (decide_eq_true (by omega))) ?_
  refine wt 3 17 15 rfl z (ov_move rfl) ?_
  refine wto 4 17 31 rfl rfl rfl z (ov_move rfl) ?_
  refine wto 5 17 63 rfl rfl rfl z (ov_move rfl) ?_
  refine wto 6 17 127 rfl rfl rfl z (ov_move rfl) ?_
  refine wto 7 17 255 rfl rfl rfl z (ov_index (j := (j + 1)) es84 rfl rfl (by omega)) ?_
  refine wto 8 17 511 rfl rfl rfl z (ov_elem (vs := [.string x0, .string x1, .int .i64 x2, .int .i64 x3, .int .i64 x4, .int .i64 x5]) rz199 rfl (fun _ hm => (RowK.get (hm.1) bk_len hm1)) hx rfl rfl) ?_
  refine wto 9 17 1023 rfl rfl rfl z (ov_move rfl) ?_
  refine wto 10 17 2047 rfl rfl rfl z (ov_move rfl) ?_
  refine wto 11 17 4095 rfl rfl rfl z (ov_sub rfl rfl (by omega) (by omega)) ?_
  refine wa_set 29 (v' := .int .i64 ((j : Nat) : Int)) rfl (congrArg (Value.int .i64) (by omega)) ?_
  refine wto 12 17 8191 rfl rfl rfl z (ov_index (j := j) es84 rfl rfl (by omega)) ?_
  refine wto 13 17 16383 rfl rfl rfl z (ov_elem (vs := [.string y0, .string y1, .int .i64 y2, .int .i64 y3, .int .i64 y4, .int .i64 y5]) rz199 rfl (fun _ hm => (RowK.get (hm.1) bk_len hm1)) hy rfl rfl) ?_
  refine wa1 14 rfl ?_
  refine wl_guard_on rfl rfl rfl ?_
  refine wl_callv rfl cb220 rfl rfl (fun wx hm => (greedy1_any x0 x1 y0 y1 x2 x3 x4 x5 y2 y3 y4 y5 wx (hall _ (hin _ (List.mem_of_getElem? hx))) (hall _ (hin _ (List.mem_of_getElem? hy))))) ?_
  refine wl_nil ?_
  refine nw 17 32767 (fun _ hm => ⟨hm.k, trivial⟩) fun z => ?_
  refine wto 15 17 65535 rfl rfl rfl z (ov_lss rfl rfl) ?_
  refine wt 16 17 131071 rfl z (ov_pick_t rfl rfl) ?_
  refine wa_done (by kernel_rfl) ?_
  refine nx_then ?_
  refine gw_cond rfl (fun hh => ?_) (fun hh => ?_)
  ·have hlt : cmpI x2 y2 < 0 := by simpa using hh
   clear hh
   refine gw_skip (nx_then (gw_seq (gw_block ?_)))
   have hlt2 : (grLt) ⟨x0, x1, x2, x3, x4, x5⟩ ⟨y0, y1, y2, y3, y4, y5⟩ = true := decide_eq_true (show cmpI x2 y2 < 0 from hlt)
   have hS2 := (sink_yes hx hy hlt2).symm.trans hS1
   refine gd (fun wz => True) mixed (fun _ _ => trivial) fun z => ?_
   refine wt 0 18 1 rfl z (ov_move rfl) ?_
   refine wt 1 18 3 rfl z (ov_move rfl) ?_
   refine wt 2 18 7 rfl z (ov_move rfl) ?_
   refine wt 3 18 15 rfl z (ov_move rfl) ?_
   refine wt 4 18 31 rfl z (ov_sub rfl rfl (by omega) (by omega)) ?_
   refine wa_set 41 (v' := .int .i64 ((j : Nat) : Int)) rfl (congrArg (Value.int .i64) (by omega)) ?_
   refine wt 5 18 63 rfl z (ov_move rfl) ?_
   refine wt 6 18 127 rfl z (ov_move rfl) ?_
   refine wt 7 18 255 rfl z (ov_sub rfl rfl (by omega) (by omega)) ?_
   refine wa_set 44 (v' := .int .i64 ((j : Nat) : Int)) rfl (congrArg (Value.int .i64) (by omega)) ?_
   refine wt 8 18 511 rfl z (ov_index (j := j) es84 rfl rfl (by omega)) ?_
   refine wt 10 18 1535 rfl z (ov_move rfl) ?_
   refine wt 11 18 3583 rfl z (ov_move rfl) ?_
   refine wt 12 18 7679 rfl z (ov_index (j := (j + 1)) es84 rfl rfl (by omega)) ?_
   refine wa_all [9, 13] (by kernel_rfl) rfl ⟨⟨_, rfl, ?_⟩, ⟨_, rfl, ?_⟩, trivial⟩
   ·refine wl_ov (ov_elem (vs := [.string y0, .string y1, .int .i64 y2, .int .i64 y3, .int .i64 y4, .int .i64 y5]) rz199 rfl (fun _ hm => (RowK.get hm.k bk_len hm1)) hy rfl rfl) rfl ?_
    refine wl_nil ?_
    refine nw 18 8191 (fun _ _ => trivial) fun z => ?_
    refine wa1 13 rfl ?_
    refine wl_ov (ov_elem (vs := [.string x0, .string x1, .int .i64 x2, .int .i64 x3, .int .i64 x4, .int .i64 x5]) rz199 rfl (fun _ hm => (RowK.get hm.k bk_len hm1)) hx rfl rfl) rfl ?_
    refine wl_nil ?_
    refine nw 18 16383 (fun _ _ => trivial) fun z => ?_
    refine wt 14 18 32767 rfl z (ov_index (j := (j + 1)) es84 rfl rfl (by omega)) ?_
    refine wa1 15 rfl ?_
    refine wl_storesRow (l := m) (j := j + 1) (r := 0) (el := ⟨x0, x1, x2, x3, x4, x5⟩) (el' := ⟨y0, y1, y2, y3, y4, y5⟩) rfl rz199 rfl rfl rfl rfl bk_len rfl hx hm1 (by decide) rfl rfl ?_
    refine wl_nil ?_
    refine nw 18 65535 (fun _ _ => trivial) fun z => ?_
    refine wt 16 18 131071 rfl z (ov_index (j := j) es84 rfl rfl (by omega)) ?_
    refine wa1 17 rfl ?_
    refine wl_storesRow (l := m.set (j + 1) ⟨y0, y1, y2, y3, y4, y5⟩) (j := j) (r := 0) (el := ⟨y0, y1, y2, y3, y4, y5⟩) (el' := ⟨x0, x1, x2, x3, x4, x5⟩) rfl rz199 rfl rfl rfl rfl bk_len rfl (by rw [List.getElem?_set_ne (by omega)]; exact hy) (by rw [List.length_set]; exact hm1) (by decide) rfl rfl ?_
    refine wl_nil ?_
    refine nw 18 262143 (fun _ _ => trivial) fun z => ?_
    refine wa_done (by kernel_rfl) ?_
    refine nx_blk_nrm (nx_then (gw_region (mv_ rfl ?_)))
    refine wl_ov (ov_sub rfl rfl (by omega) (by omega)) rfl ?_
    refine wl_set 36 (v' := .int .i64 ((j : Nat) : Int)) rfl (congrArg (Value.int .i64) (by omega)) ?_
    refine sg_ rfl (wl_nil ?_)
    exact nx_round (j, (m.set (j + 1) ⟨y0, y1, y2, y3, y4, y5⟩).set j ⟨x0, x1, x2, x3, x4, x5⟩) ⟨by dsimp only; omega, by simp [hm1], hS2⟩ (by dsimp only; omega) ⟨rfl, rfl, rfl, rfl, rfl, (some_int (by omega)), trivial⟩ (fun _ hm => hm.pick [] [] [] rfl rfl)
   refine wl_ov (ov_elem (vs := [.string x0, .string x1, .int .i64 x2, .int .i64 x3, .int .i64 x4, .int .i64 x5]) rz199 rfl (fun _ hm => (RowK.get hm.k bk_len hm1)) hx rfl rfl) rfl ?_
   refine wl_nil ?_
   refine nw 18 15871 (fun _ _ => trivial) fun z => ?_
   refine wa1 9 rfl ?_
   refine wl_ov (ov_elem (vs := [.string y0, .string y1, .int .i64 y2, .int .i64 y3, .int .i64 y4, .int .i64 y5]) rz199 rfl (fun _ hm => (RowK.get hm.k bk_len hm1)) hy rfl rfl) rfl ?_
   refine wl_nil ?_
   refine nw 18 16383 (fun _ _ => trivial) fun z => ?_
   refine wt 14 18 32767 rfl z (ov_index (j := (j + 1)) es84 rfl rfl (by omega)) ?_
   refine wa1 15 rfl ?_
   refine wl_storesRow (l := m) (j := j + 1) (r := 0) (el := ⟨x0, x1, x2, x3, x4, x5⟩) (el' := ⟨y0, y1, y2, y3, y4, y5⟩) rfl rz199 rfl rfl rfl rfl bk_len rfl hx hm1 (by decide) rfl rfl ?_
   refine wl_nil ?_
   refine nw 18 65535 (fun _ _ => trivial) fun z => ?_
   refine wt 16 18 131071 rfl z (ov_index (j := j) es84 rfl rfl (by omega)) ?_
   refine wa1 17 rfl ?_
   refine wl_storesRow (l := m.set (j + 1) ⟨y0, y1, y2, y3, y4, y5⟩) (j := j) (r := 0) (el := ⟨y0, y1, y2, y3, y4, y5⟩) (el' := ⟨x0, x1, x2, x3, x4, x5⟩) rfl rz199 rfl rfl rfl rfl bk_len rfl (by rw [List.getElem?_set_ne (by omega)]; exact hy) (by rw [List.length_set]; exact hm1) (by decide) rfl rfl ?_
   refine wl_nil ?_
   refine nw 18 262143 (fun _ _ => trivial) fun z => ?_
   refine wa_done (by kernel_rfl) ?_
   refine nx_blk_nrm (nx_then (gw_region (mv_ rfl ?_)))
   refine wl_ov (ov_sub rfl rfl (by omega) (by omega)) rfl ?_
   refine wl_set 36 (v' := .int .i64 ((j : Nat) : Int)) rfl (congrArg (Value.int .i64) (by omega)) ?_
   refine sg_ rfl (wl_nil ?_)
   exact nx_round (j, (m.set (j + 1) ⟨y0, y1, y2, y3, y4, y5⟩).set j ⟨x0, x1, x2, x3, x4, x5⟩) ⟨by dsimp only; omega, by simp [hm1], hS2⟩ (by dsimp only; omega) ⟨rfl, rfl, rfl, rfl, rfl, (some_int (by omega)), trivial⟩ (fun _ hm => hm.pick [] [] [] rfl rfl)
  have hlt : ¬ (cmpI x2 y2 < 0) := by simpa using hh
  clear hh
  refine gw_exit ?_
  refine nx_then_exit (nx_then_exit ?_)
  refine nx_blk_here ?_
  refine nx_blk_nrm (nx_then (gw_region ?_))
  have hlt2 : (grLt) ⟨x0, x1, x2, x3, x4, x5⟩ ⟨y0, y1, y2, y3, y4, y5⟩ = false := decide_eq_false (show ¬ cmpI x2 y2 < 0 from hlt)
  have hS2 := (sink_no hx hy hlt2).symm.trans hS1
  refine mv_ rfl (ad_ rfl rfl (sg_ rfl (wl_nil ?_)))
  have hm2 : m = S := hS2
  exact nx_round (i + 1, m) ⟨⟨by dsimp only; omega, by dsimp only; omega⟩, by rw [hm2]; exact hSl, by rw [hm2]; exact hRi⟩ (by dsimp only; omega) ⟨rfl, rfl, rfl, rfl, (some_int (by omega)), trivial⟩ (fun _ hm => hm.pick [] [] [] rfl rfl)
 have hi : ¬ (((i : Nat) : Int) < ((n : Nat) : Int)) := by simpa using hh
 clear hh
 refine gw_exit ?_
 refine nx_then_exit (nx_then_exit ?_)
 refine nx_blk_here ?_
 obtain rfl : l = R := by rw [← hR1, show n - i = 0 by omega]; rfl
 refine nx_ret0 rfl fun wx hm => ?_
 exact ⟨rfl, fin_row hm.k hm.g⟩
theorem stb_gr (l0 : List Bk) (br n cap base : Nat) (w : World) (h : w.ownsRow base 199 6 (.slice (some ⟨br, 0, none⟩) n cap) n (l0.flatMap bkEnc)) (hl0 : l0.length = n) (hn : n ≤ 19) (hall : ∀ x ∈ l0, FrB x) :
  Calls Tryz.prog 267 #[.slice (some ⟨br, 0, none⟩) n cap, .int .i64 ((n : Nat) : Int), .func (.func 220) #[] #[]] w (fun e w' => e = .returned (.tuple #[]) ∧ w'.ownsRow base 199 6 (.slice (some ⟨br, 0, none⟩) n cap) n ((isort grLt l0).flatMap bkEnc) ∧ w.grownBy w' (some br)) := by
 refine gw_enter ⟨63, w, (some br), []⟩ Tryz.func267 rfl Tryz.ntmps267 rfl (memR (X := []) h allF_nil allL_nil) ?_
 refine sr_ (sg_ rfl (nn_ (sr_ (mv_ rfl (sg_ rfl (sg_ rfl (nn_ (gw_seq (gw_block ?_)))))))))
 refine gw_rounds 1 ?_
 refine gr_next ?_
 refine gw_seq (sr_ (mv_ rfl (mv_ rfl (wl_ov (ov_leq rfl rfl) rfl ?_))))
 refine wl_set 13 (v' := .bool false) rfl (congrArg Value.bool (decide_eq_false (by omega))) ?_
 refine nn_ (cf_ rfl ?_)
 refine gw_exit ?_
 refine nx_then_exit (nx_then_exit ?_)
 refine nx_blk_here ?_
 refine nx_then (sr_ (mv_ rfl (mv_ rfl (mv_ rfl (mv_ rfl ?_)))))
 refine wl_callK rfl rfl rfl cb323 rfl rfl (fun wx hm => (ins_gr l0 br n cap base wx hm.k hl0 (by omega) hall)) ?_
 refine nn_ (gw_block ?_)
 refine gw_rounds 1 ?_
 refine gr_next ?_
 refine gw_seq (sr_ (mv_ rfl (mv_ rfl (wl_ov (ov_lss rfl rfl) rfl ?_))))
 refine wl_set 30 (v' := .bool false) rfl (congrArg Value.bool (decide_eq_false (by omega))) ?_
 refine nn_ (cf_ rfl ?_)
 refine gw_exit ?_
 refine nx_then_exit (nx_then_exit ?_)
 refine nx_blk_here ?_
 refine nx_ret0 rfl fun wx hm => ?_
 exact ⟨rfl, fin_row hm.k hm.g⟩
set_option maxRecDepth 100000 in
set_option maxHeartbeats 400000 in
theorem stable_gr (l0 : List Bk) (br n cap base : Nat) (w : World) (h : w.ownsRow base 199 6 (.slice (some ⟨br, 0, none⟩) n cap) n (l0.flatMap bkEnc)) (hl0 : l0.length = n) (hn : n ≤ 19) (hall : ∀ x ∈ l0, FrB x) :
    Calls Tryz.prog 219 #[.slice (some ⟨br, 0, none⟩) n cap, .func (.func 220) #[] #[]] w (fun e w' => e = .returned (.tuple #[]) ∧ w'.ownsRow base 199 6 (.slice (some ⟨br, 0, none⟩) n cap) n ((isort grLt l0).flatMap bkEnc) ∧ w.grownBy w' (some br)) := by
  refine gw_enter ⟨9, w, (some br), []⟩ Tryz.func219 rfl Tryz.ntmps219 rfl (memR (X := []) h allF_nil allL_nil) ?_
  refine gw_region ?_
  refine wl_ov (ov_move rfl) rfl ?_
  refine wl_ov (ov_move rfl) rfl ?_
  refine wl_ov (ov_len es84 rfl) rfl ?_
  refine wl_ov (ov_move rfl) rfl ?_
  refine wl_callK rfl rfl rfl cb267 rfl rfl (fun wx hm => (stb_gr l0 br n cap base wx hm.k hl0 (by omega) hall)) ?_
  refine wl_nil ?_
  refine nx_ret0 rfl fun wx hm => ?_
  exact ⟨rfl, fin_row hm.k hm.g⟩
theorem ins0_gr (A : Option Addr) (cap : Nat) (w : World) : Calls Tryz.prog 323 #[.slice A 0 cap, .int .i64 0, .int .i64 0, .func (.func 220) #[] #[]] w (fun e w' => e = .returned (.tuple #[]) ∧ w.grownBy w' none) := by
 refine gw_enter ⟨53, w, none, []⟩ Tryz.func323 rfl Tryz.ntmps323 rfl (mem0 (X := []) allF_nil allL_nil) ?_
 refine sr_ (mv_ rfl (ad_ rfl rfl ?_))
 refine wl_set 11 (v' := .int .i64 1) rfl rfl ?_
 refine sg_ rfl (nn_ (gw_block ?_))
 refine gw_rounds 1 ?_
 refine gr_next ?_
 refine gw_seq (sr_ (mv_ rfl (mv_ rfl (wl_ov (ov_lss rfl rfl) rfl ?_))))
 refine wl_set 14 (v' := .bool false) rfl (congrArg Value.bool (by decide)) ?_
 refine nn_ (cf_ rfl ?_)
 refine gw_exit ?_
 refine nx_then_exit (nx_then_exit ?_)
 refine nx_blk_here ?_
 refine nx_ret0 rfl fun wx hm => ?_
 exact ⟨rfl, hm.g⟩
theorem stb0_gr (A : Option Addr) (cap : Nat) (w : World) : Calls Tryz.prog 267 #[.slice A 0 cap, .int .i64 0, .func (.func 220) #[] #[]] w (fun e w' => e = .returned (.tuple #[]) ∧ w.grownBy w' none) := by
 refine gw_enter ⟨63, w, none, []⟩ Tryz.func267 rfl Tryz.ntmps267 rfl (mem0 (X := []) allF_nil allL_nil) ?_
 refine sr_ (sg_ rfl (nn_ (sr_ (mv_ rfl (sg_ rfl (sg_ rfl (nn_ (gw_seq (gw_block ?_)))))))))
 refine gw_rounds 1 ?_
 refine gr_next ?_
 refine gw_seq (sr_ (mv_ rfl (mv_ rfl (wl_ov (ov_leq rfl rfl) rfl ?_))))
 refine wl_set 13 (v' := .bool false) rfl (congrArg Value.bool (by decide)) ?_
 refine nn_ (cf_ rfl ?_)
 refine gw_exit ?_
 refine nx_then_exit (nx_then_exit ?_)
 refine nx_blk_here ?_
 refine nx_then (sr_ (mv_ rfl (mv_ rfl (mv_ rfl (mv_ rfl ?_)))))
 refine wl_callv rfl cb323 rfl rfl (fun wx hm => (ins0_gr A cap wx)) ?_
 refine nn_ (gw_block ?_)
 refine gw_rounds 1 ?_
 refine gr_next ?_
 refine gw_seq (sr_ (mv_ rfl (mv_ rfl (wl_ov (ov_lss rfl rfl) rfl ?_))))
 refine wl_set 30 (v' := .bool false) rfl (congrArg Value.bool (by decide)) ?_
 refine nn_ (cf_ rfl ?_)
 refine gw_exit ?_
 refine nx_then_exit (nx_then_exit ?_)
 refine nx_blk_here ?_
 refine nx_ret0 rfl fun wx hm => ?_
 exact ⟨rfl, hm.g⟩
set_option maxRecDepth 100000 in
set_option maxHeartbeats 400000 in
theorem stable0_gr (A : Option Addr) (cap : Nat) (w : World) : Calls Tryz.prog 219 #[.slice A 0 cap, .func (.func 220) #[] #[]] w (fun e w' => e = .returned (.tuple #[]) ∧ w.grownBy w' none) := by
  refine gw_enter ⟨9, w, none, []⟩ Tryz.func219 rfl Tryz.ntmps219 rfl (mem0 (X := []) allF_nil allL_nil) ?_
  refine gw_region ?_
  refine wl_ov (ov_move rfl) rfl ?_
  refine wl_ov (ov_move rfl) rfl ?_
  refine wl_ov (ov_len es84 rfl) rfl ?_
  refine wl_set 6 (v' := .int .i64 0) rfl rfl ?_
  refine wl_ov (ov_move rfl) rfl ?_
  refine wl_callv rfl cb267 rfl rfl (fun wx hm => (stb0_gr A cap wx)) ?_
  refine wl_nil ?_
  refine nx_ret0 rfl fun wx hm => ?_
  exact ⟨rfl, hm.g⟩
end Go.Proofs.YtnpcbfllnkiopaaGreatDoor
namespace Go.Proofs
open Go.Shelf
def Tryz.lays125_ren : Go.Shelf.Ren := ⟨fun | 125 => 225 | 128 => 277 | 129 => 278 | n => n, fun | 46 => 265 | 3 => 3 | 51 => 309 | 53 => 311 | 4 => 4 | 5 => 5 | 9 => 9 | n => n, fun | n => n⟩
theorem Tryz.lays125 : Go.Proofs.Lays.n125 Tryz.prog Tryz.lays125_ren := {
  mixed := by kernel_rfl
  f125 := Tryz.func225.trans (congrArg some (by kernel_rfl))
  f128 := Tryz.func277.trans (congrArg some (by kernel_rfl))
  f129 := Tryz.func278.trans (congrArg some (by kernel_rfl))
  t3 := Tryz.underlying3
  a3 := Tryz.isAgg3
  z3 := Tryz.sizeOf3
  v3 := Tryz.zeroValue3
  t4 := Tryz.underlying4
  a4 := Tryz.isAgg4
  z4 := Tryz.sizeOf4
  v4 := Tryz.zeroValue4
  t5 := Tryz.underlying5
  a5 := Tryz.isAgg5
  z5 := Tryz.sizeOf5
  v5 := Tryz.zeroValue5
  t9 := Tryz.underlying9
  a9 := Tryz.isAgg9
  z9 := Tryz.sizeOf9
  v9 := Tryz.zeroValue9
  t46 := Tryz.underlying265
  a46 := Tryz.isAgg265
  z46 := Tryz.sizeOf265
  v46 := Tryz.zeroValue265
  t51 := Tryz.underlying309
  a51 := Tryz.isAgg309
  z51 := Tryz.sizeOf309
  v51 := Tryz.zeroValue309
  t53 := Tryz.underlying311
  a53 := Tryz.isAgg311
  z53 := Tryz.sizeOf311
  v53 := Tryz.zeroValue311 }
end Go.Proofs
namespace Go.Proofs
open Go.Shelf
def Tryz.lays106_ren : Go.Shelf.Ren := ⟨fun | 106 => 143 | 213 => 226 | 265 => 279 | n => n, fun | 9 => 9 | 3 => 3 | n => n, fun | n => n⟩
theorem Tryz.lays106 : Go.Proofs.Lays.n106 Tryz.prog Tryz.lays106_ren := {
  mixed := by kernel_rfl
  f106 := Tryz.func143.trans (congrArg some (by kernel_rfl))
  f213 := Tryz.func226.trans (congrArg some (by kernel_rfl))
  f265 := Tryz.func279.trans (congrArg some (by kernel_rfl))
  t3 := Tryz.underlying3
  a3 := Tryz.isAgg3
  z3 := Tryz.sizeOf3
  v3 := Tryz.zeroValue3
  t9 := Tryz.underlying9
  a9 := Tryz.isAgg9
  z9 := Tryz.sizeOf9
  v9 := Tryz.zeroValue9 }
end Go.Proofs
namespace Go.Proofs.YtnpcbfllnkiopaaGreatDoor
open Go.RowKit
theorem cmpB_eq : ∀ a b : List UInt8, Lib.compareBytes a b = if Go.Op.bytesLess a b = true then -1 else if (Go.Op.bytesLess a b || a == b) = false then 1 else 0
  | [], [] => rfl
  | [], b :: y => by simp [Lib.compareBytes, Go.Op.bytesLess]
  | a :: x, [] => by simp [Lib.compareBytes, Go.Op.bytesLess]
  | a :: x, b :: y => by
    have ih := cmpB_eq x y
    unfold Lib.compareBytes Go.Op.bytesLess
    by_cases h1 : a < b
    · simp [h1]
    · by_cases h2 : b < a
      · have h3 : ¬ a = b := fun e => by subst e; exact h1 h2
        simp [h1, h2, h3]
      · have h3 : a = b := by
          rcases Decidable.em (a = b) with h | h
          · exact h
          · rcases UInt8.lt_or_lt_of_ne h with h | h
            · exact absurd h h1
            · exact absurd h h2
        subst h3
        simp only [h1, if_false, ih, decide_false, Bool.false_or, beq_self_eq_true, Bool.true_and, List.cons_beq_cons]
theorem strCompare_any (a b : ByteArray) (w : World) : Calls Tryz.prog 143 #[.string a, .string b] w (fun e w' => e = .returned (.int .i64 (cmpS a b)) ∧ w.grownBy w' none) := by
  have hcon := Any.strings_Compare Tryz.lays106 a b w
  refine Calls.mono hcon ?_
  rintro e w' ⟨rfl, rfl⟩
  refine ⟨?_, World.grownBy.refl _ _⟩
  unfold cmpS
  rw [cmpB_eq, ByteArray.toList_eq, ByteArray.toList_eq]
theorem bitsLen_any (n : Nat) (w : World) (hn : n ≤ 1000000) : Calls Tryz.prog 225 #[.int .u64 ((n : Nat) : Int)] w (fun e w' => ∃ v : Int, e = .returned (.int .i64 v) ∧ w.grownBy w' none) := by
  have hcon := Any.bits_Len Tryz.lays125 ((n : Nat) : Int) w (by omega) (by omega)
  refine Calls.mono hcon ?_
  rintro e w' ⟨rfl, rfl⟩
  exact ⟨_, rfl, World.grownBy.refl _ _⟩
end Go.Proofs.YtnpcbfllnkiopaaGreatDoor
namespace Go.Proofs.YtnpcbfllnkiopaaGreatDoor
open Go.RowKit
section
variable {P : Program} {nn : Nat} {S : List (Nat × Value)} {Z : World → Prop} {d : Nat} {ty : TypeId} {pos : String} {aft : Array Edge}
def kindTy (P : Program) (t : TypeId) : Option IntKind :=
  match P.underlying t with
  | some (.int k) => some k
  | _ => none
theorem kindTy_u {t : TypeId} {k : IntKind} (h : kindTy P t = some k) : P.underlying t = some (.int k) := by
  unfold kindTy at h
  cases hu : P.underlying t with
  | none => simp [hu] at h
  | some dd => cases dd <;> simp [hu] at h <;> simp [h]
theorem ov_u64 {s t : TypeId} {k : IntKind} {x : Operand} {a : Nat} (hs : kindTy P s = some .i64) (ht : kindTy P t = some .u64) (hx : rd S x = some (.int k (a : Int))) (ha : a ≤ 9223372036854775807) : OV P nn S Z ⟨some d, .convert s t x, ty, pos, aft, none⟩ (.int .u64 (a : Int)) := fun b w hb hm => by
  have h1 : IntKind.u64.wrap (a : Int) = (a : Int) := by rw [IntKind.wrap_u64]; omega
  have hk : P.intKind t = .u64 := by simp [Program.intKind, kindTy_u ht]
  have h2 := run_convert_int (P := P) w s t k (a : Int) (by rw [kindTy_u hs]; rfl) (by rw [hk]; exact kindTy_u ht)
  rw [hk, h1] at h2
  simp [execOp, hb.eval hx, h2]
end
end Go.Proofs.YtnpcbfllnkiopaaGreatDoor
namespace Go.Proofs.YtnpcbfllnkiopaaGreatDoor
open Go.RowKit
structure Gv where
  bk : ByteArray
  cls : ByteArray
  unit : Int
def gvEnc (x : Gv) : List Value := [.string x.bk, .string x.cls, .int .i64 x.unit]
theorem gv_len (x : Gv) : (gvEnc x).length = 3 := rfl
def gvLt (x y : Gv) : Bool := decide (cmpS x.bk y.bk < 0)
theorem greedy2_any (x0 x1 y0 y1 : ByteArray) (x2 y2 : Int) (w : World) :
  Calls Tryz.prog 222 #[.agg #[.string x0, .string x1, .int .i64 x2], .agg #[.string y0, .string y1, .int .i64 y2]] w (fun e w' => e = .returned (.int .i64 (cmpS x0 y0)) ∧ w.grownBy w' none) := by
 refine gw_enter ⟨10, w, none, []⟩ Tryz.func222 rfl Tryz.ntmps222 rfl (mem0 (X := []) allF_nil allL_nil) ?_
 refine sr_ ?_
 refine wl_box rfl rfl rfl fun g1 => ?_
 refine wl_box rfl rfl rfl fun g2 => ?_
 refine sg_ rfl (nn_ (sr_ (fd_ fo193_0 rfl rfl (lk_ sc9 1 rfl rfl rfl (fd_ fo193_0 rfl rfl (lk_ sc9 0 rfl rfl rfl ?_))))))
 refine wl_callv rfl cb143 rfl rfl (fun wx hm => (strCompare_any _ _ wx)) ?_
 refine sg_ rfl (nn_ ?_)
 refine gw_ret ?_
 refine nx_ret1 rfl rfl fun wx hm => ?_
 exact ⟨rfl, hm.g⟩
theorem ins_gv  (l0 : List Gv) (br n cap base : Nat) (w : World) (h : w.ownsRow base 193 3 (.slice (some ⟨br, 0, none⟩) n cap) n (l0.flatMap gvEnc)) (hl0 : l0.length = n) (hn : n ≤ 1000000)  :
  Calls Tryz.prog 269 #[.slice (some ⟨br, 0, none⟩) n cap, .int .i64 0, .int .i64 ((n : Nat) : Int), .func (.func 222) #[] #[]] w (fun e w' => e = .returned (.tuple #[]) ∧ w'.ownsRow base 193 3 (.slice (some ⟨br, 0, none⟩) n cap) n ((isort (gvLt) l0).flatMap gvEnc) ∧ w.grownBy w' (some br)) := by
 obtain ⟨R, hR⟩ : ∃ z, z = isort (gvLt) l0 := ⟨_, rfl⟩
 rw [← hR]
 refine gw_enter ⟨53, w, (some br), []⟩ Tryz.func269 rfl Tryz.ntmps269 rfl (memR (X := []) h allF_nil allL_nil) ?_
 refine sr_ (mv_ rfl (ad_ rfl rfl ?_))
 refine wl_set 11 (v' := .int .i64 1) rfl rfl ?_
 refine sg_ rfl (nn_ (gw_block ?_))
 refine gw_loop (γ := Nat × List Gv) (fun gg => (1 ≤ gg.1 ∧ gg.1 ≤ n + 1) ∧ gg.2.length = n ∧ isortF (gvLt) (n - gg.1) gg.1 gg.2 = R) (fun gg => [(0, .slice (some ⟨br, 0, none⟩) n cap), (1, .int .i64 0), (2, .int .i64 ((n : Nat) : Int)), (3, .func (.func 222) #[] #[]), (8, .int .i64 ((gg.1 : Nat) : Int))]) (fun gg => RowK base 193 3 n cap br ((gg.2).flatMap gvEnc)) (fun gg => []) (fun gg => []) (fun gg => []) (fun gg => n + 1 - gg.1) (1, l0) ⟨⟨Nat.le_refl _, by omega⟩, hl0, by rw [hR]; unfold isort; rw [hl0]⟩ ⟨rfl, rfl, rfl, rfl, (some_int (by omega)), trivial⟩ (fun _ hm => hm.pick [] [] [] rfl rfl) ?_
 rintro ⟨i, l⟩ hinv
 replace hinv : (1 ≤ i ∧ i ≤ n + 1) ∧ l.length = n ∧ isortF (gvLt) (n - i) i l = R := hinv
 dsimp only
 refine gw_seq (sr_ ?_)
 obtain ⟨⟨hi1, hi2⟩, hl1, hR1⟩ := hinv
 refine mv_ rfl (mv_ rfl (wl_ov (ov_lss rfl rfl) rfl (nn_ ?_)))
 refine gw_cond rfl (fun hh => ?_) (fun hh => ?_)
 ·have hi : ((i : Nat) : Int) < ((n : Nat) : Int) := by simpa using hh
  clear hh
  refine gw_skip (nx_then (gw_seq (gw_block (sr_ ?_))))
  have hRi : isortF (gvLt) (n - (i + 1)) (i + 1) (sink (gvLt) i l) = R := by rw [← hR1, show n - i = (n - (i + 1)) + 1 by omega]; rfl
  obtain ⟨S, hS⟩ : ∃ z, z = sink (gvLt) i l := ⟨_, rfl⟩
  rw [← hS] at hRi
  have hSl : S.length = n := by rw [hS, sink_len]; exact hl1
  refine mv_ rfl (sg_ rfl (nn_ (gw_block ?_)))
  refine gw_loop (γ := Nat × List Gv) (fun gg => (gg.1 ≤ i) ∧ gg.2.length = n ∧ sink (gvLt) gg.1 gg.2 = S) (fun gg => [(0, .slice (some ⟨br, 0, none⟩) n cap), (1, .int .i64 0), (2, .int .i64 ((n : Nat) : Int)), (3, .func (.func 222) #[] #[]), (8, .int .i64 ((i : Nat) : Int)), (9, .int .i64 ((gg.1 : Nat) : Int))]) (fun gg => RowK base 193 3 n cap br ((gg.2).flatMap gvEnc)) (fun gg => []) (fun gg => []) (fun gg => []) (fun gg => gg.1) (i, l) ⟨Nat.le_refl _, hl1, hS.symm⟩ ⟨rfl, rfl, rfl, rfl, rfl, rfl, trivial⟩ (fun _ hm => hm.pick [] [] [] rfl rfl) ?_
  rintro ⟨jj, m⟩ hinv
  replace hinv : (jj ≤ i) ∧ m.length = n ∧ sink (gvLt) jj m = S := hinv
  dsimp only
  refine gw_seq (gw_seq ?_)
  obtain ⟨hj1, hm1, hS1⟩ := hinv
  rcases jj with _ | j
  ·refine gd (fun wz => True) mixed (fun _ _ => trivial) fun z => ?_
   refine wt 0 17 1 rfl z (ov_move rfl) ?_
   refine wa_set 18 (v' := .int .i64 0) rfl rfl ?_
   refine wt 1 17 3 rfl z (ov_move rfl) ?_
   refine wt 2 17 7 rfl z (ov_gtr rfl rfl) ?_
   refine wa_set 20 (v' := .bool false) rfl (congrArg Value.bool (by decide)) ?_
   refine wt 3 17 15 rfl z (ov_move rfl) ?_
   refine wtf 4 17 31 rfl rfl rfl z ?_
   refine wtf 5 17 63 rfl rfl rfl z ?_
   refine wtf 6 17 127 rfl rfl rfl z ?_
   refine wtf 7 17 255 rfl rfl rfl z ?_
   refine wtf 8 17 511 rfl rfl rfl z ?_
   refine wtf 9 17 1023 rfl rfl rfl z ?_
   refine wtf 10 17 2047 rfl rfl rfl z ?_
   refine wtf 11 17 4095 rfl rfl rfl z ?_
   refine wtf 12 17 8191 rfl rfl rfl z ?_
   refine wtf 13 17 16383 rfl rfl rfl z ?_
   refine wtf 14 17 32767 rfl rfl rfl z ?_
   refine wtf 15 17 65535 rfl rfl rfl z ?_
   refine wt 16 17 131071 rfl z (ov_pick_f rfl rfl) ?_
   refine wa_done (by kernel_rfl) ?_
   refine nx_then (cf_ rfl ?_)
   refine gw_exit ?_
   refine nx_then_exit (nx_then_exit ?_)
   refine nx_blk_here ?_
   refine nx_blk_nrm (nx_then (gw_region (mv_ rfl (ad_ rfl rfl (sg_ rfl (wl_nil ?_))))))
   have hm2 : m = S := hS1
   exact nx_round (i + 1, m) ⟨⟨by dsimp only; omega, by dsimp only; omega⟩, by rw [hm2]; exact hSl, by rw [hm2]; exact hRi⟩ (by dsimp only; omega) ⟨rfl, rfl, rfl, rfl, (some_int (by omega)), trivial⟩ (fun _ hm => hm.pick [] [] [] rfl rfl)
  have hj2 : j + 1 < n := by omega
  obtain ⟨xx, hx⟩ : ∃ x, m[j + 1]? = some x := ⟨_, List.getElem?_eq_getElem (by omega)⟩
  obtain ⟨x0, x1, x2⟩ := xx
  obtain ⟨yy, hy⟩ : ∃ x, m[j]? = some x := ⟨_, List.getElem?_eq_getElem (by omega)⟩
  obtain ⟨y0, y1, y2⟩ := yy
  refine gd (fun wz => (RowK base 193 3 n cap br ((m).flatMap gvEnc)) wz ∧ True) mixed (fun _ hm => ⟨hm.k, trivial⟩) fun z => ?_
  refine wt 0 17 1 rfl z (ov_move rfl) ?_
  refine wt 1 17 3 rfl z (ov_move rfl) ?_
  refine wt 2 17 7 rfl z (ov_gtr rfl rfl) ?_
  refine wa_set 20 (v' := .bool true) rfl (congrArg Value.bool (decide_eq_true (by omega))) ?_
  refine wt 3 17 15 rfl z (ov_move rfl) ?_
  refine wto 4 17 31 rfl rfl rfl z (ov_move rfl) ?_
  refine wto 5 17 63 rfl rfl rfl z (ov_move rfl) ?_
  refine wto 6 17 127 rfl rfl rfl z (ov_move rfl) ?_
  refine wto 7 17 255 rfl rfl rfl z (ov_index (j := (j + 1)) es88 rfl rfl (by omega)) ?_
  refine wto 8 17 511 rfl rfl rfl z (ov_elem (vs := [.string x0, .string x1, .int .i64 x2]) rz193 rfl (fun _ hm => (RowK.get (hm.1) gv_len hm1)) hx rfl rfl) ?_
  refine wto 9 17 1023 rfl rfl rfl z (ov_move rfl) ?_
  refine wto 10 17 2047 rfl rfl rfl z (ov_move rfl) ?_
  refine wto 11 17 4095 rfl rfl rfl z (ov_sub rfl rfl (by omega) (by omega)) ?_
  refine wa_set 29 (v' := .int .i64 ((j : Nat) : Int)) rfl (congrArg (Value.int .i64) (by omega)) ?_
  refine wto 12 17 8191 rfl rfl rfl z (ov_index (j := j) es88 rfl rfl (by omega)) ?_
  refine wto 13 17 16383 rfl rfl rfl z (ov_elem (vs := [.string y0, .string y1, .int .i64 y2]) rz193 rfl (fun _ hm => (RowK.get (hm.1) gv_len hm1)) hy rfl rfl) ?_
  refine wa1 14 rfl ?_
  refine wl_guard_on rfl rfl rfl ?_
  refine wl_callv rfl cb222 rfl rfl (fun wx hm => (greedy2_any x0 x1 y0 y1 x2 y2 wx)) ?_
  refine wl_nil ?_
  refine nw 17 32767 (fun _ hm => ⟨hm.k, trivial⟩) fun z => ?_
  refine wto 15 17 65535 rfl rfl rfl z (ov_lss rfl rfl) ?_
  refine wt 16 17 131071 rfl z (ov_pick_t rfl rfl) ?_
  refine wa_done (by kernel_rfl) ?_
  refine nx_then ?_
  refine gw_cond rfl (fun hh => ?_) (fun hh => ?_)
  ·have hlt : cmpS x0 y0 < 0 := by simpa using hh
   clear hh
   refine gw_skip (nx_then (gw_seq (gw_block ?_)))
   have hlt2 : (gvLt) ⟨x0, x1, x2⟩ ⟨y0, y1, y2⟩ = true := decide_eq_true (show cmpS x0 y0 < 0 from hlt)
   have hS2 := (sink_yes hx hy hlt2).symm.trans hS1
   refine gd (fun wz => True) mixed (fun _ _ => trivial) fun z => ?_
   refine wt 0 18 1 rfl z (ov_move rfl) ?_
   refine wt 1 18 3 rfl z (ov_move rfl) ?_
   refine wt 2 18 7 rfl z (ov_move rfl) ?_
   refine wt 3 18 15 rfl z (ov_move rfl) ?_
   refine wt 4 18 31 rfl z (ov_sub rfl rfl (by omega) (by omega)) ?_
   refine wa_set 41 (v' := .int .i64 ((j : Nat) : Int)) rfl (congrArg (Value.int .i64) (by omega)) ?_
   refine wt 5 18 63 rfl z (ov_move rfl) ?_
   refine wt 6 18 127 rfl z (ov_move rfl) ?_
   refine wt 7 18 255 rfl z (ov_sub rfl rfl (by omega) (by omega)) ?_
   refine wa_set 44 (v' := .int .i64 ((j : Nat) : Int)) rfl (congrArg (Value.int .i64) (by omega)) ?_
   refine wt 8 18 511 rfl z (ov_index (j := j) es88 rfl rfl (by omega)) ?_
   refine wt 10 18 1535 rfl z (ov_move rfl) ?_
   refine wt 11 18 3583 rfl z (ov_move rfl) ?_
   refine wt 12 18 7679 rfl z (ov_index (j := (j + 1)) es88 rfl rfl (by omega)) ?_
   refine wa_all [9, 13] (by kernel_rfl) rfl ⟨⟨_, rfl, ?_⟩, ⟨_, rfl, ?_⟩, trivial⟩
   ·refine wl_ov (ov_elem (vs := [.string y0, .string y1, .int .i64 y2]) rz193 rfl (fun _ hm => (RowK.get hm.k gv_len hm1)) hy rfl rfl) rfl ?_
    refine wl_nil ?_
    refine nw 18 8191 (fun _ _ => trivial) fun z => ?_
    refine wa1 13 rfl ?_
    refine wl_ov (ov_elem (vs := [.string x0, .string x1, .int .i64 x2]) rz193 rfl (fun _ hm => (RowK.get hm.k gv_len hm1)) hx rfl rfl) rfl ?_
    refine wl_nil ?_
    refine nw 18 16383 (fun _ _ => trivial) fun z => ?_
    refine wt 14 18 32767 rfl z (ov_index (j := (j + 1)) es88 rfl rfl (by omega)) ?_
    refine wa1 15 rfl ?_
    refine wl_storesRow (l := m) (j := j + 1) (r := 0) (el := ⟨x0, x1, x2⟩) (el' := ⟨y0, y1, y2⟩) rfl rz193 rfl rfl rfl rfl gv_len rfl hx hm1 (by decide) rfl rfl ?_
    refine wl_nil ?_
    refine nw 18 65535 (fun _ _ => trivial) fun z => ?_
    refine wt 16 18 131071 rfl z (ov_index (j := j) es88 rfl rfl (by omega)) ?_
    refine wa1 17 rfl ?_
    refine wl_storesRow (l := m.set (j + 1) ⟨y0, y1, y2⟩) (j := j) (r := 0) (el := ⟨y0, y1, y2⟩) (el' := ⟨x0, x1, x2⟩) rfl rz193 rfl rfl rfl rfl gv_len rfl (by rw [List.getElem?_set_ne (by omega)]; exact hy) (by rw [List.length_set]; exact hm1) (by decide) rfl rfl ?_
    refine wl_nil ?_
    refine nw 18 262143 (fun _ _ => trivial) fun z => ?_
    refine wa_done (by kernel_rfl) ?_
    refine nx_blk_nrm (nx_then (gw_region (mv_ rfl ?_)))
    refine wl_ov (ov_sub rfl rfl (by omega) (by omega)) rfl ?_
    refine wl_set 36 (v' := .int .i64 ((j : Nat) : Int)) rfl (congrArg (Value.int .i64) (by omega)) ?_
    refine sg_ rfl (wl_nil ?_)
    exact nx_round (j, (m.set (j + 1) ⟨y0, y1, y2⟩).set j ⟨x0, x1, x2⟩) ⟨by dsimp only; omega, by simp [hm1], hS2⟩ (by dsimp only; omega) ⟨rfl, rfl, rfl, rfl, rfl, (some_int (by omega)), trivial⟩ (fun _ hm => hm.pick [] [] [] rfl rfl)
   refine wl_ov (ov_elem (vs := [.string x0, .string x1, .int .i64 x2]) rz193 rfl (fun _ hm => (RowK.get hm.k gv_len hm1)) hx rfl rfl) rfl ?_
   refine wl_nil ?_
   refine nw 18 15871 (fun _ _ => trivial) fun z => ?_
   refine wa1 9 rfl ?_
   refine wl_ov (ov_elem (vs := [.string y0, .string y1, .int .i64 y2]) rz193 rfl (fun _ hm => (RowK.get hm.k gv_len hm1)) hy rfl rfl) rfl ?_
   refine wl_nil ?_
   refine nw 18 16383 (fun _ _ => trivial) fun z => ?_
   refine wt 14 18 32767 rfl z (ov_index (j := (j + 1)) es88 rfl rfl (by omega)) ?_
   refine wa1 15 rfl ?_
   refine wl_storesRow (l := m) (j := j + 1) (r := 0) (el := ⟨x0, x1, x2⟩) (el' := ⟨y0, y1, y2⟩) rfl rz193 rfl rfl rfl rfl gv_len rfl hx hm1 (by decide) rfl rfl ?_
   refine wl_nil ?_
   refine nw 18 65535 (fun _ _ => trivial) fun z => ?_
   refine wt 16 18 131071 rfl z (ov_index (j := j) es88 rfl rfl (by omega)) ?_
   refine wa1 17 rfl ?_
   refine wl_storesRow (l := m.set (j + 1) ⟨y0, y1, y2⟩) (j := j) (r := 0) (el := ⟨y0, y1, y2⟩) (el' := ⟨x0, x1, x2⟩) rfl rz193 rfl rfl rfl rfl gv_len rfl (by rw [List.getElem?_set_ne (by omega)]; exact hy) (by rw [List.length_set]; exact hm1) (by decide) rfl rfl ?_
   refine wl_nil ?_
   refine nw 18 262143 (fun _ _ => trivial) fun z => ?_
   refine wa_done (by kernel_rfl) ?_
   refine nx_blk_nrm (nx_then (gw_region (mv_ rfl ?_)))
   refine wl_ov (ov_sub rfl rfl (by omega) (by omega)) rfl ?_
   refine wl_set 36 (v' := .int .i64 ((j : Nat) : Int)) rfl (congrArg (Value.int .i64) (by omega)) ?_
   refine sg_ rfl (wl_nil ?_)
   exact nx_round (j, (m.set (j + 1) ⟨y0, y1, y2⟩).set j ⟨x0, x1, x2⟩) ⟨by dsimp only; omega, by simp [hm1], hS2⟩ (by dsimp only; omega) ⟨rfl, rfl, rfl, rfl, rfl, (some_int (by omega)), trivial⟩ (fun _ hm => hm.pick [] [] [] rfl rfl)
  have hlt : ¬ (cmpS x0 y0 < 0) := by simpa using hh
  clear hh
  refine gw_exit ?_
  refine nx_then_exit (nx_then_exit ?_)
  refine nx_blk_here ?_
  refine nx_blk_nrm (nx_then (gw_region ?_))
  have hlt2 : (gvLt) ⟨x0, x1, x2⟩ ⟨y0, y1, y2⟩ = false := decide_eq_false (show ¬ cmpS x0 y0 < 0 from hlt)
  have hS2 := (sink_no hx hy hlt2).symm.trans hS1
  refine mv_ rfl (ad_ rfl rfl (sg_ rfl (wl_nil ?_)))
  have hm2 : m = S := hS2
  exact nx_round (i + 1, m) ⟨⟨by dsimp only; omega, by dsimp only; omega⟩, by rw [hm2]; exact hSl, by rw [hm2]; exact hRi⟩ (by dsimp only; omega) ⟨rfl, rfl, rfl, rfl, (some_int (by omega)), trivial⟩ (fun _ hm => hm.pick [] [] [] rfl rfl)
 have hi : ¬ (((i : Nat) : Int) < ((n : Nat) : Int)) := by simpa using hh
 clear hh
 refine gw_exit ?_
 refine nx_then_exit (nx_then_exit ?_)
 refine nx_blk_here ?_
 obtain rfl : l = R := by rw [← hR1, show n - i = 0 by omega]; rfl
 refine nx_ret0 rfl fun wx hm => ?_
 exact ⟨rfl, fin_row hm.k hm.g⟩
theorem pdq_gv  (l0 : List Gv) (br n cap base : Nat) (lim : Int) (w : World) (h : w.ownsRow base 193 3 (.slice (some ⟨br, 0, none⟩) n cap) n (l0.flatMap gvEnc)) (hl0 : l0.length = n) (hn : n ≤ 12)  :
  Calls Tryz.prog 224 #[.slice (some ⟨br, 0, none⟩) n cap, .int .i64 0, .int .i64 ((n : Nat) : Int), .int .i64 lim, .func (.func 222) #[] #[]] w (fun e w' => e = .returned (.tuple #[]) ∧ w'.ownsRow base 193 3 (.slice (some ⟨br, 0, none⟩) n cap) n ((isort (gvLt) l0).flatMap gvEnc) ∧ w.grownBy w' (some br)) := by
 refine gw_enter ⟨148, w, (some br), []⟩ Tryz.func224 rfl Tryz.ntmps224 rfl (memR (X := []) h allF_nil allL_nil) ?_
 refine sr_ (sg_ rfl (nn_ (sr_ (sg_ rfl (nn_ (gw_block ?_))))))
 refine gw_rounds 1 ?_
 refine gr_next ?_
 refine gw_block (sr_ (mv_ rfl (mv_ rfl ?_)))
 refine wl_ov (ov_sub rfl rfl (by omega) (by omega)) rfl ?_
 refine sg_ rfl (nn_ (gw_seq (sr_ (mv_ rfl (wl_ov (ov_leq rfl rfl) rfl ?_)))))
 refine wl_set 25 (v' := .bool true) rfl (congrArg Value.bool (decide_eq_true (by omega))) ?_
 refine nn_ (ct_ rfl (sr_ (mv_ rfl (mv_ rfl (mv_ rfl (mv_ rfl ?_))))))
 refine wl_callK rfl rfl rfl cb269 rfl rfl (fun wx hm => (ins_gv  l0 br n cap base wx hm.k hl0 (by omega) )) ?_
 refine nn_ ?_
 refine gw_ret ?_
 refine nx_then_ret (nx_blk_ret (nx_then_ret (nx_blk_ret ?_)))
 refine nx_ret0' rfl fun wx hm => ?_
 exact ⟨rfl, fin_row hm.k hm.g⟩
theorem sort_gv  (l0 : List Gv) (br n cap base : Nat) (w : World) (h : w.ownsRow base 193 3 (.slice (some ⟨br, 0, none⟩) n cap) n (l0.flatMap gvEnc)) (hl0 : l0.length = n) (hn : n ≤ 12)  :
  Calls Tryz.prog 141 #[.slice (some ⟨br, 0, none⟩) n cap, .func (.func 222) #[] #[]] w (fun e w' => e = .returned (.tuple #[]) ∧ w'.ownsRow base 193 3 (.slice (some ⟨br, 0, none⟩) n cap) n ((isort (gvLt) l0).flatMap gvEnc) ∧ w.grownBy w' (some br)) := by
 refine gw_enter ⟨14, w, (some br), []⟩ Tryz.func141 rfl Tryz.ntmps141 rfl (memR (X := []) h allF_nil allL_nil) ?_
 refine sr_ (mv_ rfl (wl_ov (ov_len es88 rfl) rfl (sg_ rfl (nn_ (gw_region (mv_ rfl (mv_ rfl (mv_ rfl ?_))))))))
 refine wl_ov (ov_u64 (a := n) (by kernel_rfl) (by kernel_rfl) rfl (by omega)) rfl ?_
 refine wl_callx (γ := Int) (val := (fun g => .int .i64 g)) (φ := (fun g => True)) (Y := (fun g => fun _ => True)) rfl cb225 rfl rfl (fun wx hm => (bitsLen_any n wx (by omega)).mono fun _ _ ⟨v, he, hg⟩ => ⟨v, he, trivial, hg, trivial⟩) (fun _ => Lasts2.true_) ?_
 rintro lim hphi
 clear hphi
 refine mv_ rfl ?_
 refine wl_callK rfl rfl rfl cb224 rfl rfl (fun wx hm => (pdq_gv  l0 br n cap base _ wx hm.k hl0 hn )) ?_
 refine wl_nil ?_
 refine nx_ret0 rfl fun wx hm => ?_
 exact ⟨rfl, fin_row hm.k hm.g⟩
theorem ins0_gv  (A : Option Addr) (cap : Nat)  (w : World) : Calls Tryz.prog 269 #[.slice A 0 cap, .int .i64 0, .int .i64 0, .func (.func 222) #[] #[]] w (fun e w' => e = .returned (.tuple #[]) ∧ w.grownBy w' none) := by
 refine gw_enter ⟨53, w, none, []⟩ Tryz.func269 rfl Tryz.ntmps269 rfl (mem0 (X := []) allF_nil allL_nil) ?_
 refine sr_ (mv_ rfl (ad_ rfl rfl ?_))
 refine wl_set 11 (v' := .int .i64 1) rfl rfl ?_
 refine sg_ rfl (nn_ (gw_block ?_))
 refine gw_rounds 1 ?_
 refine gr_next ?_
 refine gw_seq (sr_ (mv_ rfl (mv_ rfl (wl_ov (ov_lss rfl rfl) rfl ?_))))
 refine wl_set 14 (v' := .bool false) rfl (congrArg Value.bool (by decide)) ?_
 refine nn_ (cf_ rfl ?_)
 refine gw_exit ?_
 refine nx_then_exit (nx_then_exit ?_)
 refine nx_blk_here ?_
 refine nx_ret0 rfl fun wx hm => ?_
 exact ⟨rfl, hm.g⟩
theorem pdq0_gv  (A : Option Addr) (cap : Nat) (lim : Int) (w : World) : Calls Tryz.prog 224 #[.slice A 0 cap, .int .i64 0, .int .i64 0, .int .i64 lim, .func (.func 222) #[] #[]] w (fun e w' => e = .returned (.tuple #[]) ∧ w.grownBy w' none) := by
 refine gw_enter ⟨148, w, none, []⟩ Tryz.func224 rfl Tryz.ntmps224 rfl (mem0 (X := []) allF_nil allL_nil) ?_
 refine sr_ (sg_ rfl (nn_ (sr_ (sg_ rfl (nn_ (gw_block ?_))))))
 refine gw_rounds 1 ?_
 refine gr_next ?_
 refine gw_block (sr_ (mv_ rfl (mv_ rfl ?_)))
 refine wl_ov (ov_sub rfl rfl (by omega) (by omega)) rfl ?_
 refine wl_set 23 (v' := .int .i64 0) rfl rfl ?_
 refine sg_ rfl (nn_ (gw_seq (sr_ (mv_ rfl (wl_ov (ov_leq rfl rfl) rfl ?_)))))
 refine wl_set 25 (v' := .bool true) rfl (congrArg Value.bool (by decide)) ?_
 refine nn_ (ct_ rfl (sr_ (mv_ rfl (mv_ rfl (mv_ rfl (mv_ rfl ?_))))))
 refine wl_callv rfl cb269 rfl rfl (fun wx hm => (ins0_gv  A cap  wx)) ?_
 refine nn_ ?_
 refine gw_ret ?_
 refine nx_then_ret (nx_blk_ret (nx_then_ret (nx_blk_ret ?_)))
 refine nx_ret0' rfl fun wx hm => ?_
 exact ⟨rfl, hm.g⟩
theorem sort0_gv  (A : Option Addr) (cap : Nat)  (w : World) : Calls Tryz.prog 141 #[.slice A 0 cap, .func (.func 222) #[] #[]] w (fun e w' => e = .returned (.tuple #[]) ∧ w.grownBy w' none) := by
 refine gw_enter ⟨14, w, none, []⟩ Tryz.func141 rfl Tryz.ntmps141 rfl (mem0 (X := []) allF_nil allL_nil) ?_
 refine sr_ (mv_ rfl (wl_ov (ov_len es88 rfl) rfl ?_))
 refine wl_set 6 (v' := .int .i64 0) rfl rfl ?_
 refine sg_ rfl (nn_ (gw_region (mv_ rfl (mv_ rfl (mv_ rfl ?_)))))
 refine wl_ov (ov_u64 (a := 0) (by kernel_rfl) (by kernel_rfl) rfl (by omega)) rfl ?_
 refine wl_callx (γ := Int) (val := (fun g => .int .i64 g)) (φ := (fun g => True)) (Y := (fun g => fun _ => True)) rfl cb225 rfl rfl (fun wx hm => (by have h := bitsLen_any 0 wx (by omega); exact h.mono fun _ _ ⟨v, he, hg⟩ => ⟨v, he, trivial, hg, trivial⟩)) (fun _ => Lasts2.true_) ?_
 rintro lim hphi
 clear hphi
 refine mv_ rfl ?_
 refine wl_callv rfl cb224 rfl rfl (fun wx hm => (pdq0_gv  A cap _ wx)) ?_
 refine wl_nil ?_
 refine nx_ret0 rfl fun wx hm => ?_
 exact ⟨rfl, hm.g⟩
end Go.Proofs.YtnpcbfllnkiopaaGreatDoor
namespace Go.Proofs.YtnpcbfllnkiopaaGreatDoor
section
variable {α β : Type}
theorem sink_map {lt : α → α → Bool} {lt' : β → β → Bool} {f : α → β} (hf : ∀ x y, lt' (f x) (f y) = lt x y) : ∀ (j : Nat) (l : List α), sink lt' j (l.map f) = (sink lt j l).map f
  | 0, l => by simp [sink]
  | j + 1, l => by
    have ih := fun m => sink_map (lt := lt) (lt' := lt') hf j m
    cases hx : l[j + 1]? with
    | none =>
      unfold sink
      simp [List.getElem?_map, hx]
    | some x =>
      cases hy : l[j]? with
      | none =>
        unfold sink
        simp [List.getElem?_map, hx, hy]
      | some y =>
        have hx' : (l.map f)[j + 1]? = some (f x) := by rw [List.getElem?_map, hx]; rfl
        have hy' : (l.map f)[j]? = some (f y) := by rw [List.getElem?_map, hy]; rfl
        cases h : lt x y with
        | true =>
          rw [sink_yes hx hy h, sink_yes hx' hy' (by rw [hf]; exact h), ← ih, List.map_set, List.map_set]
        | false =>
          rw [sink_no hx hy h, sink_no hx' hy' (by rw [hf]; exact h)]
theorem isortF_map {lt : α → α → Bool} {lt' : β → β → Bool} {f : α → β} (hf : ∀ x y, lt' (f x) (f y) = lt x y) : ∀ (k i : Nat) (l : List α), isortF lt' k i (l.map f) = (isortF lt k i l).map f
  | 0, i, l => by simp [isortF]
  | k + 1, i, l => by
    unfold isortF
    rw [sink_map hf, isortF_map hf]
/-- Sorting commutes with a map that keeps the order. -/
theorem isort_mapF {lt : α → α → Bool} {lt' : β → β → Bool} {f : α → β} (hf : ∀ x y, lt' (f x) (f y) = lt x y) (l : List α) : isort lt' (l.map f) = (isort lt l).map f := by
  unfold isort
  rw [isortF_map hf, List.length_map]
/-- Two lists of the same elements that both rise strictly are one. -/
theorem rise_one {R : α → α → Prop} (ir : ∀ a, ¬ R a a) (tr : ∀ a b c, R a b → R b c → R a c) : ∀ {l m : List α}, l.Pairwise R → m.Pairwise R → l.Perm m → l = m
  | [], m, _, _, hp => (List.nil_perm.1 hp).symm
  | x :: l, [], _, _, hp => by cases hp.length_eq
  | x :: l, y :: m, hl, hm, hp => by
    obtain ⟨hx, hl'⟩ := List.pairwise_cons.1 hl
    obtain ⟨hy, hm'⟩ := List.pairwise_cons.1 hm
    have e : x = y := by
      rcases List.mem_cons.1 (hp.mem_iff.1 (List.mem_cons_self ..)) with h | h
      · exact h
      · rcases List.mem_cons.1 (hp.mem_iff.2 (List.mem_cons_self ..)) with h2 | h2
        · exact h2.symm
        · exact absurd (tr _ _ _ (hx y h2) (hy x h)) (ir x)
    subst e
    rw [rise_one ir tr hl' hm' ((List.perm_cons x).1 hp)]
end
end Go.Proofs.YtnpcbfllnkiopaaGreatDoor
namespace Go.Proofs.YtnpcbfllnkiopaaGreatDoor
abbrev Cand := ByteArray × Int
abbrev GSt := List (Bk × Option Cand)
/-- Whether a candidate is taken at a booking's time by one of those before. -/
def takenB (st : GSt) (b : Bk) (c : Cand) : Bool := st.any fun p => match p.2 with
  | some d => d.1.toList == c.1.toList && decide (d.2 = c.2) && meetB b p.1
  | none => false
def gPick (cd : Bk → List Cand) (st : GSt) (b : Bk) : Option Cand := (cd b).find? fun c => !takenB st b c
def gStep (cd : Bk → List Cand) (st : GSt) (b : Bk) : GSt := st ++ [(b, gPick cd st b)]
def gAll (cd : Bk → List Cand) (ord : List Bk) : GSt := ord.foldl (gStep cd) []
theorem gAll_snoc {cd : Bk → List Cand} {ord : List Bk} {b : Bk} : gAll cd (ord ++ [b]) = gStep cd (gAll cd ord) b := by
  unfold gAll; rw [List.foldl_append]; rfl
theorem foldl_fst {cd : Bk → List Cand} : ∀ (ord : List Bk) (st : GSt), (ord.foldl (gStep cd) st).map (·.1) = st.map (·.1) ++ ord
  | [], st => by simp
  | b :: r, st => by
    rw [List.foldl_cons, foldl_fst r]
    unfold gStep
    simp
/-- Those who have been served are the bookings, in order. -/
theorem gAll_fst {cd : Bk → List Cand} (ord : List Bk) : (gAll cd ord).map (·.1) = ord := by
  unfold gAll; rw [foldl_fst]; rfl
/-- The document's three lists, from the one. -/
def hadOf (st : GSt) : List Bk := st.filterMap fun p => p.2.map fun _ => p.1
def givOf (st : GSt) : List Gv := st.filterMap fun p => p.2.map fun c => ⟨p.1.key, c.1, c.2⟩
def leftOf (st : GSt) : List ByteArray := st.filterMap fun p => match p.2 with
  | some _ => none
  | none => some p.1.key
/-- Whether a candidate is taken, by the document's two lists. -/
def takenR (had : List Bk) (giv : List Gv) (b : Bk) (c : Cand) : Bool := (had.zip giv).any fun p => p.2.cls.toList == c.1.toList && decide (p.2.unit = c.2) && meetB b p.1
theorem takenR_st {b : Bk} {c : Cand} : ∀ (st : GSt), takenR (hadOf st) (givOf st) b c = takenB st b c
  | [] => rfl
  | (x, none) :: r => by
    have ih := takenR_st (b := b) (c := c) r
    unfold takenR takenB hadOf givOf at ih ⊢
    simpa using ih
  | (x, some d) :: r => by
    have ih := takenR_st (b := b) (c := c) r
    unfold takenR takenB hadOf givOf at ih ⊢
    simp only [List.filterMap_cons, Option.map_some, List.zip_cons_cons, List.any_cons]
    rw [ih]
/-- The document's choices, and its step. -/
def chR (cd : Bk → List Cand) (had : List Bk) (giv : List Gv) (b : Bk) : List Gv := ((cd b).filter fun c => !takenR had giv b c).map fun c => ⟨b.key, c.1, c.2⟩
theorem chR_head {cd : Bk → List Cand} {st : GSt} {b : Bk} : (chR cd (hadOf st) (givOf st) b).head? = (gPick cd st b).map fun c => ⟨b.key, c.1, c.2⟩ := by
  unfold chR gPick
  rw [List.head?_map, List.head?_filter]
  congr 1
  congr 1
  funext c
  rw [takenR_st]
theorem step_some {cd : Bk → List Cand} {st : GSt} {b : Bk} {c : Cand} (h : gPick cd st b = some c) : hadOf (gStep cd st b) = hadOf st ++ [b] ∧ givOf (gStep cd st b) = givOf st ++ [⟨b.key, c.1, c.2⟩] ∧ leftOf (gStep cd st b) = leftOf st := by
  unfold gStep hadOf givOf leftOf
  rw [h]
  simp
theorem step_none {cd : Bk → List Cand} {st : GSt} {b : Bk} (h : gPick cd st b = none) : hadOf (gStep cd st b) = hadOf st ∧ givOf (gStep cd st b) = givOf st ∧ leftOf (gStep cd st b) = leftOf st ++ [b.key] := by
  unfold gStep hadOf givOf leftOf
  rw [h]
  simp
end Go.Proofs.YtnpcbfllnkiopaaGreatDoor
namespace Go.Proofs.YtnpcbfllnkiopaaGreatDoor
def bkAt (l : List Bk) (i : Nat) : Bk := (l[i]?).getD ⟨⟨#[]⟩, ⟨#[]⟩, 0, 0, 0, 0⟩
def gvZ : Gv := ⟨⟨#[]⟩, ⟨#[]⟩, 0⟩
def gvAt (got : List Gv) (i : Nat) : Gv := (got[i]?).getD gvZ
/-- Whether a candidate is taken, by the program's row and the numbers of those before. -/
def takenI (l : List Bk) (got : List Gv) (done : List Nat) (i : Nat) (c : Cand) : Bool := done.any fun k => (gvAt got k).cls.toList == c.1.toList && decide ((gvAt got k).unit = c.2) && meetB (bkAt l i) (bkAt l k)
def gPickI (cd : Bk → List Cand) (l : List Bk) (got : List Gv) (done : List Nat) (i : Nat) : Option Cand := (cd (bkAt l i)).find? fun c => !takenI l got done i c
def gStepI (cd : Bk → List Cand) (l : List Bk) (got : List Gv) (done : List Nat) (i : Nat) : List Gv := match gPickI cd l got done i with
  | some c => got.set i ⟨(bkAt l i).key, c.1, c.2⟩
  | none => got
/-- What the row holds is what the one list says. -/
def GotOk (l : List Bk) (got : List Gv) (done : List Nat) (st : GSt) : Prop := st.length = done.length ∧ ∀ (j : Nat) (k : Nat), done[j]? = some k → ∃ o, st[j]? = some (bkAt l k, o) ∧ gvAt got k = match o with
  | some c => ⟨(bkAt l k).key, c.1, c.2⟩
  | none => gvZ
theorem gvAt_set {got : List Gv} {i k : Nat} {x : Gv} (hi : i < got.length) : gvAt (got.set i x) k = if k = i then x else gvAt got k := by
  unfold gvAt
  rw [List.getElem?_set]
  by_cases h : k = i
  · subst h; simp [hi]
  · rw [if_neg (fun e => h e.symm), if_neg h]
theorem taken_same {l : List Bk} {got : List Gv} {i : Nat} {c : Cand} (hc : 1 ≤ c.2) : ∀ {done : List Nat} {st : GSt}, GotOk l got done st → takenI l got done i c = takenB st (bkAt l i) c
  | [], st, h => by
    have h0 : st = [] := List.eq_nil_of_length_eq_zero h.1
    subst h0; rfl
  | k :: done, [], h => by
    have := h.1; simp at this
  | k :: done, (b, o) :: st, h => by
    have ht : GotOk l got done st := ⟨by have := h.1; simpa using this, fun j k' hk => h.2 (j + 1) k' (by simpa using hk)⟩
    have ih := taken_same (i := i) hc ht
    obtain ⟨o', ho, hg⟩ := h.2 0 k rfl
    obtain ⟨rfl, rfl⟩ : b = bkAt l k ∧ o = o' := by simpa using ho
    unfold takenI takenB at ih ⊢
    rw [List.any_cons, List.any_cons, ih, hg]
    cases o with
    | none =>
      have : decide (gvZ.unit = c.2) = false := decide_eq_false (by show ¬ (0 : Int) = c.2; omega)
      simp [this]
    | some d => rfl
theorem pick_same {cd : Bk → List Cand} {l : List Bk} {got : List Gv} {done : List Nat} {st : GSt} {i : Nat} (hcd : ∀ b, ∀ c ∈ cd b, 1 ≤ c.2) (h : GotOk l got done st) : gPickI cd l got done i = gPick cd st (bkAt l i) := by
  unfold gPickI gPick
  have : ∀ (cs : List Cand), (∀ c ∈ cs, 1 ≤ c.2) → cs.find? (fun c => !takenI l got done i c) = cs.find? (fun c => !takenB st (bkAt l i) c) := by
    intro cs
    induction cs with
    | nil => intro _; rfl
    | cons x r ih =>
      intro hx
      rw [List.find?_cons, List.find?_cons, taken_same (hx x (List.mem_cons_self ..)) h, ih fun c hc => hx c (List.mem_cons_of_mem _ hc)]
  exact this _ (hcd _)
/-- One booking more. -/
theorem gotOk_step {cd : Bk → List Cand} {l : List Bk} {got : List Gv} {done : List Nat} {st : GSt} {i : Nat} (hcd : ∀ b, ∀ c ∈ cd b, 1 ≤ c.2) (h : GotOk l got done st) (hi : i < got.length) (hn : i ∉ done) (hz : gvAt got i = gvZ) : GotOk l (gStepI cd l got done i) (done ++ [i]) (gStep cd st (bkAt l i)) := by
  have hp := pick_same (i := i) hcd h
  have hl := h.1
  refine ⟨by unfold gStep; simp [hl], fun j k hk => ?_⟩
  unfold gStep gStepI
  rw [hp]
  rcases Nat.lt_or_ge j done.length with hj | hj
  · rw [List.getElem?_append_left hj] at hk
    obtain ⟨o, ho, hg⟩ := h.2 j k hk
    have hne : k ≠ i := fun e => hn (e ▸ List.mem_of_getElem? hk)
    refine ⟨o, by rw [List.getElem?_append_left (by omega)]; exact ho, ?_⟩
    cases hq : gPick cd st (bkAt l i) with
    | none => exact hg
    | some c => show gvAt (got.set i _) k = _; rw [gvAt_set hi, if_neg hne]; exact hg
  · have hj2 : j = done.length := by
      have := (List.getElem?_eq_some_iff.1 hk).1
      rw [List.length_append, List.length_singleton] at this
      omega
    subst hj2
    obtain rfl : i = k := by simpa using hk
    refine ⟨gPick cd st (bkAt l i), by rw [← hl]; simp, ?_⟩
    cases hq : gPick cd st (bkAt l i) with
    | none => exact hz
    | some c => show gvAt (got.set i _) i = _; rw [gvAt_set hi, if_pos rfl]
end Go.Proofs.YtnpcbfllnkiopaaGreatDoor
namespace Go.Proofs.YtnpcbfllnkiopaaGreatDoor
open Go.RowKit
open Go.ChangeMaps (setBlock)
/-- The map at block g holds es. -/
def MapAt (g : Nat) (es : Array MapEntry) (ck : Nat) (w : World) : Prop := w.heap[g]? = some (.map es ck)
theorem MapAt.lasts2 {N : Nat} {row : Option Nat} {Tt : List TypeId} {g : Nat} {es : Array MapEntry} {ck : Nat} : Lasts2 N row Tt (MapAt g es ck) :=
  ⟨fun w w' h hx => (h.block g (Array.getElem?_eq_some_iff.1 hx).1 (by simp)).trans hx,
   fun w w' r T c h1 _ _ h3 hx => (h3.block g (Array.getElem?_eq_some_iff.1 hx).1 (fun e => by
     have e2 : g = r := by injection e
     subst e2
     unfold MapAt at hx
     rw [h1] at hx; cases hx)).trans hx⟩
/-- The map at block g, one of the call's own. -/
def OwnMap (N g : Nat) (es : Array MapEntry) (ck : Nat) (w : World) : Prop := N ≤ g ∧ MapAt g es ck w
theorem OwnMap.lasts2 {N M : Nat} {row : Option Nat} {Tt : List TypeId} {g : Nat} {es : Array MapEntry} {ck : Nat} : Lasts2 N row Tt (OwnMap M g es ck) :=
  ⟨fun w w' h hx => ⟨hx.1, MapAt.lasts2.gr (N := N) (row := row) (Tt := Tt) w w' h hx.2⟩, fun w w' r T c h1 h2 h3 h4 hx => ⟨hx.1, MapAt.lasts2.st w w' r T c h1 h2 h3 h4 hx.2⟩⟩
end Go.Proofs.YtnpcbfllnkiopaaGreatDoor
namespace Go.Proofs.YtnpcbfllnkiopaaGreatDoor
open Go.RowKit Go.MapKept
open Go.ChangeMaps (setBlock)
theorem bytes_ext {a b : ByteArray} (h : a.toList = b.toList) : a = b := by
  rw [ByteArray.toList_eq, ByteArray.toList_eq] at h
  cases a; cases b
  simp only at h
  exact congrArg ByteArray.mk (Array.toList_inj.1 h)
theorem bytes_eqb {a b : ByteArray} : (a.toList == b.toList) = true ↔ a = b :=
  ⟨fun h => bytes_ext (by simpa using h), fun h => by subst h; simp⟩
def fDel {α : Type} (f : ByteArray → Option α) (k : ByteArray) : ByteArray → Option α := fun j => if (j.toList == k.toList) = true then none else f j
def fNil {α : Type} : ByteArray → Option α := fun _ => none
theorem fDel_same {α : Type} (f : ByteArray → Option α) (k : ByteArray) : fDel f k k = none := by unfold fDel; rw [if_pos (by simp)]
theorem fDel_other {α : Type} (f : ByteArray → Option α) {k j : ByteArray} (h : j ≠ k) : fDel f k j = f j := by unfold fDel; rw [if_neg (fun e => h (bytes_eqb.1 e))]
/-- What a map's block holds, key by key. -/
def Entries {α : Type} (enc : α → Value) (f : ByteArray → Option α) (es : Array MapEntry) (ck : Nat) : Prop :=
  Stamped es ck ∧ (∀ x ∈ es.toList, IsKey .string x.key) ∧ ∀ k v, (∃ e ∈ es.toList, e.key = .string k ∧ e.val = v) ↔ ∃ x, f k = some x ∧ v = enc x
/-- The map at block g, one of the call's own, has under each key what f says. -/
def MapF {α : Type} (enc : α → Value) (N g : Nat) (f : ByteArray → Option α) (w : World) : Prop :=
  N ≤ g ∧ ∃ es ck, w.heap[g]? = some (.map es ck) ∧ Entries enc f es ck
theorem MapF.lt {α : Type} {enc : α → Value} {N g : Nat} {f : ByteArray → Option α} {w : World} (h : MapF enc N g f w) : g < w.heap.size := by
  obtain ⟨_, es, ck, hb, _⟩ := h
  exact (Array.getElem?_eq_some_iff.1 hb).1
theorem MapF.kept {α : Type} {enc : α → Value} {N g : Nat} {f : ByteArray → Option α} {w w' : World} {row : Option Nat} (h : MapF enc N g f w) (hg : w.grownBy w' row) (hne : some g ≠ row) : MapF enc N g f w' := by
  have hlt := h.lt
  obtain ⟨h0, es, ck, hb, he⟩ := h
  exact ⟨h0, es, ck, (hg.block g hlt hne).trans hb, he⟩
theorem MapF.lasts2 {α : Type} {enc : α → Value} {N M : Nat} {row : Option Nat} {Tt : List TypeId} {g : Nat} {f : ByteArray → Option α} : Lasts2 N row Tt (MapF enc M g f) :=
  ⟨fun w w' h hx => hx.kept h (by simp),
   fun w w' r T c h1 _ _ h3 hx => hx.kept h3 (fun e => by
     have e2 : g = r := by injection e
     subst e2
     obtain ⟨_, es, ck, hb, _⟩ := hx
     rw [h1] at hb; cases hb)⟩
section
variable {α : Type} {enc : α → Value} {f : ByteArray → Option α} {es : Array MapEntry} {ck : Nat}
theorem Entries.nil : Entries enc fNil #[] 0 := ⟨stamped_empty 0, by simp, fun k v => by simp [fNil]⟩
/-- Where a key is, or that it is not there. -/
theorem Entries.find (h : Entries enc f es ck) (k : ByteArray) : (Instr.findNow .string (.string k) es.toList 0 = some none ∧ f k = none ∧ ∀ x ∈ es.toList, x.key ≠ .string k) ∨ ∃ j e x, Instr.findNow .string (.string k) es.toList 0 = some (some (j, e.val)) ∧ es[j]? = some e ∧ e.key = .string k ∧ f k = some x ∧ e.val = enc x := by
  have hk : IsKey .string (.string k) := trivial
  rcases findNow_spec hk es.toList 0 h.2.1 with ⟨h1, h2⟩ | ⟨j, e, h1, h2, h3⟩
  · left
    refine ⟨h1, ?_, h2⟩
    cases hf : f k with
    | none => rfl
    | some x =>
      obtain ⟨e, he, hek, _⟩ := (h.2.2 k (enc x)).2 ⟨x, hf, rfl⟩
      exact absurd hek (h2 e he)
  · right
    obtain ⟨x, hx, hv⟩ := (h.2.2 k e.val).1 ⟨e, List.mem_of_getElem? h2, h3, rfl⟩
    refine ⟨j, e, x, by simpa using h1, by simpa using h2, h3, hx, hv⟩
theorem Entries.same (h : Entries enc f es ck) {k : ByteArray} (hn : f k = none) : Entries enc (fDel f k) es ck := by
  have e : fDel f k = f := by
    funext j
    by_cases hj : j = k
    · subst hj; rw [fDel_same, hn]
    · rw [fDel_other _ hj]
  rw [e]; exact h
end
end Go.Proofs.YtnpcbfllnkiopaaGreatDoor
namespace Go.Proofs.YtnpcbfllnkiopaaGreatDoor
open Go.RowKit
section
variable {α : Type}
/-- One is put into a list that is sorted from behind. -/
def insR (lt : α → α → Bool) (x : α) : List α → List α
  | [] => [x]
  | y :: r => if lt x y = true then y :: insR lt x r else x :: y :: r
theorem insR_mem {lt : α → α → Bool} {x z : α} : ∀ {l : List α}, z ∈ insR lt x l → z = x ∨ z ∈ l
  | [], h => .inl (List.mem_singleton.1 h)
  | y :: r, h => by
    unfold insR at h
    split at h
    · rcases List.mem_cons.1 h with rfl | h
      · exact .inr (List.mem_cons_self ..)
      · rcases insR_mem h with h | h
        · exact .inl h
        · exact .inr (List.mem_cons_of_mem _ h)
    · rcases List.mem_cons.1 h with h | h
      · exact .inl h
      · exact .inr h
theorem insR_len {lt : α → α → Bool} {x : α} : ∀ {l : List α}, (insR lt x l).length = l.length + 1
  | [] => rfl
  | y :: r => by
    have := insR_len (lt := lt) (x := x) (l := r)
    unfold insR
    split
    · rw [List.length_cons, this, List.length_cons]
    · rw [List.length_cons]
theorem sink_ins {lt : α → α → Bool} : ∀ {j : Nat} {l : List α} {x : α}, l[j]? = some x → sink lt j l = (insR lt x (l.take j).reverse).reverse ++ l.drop (j + 1)
  | 0, l, x, h => by
    obtain ⟨h1, rfl⟩ := List.getElem?_eq_some_iff.1 h
    show l = [l[0]] ++ l.drop 1
    rw [List.singleton_append, ← List.drop_eq_getElem_cons h1, List.drop_zero]
  | j + 1, l, x, h => by
    obtain ⟨h1, hx⟩ := List.getElem?_eq_some_iff.1 h
    obtain ⟨y, hy⟩ : ∃ y, l[j]? = some y := ⟨_, List.getElem?_eq_getElem (by omega)⟩
    have ht : (l.take (j + 1)).reverse = y :: (l.take j).reverse := by
      rw [List.take_add_one, hy]; simp
    rw [ht]
    by_cases hl : lt x y = true
    · have hs : ((l.set (j + 1) y).set j x)[j]? = some x := List.getElem?_set_self (by rw [List.length_set]; omega)
      rw [sink_yes h hy hl, sink_ins hs]
      have e1 : ((l.set (j + 1) y).set j x).take j = l.take j := by
        rw [List.take_set_of_le (by omega), List.take_set_of_le (by omega)]
      have e2 : ((l.set (j + 1) y).set j x).drop (j + 1) = y :: l.drop (j + 2) := by
        rw [List.drop_set_of_lt (by omega), List.drop_eq_getElem_cons (by rw [List.length_set]; omega), List.getElem_set_self, List.drop_set_of_lt (by omega)]
      rw [e1, e2]
      unfold insR
      rw [if_pos hl]; simp
      cases (l.take j).reverse <;> rfl
    · have hl2 : lt x y = false := by simpa using hl
      rw [sink_no h hy hl2]
      unfold insR
      rw [if_neg hl]
      obtain ⟨h2, hy2⟩ := List.getElem?_eq_some_iff.1 hy
      conv => lhs; rw [← List.take_append_drop j l, List.drop_eq_getElem_cons h2, List.drop_eq_getElem_cons h1, hx, hy2]
      simp
theorem isortF_fold {lt : α → α → Bool} : ∀ (f i : Nat) (l : List α), i + f = l.length → isortF lt f i l = ((l.drop i).foldl (fun a x => insR lt x a) (l.take i).reverse).reverse
  | 0, i, l, h => by
    rw [List.drop_eq_nil_of_le (by omega), List.take_of_length_le (by omega)]
    show l = l.reverse.reverse
    rw [List.reverse_reverse]
  | f + 1, i, l, h => by
    obtain ⟨x, hx⟩ : ∃ x, l[i]? = some x := ⟨_, List.getElem?_eq_getElem (by omega)⟩
    obtain ⟨h1, hx1⟩ := List.getElem?_eq_some_iff.1 hx
    have hlen : (insR lt x (l.take i).reverse).reverse.length = i + 1 := by
      rw [List.length_reverse, insR_len, List.length_reverse, List.length_take]; omega
    show isortF lt f (i + 1) (sink lt i l) = _
    rw [isortF_fold f (i + 1) (sink lt i l) (by rw [sink_len]; omega), sink_ins hx]
    rw [show i + 1 = (insR lt x (l.take i).reverse).reverse.length from hlen.symm, List.drop_left, List.take_left, List.reverse_reverse, hlen, List.drop_eq_getElem_cons h1, hx1]
    rfl
theorem isort_fold {lt : α → α → Bool} (l : List α) : isort lt l = (l.foldl (fun a x => insR lt x a) []).reverse := by
  cases l with
  | nil => rfl
  | cons x r =>
    unfold isort
    rw [isortF_fold _ _ _ (by rw [List.length_cons]; omega)]
    rfl
theorem insR_pair {lt : α → α → Bool} {R : α → α → Prop} (tr : ∀ a b c, R a b → R b c → R a c) {x : α} : ∀ {l : List α}, l.Pairwise (fun a b => R b a) → (∀ y ∈ l, (lt x y = true → R x y) ∧ (lt x y = false → R y x)) → (insR lt x l).Pairwise (fun a b => R b a)
  | [], _, _ => List.pairwise_singleton _ _
  | y :: r, hp, hc => by
    obtain ⟨hp1, hp2⟩ := List.pairwise_cons.1 hp
    have hy := hc y (List.mem_cons_self ..)
    unfold insR
    split
    · rename_i h
      refine List.pairwise_cons.2 ⟨fun z hz => ?_, insR_pair (R := R) tr hp2 fun z hz => hc z (List.mem_cons_of_mem _ hz)⟩
      rcases insR_mem hz with rfl | hz
      · exact hy.1 h
      · exact hp1 z hz
    · rename_i h
      have h2 := hy.2 (by simpa using h)
      refine List.pairwise_cons.2 ⟨fun z hz => ?_, hp⟩
      rcases List.mem_cons.1 hz with rfl | hz
      · exact h2
      · exact tr _ _ _ (hp1 z hz) h2
theorem fold_pair {lt : α → α → Bool} {R : α → α → Prop} (tr : ∀ a b c, R a b → R b c → R a c) : ∀ {l acc : List α}, acc.Pairwise (fun a b => R b a) → (∀ y ∈ acc, ∀ x ∈ l, (lt x y = true → R x y) ∧ (lt x y = false → R y x)) → l.Pairwise (fun y x => (lt x y = true → R x y) ∧ (lt x y = false → R y x)) → (l.foldl (fun a x => insR lt x a) acc).Pairwise (fun a b => R b a)
  | [], _, h, _, _ => h
  | x :: r, acc, h, hc, hp => by
    obtain ⟨hp1, hp2⟩ := List.pairwise_cons.1 hp
    refine fold_pair (R := R) tr (l := r) (acc := insR lt x acc) (insR_pair (R := R) tr h fun y hy => hc y hy x (List.mem_cons_self ..)) (fun y hy z hz => ?_) hp2
    rcases insR_mem hy with rfl | hy
    · exact hp1 z hz
    · exact hc y hy z (List.mem_cons_of_mem _ hz)
/-- Sorting by insertion is stable, and sorts. -/
theorem isort_pair {lt : α → α → Bool} {R : α → α → Prop} (tr : ∀ a b c, R a b → R b c → R a c) {l : List α} (hp : l.Pairwise (fun y x => (lt x y = true → R x y) ∧ (lt x y = false → R y x))) : (isort lt l).Pairwise R := by
  rw [isort_fold, List.pairwise_reverse]
  exact fold_pair (R := R) tr List.Pairwise.nil (fun _ h => by cases h) hp
end
end Go.Proofs.YtnpcbfllnkiopaaGreatDoor
namespace Go.Proofs.YtnpcbfllnkiopaaGreatDoor
def blR (x y : ByteArray) : Prop := Go.Op.bytesLess x.toList y.toList = true
theorem blR_tr {a b c : ByteArray} (h1 : blR a b) (h2 : blR b c) : blR a c := bl_trans h1 h2
theorem blR_ir (a : ByteArray) : ¬ blR a a := fun h => by unfold blR at h; rw [bl_irrefl] at h; cases h
theorem blR_tri {a b : ByteArray} (h1 : ¬ blR a b) (hne : a ≠ b) : blR b a := by
  unfold blR at h1 ⊢
  cases h : Go.Op.bytesLess b.toList a.toList with
  | true => rfl
  | false => exact absurd (bytes_ext (bl_tri (by simpa using h1) h)) hne
/-- A list that rises strictly by its keys is what any arrangement of it is sorted to. -/
theorem sorted_rise {α : Type} {key : α → ByteArray} {lt : α → α → Bool} (hlt : ∀ x y, lt x y = true ↔ blR (key x) (key y)) {m giv : List α} (hp : giv.Perm m) (hm : m.Pairwise fun x y => blR (key x) (key y)) : isort lt giv = m := by
  have hd : giv.Pairwise fun x y => key x ≠ key y := by
    refine (hp.pairwise_iff (R := fun x y => key x ≠ key y) fun h e => h e.symm).2 (hm.imp fun {x y} h e => ?_)
    rw [e] at h
    exact blR_ir _ h
  have hs : (isort lt giv).Pairwise fun x y => blR (key x) (key y) := isort_pair (R := fun x y => blR (key x) (key y)) (fun _ _ _ h1 h2 => blR_tr h1 h2) (hd.imp fun {y x} h => ⟨fun h2 => (hlt _ _).1 h2, fun h2 => blR_tri (fun h3 => by
    have := (hlt x y).2 h3
    rw [this] at h2; cases h2) fun e => h e.symm⟩)
  exact rise_one (R := fun x y => blR (key x) (key y)) (fun a => blR_ir _) (fun _ _ _ h1 h2 => blR_tr h1 h2) hs hm ((isort_perm lt giv).trans hp)
theorem gvLt_bl (x y : Gv) : gvLt x y = true ↔ blR x.bk y.bk := by
  unfold gvLt blR
  rw [decide_eq_true_iff, cmpS_neg]
end Go.Proofs.YtnpcbfllnkiopaaGreatDoor
namespace Go.Proofs.YtnpcbfllnkiopaaGreatDoor
def gvF (got : List Gv) (k : Nat) : Option Gv := if 0 < (gvAt got k).unit then some (gvAt got k) else none
theorem giv_ids {l : List Bk} {got : List Gv} : ∀ {ids : List Nat} {st : GSt}, GotOk l got ids st → (∀ p ∈ st, ∀ c, p.2 = some c → 1 ≤ c.2) → givOf st = ids.filterMap (gvF got)
  | [], st, h, _ => by
    have h0 : st = [] := List.eq_nil_of_length_eq_zero h.1
    subst h0; rfl
  | k :: ids, [], h, _ => by have := h.1; simp at this
  | k :: ids, (b, o) :: st, h, hu => by
    have ht : GotOk l got ids st := ⟨by have := h.1; simpa using this, fun j k' hk => h.2 (j + 1) k' (by simpa using hk)⟩
    have ih := giv_ids ht fun p hp => hu p (List.mem_cons_of_mem _ hp)
    obtain ⟨o', ho, hg⟩ := h.2 0 k rfl
    obtain ⟨rfl, rfl⟩ : b = bkAt l k ∧ o = o' := by simpa using ho
    cases o with
    | none =>
      have e : gvF got k = none := by unfold gvF; rw [hg]; rfl
      rw [List.filterMap_cons, e, ← ih]
      unfold givOf
      simp
    | some c =>
      have hc := hu _ (List.mem_cons_self ..) c rfl
      have e : gvF got k = some ⟨(bkAt l k).key, c.1, c.2⟩ := by
        unfold gvF; rw [hg, if_pos (by show 0 < c.2; omega)]
      rw [List.filterMap_cons, e, ← ih]
      unfold givOf
      simp
theorem got_range (got : List Gv) : got.filter (fun g => decide (0 < g.unit)) = (List.range got.length).filterMap (gvF got) := by
  have e : got = (List.range got.length).map (gvAt got) := by
    apply List.ext_getElem?
    intro i
    rw [List.getElem?_map]
    by_cases hi : i < got.length
    · rw [List.getElem?_range hi, List.getElem?_eq_getElem hi]
      show some got[i] = some ((got[i]?).getD gvZ)
      rw [List.getElem?_eq_getElem hi]; rfl
    · rw [List.getElem?_eq_none (by omega), List.getElem?_eq_none (by rw [List.length_range]; omega)]; rfl
  have key : ∀ (r : List Nat), (r.map (gvAt got)).filter (fun g => decide (0 < g.unit)) = r.filterMap (gvF got) := by
    intro r
    induction r with
    | nil => rfl
    | cons x r ih =>
      rw [List.map_cons, List.filter_cons, List.filterMap_cons, ih]
      unfold gvF
      by_cases hx : 0 < (gvAt got x).unit
      · rw [if_pos (decide_eq_true hx), if_pos hx]
      · rw [if_neg (by simpa using hx), if_neg hx]
  rw [← key, ← e]
theorem giv_perm {l : List Bk} {got : List Gv} {ids : List Nat} {st : GSt} (hids : ids.Perm (List.range got.length)) (h : GotOk l got ids st) (hu : ∀ p ∈ st, ∀ c, p.2 = some c → 1 ≤ c.2) : (givOf st).Perm (got.filter fun g => decide (0 < g.unit)) := by
  rw [giv_ids h hu, got_range]
  exact hids.filterMap _
/-- What is given, sorted by key: the row without those who got none. -/
theorem given_sorted {l : List Bk} {got : List Gv} {ids : List Nat} {st : GSt} (hids : ids.Perm (List.range got.length)) (h : GotOk l got ids st) (hu : ∀ p ∈ st, ∀ c, p.2 = some c → 1 ≤ c.2)
    (hr : (got.filter fun g => decide (0 < g.unit)).Pairwise fun x y => blR x.bk y.bk) : isort gvLt (givOf st) = got.filter fun g => decide (0 < g.unit) :=
  sorted_rise (key := Gv.bk) gvLt_bl (giv_perm hids h hu) hr
def lfF (l : List Bk) (got : List Gv) (k : Nat) : Option ByteArray := if 0 < (gvAt got k).unit then none else some (bkAt l k).key
theorem left_ids {l : List Bk} {got : List Gv} : ∀ {ids : List Nat} {st : GSt}, GotOk l got ids st → (∀ p ∈ st, ∀ c, p.2 = some c → 1 ≤ c.2) → leftOf st = ids.filterMap (lfF l got)
  | [], st, h, _ => by
    have h0 : st = [] := List.eq_nil_of_length_eq_zero h.1
    subst h0; rfl
  | k :: ids, [], h, _ => by have := h.1; simp at this
  | k :: ids, (b, o) :: st, h, hu => by
    have ht : GotOk l got ids st := ⟨by have := h.1; simpa using this, fun j k' hk => h.2 (j + 1) k' (by simpa using hk)⟩
    have ih := left_ids ht fun p hp => hu p (List.mem_cons_of_mem _ hp)
    obtain ⟨o', ho, hg⟩ := h.2 0 k rfl
    obtain ⟨rfl, rfl⟩ : b = bkAt l k ∧ o = o' := by simpa using ho
    cases o with
    | none =>
      have e : lfF l got k = some (bkAt l k).key := by unfold lfF; rw [hg]; rfl
      rw [List.filterMap_cons, e, ← ih]
      unfold leftOf
      simp
    | some c =>
      have hc := hu _ (List.mem_cons_self ..) c rfl
      have e : lfF l got k = none := by
        unfold lfF; rw [hg, if_pos (by show 0 < c.2; omega)]
      rw [List.filterMap_cons, e, ← ih]
      unfold leftOf
      simp
/-- Who waits, sorted: in the order of the numbers. -/
theorem left_sorted {l : List Bk} {got : List Gv} {ids : List Nat} {st : GSt} {lt : ByteArray → ByteArray → Bool} (hlt : ∀ x y, lt x y = true ↔ blR x y) (hids : ids.Perm (List.range got.length)) (h : GotOk l got ids st) (hu : ∀ p ∈ st, ∀ c, p.2 = some c → 1 ≤ c.2)
    (hr : ((List.range got.length).filterMap (lfF l got)).Pairwise blR) : isort lt (leftOf st) = (List.range got.length).filterMap (lfF l got) := by
  refine sorted_rise (key := fun x => x) hlt ?_ hr
  rw [left_ids h hu]
  exact hids.filterMap _
end Go.Proofs.YtnpcbfllnkiopaaGreatDoor
namespace Go.Proofs.YtnpcbfllnkiopaaGreatDoor
open Go.RowKit
def BkTim (l : List Bk) : Prop := ∀ b ∈ l, 0 ≤ b.fr ∧ b.fr < b.to_ ∧ b.to_ ≤ 5761439
theorem form_tim {l : List Bk} (h : formE l = 0) : BkTim l := fun b hb => by
  unfold formE at h
  split at h
  · cases h
  · obtain ⟨q, hq⟩ := scanE_all h b hb
    have := bookE_ok hq
    exact ⟨this.1, this.2.1, this.2.2.1⟩
theorem checkE_eq (cs : List Cs) (l : List Bk) : checkE cs l = firstE [classesE cs, formE l, if l.any (fun b => noB cs b.cls) = true then 8 else 0] := by
  unfold checkE classedE
  by_cases h : classesE cs = 0
  · rw [h]
    by_cases h2 : formE l = 0
    · rw [if_neg (by simpa using h2), h2]; simp [firstE]
    · rw [if_pos h2]; simp [firstE, h2]
  · simp [firstE, h]
theorem bf1_any (cs : List Cs) (A0 : Option Addr) (n0 c0 : Nat) (gc : Nat) (w : World) (hcs : SlT csEnc 2 170 w A0 n0 cs) (hco : ∀ x ∈ cs, CsOk x) (hn0 : n0 ≤ 1000) (hgc : Blk w gc 62 [.slice A0 n0 c0]) :
  Calls Tryz.prog 213 #[.pointer (some ⟨gc, 0, none⟩)] w (GotE w (classesE cs)) := by
 refine gw_enter ⟨4, w, none, []⟩ Tryz.func213 rfl Tryz.ntmps213 rfl (mem0 (X := [SlOld csEnc 2 170 w.heap.size none A0 n0 cs, BlkOld w.heap.size none gc 62 [.slice A0 n0 c0]]) (allF_cons hcs.old (allF_cons hgc.old allF_nil)) (allL_cons SlOld.lasts (allL_cons BlkOld.lasts allL_nil))) ?_
 refine sr_ ?_
 obtain ⟨EE, hEE⟩ : ∃ E : Int, E = (classesE cs) := ⟨_, rfl⟩
 rw [← hEE]
 refine sg_ rfl (nn_ (sr_ ?_))
 refine wl_ov (ov_load (v := .slice A0 n0 c0) sc62 rfl (fun _ hm => (hm.fact 1 rfl).2) rfl) rfl ?_
 refine wl_callv (v := .int .i64 EE) rfl cb112 rfl rfl (fun wx hm => (by rw [hEE]; exact classesFault_any cs A0 n0 c0 wx (hm.fact 0 rfl).1 hco (by omega))) ?_
 refine sg_ rfl (nn_ ?_)
 refine gw_ret ?_
 refine nx_ret1 rfl rfl fun wx hm => ?_
 exact ⟨rfl, hm.g⟩
theorem bf2_any (l : List Bk) (A : Option Addr) (n c : Nat) (gb : Nat) (w : World) (hl : SlT bkEnc 6 199 w A n l) (hok : ∀ x ∈ l, BkOk x) (hn : n ≤ 1000) (hgb : Blk w gb 84 [.slice A n c]) :
  Calls Tryz.prog 214 #[.pointer (some ⟨gb, 0, none⟩)] w (GotE w (formE l)) := by
 refine gw_enter ⟨4, w, none, []⟩ Tryz.func214 rfl Tryz.ntmps214 rfl (mem0 (X := [SlOld bkEnc 6 199 w.heap.size none A n l, BlkOld w.heap.size none gb 84 [.slice A n c]]) (allF_cons hl.old (allF_cons hgb.old allF_nil)) (allL_cons SlOld.lasts (allL_cons BlkOld.lasts allL_nil))) ?_
 refine sr_ ?_
 obtain ⟨EE, hEE⟩ : ∃ E : Int, E = (formE l) := ⟨_, rfl⟩
 rw [← hEE]
 refine sg_ rfl (nn_ (sr_ ?_))
 refine wl_ov (ov_load (v := .slice A n c) sc84 rfl (fun _ hm => (hm.fact 1 rfl).2) rfl) rfl ?_
 refine wl_callv (v := .int .i64 EE) rfl cb215 rfl rfl (fun wx hm => (by rw [hEE]; exact bookingForm_any l A n c wx (hm.fact 0 rfl).1 hok (by omega))) ?_
 refine sg_ rfl (nn_ ?_)
 refine gw_ret ?_
 refine nx_ret1 rfl rfl fun wx hm => ?_
 exact ⟨rfl, hm.g⟩
theorem bf3_any (cs : List Cs) (A0 : Option Addr) (n0 c0 : Nat) (l : List Bk) (A : Option Addr) (n c : Nat) (gc gb : Nat) (w : World) (hcs : SlT csEnc 2 170 w A0 n0 cs) (hco : ∀ x ∈ cs, CsOk x) (hn0 : n0 ≤ 1000) (hl : SlT bkEnc 6 199 w A n l) (hok : ∀ x ∈ l, BkOk x) (hn : n ≤ 1000) (hgc : Blk w gc 62 [.slice A0 n0 c0]) (hgb : Blk w gb 84 [.slice A n c]) :
  Calls Tryz.prog 216 #[.pointer (some ⟨gc, 0, none⟩), .pointer (some ⟨gb, 0, none⟩)] w (GotE w (if l.any (fun b => noB cs b.cls) = true then 8 else 0)) := by
 refine gw_enter ⟨6, w, none, []⟩ Tryz.func216 rfl Tryz.ntmps216 rfl (mem0 (X := [SlOld csEnc 2 170 w.heap.size none A0 n0 cs, SlOld bkEnc 6 199 w.heap.size none A n l, BlkOld w.heap.size none gc 62 [.slice A0 n0 c0], BlkOld w.heap.size none gb 84 [.slice A n c]]) (allF_cons hcs.old (allF_cons hl.old (allF_cons hgc.old (allF_cons hgb.old allF_nil)))) (allL_cons SlOld.lasts (allL_cons SlOld.lasts (allL_cons BlkOld.lasts (allL_cons BlkOld.lasts allL_nil))))) ?_
 refine sr_ ?_
 obtain ⟨EE, hEE⟩ : ∃ E : Int, E = (if l.any (fun b => noB cs b.cls) = true then 8 else 0) := ⟨_, rfl⟩
 rw [← hEE]
 refine sg_ rfl (nn_ (sr_ ?_))
 refine wl_ov (ov_load (v := .slice A0 n0 c0) sc62 rfl (fun _ hm => (hm.fact 2 rfl).2) rfl) rfl ?_
 refine wl_ov (ov_load (v := .slice A n c) sc84 rfl (fun _ hm => (hm.fact 3 rfl).2) rfl) rfl ?_
 refine wl_callv (v := .int .i64 EE) rfl cb217 rfl rfl (fun wx hm => (by rw [hEE]; exact known_any cs A0 n0 c0 l A n c wx (hm.fact 0 rfl).1 hco hn0 (hm.fact 1 rfl).1 hok hn)) ?_
 refine sg_ rfl (nn_ ?_)
 refine gw_ret ?_
 refine nx_ret1 rfl rfl fun wx hm => ?_
 exact ⟨rfl, hm.g⟩
theorem bookingsFault_any (cs : List Cs) (A0 : Option Addr) (n0 c0 : Nat) (l : List Bk) (A : Option Addr) (n c : Nat) (w : World) (hcs : SlT csEnc 2 170 w A0 n0 cs) (hco : ∀ x ∈ cs, CsOk x) (hn0 : n0 ≤ 1000) (hl : SlT bkEnc 6 199 w A n l) (hok : ∀ x ∈ l, BkOk x) (hn : n ≤ 1000) :
  Calls Tryz.prog 139 #[.slice A0 n0 c0, .slice A n c] w (GotE w (checkE cs l)) := by
 refine gw_enter ⟨23, w, none, []⟩ Tryz.func139 rfl Tryz.ntmps139 rfl (mem0 (X := [SlOld csEnc 2 170 w.heap.size none A0 n0 cs, SlOld bkEnc 6 199 w.heap.size none A n l]) (allF_cons hcs.old (allF_cons hl.old allF_nil)) (allL_cons SlOld.lasts (allL_cons SlOld.lasts allL_nil))) ?_
 refine sr_ ?_
 rw [checkE_eq]
 obtain ⟨CE, hCE⟩ : ∃ E, E = classesE cs := ⟨_, rfl⟩
 obtain ⟨FE, hFE⟩ : ∃ E, E = formE l := ⟨_, rfl⟩
 obtain ⟨KE, hKE⟩ : ∃ E, E = (if l.any (fun b => noB cs b.cls) = true then (8 : Int) else 0) := ⟨_, rfl⟩
 rw [← hCE, ← hFE, ← hKE]
 refine wl_box rfl rfl rfl fun g1 => ?_
 refine wl_box rfl rfl rfl fun g2 => ?_
 refine sg_ rfl (nn_ (gw_seq (sr_ (wl_ov (ov_makeFunc rfl rfl) rfl (wl_ov (ov_makeFunc rfl rfl) rfl (wl_ov (ov_makeFunc rfl rfl) rfl ?_))))))
 refine wl_buildSlice (e := 92) (cs := [.func (.func 213) #[] #[.pointer (some ⟨g1, 0, none⟩)], .func (.func 214) #[] #[.pointer (some ⟨g2, 0, none⟩)], .func (.func 216) #[] #[.pointer (some ⟨g1, 0, none⟩), .pointer (some ⟨g2, 0, none⟩)]]) rfl (by kernel_rfl) rfl fun g3 => ?_
 refine wl_ov (ov_len es257 rfl) rfl ?_
 refine wl_set 12 (v' := .int .i64 3) rfl rfl ?_
 refine mv_ rfl (nn_ (gw_block ?_))
 refine gw_rounds 4 ?_
 refine gr_next ?_
 refine sr_ (wl_ov (ov_lss rfl rfl) rfl ?_)
 refine wl_set 14 (v' := .bool true) rfl (congrArg Value.bool (by decide)) ?_
 refine nn_ (gw_seq (ct_ rfl (gw_skip (nx_then (gw_seq (gw_block (sr_ ?_)))))))
 refine wl_ov (ov_index (j := 0) es257 rfl rfl (by decide)) rfl ?_
 refine lk_ sc92 0 rfl rfl rfl (sg_ rfl (nn_ (sr_ (mv_ rfl ?_))))
 refine wl_callv (v := .int .i64 CE) rfl cb213 rfl rfl (fun wx hm => (by rw [hCE]; exact bf1_any cs A0 n0 c0 _ wx (hm.fact 0 rfl).1 hco hn0 (hm.blkI 2 rfl))) ?_
 refine sg_ rfl (nn_ (sr_ (mv_ rfl (wl_ov (ov_neq rfl rfl) rfl (nn_ ?_)))))
 refine gw_cond rfl (fun hh => ?_) (fun hh => ?_)
 ·have h0 : ¬ (CE = 0) := by simpa using hh
  clear hh
  refine sr_ (mv_ rfl (sg_ rfl (nn_ ?_)))
  refine gw_ret ?_
  refine nx_blk_ret (nx_then_ret (nx_then_ret (nx_blk_ret (nx_then_ret ?_))))
  refine nx_ret1 rfl rfl fun wx hm => ?_
  exact ⟨ret_int (by simp [firstE, h0]), hm.g⟩
 have h0 : CE = 0 := by simpa using hh
 clear hh
 refine gw_skip (nx_blk_nrm (nx_then (gw_region (ad_ rfl rfl ?_))))
 refine wl_set 22 (v' := .int .i64 1) rfl rfl ?_
 refine mv_ rfl (wl_nil ?_)
 refine nx_next ?_
 refine gr_next ?_
 refine sr_ (wl_ov (ov_lss rfl rfl) rfl ?_)
 refine wl_set 14 (v' := .bool true) rfl (congrArg Value.bool (by decide)) ?_
 refine nn_ (gw_seq (ct_ rfl (gw_skip (nx_then (gw_seq (gw_block (sr_ ?_)))))))
 refine wl_ov (ov_index (j := 1) es257 rfl rfl (by decide)) rfl ?_
 refine lk_ sc92 0 rfl rfl rfl (sg_ rfl (nn_ (sr_ (mv_ rfl ?_))))
 refine wl_callv (v := .int .i64 FE) rfl cb214 rfl rfl (fun wx hm => (by rw [hFE]; exact bf2_any l A n c _ wx (hm.fact 1 rfl).1 hok hn (hm.blkI 1 rfl))) ?_
 refine sg_ rfl (nn_ (sr_ (mv_ rfl (wl_ov (ov_neq rfl rfl) rfl (nn_ ?_)))))
 refine gw_cond rfl (fun hh => ?_) (fun hh => ?_)
 ·have h1 : ¬ (FE = 0) := by simpa using hh
  clear hh
  refine sr_ (mv_ rfl (sg_ rfl (nn_ ?_)))
  refine gw_ret ?_
  refine nx_blk_ret (nx_then_ret (nx_then_ret (nx_blk_ret (nx_then_ret ?_))))
  refine nx_ret1 rfl rfl fun wx hm => ?_
  exact ⟨ret_int (by simp [firstE, h0, h1]), hm.g⟩
 have h1 : FE = 0 := by simpa using hh
 clear hh
 refine gw_skip (nx_blk_nrm (nx_then (gw_region (ad_ rfl rfl ?_))))
 refine wl_set 22 (v' := .int .i64 2) rfl rfl ?_
 refine mv_ rfl (wl_nil ?_)
 refine nx_next ?_
 refine gr_next ?_
 refine sr_ (wl_ov (ov_lss rfl rfl) rfl ?_)
 refine wl_set 14 (v' := .bool true) rfl (congrArg Value.bool (by decide)) ?_
 refine nn_ (gw_seq (ct_ rfl (gw_skip (nx_then (gw_seq (gw_block (sr_ ?_)))))))
 refine wl_ov (ov_index (j := 2) es257 rfl rfl (by decide)) rfl ?_
 refine lk_ sc92 0 rfl rfl rfl (sg_ rfl (nn_ (sr_ (mv_ rfl ?_))))
 refine wl_callv (v := .int .i64 KE) rfl cb216 rfl rfl (fun wx hm => (by rw [hKE]; exact bf3_any cs A0 n0 c0 l A n c _ _ wx (hm.fact 0 rfl).1 hco hn0 (hm.fact 1 rfl).1 hok hn (hm.blkI 2 rfl) (hm.blkI 1 rfl))) ?_
 refine sg_ rfl (nn_ (sr_ (mv_ rfl (wl_ov (ov_neq rfl rfl) rfl (nn_ ?_)))))
 refine gw_cond rfl (fun hh => ?_) (fun hh => ?_)
 ·have h2 : ¬ (KE = 0) := by simpa using hh
  clear hh
  refine sr_ (mv_ rfl (sg_ rfl (nn_ ?_)))
  refine gw_ret ?_
  refine nx_blk_ret (nx_then_ret (nx_then_ret (nx_blk_ret (nx_then_ret ?_))))
  refine nx_ret1 rfl rfl fun wx hm => ?_
  exact ⟨ret_int (by simp [firstE, h0, h1, h2]), hm.g⟩
 have h2 : KE = 0 := by simpa using hh
 clear hh
 refine gw_skip (nx_blk_nrm (nx_then (gw_region (ad_ rfl rfl ?_))))
 refine wl_set 22 (v' := .int .i64 3) rfl rfl ?_
 refine mv_ rfl (wl_nil ?_)
 refine nx_next ?_
 refine gr_next ?_
 refine sr_ (wl_ov (ov_lss rfl rfl) rfl ?_)
 refine wl_set 14 (v' := .bool false) rfl (congrArg Value.bool (by decide)) ?_
 refine nn_ (gw_seq (cf_ rfl ?_))
 refine gw_exit ?_
 refine nx_then_exit (nx_then_exit ?_)
 refine nx_blk_here ?_
 refine nx_then (sr_ (sg_ rfl (nn_ ?_)))
 refine gw_ret ?_
 refine nx_ret1 rfl rfl fun wx hm => ?_
 exact ⟨ret_int (by simp [firstE, h0, h1, h2]), hm.g⟩
end Go.Proofs.YtnpcbfllnkiopaaGreatDoor
namespace Go.Proofs.YtnpcbfllnkiopaaGreatDoor
/-- The units of a class, from number u + 1 on. -/
def unitsF (sl : List Sk) (k : ByteArray) (u : Nat) : List Cand := ((List.range (manyV sl k).toNat).drop u).map fun i => (k, ((i + 1 : Nat) : Int))
theorem unitsF_more {sl : List Sk} {k : ByteArray} {u : Nat} (h : ((u + 1 : Nat) : Int) ≤ manyV sl k) : unitsF sl k u = (k, ((u + 1 : Nat) : Int)) :: unitsF sl k (u + 1) := by
  unfold unitsF
  have hu : u < (List.range (manyV sl k).toNat).length := by rw [List.length_range]; omega
  rw [List.drop_eq_getElem_cons hu, List.map_cons, List.getElem_range]
theorem unitsF_end {sl : List Sk} {k : ByteArray} {u : Nat} (h : ¬ ((u + 1 : Nat) : Int) ≤ manyV sl k) : unitsF sl k u = [] := by
  unfold unitsF
  rw [List.drop_eq_nil_of_le (by rw [List.length_range]; omega)]; rfl
def candsF (sl : List Sk) (ks : List ByteArray) : List Cand := ks.flatMap fun k => unitsF sl k 0
theorem candsF_at {sl : List Sk} {ks : List ByteArray} {i : Nat} {k : ByteArray} (h : ks[i]? = some k) : candsF sl (ks.drop i) = unitsF sl k 0 ++ candsF sl (ks.drop (i + 1)) := by
  obtain ⟨hi, rfl⟩ := List.getElem?_eq_some_iff.1 h
  rw [List.drop_eq_getElem_cons hi]; rfl
theorem candsF_end {sl : List Sk} {ks : List ByteArray} {i : Nat} (h : ks.length ≤ i) : candsF sl (ks.drop i) = [] := by
  rw [List.drop_eq_nil_of_le h]; rfl
/-- The classes of a booking: its own, then those above. -/
def clsF (cs : List Cs) (b : Bk) : List ByteArray := b.cls :: pathN cs cs.length b.cls
def cdB (cs : List Cs) (sl : List Sk) (b : Bk) : List Cand := candsF sl (clsF cs b)
theorem cd_pos {cs : List Cs} {sl : List Sk} : ∀ b, ∀ c ∈ cdB cs sl b, 1 ≤ c.2 := fun b c hc => by
  unfold cdB candsF at hc
  obtain ⟨k, _, hc⟩ := List.mem_flatMap.1 hc
  unfold unitsF at hc
  obtain ⟨i, _, rfl⟩ := List.mem_map.1 hc
  show (1 : Int) ≤ ((i + 1 : Nat) : Int)
  omega
/-- Those of some candidates that are free, as given vehicles. -/
def chF (had : List Bk) (giv : List Gv) (b : Bk) (l : List Cand) : List Gv := (l.filter fun c => !takenR had giv b c).map fun c => ⟨b.key, c.1, c.2⟩
theorem chF_app (had : List Bk) (giv : List Gv) (b : Bk) (l m : List Cand) : chF had giv b (l ++ m) = chF had giv b l ++ chF had giv b m := by
  unfold chF; rw [List.filter_append, List.map_append]
theorem chF_yes {had : List Bk} {giv : List Gv} {b : Bk} {c : Cand} {l : List Cand} (h : takenR had giv b c = true) : chF had giv b (c :: l) = chF had giv b l := by
  unfold chF; rw [List.filter_cons_of_neg (by simp [h])]
theorem chF_no {had : List Bk} {giv : List Gv} {b : Bk} {c : Cand} {l : List Cand} (h : takenR had giv b c = false) : chF had giv b (c :: l) = ⟨b.key, c.1, c.2⟩ :: chF had giv b l := by
  unfold chF; rw [List.filter_cons_of_pos (by simp [h]), List.map_cons]
theorem chR_chF {cs : List Cs} {sl : List Sk} {had : List Bk} {giv : List Gv} {b : Bk} : chR (cdB cs sl) had giv b = chF had giv b (cdB cs sl b) := rfl
theorem any_take1 {α : Type} {p : α → Bool} {l : List α} {i : Nat} {x : α} (h : l[i]? = some x) : (l.take (i + 1)).any p = ((l.take i).any p || p x) := by
  rw [List.take_add_one, h, List.any_append]; simp
theorem meetW_comm (a b c d : Int) : meetW a b c d = meetW c d a b := by unfold meetW; rw [Bool.and_comm]
theorem zip_at {α β : Type} {l : List α} {m : List β} {i : Nat} {x : α} {y : β} (h1 : l[i]? = some x) (h2 : m[i]? = some y) : (l.zip m)[i]? = some (x, y) := by
  rw [List.getElem?_zip_eq_some]; exact ⟨h1, h2⟩
/-- Whether one of those before has a candidate at a booking's time. -/
def takP (b : Bk) (k : ByteArray) (u : Int) (p : Bk × Gv) : Bool := p.2.cls.toList == k.toList && decide (p.2.unit = u) && meetB b p.1
theorem takP_at {had : List Bk} {giv : List Gv} {j : Nat} {y : Bk} {z : Gv} {b : Bk} {k : ByteArray} {u : Int} (h1 : had[j]? = some y) (h2 : giv[j]? = some z) : ((had.zip giv).take (j + 1)).any (takP b k u) = (((had.zip giv).take j).any (takP b k u) || (z.cls.toList == k.toList && decide (z.unit = u) && meetW y.fr y.to_ b.fr b.to_)) := by
  rw [any_take1 (zip_at h1 h2)]
  have e : takP b k u (y, z) = (z.cls.toList == k.toList && decide (z.unit = u) && meetW y.fr y.to_ b.fr b.to_) := by
    show (_ && _ && meetW _ _ _ _) = _
    rw [meetW_comm]
  rw [e]
/-- One booking more, in order. -/
theorem gAll_at {cd : Bk → List Cand} {ord : List Bk} {i : Nat} {b : Bk} (h : ord[i]? = some b) : gAll cd (ord.take (i + 1)) = gStep cd (gAll cd (ord.take i)) b := by
  rw [List.take_add_one, h]; exact gAll_snoc
theorem had_mem {cd : Bk → List Cand} {ord : List Bk} {b : Bk} (h : b ∈ hadOf (gAll cd ord)) : b ∈ ord := by
  unfold hadOf at h
  obtain ⟨p, hp, he⟩ := List.mem_filterMap.1 h
  have h2 : p.1 ∈ (gAll cd ord).map (·.1) := List.mem_map.2 ⟨p, hp, rfl⟩
  rw [gAll_fst] at h2
  cases ho : p.2 with
  | none => rw [ho] at he; cases he
  | some c =>
    rw [ho] at he
    obtain rfl : p.1 = b := by simpa using he
    exact h2
/-- What the document picks is the head of its choices. -/
theorem pick_some {cd : Bk → List Cand} {st : GSt} {b : Bk} {g : Gv} {r : List Gv} (h : chR cd (hadOf st) (givOf st) b = g :: r) : ∃ c, gPick cd st b = some c ∧ g = ⟨b.key, c.1, c.2⟩ := by
  have h1 := chR_head (cd := cd) (st := st) (b := b)
  rw [h] at h1
  cases hp : gPick cd st b with
  | none => rw [hp] at h1; cases h1
  | some c => rw [hp] at h1; exact ⟨c, rfl, by simpa using h1⟩
theorem pick_none {cd : Bk → List Cand} {st : GSt} {b : Bk} (h : chR cd (hadOf st) (givOf st) b = []) : gPick cd st b = none := by
  have h1 := chR_head (cd := cd) (st := st) (b := b)
  rw [h] at h1
  cases hp : gPick cd st b with
  | none => rfl
  | some c => rw [hp] at h1; cases h1
/-- The program's row after the numbers of a list. -/
def gotF (cs : List Cs) (sl : List Sk) (l : List Bk) (ids : List Nat) : List Gv × List Nat := ids.foldl (fun p i => (gStepI (cdB cs sl) l p.1 p.2 i, p.2 ++ [i])) (List.replicate l.length gvZ, [])
theorem gotF_snoc {cs : List Cs} {sl : List Sk} {l : List Bk} {ids : List Nat} {i : Nat} : gotF cs sl l (ids ++ [i]) = (gStepI (cdB cs sl) l (gotF cs sl l ids).1 (gotF cs sl l ids).2 i, (gotF cs sl l ids).2 ++ [i]) := by
  unfold gotF; rw [List.foldl_append]; rfl
theorem gotF_done {cs : List Cs} {sl : List Sk} {l : List Bk} (ids : List Nat) : (gotF cs sl l ids).2 = ids := by
  have h : ∀ (ids : List Nat) (p : List Gv × List Nat), (ids.foldl (fun p i => (gStepI (cdB cs sl) l p.1 p.2 i, p.2 ++ [i])) p).2 = p.2 ++ ids := by
    intro ids
    induction ids with
    | nil => intro p; simp
    | cons x r ih => intro p; rw [List.foldl_cons, ih]; simp
  unfold gotF; rw [h]; rfl
theorem gStepI_len {cd : Bk → List Cand} {l : List Bk} {got : List Gv} {done : List Nat} {i : Nat} : (gStepI cd l got done i).length = got.length := by
  unfold gStepI; split
  · exact List.length_set ..
  · rfl
theorem gotF_len {cs : List Cs} {sl : List Sk} {l : List Bk} (ids : List Nat) : (gotF cs sl l ids).1.length = l.length := by
  have h : ∀ (ids : List Nat) (p : List Gv × List Nat), (ids.foldl (fun p i => (gStepI (cdB cs sl) l p.1 p.2 i, p.2 ++ [i])) p).1.length = p.1.length := by
    intro ids
    induction ids with
    | nil => intro p; rfl
    | cons x r ih => intro p; rw [List.foldl_cons, ih]; exact gStepI_len
  unfold gotF; rw [h]; exact List.length_replicate ..
theorem gvAt_rep (n i : Nat) : gvAt (List.replicate n gvZ) i = gvZ := by
  unfold gvAt
  by_cases h : i < n
  · rw [List.getElem?_replicate_of_lt h]; rfl
  · rw [List.getElem?_eq_none (by simpa using h)]; rfl
/-- What has not been served yet has got nothing. -/
theorem gotF_zero {cs : List Cs} {sl : List Sk} {l : List Bk} {i : Nat} : ∀ (k : Nat) (ids : List Nat), ids.length = k → (∀ x ∈ ids, x < l.length) → i ∉ ids → gvAt (gotF cs sl l ids).1 i = gvZ
  | 0, ids, hk, _, _ => by
    obtain rfl : ids = [] := List.eq_nil_of_length_eq_zero hk
    exact gvAt_rep _ _
  | k + 1, ids, hk, hb, hn => by
    obtain ⟨r, x, rfl⟩ : ∃ r x, ids = r ++ [x] := ⟨ids.dropLast, ids.getLast (by intro h; subst h; cases hk), (List.dropLast_concat_getLast _).symm⟩
    have hr := gotF_zero (cs := cs) (sl := sl) (l := l) (i := i) k r (by simpa using hk) (fun y hy => hb y (List.mem_append_left _ hy)) (fun h => hn (List.mem_append_left _ h))
    have hx : i ≠ x := fun e => hn (by rw [e]; simp)
    rw [gotF_snoc]
    show gvAt (gStepI _ l (gotF cs sl l r).1 (gotF cs sl l r).2 x) i = gvZ
    unfold gStepI
    split
    · rw [gvAt_set (by rw [gotF_len]; exact hb x (by simp)), if_neg hx]; exact hr
    · exact hr
/-- The program's row is what the one list says. -/
theorem gotF_ok {cs : List Cs} {sl : List Sk} {l : List Bk} : ∀ (k : Nat) (ids : List Nat), ids.length = k → (∀ x ∈ ids, x < l.length) → ids.Nodup → GotOk l (gotF cs sl l ids).1 ids (gAll (cdB cs sl) (ids.map (bkAt l)))
  | 0, ids, hk, _, _ => by
    obtain rfl : ids = [] := List.eq_nil_of_length_eq_zero hk
    exact ⟨rfl, fun j k h => by simp at h⟩
  | k + 1, ids, hk, hb, hd => by
    obtain ⟨r, x, rfl⟩ : ∃ r x, ids = r ++ [x] := ⟨ids.dropLast, ids.getLast (by intro h; subst h; cases hk), (List.dropLast_concat_getLast _).symm⟩
    obtain ⟨hd1, hd2⟩ : r.Nodup ∧ x ∉ r := by
      have h := List.nodup_append.1 hd
      exact ⟨h.1, fun hx => h.2.2 x hx x (by simp) rfl⟩
    have hbr : ∀ y ∈ r, y < l.length := fun y hy => hb y (List.mem_append_left _ hy)
    have hr := gotF_ok (cs := cs) (sl := sl) (l := l) k r (by simpa using hk) hbr hd1
    have h := gotOk_step (cd := cdB cs sl) (i := x) cd_pos hr (by rw [gotF_len]; exact hb x (by simp)) hd2 (gotF_zero (cs := cs) (sl := sl) k r (by simpa using hk) hbr hd2)
    rw [gotF_snoc, gotF_done, List.map_append, List.map_singleton, gAll_snoc]
    exact h
def idsN (l : List Bk) : List Nat := isort (fun a b => decide (cmpI (bkAt l a).fr (bkAt l b).fr < 0)) (List.range l.length)
theorem range_bk (l : List Bk) : (List.range l.length).map (bkAt l) = l := by
  apply List.ext_getElem?
  intro i
  rw [List.getElem?_map]
  by_cases hi : i < l.length
  · rw [List.getElem?_range hi, List.getElem?_eq_getElem hi]
    show some ((l[i]?).getD _) = _
    rw [List.getElem?_eq_getElem hi]; rfl
  · rw [List.getElem?_eq_none (by rw [List.length_range]; omega), List.getElem?_eq_none (by omega)]; rfl
theorem ids_ord (l : List Bk) : (idsN l).map (bkAt l) = isort grLt l := by
  unfold idsN
  rw [← isort_mapF (lt := fun a b => decide (cmpI (bkAt l a).fr (bkAt l b).fr < 0)) (lt' := grLt) (f := bkAt l) (fun x y => rfl), range_bk]
theorem ids_perm (l : List Bk) : (idsN l).Perm (List.range l.length) := isort_perm _ _
theorem ids_lt (l : List Bk) : ∀ x ∈ idsN l, x < l.length := fun x hx => by
  have := (ids_perm l).mem_iff.1 hx
  simpa using this
theorem ids_nodup (l : List Bk) : (idsN l).Nodup := (ids_perm l).nodup_iff.2 List.nodup_range
/-- The program's row at the end; what is given, who waits. -/
def gotE (cs : List Cs) (sl : List Sk) (l : List Bk) : List Gv := (gotF cs sl l (idsN l)).1
def givenE (cs : List Cs) (sl : List Sk) (l : List Bk) : List Gv := (gotE cs sl l).filter fun g => decide (0 < g.unit)
def waitE (cs : List Cs) (sl : List Sk) (l : List Bk) : List ByteArray := (List.range l.length).filterMap (lfF l (gotE cs sl l))
theorem gotE_len (cs : List Cs) (sl : List Sk) (l : List Bk) : (gotE cs sl l).length = l.length := gotF_len _
theorem gotE_ok (cs : List Cs) (sl : List Sk) (l : List Bk) : GotOk l (gotE cs sl l) (idsN l) (gAll (cdB cs sl) (isort grLt l)) := by
  have h := gotF_ok (cs := cs) (sl := sl) (l := l) _ (idsN l) rfl (ids_lt l) (ids_nodup l)
  rw [ids_ord] at h
  exact h
/-- Where something is given, its key is the booking's. -/
theorem gotE_key {cs : List Cs} {sl : List Sk} {l : List Bk} {i : Nat} (hi : i < l.length) (h : 0 < (gvAt (gotE cs sl l) i).unit) : (gvAt (gotE cs sl l) i).bk = (bkAt l i).key := by
  have hm : i ∈ idsN l := (ids_perm l).mem_iff.2 (by simpa using hi)
  obtain ⟨j, hj⟩ := List.getElem?_of_mem hm
  obtain ⟨o, _, hg⟩ := (gotE_ok cs sl l).2 j i hj
  rw [hg] at h ⊢
  cases o with
  | none => exact absurd h (by show ¬ (0 : Int) < 0; omega)
  | some c => rfl
theorem st_pos {cs : List Cs} {sl : List Sk} : ∀ (ord : List Bk), ∀ p ∈ gAll (cdB cs sl) ord, ∀ c, p.2 = some c → 1 ≤ c.2 := by
  have h : ∀ (ord : List Bk) (st : GSt), (∀ p ∈ st, ∀ c, p.2 = some c → 1 ≤ c.2) → ∀ p ∈ ord.foldl (gStep (cdB cs sl)) st, ∀ c, p.2 = some c → 1 ≤ c.2 := by
    intro ord
    induction ord with
    | nil => intro st h; exact h
    | cons b r ih =>
      intro st h
      rw [List.foldl_cons]
      refine ih _ fun p hp c hc => ?_
      unfold gStep at hp
      rcases List.mem_append.1 hp with hp | hp
      · exact h p hp c hc
      · rw [List.mem_singleton.1 hp] at hc
        have hc2 : gPick (cdB cs sl) st b = some c := hc
        unfold gPick at hc2
        exact cd_pos b c (List.mem_of_find?_eq_some hc2)
  exact fun ord => h ord [] (fun p hp => by cases hp)
theorem keys_scan : ∀ {l : List Bk} {p : Option Bk}, scanE bookE p l = 0 → l.Pairwise (fun x y => blR x.key y.key) ∧ ∀ q, p = some q → ∀ x ∈ l, blR q.key x.key
  | [], _, _ => ⟨List.Pairwise.nil, fun _ _ x hx => by cases hx⟩
  | b :: r, p, h => by
    unfold scanE at h
    by_cases hb : bookE p b = 0
    · rw [if_pos hb] at h
      obtain ⟨h1, h2⟩ := keys_scan h
      have hb2 := hb
      unfold bookE at hb2
      by_cases k1 : (!keyB b.key) = true
      · rw [if_pos k1] at hb2; cases hb2
      · rw [if_neg k1] at hb2
        by_cases k2 : (!keyB b.cls) = true
        · rw [if_pos k2] at hb2; cases hb2
        · rw [if_neg k2] at hb2
          by_cases k3 : leO p b = true
          · rw [if_pos k3] at hb2; cases hb2
          · refine ⟨List.Pairwise.cons (fun x hx => h2 b rfl x hx) h1, fun q hq x hx => ?_⟩
            subst hq
            have hlt : blR q.key b.key := leB_lt (by simpa [leO] using k3)
            rcases List.mem_cons.1 hx with rfl | hx
            · exact hlt
            · exact blR_tr hlt (h2 b rfl x hx)
    · rw [if_neg hb] at h
      exact absurd h hb
/-- The keys of right bookings rise. -/
theorem bkeys_rise {l : List Bk} (h : formE l = 0) : l.Pairwise fun x y => blR x.key y.key := by
  unfold formE at h
  split at h
  · cases h
  · exact (keys_scan h).1
theorem given_eq {cs : List Cs} {sl : List Sk} {l : List Bk} (h : formE l = 0) : isort gvLt (givOf (gAll (cdB cs sl) (isort grLt l))) = givenE cs sl l := by
  have hp : (idsN l).Perm (List.range (gotE cs sl l).length) := by rw [gotE_len]; exact ids_perm l
  refine given_sorted hp (gotE_ok cs sl l) (st_pos _) ?_
  have hk := bkeys_rise h
  rw [List.pairwise_iff_getElem] at hk
  rw [got_range, gotE_len]
  have hr : (List.range l.length).Pairwise fun a b => a < b := List.pairwise_lt_range
  refine List.Pairwise.filterMap (R := fun a b => a < b ∧ a < l.length ∧ b < l.length) (S := fun x y : Gv => blR x.bk y.bk) (gvF (gotE cs sl l)) ?_ ?_
  · rintro a b ⟨hab, ha, hb⟩ x hx y hy
    unfold gvF at hx hy
    split at hx
    · split at hy
      · rename_i h1 h2
        obtain rfl : gvAt (gotE cs sl l) a = x := by simpa using hx
        obtain rfl : gvAt (gotE cs sl l) b = y := by simpa using hy
        rw [gotE_key ha h1, gotE_key hb h2]
        have := hk a b ha hb hab
        unfold bkAt
        rw [List.getElem?_eq_getElem ha, List.getElem?_eq_getElem hb]
        exact this
      · cases hy
    · cases hx
  · refine List.Pairwise.imp_of_mem (fun {a b} ha hb h => ?_) hr
    exact ⟨h, by simpa using ha, by simpa using hb⟩
theorem wait_eq {cs : List Cs} {sl : List Sk} {l : List Bk} {lt : ByteArray → ByteArray → Bool} (hlt : ∀ x y, lt x y = true ↔ blR x y) (h : formE l = 0) : isort lt (leftOf (gAll (cdB cs sl) (isort grLt l))) = waitE cs sl l := by
  have hp : (idsN l).Perm (List.range (gotE cs sl l).length) := by rw [gotE_len]; exact ids_perm l
  have hl := left_sorted (l := l) (lt := lt) hlt hp (gotE_ok cs sl l) (st_pos _)
  rw [gotE_len] at hl
  refine hl ?_
  have hk := bkeys_rise h
  rw [List.pairwise_iff_getElem] at hk
  have hr : (List.range l.length).Pairwise fun a b => a < b := List.pairwise_lt_range
  refine List.Pairwise.filterMap (R := fun a b => a < b ∧ a < l.length ∧ b < l.length) (S := blR) (lfF l (gotE cs sl l)) ?_ ?_
  · rintro a b ⟨hab, ha, hb⟩ x hx y hy
    unfold lfF at hx hy
    split at hx
    · cases hx
    · split at hy
      · cases hy
      · obtain rfl : (bkAt l a).key = x := by simpa using hx
        obtain rfl : (bkAt l b).key = y := by simpa using hy
        have := hk a b ha hb hab
        unfold bkAt
        rw [List.getElem?_eq_getElem ha, List.getElem?_eq_getElem hb]
        exact this
  · refine List.Pairwise.imp_of_mem (fun {a b} ha hb h => ?_) hr
    exact ⟨h, by simpa using ha, by simpa using hb⟩
end Go.Proofs.YtnpcbfllnkiopaaGreatDoor
namespace Go.Proofs.YtnpcbfllnkiopaaGreatDoor
open Go.RowKit
theorem choices_any (cs : List Cs) (A0 : Option Addr) (n0 c0 : Nat) (sl : List Sk) (A1 : Option Addr) (n1 c1 : Nat) (had : List Bk) (giv : List Gv) (H G : Option Addr) (gn hc gc : Nat) (x0 x1 : ByteArray) (x2 x3 x4 x5 : Int) (w : World) (hcs : SlT csEnc 2 170 w A0 n0 cs) (hco : ∀ x ∈ cs, CsOk x) (hn0 : n0 ≤ 30) (hcl : Closed cs) (hlo : loopB cs cs.length = false) (hs : SlT skEnc 2 254 w A1 n1 sl) (hso : ∀ x ∈ sl, SkOk x) (hn1 : n1 ≤ 1000) (hmany : ∀ k, manyV sl k ≤ 100) (hh : SlT bkEnc 6 199 w H gn had) (hg : SlT gvEnc 3 193 w G gn giv) (hgn : gn ≤ 1000) (hhad : ∀ b ∈ had, b.fr < b.to_) (hb : x2 < x3) :
  Calls Tryz.prog 221 #[.slice A0 n0 c0, .slice A1 n1 c1, .slice H gn hc, .slice G gn gc, .agg #[.string x0, .string x1, .int .i64 x2, .int .i64 x3, .int .i64 x4, .int .i64 x5]] w (fun e w' => ∃ (A8 : Option Addr) (k c8 : Nat), e = .returned (.slice A8 k c8) ∧ w'.ownsRow w.heap.size 193 3 (.slice A8 k c8) k ((chF had giv (⟨x0, x1, x2, x3, x4, x5⟩ : Bk) (cdB cs sl (⟨x0, x1, x2, x3, x4, x5⟩ : Bk))).flatMap gvEnc) ∧ (chF had giv (⟨x0, x1, x2, x3, x4, x5⟩ : Bk) (cdB cs sl (⟨x0, x1, x2, x3, x4, x5⟩ : Bk))).length = k ∧ k ≤ 3100 ∧ w.grownBy w' none) := by
 refine gw_enter ⟨81, w, none, []⟩ Tryz.func221 rfl Tryz.ntmps221 rfl (mem0 (X := [SlOld csEnc 2 170 w.heap.size none A0 n0 cs, SlOld skEnc 2 254 w.heap.size none A1 n1 sl, SlOld bkEnc 6 199 w.heap.size none H gn had, SlOld gvEnc 3 193 w.heap.size none G gn giv]) (allF_cons hcs.old (allF_cons hs.old (allF_cons hh.old (allF_cons hg.old allF_nil)))) (allL_cons SlOld.lasts (allL_cons SlOld.lasts (allL_cons SlOld.lasts (allL_cons SlOld.lasts allL_nil))))) ?_
 refine sr_ ?_
 have hlen0 := hcs.len
 have hlenh := hh.len
 have hleng := hg.len
 obtain ⟨KS, hKS⟩ : ∃ z, z = clsF cs (⟨x0, x1, x2, x3, x4, x5⟩ : Bk) := ⟨_, rfl⟩
 have hks : ([.string x1] : List Value) ++ (pathN cs (n0 + 1) x1).flatMap sgEnc = KS.flatMap sgEnc := by
  rw [hKS]
  show _ = (x1 :: pathN cs cs.length x1).flatMap sgEnc
  rw [← path_same hcl hlo, hlen0]; rfl
 have hkl : KS.length = 1 + (pathN cs (n0 + 1) x1).length := by
  rw [hKS]
  show (x1 :: pathN cs cs.length x1).length = _
  rw [← path_same hcl hlo, hlen0, List.length_cons]; omega
 have hkl2 : KS.length ≤ 31 := by
  rw [hKS]
  show (x1 :: pathN cs cs.length x1).length ≤ 31
  have := pathN_len cs cs.length x1
  rw [List.length_cons]; omega
 obtain ⟨T, hT⟩ : ∃ z, z = chF had giv (⟨x0, x1, x2, x3, x4, x5⟩ : Bk) (candsF sl KS) := ⟨_, rfl⟩
 have hTT : chF had giv (⟨x0, x1, x2, x3, x4, x5⟩ : Bk) (cdB cs sl (⟨x0, x1, x2, x3, x4, x5⟩ : Bk)) = T := by rw [hT, hKS]; rfl
 rw [hTT]
 refine wl_box rfl rfl rfl fun g1 => ?_
 refine sg_ rfl (nn_ (sr_ (sg_ rfl (nn_ (gw_seq ?_)))))
 refine gw_cut (γ := Option Addr × Nat × Nat) (I := (fun g => KS.length = g.2.1)) (S' := (fun g => [(1, .slice A1 n1 c1), (2, .slice H gn hc), (3, .slice G gn gc), (9, .pointer (some ⟨g1, 0, none⟩)), (10, .slice none 0 0), (11, .slice none 0 0), (25, .slice g.1 g.2.1 g.2.2), (26, .int .i64 ((g.2.1 : Nat) : Int)), (27, .int .i64 0)])) (K' := (fun g => fun _ => True)) (L' := (fun g => [(g1, 199, [.string x0, .string x1, .int .i64 x2, .int .i64 x3, .int .i64 x4, .int .i64 x5])])) (O' := (fun g => [⟨.slice g.1 g.2.1 g.2.2, 9, 1, g.2.1, KS.flatMap sgEnc⟩])) (X' := (fun g => [SlOld csEnc 2 170 w.heap.size none A0 n0 cs, SlOld skEnc 2 254 w.heap.size none A1 n1 sl, SlOld bkEnc 6 199 w.heap.size none H gn had, SlOld gvEnc 3 193 w.heap.size none G gn giv])) ?_ ?_
 ·refine gd (fun wz => Blk wz g1 199 [.string x0, .string x1, .int .i64 x2, .int .i64 x3, .int .i64 x4, .int .i64 x5] ∧ (SlOld csEnc 2 170 w.heap.size none A0 n0 cs) wz ∧ (SlOld skEnc 2 254 w.heap.size none A1 n1 sl) wz ∧ (SlOld bkEnc 6 199 w.heap.size none H gn had) wz ∧ (SlOld gvEnc 3 193 w.heap.size none G gn giv) wz ∧ True) mixed (fun _ hm => ⟨hm.bl 0, hm.fa 0, hm.fa 1, hm.fa 2, hm.fa 3, trivial⟩) fun z => ?_
  refine wt 0 10 1 rfl z (ov_field fo199_1 rfl rfl) ?_
  refine wt 1 10 3 rfl z (ov_load sc9 rfl (fun _ hm => hm.1) rfl) ?_
  refine wt 3 10 11 rfl z (ov_move rfl) ?_
  refine wt 4 10 27 rfl z (ov_field fo199_1 rfl rfl) ?_
  refine wt 5 10 59 rfl z (ov_load sc9 rfl (fun _ hm => hm.1) rfl) ?_
  refine wt 9 10 571 rfl z (ov_move rfl) ?_
  refine wa_all [2, 6] (by kernel_rfl) rfl ⟨⟨_, rfl, ?_⟩, ⟨_, rfl, ?_⟩, trivial⟩
  ·refine wl_buildSlice (e := 9) (cs := [.string x1]) rfl (by kernel_rfl) rfl fun g2 => ?_
   refine wl_nil ?_
   refine nw 10 575 (fun _ hm => ⟨hm.bl 1, hm.fa 0, hm.fa 1, hm.fa 2, hm.fa 3, trivial⟩) fun z => ?_
   refine wa1 6 rfl ?_
   refine wl_callgo (γ := Option Addr × Nat × Nat) (val := (fun g => .slice g.1 g.2.1 g.2.2)) (φ := (fun g => (pathN cs (n0 + 1) x1).length = g.2.1)) (fun g => ⟨.slice g.1 g.2.1 g.2.2, 9, 1, g.2.1, (pathN cs (n0 + 1) x1).flatMap sgEnc⟩) rfl cb197 rfl rfl (fun wx hm => (ups_any cs A0 n0 c0 x1 wx (hm.fact 0 rfl).1 hco (by omega)).mono fun _ _ ⟨A2, n2, c2, he, ho, hl2, hg⟩ => ⟨(A2, n2, c2), he, hl2, ho, hg⟩) ?_
   rintro ⟨A2, n2, c2⟩ hpl
   dsimp only at hpl ⊢
   refine wl_nil ?_
   refine nw 10 639 (fun _ hm => ⟨hm.bl 1, hm.fa 0, hm.fa 1, hm.fa 2, hm.fa 3, trivial⟩) fun z => ?_
   refine wa1 7 rfl ?_
   refine wl_toOwn (sz := 1) (n := 1) 0 [1] rfl rfl rfl (by unfold maxLen; omega) ?_
   refine wl_appendO 0 1 ap112 rfl rfl rfl rfl (flat_one sgEnc sg_one _) (by omega) (by unfold maxLen; omega) rfl rfl fun v2 hv => ?_
   rw [hks]
   refine wl_look (R := ∃ A cc, v2 = .slice A (1 + n2) cc) (fun wx hm => own_slice (hm.ownI 0 rfl)) ?_
   rintro ⟨A5, c5, rfl⟩
   refine wl_nil ?_
   refine nw 10 767 (fun _ hm => ⟨hm.bl 0, hm.fa 0, hm.fa 1, hm.fa 2, hm.fa 3, trivial⟩) fun z => ?_
   refine wt 8 10 1023 rfl z (ov_len es112 rfl) ?_
   refine wa_done (by kernel_rfl) ?_
   exact nx_meet (A5, 1 + n2, c5) (by rw [hkl, hpl]) ⟨rfl, rfl, rfl, rfl, rfl, rfl, rfl, rfl, rfl, trivial⟩ (fun _ hm => hm.pick [0] [0] [0, 1, 2, 3] rfl rfl)
  refine wl_callgo (γ := Option Addr × Nat × Nat) (val := (fun g => .slice g.1 g.2.1 g.2.2)) (φ := (fun g => (pathN cs (n0 + 1) x1).length = g.2.1)) (fun g => ⟨.slice g.1 g.2.1 g.2.2, 9, 1, g.2.1, (pathN cs (n0 + 1) x1).flatMap sgEnc⟩) rfl cb197 rfl rfl (fun wx hm => (ups_any cs A0 n0 c0 x1 wx (hm.fact 0 rfl).1 hco (by omega)).mono fun _ _ ⟨A2, n2, c2, he, ho, hl2, hg⟩ => ⟨(A2, n2, c2), he, hl2, ho, hg⟩) ?_
  rintro ⟨A2, n2, c2⟩ hpl
  dsimp only at hpl ⊢
  refine wl_nil ?_
  refine nw 10 635 (fun _ hm => ⟨hm.bl 0, hm.fa 0, hm.fa 1, hm.fa 2, hm.fa 3, trivial⟩) fun z => ?_
  refine wa1 2 rfl ?_
  refine wl_buildSlice (e := 9) (cs := [.string x1]) rfl (by kernel_rfl) rfl fun g3 => ?_
  refine wl_nil ?_
  refine nw 10 639 (fun _ hm => ⟨hm.bl 1, hm.fa 0, hm.fa 1, hm.fa 2, hm.fa 3, trivial⟩) fun z => ?_
  refine wa1 7 rfl ?_
  refine wl_toOwn (sz := 1) (n := 1) 0 [1] rfl rfl rfl (by unfold maxLen; omega) ?_
  refine wl_appendO 0 1 ap112 rfl rfl rfl rfl (flat_one sgEnc sg_one _) (by omega) (by unfold maxLen; omega) rfl rfl fun v2 hv => ?_
  rw [hks]
  refine wl_look (R := ∃ A cc, v2 = .slice A (1 + n2) cc) (fun wx hm => own_slice (hm.ownI 0 rfl)) ?_
  rintro ⟨A5, c5, rfl⟩
  refine wl_nil ?_
  refine nw 10 767 (fun _ hm => ⟨hm.bl 0, hm.fa 0, hm.fa 1, hm.fa 2, hm.fa 3, trivial⟩) fun z => ?_
  refine wt 8 10 1023 rfl z (ov_len es112 rfl) ?_
  refine wa_done (by kernel_rfl) ?_
  exact nx_meet (A5, 1 + n2, c5) (by rw [hkl, hpl]) ⟨rfl, rfl, rfl, rfl, rfl, rfl, rfl, rfl, rfl, trivial⟩ (fun _ hm => hm.pick [0] [0] [0, 1, 2, 3] rfl rfl)
 rintro ⟨A7, n7, c7⟩ hinv
 replace hinv : KS.length = n7 := hinv
 dsimp only
 refine gw_block ?_
 have hn7 : KS.length = n7 := hinv
 refine gw_nilOwn 193 3 ?_
 refine gw_loop (γ := Nat × Nat × Value × List Gv) (fun g => g.1 ≤ n7 ∧ g.2.2.2.length = g.2.1 ∧ g.2.1 ≤ 100 * g.1 ∧ g.2.2.2 ++ chF had giv (⟨x0, x1, x2, x3, x4, x5⟩ : Bk) (candsF sl (KS.drop g.1)) = T) (fun g => [(1, .slice A1 n1 c1), (2, .slice H gn hc), (3, .slice G gn gc), (9, .pointer (some ⟨g1, 0, none⟩)), (10, .slice none 0 0), (11, g.2.2.1), (25, .slice A7 n7 c7), (26, .int .i64 ((n7 : Nat) : Int)), (27, .int .i64 ((g.1 : Nat) : Int))]) (fun g => fun _ => True) (fun g => [(g1, 199, [.string x0, .string x1, .int .i64 x2, .int .i64 x3, .int .i64 x4, .int .i64 x5])]) (fun g => [⟨.slice A7 n7 c7, 9, 1, n7, KS.flatMap sgEnc⟩, ⟨g.2.2.1, 193, 3, g.2.1, g.2.2.2.flatMap gvEnc⟩]) (fun g => [SlOld csEnc 2 170 w.heap.size none A0 n0 cs, SlOld skEnc 2 254 w.heap.size none A1 n1 sl, SlOld bkEnc 6 199 w.heap.size none H gn had, SlOld gvEnc 3 193 w.heap.size none G gn giv]) (fun g => n7 - g.1) (0, 0, .slice none 0 0, []) ⟨Nat.zero_le _, rfl, Nat.zero_le _, hT.symm⟩ ⟨rfl, rfl, rfl, rfl, rfl, rfl, rfl, rfl, rfl, trivial⟩ (fun _ hm => hm.pick [0] [1, 0] [0, 1, 2, 3] rfl rfl) ?_
 rintro ⟨i, k, v, acc⟩ hinv
 replace hinv : i ≤ n7 ∧ acc.length = k ∧ k ≤ 100 * i ∧ acc ++ chF had giv (⟨x0, x1, x2, x3, x4, x5⟩ : Bk) (candsF sl (KS.drop i)) = T := hinv
 dsimp only
 refine sr_ ?_
 obtain ⟨hi0, hk, hki, hT1⟩ := hinv
 refine wl_ov (ov_lss rfl rfl) rfl (nn_ (gw_seq ?_))
 refine gw_cond rfl (fun hh => ?_) (fun hh => ?_)
 ·have hi : ((i : Nat) : Int) < ((n7 : Nat) : Int) := by simpa using hh
  clear hh
  refine gw_skip (nx_then (gw_seq (gw_block (sr_ ?_))))
  refine wl_look (R := ∃ g, A7 = some ⟨g, 0, none⟩) (fun wx hm => own_addr (hm.ownI 0 rfl) (by omega)) ?_
  rintro ⟨g7, rfl⟩
  obtain ⟨cl, hx⟩ : ∃ x, KS[i]? = some x := ⟨_, List.getElem?_eq_getElem (by omega)⟩
  refine wl_ov (ov_index (j := i) es112 rfl rfl (by omega)) rfl ?_
  refine wl_ov (ov_elem1 (k := 0) (v := .string cl) sc9 rfl (fun _ hm => (SlT.ofOwn sg_len (hm.ownI 0 rfl) hn7)) hx rfl rfl) rfl ?_
  refine sg_ rfl (nn_ (sr_ (sg_ rfl (nn_ (gw_block ?_)))))
  have hT2 : acc ++ chF had giv (⟨x0, x1, x2, x3, x4, x5⟩ : Bk) (unitsF sl cl 0) ++ chF had giv (⟨x0, x1, x2, x3, x4, x5⟩ : Bk) (candsF sl (KS.drop (i + 1))) = T := by rw [← hT1, candsF_at hx, chF_app, List.append_assoc]
  refine gw_loop (γ := Nat × Nat × Value × List Gv) (fun gg => gg.1 ≤ 100 ∧ gg.2.2.2.length = gg.2.1 ∧ gg.2.1 ≤ 100 * i + gg.1 ∧ gg.2.2.2 ++ chF had giv (⟨x0, x1, x2, x3, x4, x5⟩ : Bk) (unitsF sl cl gg.1) ++ chF had giv (⟨x0, x1, x2, x3, x4, x5⟩ : Bk) (candsF sl (KS.drop (i + 1))) = T) (fun gg => [(1, .slice A1 n1 c1), (2, .slice H gn hc), (3, .slice G gn gc), (9, .pointer (some ⟨g1, 0, none⟩)), (10, .slice none 0 0), (11, gg.2.2.1), (13, .string cl), (14, .int .i64 ((gg.1 + 1 : Nat) : Int)), (25, .slice (some ⟨g7, 0, none⟩) n7 c7), (26, .int .i64 ((n7 : Nat) : Int)), (27, .int .i64 ((i : Nat) : Int))]) (fun gg => fun _ => True) (fun gg => [(g1, 199, [.string x0, .string x1, .int .i64 x2, .int .i64 x3, .int .i64 x4, .int .i64 x5])]) (fun gg => [⟨.slice (some ⟨g7, 0, none⟩) n7 c7, 9, 1, n7, KS.flatMap sgEnc⟩, ⟨gg.2.2.1, 193, 3, gg.2.1, gg.2.2.2.flatMap gvEnc⟩]) (fun gg => [SlOld csEnc 2 170 w.heap.size none A0 n0 cs, SlOld skEnc 2 254 w.heap.size none A1 n1 sl, SlOld bkEnc 6 199 w.heap.size none H gn had, SlOld gvEnc 3 193 w.heap.size none G gn giv]) (fun gg => 100 - gg.1) (0, k, v, acc) ⟨Nat.zero_le _, hk, by dsimp only; omega, hT2⟩ ⟨rfl, rfl, rfl, rfl, rfl, rfl, rfl, (some_int (by omega)), rfl, rfl, rfl, trivial⟩ (fun _ hm => hm.pick [0] [0, 1] [0, 1, 2, 3] rfl rfl) ?_
  rintro ⟨u, k1, v1, ac1⟩ hinv
  replace hinv : u ≤ 100 ∧ ac1.length = k1 ∧ k1 ≤ 100 * i + u ∧ ac1 ++ chF had giv (⟨x0, x1, x2, x3, x4, x5⟩ : Bk) (unitsF sl cl u) ++ chF had giv (⟨x0, x1, x2, x3, x4, x5⟩ : Bk) (candsF sl (KS.drop (i + 1))) = T := hinv
  dsimp only
  refine gw_seq (sr_ ?_)
  obtain ⟨hu0, hk1, hku, hT3⟩ := hinv
  have hmb := hmany cl
  refine mv_ rfl (mv_ rfl (mv_ rfl ?_))
  refine wl_callv rfl cb148 rfl rfl (fun wx hm => (manyOf_any sl A1 n1 c1 cl wx (hm.fact 1 rfl).1 hso (by omega))) ?_
  refine wl_ov (ov_leq rfl rfl) rfl (nn_ ?_)
  refine gw_cond rfl (fun hh => ?_) (fun hh => ?_)
  ·have hu : ((u + 1 : Nat) : Int) ≤ manyV sl cl := by simpa using hh
   clear hh
   refine gw_skip (nx_then (gw_seq (gw_block (sr_ (sg_ rfl (nn_ (gw_seq (sr_ (mv_ rfl (wl_ov (ov_len es88 rfl) rfl ?_))))))))))
   refine mv_ rfl (nn_ (gw_block ?_))
   refine gw_loop (γ := Nat) (fun (j : Nat) => j ≤ gn) (fun (j : Nat) => [(1, .slice A1 n1 c1), (2, .slice H gn hc), (3, .slice G gn gc), (9, .pointer (some ⟨g1, 0, none⟩)), (10, .slice none 0 0), (11, v1), (13, .string cl), (14, .int .i64 ((u + 1 : Nat) : Int)), (15, .bool (((had.zip giv).take j).any (takP (⟨x0, x1, x2, x3, x4, x5⟩ : Bk) cl ((u + 1 : Nat) : Int)))), (25, .slice (some ⟨g7, 0, none⟩) n7 c7), (26, .int .i64 ((n7 : Nat) : Int)), (27, .int .i64 ((i : Nat) : Int)), (38, .slice G gn gc), (39, .int .i64 ((gn : Nat) : Int)), (40, .int .i64 ((j : Nat) : Int))]) (fun (j : Nat) => fun _ => True) (fun (j : Nat) => [(g1, 199, [.string x0, .string x1, .int .i64 x2, .int .i64 x3, .int .i64 x4, .int .i64 x5])]) (fun (j : Nat) => [⟨.slice (some ⟨g7, 0, none⟩) n7 c7, 9, 1, n7, KS.flatMap sgEnc⟩, ⟨v1, 193, 3, k1, ac1.flatMap gvEnc⟩]) (fun (j : Nat) => [SlOld csEnc 2 170 w.heap.size none A0 n0 cs, SlOld skEnc 2 254 w.heap.size none A1 n1 sl, SlOld bkEnc 6 199 w.heap.size none H gn had, SlOld gvEnc 3 193 w.heap.size none G gn giv]) (fun (j : Nat) => gn - j) 0 (Nat.zero_le _) ⟨rfl, rfl, rfl, rfl, rfl, rfl, rfl, rfl, (congrArg (fun z => some (Value.bool z)) (by rw [List.take_zero]; rfl)), rfl, rfl, rfl, rfl, rfl, rfl, trivial⟩ (fun _ hm => hm.pick [0] [0, 1] [0, 1, 2, 3] rfl rfl) ?_
   intro j hinv
   replace hinv : j ≤ gn := hinv
   refine sr_ (wl_ov (ov_lss rfl rfl) rfl (nn_ (gw_seq ?_)))
   refine gw_cond rfl (fun hh => ?_) (fun hh => ?_)
   ·have hj : ((j : Nat) : Int) < ((gn : Nat) : Int) := by simpa using hh
    clear hh
    refine gw_skip (nx_then (gw_seq (gw_block (sr_ ?_))))
    obtain ⟨bh, oh, hA, _, _⟩ := hh.get (by omega)
    subst hA
    obtain ⟨y, hy⟩ : ∃ x, had[j]? = some x := ⟨_, List.getElem?_eq_getElem (by omega)⟩
    obtain ⟨y0, y1, y2, y3, y4, y5⟩ := y
    obtain ⟨bg, og, hA, _, _⟩ := hg.get (by omega)
    subst hA
    obtain ⟨z, hz⟩ : ∃ x, giv[j]? = some x := ⟨_, List.getElem?_eq_getElem (by omega)⟩
    obtain ⟨z0, z1, z2⟩ := z
    have htm := hhad _ (List.mem_of_getElem? hy)
    dsimp only at htm
    have hat := takP_at (b := (⟨x0, x1, x2, x3, x4, x5⟩ : Bk)) (k := cl) (u := ((u + 1 : Nat) : Int)) hy hz
    dsimp only at hat
    refine mv_ rfl ?_
    refine wl_ov (ov_index (j := j) es88 rfl rfl (by omega)) rfl ?_
    refine wl_ov (ov_elem (vs := [.string z0, .string z1, .int .i64 z2]) rz193 rfl (fun _ hm => (hm.fact 3 rfl).1) hz rfl rfl) rfl ?_
    refine wl_alloc zc193 rfl fun g4 => ?_
    refine sg_ rfl ?_
    refine wl_stores (cs' := [.string z0, .string z1, .int .i64 z2]) 0 rz193 rfl rfl rfl rfl rfl rfl rfl rfl ?_
    refine nn_ ?_
    refine gd (fun wz => Blk wz g4 193 [.string z0, .string z1, .int .i64 z2] ∧ Blk wz g1 199 [.string x0, .string x1, .int .i64 x2, .int .i64 x3, .int .i64 x4, .int .i64 x5] ∧ (SlOld csEnc 2 170 w.heap.size none A0 n0 cs) wz ∧ (SlOld skEnc 2 254 w.heap.size none A1 n1 sl) wz ∧ (SlOld bkEnc 6 199 w.heap.size none (some ⟨bh, oh, none⟩) gn had) wz ∧ (SlOld gvEnc 3 193 w.heap.size none (some ⟨bg, og, none⟩) gn giv) wz ∧ True) mixed (fun _ hm => ⟨hm.bl 0, hm.bl 1, hm.fa 0, hm.fa 1, hm.fa 2, hm.fa 3, trivial⟩) fun z => ?_
    refine wt 0 24 1 rfl z (ov_move rfl) ?_
    refine wt 1 24 3 rfl z (ov_move rfl) ?_
    rcases Bool.eq_false_or_eq_true (((had.zip giv).take j).any (takP (⟨x0, x1, x2, x3, x4, x5⟩ : Bk) cl ((u + 1 : Nat) : Int))) with hb5 | hb5
    ·refine wa_set 46 rfl (congrArg Value.bool hb5) ?_
     refine wtf 2 24 7 rfl rfl rfl z ?_
     refine wtf 3 24 15 rfl rfl rfl z ?_
     refine wtf 4 24 31 rfl rfl rfl z ?_
     refine wtf 5 24 63 rfl rfl rfl z ?_
     refine wtf 6 24 127 rfl rfl rfl z ?_
     refine wtu 7 24 255 rfl rfl rfl z ?_
     refine wtu 8 24 511 rfl rfl rfl z ?_
     refine wtu 9 24 1023 rfl rfl rfl z ?_
     refine wtu 10 24 2047 rfl rfl rfl z ?_
     refine wtf 11 24 4095 rfl rfl rfl z ?_
     refine wtf 12 24 8191 rfl rfl rfl z ?_
     refine wtu 13 24 16383 rfl rfl rfl z ?_
     refine wtu 14 24 32767 rfl rfl rfl z ?_
     refine wtu 15 24 65535 rfl rfl rfl z ?_
     refine wtu 16 24 131071 rfl rfl rfl z ?_
     refine wtu 17 24 262143 rfl rfl rfl z ?_
     refine wtu 18 24 524287 rfl rfl rfl z ?_
     refine wtu 19 24 1048575 rfl rfl rfl z ?_
     refine wtu 20 24 2097151 rfl rfl rfl z ?_
     refine wtf 21 24 4194303 rfl rfl rfl z ?_
     refine wt 22 24 8388607 rfl z (ov_pick_t rfl rfl) ?_
     refine wt 23 24 16777215 rfl z (ov_assign rfl) ?_
     refine wa_done (by kernel_rfl) ?_
     refine nx_blk_nrm (nx_then (gw_region (ad_ rfl rfl (mv_ rfl (wl_nil ?_)))))
     exact nx_round (j + 1) (by omega) (by omega) ⟨rfl, rfl, rfl, rfl, rfl, rfl, rfl, rfl, (congrArg (fun z => some (Value.bool z)) (by have h9 := hat; rw [hb5] at h9; exact h9.symm)), rfl, rfl, rfl, rfl, rfl, (some_int (by omega)), trivial⟩ (fun _ hm => hm.pick [1] [0, 1] [0, 1, 2, 3] rfl rfl)
    refine wa_set 46 rfl (congrArg Value.bool hb5) ?_
    refine wto 2 24 7 rfl rfl rfl z (ov_field fo193_1 rfl rfl) ?_
    refine wto 3 24 15 rfl rfl rfl z (ov_load sc9 rfl (fun _ hm => hm.1) rfl) ?_
    refine wto 4 24 31 rfl rfl rfl z (ov_move rfl) ?_
    refine wto 5 24 63 rfl rfl rfl z (ov_seql rfl rfl) ?_
    refine wto 6 24 127 rfl rfl rfl z (ov_move rfl) ?_
    rcases Bool.eq_false_or_eq_true (z1.toList == cl.toList) with hb6 | hb6
    ·refine wa_set 51 rfl (congrArg Value.bool hb6) ?_
     refine wto 7 24 255 rfl rfl rfl z (ov_field fo193_2 rfl rfl) ?_
     refine wto 8 24 511 rfl rfl rfl z (ov_load sc3 rfl (fun _ hm => hm.1) rfl) ?_
     refine wto 9 24 1023 rfl rfl rfl z (ov_move rfl) ?_
     refine wto 10 24 2047 rfl rfl rfl z (ov_eql rfl rfl) ?_
     refine wto 11 24 4095 rfl rfl rfl z (ov_pick_t rfl rfl) ?_
     refine wto 12 24 8191 rfl rfl rfl z (ov_move rfl) ?_
     rcases Bool.eq_false_or_eq_true (decide (z2 = ((u + 1 : Nat) : Int))) with hb7 | hb7
     ·refine wa_set 57 rfl (congrArg Value.bool hb7) ?_
      refine wto 13 24 16383 rfl rfl rfl z (ov_move rfl) ?_
      refine wto 14 24 32767 rfl rfl rfl z (ov_move rfl) ?_
      refine wto 15 24 65535 rfl rfl rfl z (ov_index (j := j) es84 rfl rfl (by omega)) ?_
      refine wto 16 24 131071 rfl rfl rfl z (ov_field fo199_2 rfl rfl) ?_
      refine wto 17 24 262143 rfl rfl rfl z (ov_elemN (k := 2) (vs := [.int .i64 y2, .int .i64 y3]) rz42 rfl (fun _ hm => (hm.2.2.2.2.1).1) hy rfl rfl rfl) ?_
      refine wto 18 24 524287 rfl rfl rfl z (ov_field fo199_2 rfl rfl) ?_
      refine wto 19 24 1048575 rfl rfl rfl z (ov_loads rz42 rfl (fun _ hm => hm.2.1) rfl rfl) ?_
      refine wa1 20 rfl ?_
      refine wl_guard_on rfl rfl rfl ?_
      refine wl_callv rfl cb149 rfl rfl (fun wx hm => (rmeet_any y2 y3 x2 x3 wx (by omega) (by omega))) ?_
      refine wl_nil ?_
      refine nw 24 2097151 (fun _ hm => ⟨hm.bl 0, hm.bl 1, hm.fa 0, hm.fa 1, hm.fa 2, hm.fa 3, trivial⟩) fun z => ?_
      refine wto 21 24 4194303 rfl rfl rfl z (ov_pick_t rfl rfl) ?_
      refine wt 22 24 8388607 rfl z (ov_pick_f rfl rfl) ?_
      refine wt 23 24 16777215 rfl z (ov_assign rfl) ?_
      refine wa_done (by kernel_rfl) ?_
      refine nx_blk_nrm (nx_then (gw_region (ad_ rfl rfl (mv_ rfl (wl_nil ?_)))))
      exact nx_round (j + 1) (by omega) (by omega) ⟨rfl, rfl, rfl, rfl, rfl, rfl, rfl, rfl, (congrArg (fun z => some (Value.bool z)) (by have h9 := hat; rw [hb5, hb6, hb7] at h9; exact h9.symm)), rfl, rfl, rfl, rfl, rfl, (some_int (by omega)), trivial⟩ (fun _ hm => hm.pick [1] [0, 1] [0, 1, 2, 3] rfl rfl)
     refine wa_set 57 rfl (congrArg Value.bool hb7) ?_
     refine wtf 13 24 16383 rfl rfl rfl z ?_
     refine wtf 14 24 32767 rfl rfl rfl z ?_
     refine wtf 15 24 65535 rfl rfl rfl z ?_
     refine wtf 16 24 131071 rfl rfl rfl z ?_
     refine wtf 17 24 262143 rfl rfl rfl z ?_
     refine wtf 18 24 524287 rfl rfl rfl z ?_
     refine wtf 19 24 1048575 rfl rfl rfl z ?_
     refine wtf 20 24 2097151 rfl rfl rfl z ?_
     refine wto 21 24 4194303 rfl rfl rfl z (ov_pick_f rfl rfl) ?_
     refine wt 22 24 8388607 rfl z (ov_pick_f rfl rfl) ?_
     refine wt 23 24 16777215 rfl z (ov_assign rfl) ?_
     refine wa_done (by kernel_rfl) ?_
     refine nx_blk_nrm (nx_then (gw_region (ad_ rfl rfl (mv_ rfl (wl_nil ?_)))))
     exact nx_round (j + 1) (by omega) (by omega) ⟨rfl, rfl, rfl, rfl, rfl, rfl, rfl, rfl, (congrArg (fun z => some (Value.bool z)) (by have h9 := hat; rw [hb5, hb6, hb7] at h9; exact h9.symm)), rfl, rfl, rfl, rfl, rfl, (some_int (by omega)), trivial⟩ (fun _ hm => hm.pick [1] [0, 1] [0, 1, 2, 3] rfl rfl)
    refine wa_set 51 rfl (congrArg Value.bool hb6) ?_
    refine wtf 7 24 255 rfl rfl rfl z ?_
    refine wtf 8 24 511 rfl rfl rfl z ?_
    refine wtf 9 24 1023 rfl rfl rfl z ?_
    refine wtf 10 24 2047 rfl rfl rfl z ?_
    refine wto 11 24 4095 rfl rfl rfl z (ov_pick_f rfl rfl) ?_
    refine wto 12 24 8191 rfl rfl rfl z (ov_move rfl) ?_
    refine wtf 13 24 16383 rfl rfl rfl z ?_
    refine wtf 14 24 32767 rfl rfl rfl z ?_
    refine wtf 15 24 65535 rfl rfl rfl z ?_
    refine wtf 16 24 131071 rfl rfl rfl z ?_
    refine wtf 17 24 262143 rfl rfl rfl z ?_
    refine wtf 18 24 524287 rfl rfl rfl z ?_
    refine wtf 19 24 1048575 rfl rfl rfl z ?_
    refine wtf 20 24 2097151 rfl rfl rfl z ?_
    refine wto 21 24 4194303 rfl rfl rfl z (ov_pick_f rfl rfl) ?_
    refine wt 22 24 8388607 rfl z (ov_pick_f rfl rfl) ?_
    refine wt 23 24 16777215 rfl z (ov_assign rfl) ?_
    refine wa_done (by kernel_rfl) ?_
    refine nx_blk_nrm (nx_then (gw_region (ad_ rfl rfl (mv_ rfl (wl_nil ?_)))))
    exact nx_round (j + 1) (by omega) (by omega) ⟨rfl, rfl, rfl, rfl, rfl, rfl, rfl, rfl, (congrArg (fun z => some (Value.bool z)) (by have h9 := hat; rw [hb5, hb6] at h9; exact h9.symm)), rfl, rfl, rfl, rfl, rfl, (some_int (by omega)), trivial⟩ (fun _ hm => hm.pick [1] [0, 1] [0, 1, 2, 3] rfl rfl)
   have hj : ¬ (((j : Nat) : Int) < ((gn : Nat) : Int)) := by simpa using hh
   clear hh
   refine gw_exit ?_
   refine nx_then_exit (nx_then_exit ?_)
   refine nx_blk_here ?_
   refine nx_then (sr_ ?_)
   have hall : (had.zip giv).take j = (had.zip giv) := List.take_of_length_le (by rw [List.length_zip]; omega)
   rw [hall]
   refine mv_ rfl (wl_ov (ov_un_not rfl) rfl (nn_ ?_))
   refine gw_cond rfl (fun hh => ?_) (fun hh => ?_)
   ·have htk : ((had.zip giv).any (takP (⟨x0, x1, x2, x3, x4, x5⟩ : Bk) cl ((u + 1 : Nat) : Int))) = false := by simpa using hh
    clear hh
    refine gw_region (mv_ rfl (fd_ fo199_0 rfl rfl (lk_ sc9 0 rfl rfl rfl (mv_ rfl (mv_ rfl ?_)))))
    refine wl_ov (ov_build (cs := [.string x0, .string cl, .int .i64 ((u + 1 : Nat) : Int)]) rfl (by kernel_rfl)) rfl ?_
    refine wl_buildSlice (e := 193) (cs := [.string x0, .string cl, .int .i64 ((u + 1 : Nat) : Int)]) rfl (by kernel_rfl) rfl fun g8 => ?_
    refine wl_append (news := [.string x0, .string cl, .int .i64 ((u + 1 : Nat) : Int)]) 1 0 ap88 rfl rfl rfl rfl rfl rfl rfl (by omega) (by unfold maxLen; omega) rfl rfl fun v2 hv2 => ?_
    rw [show ac1.flatMap gvEnc ++ ([.string x0, .string cl, .int .i64 ((u + 1 : Nat) : Int)] : List Value) = (ac1 ++ [(⟨x0, cl, ((u + 1 : Nat) : Int)⟩ : Gv)]).flatMap gvEnc from by simp [gvEnc]]
    refine sg_ rfl (wl_nil (nx_blk_nrm (nx_then (gw_region (mv_ rfl (ad_ rfl rfl (sg_ rfl (wl_nil ?_))))))))
    have htk2 : takenR had giv (⟨x0, x1, x2, x3, x4, x5⟩ : Bk) (cl, ((u + 1 : Nat) : Int)) = false := htk
    exact nx_round (u + 1, k1 + 1, v2, ac1 ++ [(⟨x0, cl, ((u + 1 : Nat) : Int)⟩ : Gv)]) ⟨by dsimp only; omega, by simp [hk1], by dsimp only; omega, by rw [← hT3, unitsF_more hu, chF_no htk2]; simp⟩ (by dsimp only; omega) ⟨rfl, rfl, rfl, rfl, rfl, rfl, rfl, (some_int (by omega)), rfl, rfl, rfl, trivial⟩ (fun _ hm => hm.pick [1] [0, 1] [0, 1, 2, 3] rfl rfl)
   have htk : ((had.zip giv).any (takP (⟨x0, x1, x2, x3, x4, x5⟩ : Bk) cl ((u + 1 : Nat) : Int))) = true := by simpa using hh
   clear hh
   refine gw_skip (nx_blk_nrm (nx_then (gw_region (mv_ rfl (ad_ rfl rfl (sg_ rfl (wl_nil ?_)))))))
   have htk2 : takenR had giv (⟨x0, x1, x2, x3, x4, x5⟩ : Bk) (cl, ((u + 1 : Nat) : Int)) = true := htk
   exact nx_round (u + 1, k1, v1, ac1) ⟨by dsimp only; omega, hk1, by dsimp only; omega, by rw [← hT3, unitsF_more hu, chF_yes htk2]⟩ (by dsimp only; omega) ⟨rfl, rfl, rfl, rfl, rfl, rfl, rfl, (some_int (by omega)), rfl, rfl, rfl, trivial⟩ (fun _ hm => hm.pick [0] [0, 1] [0, 1, 2, 3] rfl rfl)
  have hu : ¬ (((u + 1 : Nat) : Int) ≤ manyV sl cl) := by simpa using hh
  clear hh
  refine gw_exit ?_
  refine nx_then_exit (nx_then_exit ?_)
  refine nx_blk_here ?_
  refine nx_blk_nrm (nx_then (gw_region (ad_ rfl rfl (mv_ rfl (wl_nil ?_)))))
  exact nx_round (i + 1, k1, v1, ac1) ⟨by dsimp only; omega, hk1, by dsimp only; omega, by rw [← hT3, unitsF_end hu]; simp [chF]⟩ (by dsimp only; omega) ⟨rfl, rfl, rfl, rfl, rfl, rfl, rfl, rfl, (some_int (by omega)), trivial⟩ (fun _ hm => hm.pick [0] [0, 1] [0, 1, 2, 3] rfl rfl)
 have hi : ¬ (((i : Nat) : Int) < ((n7 : Nat) : Int)) := by simpa using hh
 clear hh
 refine gw_exit ?_
 refine nx_then_exit (nx_then_exit ?_)
 refine nx_blk_here ?_
 refine nx_then (sr_ ?_)
 refine wl_look (R := ∃ A cc, v = .slice A k cc) (fun wx hm => own_slice (hm.ownI 1 rfl)) ?_
 rintro ⟨A8, c8, rfl⟩
 refine mv_ rfl (sg_ rfl (nn_ ?_))
 refine gw_ret ?_
 have hfin : acc = T := by rw [← hT1, candsF_end (by omega)]; simp [chF]
 rw [← hfin]
 refine nx_ret1 rfl rfl fun wx hm => ?_
 exact ⟨A8, k, c8, rfl, (hm.ownI 1 rfl), hk, by omega, hm.g⟩
end Go.Proofs.YtnpcbfllnkiopaaGreatDoor
namespace Go.Proofs.YtnpcbfllnkiopaaGreatDoor
open Go.RowKit
def bsLt (x y : ByteArray) : Bool := Go.Op.bytesLess x.toList y.toList
theorem bsLt_bl (x y : ByteArray) : bsLt x y = true ↔ blR x y := Iff.rfl
theorem b_ne_selfO (a : ByteArray) : (!(a.toList == a.toList)) = false := by simp
theorem nanO (a : ByteArray) (w : World) : Calls Tryz.prog 176 #[.string a] w (fun e w' => e = .returned (.bool false) ∧ w.grownBy w' none) := by
 refine gw_enter ⟨6, w, none, []⟩ Tryz.func176 rfl Tryz.ntmps176 rfl (mem0 (X := []) allF_nil allL_nil) ?_
 refine sr_ (sg_ rfl (nn_ (sr_ (mv_ rfl (mv_ rfl (wl_ov (ov_sneq rfl rfl) rfl ?_))))))
 refine wl_set 5 (v' := .bool false) rfl (congrArg Value.bool (b_ne_selfO a)) ?_
 refine sg_ rfl (nn_ ?_)
 refine gw_ret ?_
 refine nx_ret1 rfl rfl fun wx hm => ?_
 exact ⟨rfl, hm.g⟩
theorem lessO (a b : ByteArray) (w : World) : Calls Tryz.prog 331 #[.string a, .string b] w (fun e w' => e = .returned (.bool (bsLt a b)) ∧ w.grownBy w' none) := by
 refine gw_enter ⟨17, w, none, []⟩ Tryz.func331 rfl Tryz.ntmps331 rfl (mem0 (X := []) allF_nil allL_nil) ?_
 refine sr_ (sg_ rfl (nn_ (sr_ (mv_ rfl ?_))))
 refine wl_callv rfl cb176 rfl rfl (fun wx hm => (nanO _ wx)) ?_
 refine mv_ rfl (goff rfl rfl rfl (goff rfl rfl rfl (goff rfl rfl rfl (pf_ rfl rfl (mv_ rfl (wl_guard_on rfl rfl rfl (mv_ rfl (wl_guard_on rfl rfl rfl (mv_ rfl (wl_guard_on rfl rfl rfl ?_))))))))))
 refine wl_ov (ov_slss rfl rfl) rfl ?_
 refine pf_ rfl rfl (sg_ rfl (nn_ ?_))
 refine gw_ret ?_
 refine nx_ret1 rfl rfl fun wx hm => ?_
 exact ⟨rfl, hm.g⟩
theorem ins_so  (l0 : List ByteArray) (br n cap base : Nat) (w : World) (h : w.ownsRow base 9 1 (.slice (some ⟨br, 0, none⟩) n cap) n (l0.flatMap sgEnc)) (hl0 : l0.length = n) (hn : n ≤ 1000000)  :
  Calls Tryz.prog 325 #[.slice (some ⟨br, 0, none⟩) n cap, .int .i64 0, .int .i64 ((n : Nat) : Int)] w (fun e w' => e = .returned (.tuple #[]) ∧ w'.ownsRow base 9 1 (.slice (some ⟨br, 0, none⟩) n cap) n ((isort (bsLt) l0).flatMap sgEnc) ∧ w.grownBy w' (some br)) := by
 obtain ⟨R, hR⟩ : ∃ z, z = isort (bsLt) l0 := ⟨_, rfl⟩
 rw [← hR]
 refine gw_enter ⟨49, w, (some br), []⟩ Tryz.func325 rfl Tryz.ntmps325 rfl (memR (X := []) h allF_nil allL_nil) ?_
 refine sr_ (mv_ rfl (ad_ rfl rfl ?_))
 refine wl_set 9 (v' := .int .i64 1) rfl rfl ?_
 refine sg_ rfl (nn_ (gw_block ?_))
 refine gw_loop (γ := Nat × List ByteArray) (fun gg => (1 ≤ gg.1 ∧ gg.1 ≤ n + 1) ∧ gg.2.length = n ∧ isortF (bsLt) (n - gg.1) gg.1 gg.2 = R) (fun gg => [(0, .slice (some ⟨br, 0, none⟩) n cap), (1, .int .i64 0), (2, .int .i64 ((n : Nat) : Int)), (6, .int .i64 ((gg.1 : Nat) : Int))]) (fun gg => RowK base 9 1 n cap br ((gg.2).flatMap sgEnc)) (fun gg => []) (fun gg => []) (fun gg => []) (fun gg => n + 1 - gg.1) (1, l0) ⟨⟨Nat.le_refl _, by omega⟩, hl0, by rw [hR]; unfold isort; rw [hl0]⟩ ⟨rfl, rfl, rfl, (some_int (by omega)), trivial⟩ (fun _ hm => hm.pick [] [] [] rfl rfl) ?_
 rintro ⟨i, l⟩ hinv
 replace hinv : (1 ≤ i ∧ i ≤ n + 1) ∧ l.length = n ∧ isortF (bsLt) (n - i) i l = R := hinv
 dsimp only
 refine gw_seq (sr_ ?_)
 obtain ⟨⟨hi1, hi2⟩, hl1, hR1⟩ := hinv
 refine mv_ rfl (mv_ rfl (wl_ov (ov_lss rfl rfl) rfl (nn_ ?_)))
 refine gw_cond rfl (fun hh => ?_) (fun hh => ?_)
 ·have hi : ((i : Nat) : Int) < ((n : Nat) : Int) := by simpa using hh
  clear hh
  refine gw_skip (nx_then (gw_seq (gw_block (sr_ ?_))))
  have hRi : isortF (bsLt) (n - (i + 1)) (i + 1) (sink (bsLt) i l) = R := by rw [← hR1, show n - i = (n - (i + 1)) + 1 by omega]; rfl
  obtain ⟨S, hS⟩ : ∃ z, z = sink (bsLt) i l := ⟨_, rfl⟩
  rw [← hS] at hRi
  have hSl : S.length = n := by rw [hS, sink_len]; exact hl1
  refine mv_ rfl (sg_ rfl (nn_ (gw_block ?_)))
  refine gw_loop (γ := Nat × List ByteArray) (fun gg => (gg.1 ≤ i) ∧ gg.2.length = n ∧ sink (bsLt) gg.1 gg.2 = S) (fun gg => [(0, .slice (some ⟨br, 0, none⟩) n cap), (1, .int .i64 0), (2, .int .i64 ((n : Nat) : Int)), (6, .int .i64 ((i : Nat) : Int)), (7, .int .i64 ((gg.1 : Nat) : Int))]) (fun gg => RowK base 9 1 n cap br ((gg.2).flatMap sgEnc)) (fun gg => []) (fun gg => []) (fun gg => []) (fun gg => gg.1) (i, l) ⟨Nat.le_refl _, hl1, hS.symm⟩ ⟨rfl, rfl, rfl, rfl, rfl, trivial⟩ (fun _ hm => hm.pick [] [] [] rfl rfl) ?_
  rintro ⟨jj, m⟩ hinv
  replace hinv : (jj ≤ i) ∧ m.length = n ∧ sink (bsLt) jj m = S := hinv
  dsimp only
  refine gw_seq (gw_seq ?_)
  obtain ⟨hj1, hm1, hS1⟩ := hinv
  rcases jj with _ | j
  ·refine gd (fun wz => True) mixed (fun _ _ => trivial) fun z => ?_
   refine wt 0 15 1 rfl z (ov_move rfl) ?_
   refine wa_set 16 (v' := .int .i64 0) rfl rfl ?_
   refine wt 1 15 3 rfl z (ov_move rfl) ?_
   refine wt 2 15 7 rfl z (ov_gtr rfl rfl) ?_
   refine wa_set 18 (v' := .bool false) rfl (congrArg Value.bool (by decide)) ?_
   refine wt 3 15 15 rfl z (ov_move rfl) ?_
   refine wtf 4 15 31 rfl rfl rfl z ?_
   refine wtf 5 15 63 rfl rfl rfl z ?_
   refine wtf 6 15 127 rfl rfl rfl z ?_
   refine wtf 7 15 255 rfl rfl rfl z ?_
   refine wtf 8 15 511 rfl rfl rfl z ?_
   refine wtf 9 15 1023 rfl rfl rfl z ?_
   refine wtf 10 15 2047 rfl rfl rfl z ?_
   refine wtf 11 15 4095 rfl rfl rfl z ?_
   refine wtf 12 15 8191 rfl rfl rfl z ?_
   refine wtf 13 15 16383 rfl rfl rfl z ?_
   refine wt 14 15 32767 rfl z (ov_pick_f rfl rfl) ?_
   refine wa_done (by kernel_rfl) ?_
   refine nx_then (cf_ rfl ?_)
   refine gw_exit ?_
   refine nx_then_exit (nx_then_exit ?_)
   refine nx_blk_here ?_
   refine nx_blk_nrm (nx_then (gw_region (mv_ rfl (ad_ rfl rfl (sg_ rfl (wl_nil ?_))))))
   have hm2 : m = S := hS1
   exact nx_round (i + 1, m) ⟨⟨by dsimp only; omega, by dsimp only; omega⟩, by rw [hm2]; exact hSl, by rw [hm2]; exact hRi⟩ (by dsimp only; omega) ⟨rfl, rfl, rfl, (some_int (by omega)), trivial⟩ (fun _ hm => hm.pick [] [] [] rfl rfl)
  have hj2 : j + 1 < n := by omega
  obtain ⟨x0, hx⟩ : ∃ x, m[j + 1]? = some x := ⟨_, List.getElem?_eq_getElem (by omega)⟩
  obtain ⟨y0, hy⟩ : ∃ x, m[j]? = some x := ⟨_, List.getElem?_eq_getElem (by omega)⟩
  refine gd (fun wz => (RowK base 9 1 n cap br ((m).flatMap sgEnc)) wz ∧ True) mixed (fun _ hm => ⟨hm.k, trivial⟩) fun z => ?_
  refine wt 0 15 1 rfl z (ov_move rfl) ?_
  refine wt 1 15 3 rfl z (ov_move rfl) ?_
  refine wt 2 15 7 rfl z (ov_gtr rfl rfl) ?_
  refine wa_set 18 (v' := .bool true) rfl (congrArg Value.bool (decide_eq_true (by omega))) ?_
  refine wt 3 15 15 rfl z (ov_move rfl) ?_
  refine wto 4 15 31 rfl rfl rfl z (ov_move rfl) ?_
  refine wto 5 15 63 rfl rfl rfl z (ov_move rfl) ?_
  refine wto 6 15 127 rfl rfl rfl z (ov_index (j := (j + 1)) es112 rfl rfl (by omega)) ?_
  refine wto 7 15 255 rfl rfl rfl z (ov_elem1 (k := 0) (v := .string x0) sc9 rfl (fun _ hm => (RowK.get (hm.1) sg_len hm1)) hx rfl rfl) ?_
  refine wto 8 15 511 rfl rfl rfl z (ov_move rfl) ?_
  refine wto 9 15 1023 rfl rfl rfl z (ov_move rfl) ?_
  refine wto 10 15 2047 rfl rfl rfl z (ov_sub rfl rfl (by omega) (by omega)) ?_
  refine wa_set 26 (v' := .int .i64 ((j : Nat) : Int)) rfl (congrArg (Value.int .i64) (by omega)) ?_
  refine wto 11 15 4095 rfl rfl rfl z (ov_index (j := j) es112 rfl rfl (by omega)) ?_
  refine wto 12 15 8191 rfl rfl rfl z (ov_elem1 (k := 0) (v := .string y0) sc9 rfl (fun _ hm => (RowK.get (hm.1) sg_len hm1)) hy rfl rfl) ?_
  refine wa1 13 rfl ?_
  refine wl_guard_on rfl rfl rfl ?_
  refine wl_callv rfl cb331 rfl rfl (fun wx hm => (lessO x0 y0 wx)) ?_
  refine wl_nil ?_
  refine nw 15 16383 (fun _ hm => ⟨hm.k, trivial⟩) fun z => ?_
  refine wt 14 15 32767 rfl z (ov_pick_t rfl rfl) ?_
  refine wa_done (by kernel_rfl) ?_
  refine nx_then ?_
  refine gw_cond rfl (fun hh => ?_) (fun hh => ?_)
  ·have hlt : (bsLt x0 y0) = true := by simpa using hh
   clear hh
   refine gw_skip (nx_then (gw_seq (gw_block ?_)))
   have hlt2 : (bsLt) x0 y0 = true := hlt
   have hS2 := (sink_yes hx hy hlt2).symm.trans hS1
   refine gd (fun wz => True) mixed (fun _ _ => trivial) fun z => ?_
   refine wt 0 18 1 rfl z (ov_move rfl) ?_
   refine wt 1 18 3 rfl z (ov_move rfl) ?_
   refine wt 2 18 7 rfl z (ov_move rfl) ?_
   refine wt 3 18 15 rfl z (ov_move rfl) ?_
   refine wt 4 18 31 rfl z (ov_sub rfl rfl (by omega) (by omega)) ?_
   refine wa_set 37 (v' := .int .i64 ((j : Nat) : Int)) rfl (congrArg (Value.int .i64) (by omega)) ?_
   refine wt 5 18 63 rfl z (ov_move rfl) ?_
   refine wt 6 18 127 rfl z (ov_move rfl) ?_
   refine wt 7 18 255 rfl z (ov_sub rfl rfl (by omega) (by omega)) ?_
   refine wa_set 40 (v' := .int .i64 ((j : Nat) : Int)) rfl (congrArg (Value.int .i64) (by omega)) ?_
   refine wt 8 18 511 rfl z (ov_index (j := j) es112 rfl rfl (by omega)) ?_
   refine wt 10 18 1535 rfl z (ov_move rfl) ?_
   refine wt 11 18 3583 rfl z (ov_move rfl) ?_
   refine wt 12 18 7679 rfl z (ov_index (j := (j + 1)) es112 rfl rfl (by omega)) ?_
   refine wa_all [9, 13] (by kernel_rfl) rfl ⟨⟨_, rfl, ?_⟩, ⟨_, rfl, ?_⟩, trivial⟩
   ·refine wl_ov (ov_elem1 (k := 0) (v := .string y0) sc9 rfl (fun _ hm => (RowK.get hm.k sg_len hm1)) hy rfl rfl) rfl ?_
    refine wl_nil ?_
    refine nw 18 8191 (fun _ _ => trivial) fun z => ?_
    refine wa1 13 rfl ?_
    refine wl_ov (ov_elem1 (k := 0) (v := .string x0) sc9 rfl (fun _ hm => (RowK.get hm.k sg_len hm1)) hx rfl rfl) rfl ?_
    refine wl_nil ?_
    refine nw 18 16383 (fun _ _ => trivial) fun z => ?_
    refine wt 14 18 32767 rfl z (ov_index (j := (j + 1)) es112 rfl rfl (by omega)) ?_
    refine wa1 15 rfl ?_
    refine wl_storeRow (l := m) (j := j + 1) (r := 0) (el := x0) (el' := y0) rfl sc9 rfl rfl rfl sg_len rfl hx hm1 (by decide) rfl rfl ?_
    refine wl_nil ?_
    refine nw 18 65535 (fun _ _ => trivial) fun z => ?_
    refine wt 16 18 131071 rfl z (ov_index (j := j) es112 rfl rfl (by omega)) ?_
    refine wa1 17 rfl ?_
    refine wl_storeRow (l := m.set (j + 1) y0) (j := j) (r := 0) (el := y0) (el' := x0) rfl sc9 rfl rfl rfl sg_len rfl (by rw [List.getElem?_set_ne (by omega)]; exact hy) (by rw [List.length_set]; exact hm1) (by decide) rfl rfl ?_
    refine wl_nil ?_
    refine nw 18 262143 (fun _ _ => trivial) fun z => ?_
    refine wa_done (by kernel_rfl) ?_
    refine nx_blk_nrm (nx_then (gw_region (mv_ rfl ?_)))
    refine wl_ov (ov_sub rfl rfl (by omega) (by omega)) rfl ?_
    refine wl_set 32 (v' := .int .i64 ((j : Nat) : Int)) rfl (congrArg (Value.int .i64) (by omega)) ?_
    refine sg_ rfl (wl_nil ?_)
    exact nx_round (j, (m.set (j + 1) y0).set j x0) ⟨by dsimp only; omega, by simp [hm1], hS2⟩ (by dsimp only; omega) ⟨rfl, rfl, rfl, rfl, (some_int (by omega)), trivial⟩ (fun _ hm => hm.pick [] [] [] rfl rfl)
   refine wl_ov (ov_elem1 (k := 0) (v := .string x0) sc9 rfl (fun _ hm => (RowK.get hm.k sg_len hm1)) hx rfl rfl) rfl ?_
   refine wl_nil ?_
   refine nw 18 15871 (fun _ _ => trivial) fun z => ?_
   refine wa1 9 rfl ?_
   refine wl_ov (ov_elem1 (k := 0) (v := .string y0) sc9 rfl (fun _ hm => (RowK.get hm.k sg_len hm1)) hy rfl rfl) rfl ?_
   refine wl_nil ?_
   refine nw 18 16383 (fun _ _ => trivial) fun z => ?_
   refine wt 14 18 32767 rfl z (ov_index (j := (j + 1)) es112 rfl rfl (by omega)) ?_
   refine wa1 15 rfl ?_
   refine wl_storeRow (l := m) (j := j + 1) (r := 0) (el := x0) (el' := y0) rfl sc9 rfl rfl rfl sg_len rfl hx hm1 (by decide) rfl rfl ?_
   refine wl_nil ?_
   refine nw 18 65535 (fun _ _ => trivial) fun z => ?_
   refine wt 16 18 131071 rfl z (ov_index (j := j) es112 rfl rfl (by omega)) ?_
   refine wa1 17 rfl ?_
   refine wl_storeRow (l := m.set (j + 1) y0) (j := j) (r := 0) (el := y0) (el' := x0) rfl sc9 rfl rfl rfl sg_len rfl (by rw [List.getElem?_set_ne (by omega)]; exact hy) (by rw [List.length_set]; exact hm1) (by decide) rfl rfl ?_
   refine wl_nil ?_
   refine nw 18 262143 (fun _ _ => trivial) fun z => ?_
   refine wa_done (by kernel_rfl) ?_
   refine nx_blk_nrm (nx_then (gw_region (mv_ rfl ?_)))
   refine wl_ov (ov_sub rfl rfl (by omega) (by omega)) rfl ?_
   refine wl_set 32 (v' := .int .i64 ((j : Nat) : Int)) rfl (congrArg (Value.int .i64) (by omega)) ?_
   refine sg_ rfl (wl_nil ?_)
   exact nx_round (j, (m.set (j + 1) y0).set j x0) ⟨by dsimp only; omega, by simp [hm1], hS2⟩ (by dsimp only; omega) ⟨rfl, rfl, rfl, rfl, (some_int (by omega)), trivial⟩ (fun _ hm => hm.pick [] [] [] rfl rfl)
  have hlt : (bsLt x0 y0) = false := by simpa using hh
  clear hh
  refine gw_exit ?_
  refine nx_then_exit (nx_then_exit ?_)
  refine nx_blk_here ?_
  refine nx_blk_nrm (nx_then (gw_region ?_))
  have hlt2 : (bsLt) x0 y0 = false := hlt
  have hS2 := (sink_no hx hy hlt2).symm.trans hS1
  refine mv_ rfl (ad_ rfl rfl (sg_ rfl (wl_nil ?_)))
  have hm2 : m = S := hS2
  exact nx_round (i + 1, m) ⟨⟨by dsimp only; omega, by dsimp only; omega⟩, by rw [hm2]; exact hSl, by rw [hm2]; exact hRi⟩ (by dsimp only; omega) ⟨rfl, rfl, rfl, (some_int (by omega)), trivial⟩ (fun _ hm => hm.pick [] [] [] rfl rfl)
 have hi : ¬ (((i : Nat) : Int) < ((n : Nat) : Int)) := by simpa using hh
 clear hh
 refine gw_exit ?_
 refine nx_then_exit (nx_then_exit ?_)
 refine nx_blk_here ?_
 obtain rfl : l = R := by rw [← hR1, show n - i = 0 by omega]; rfl
 refine nx_ret0 rfl fun wx hm => ?_
 exact ⟨rfl, fin_row hm.k hm.g⟩
theorem pdq_so  (l0 : List ByteArray) (br n cap base : Nat) (lim : Int) (w : World) (h : w.ownsRow base 9 1 (.slice (some ⟨br, 0, none⟩) n cap) n (l0.flatMap sgEnc)) (hl0 : l0.length = n) (hn : n ≤ 12)  :
  Calls Tryz.prog 268 #[.slice (some ⟨br, 0, none⟩) n cap, .int .i64 0, .int .i64 ((n : Nat) : Int), .int .i64 lim] w (fun e w' => e = .returned (.tuple #[]) ∧ w'.ownsRow base 9 1 (.slice (some ⟨br, 0, none⟩) n cap) n ((isort (bsLt) l0).flatMap sgEnc) ∧ w.grownBy w' (some br)) := by
 refine gw_enter ⟨134, w, (some br), []⟩ Tryz.func268 rfl Tryz.ntmps268 rfl (memR (X := []) h allF_nil allL_nil) ?_
 refine sr_ (sg_ rfl (nn_ (sr_ (sg_ rfl (nn_ (gw_block ?_))))))
 refine gw_rounds 1 ?_
 refine gr_next ?_
 refine gw_block (sr_ (mv_ rfl (mv_ rfl ?_)))
 refine wl_ov (ov_sub rfl rfl (by omega) (by omega)) rfl ?_
 refine sg_ rfl (nn_ (gw_seq (sr_ (mv_ rfl (wl_ov (ov_leq rfl rfl) rfl ?_)))))
 refine wl_set 23 (v' := .bool true) rfl (congrArg Value.bool (decide_eq_true (by omega))) ?_
 refine nn_ (ct_ rfl (sr_ (mv_ rfl (mv_ rfl (mv_ rfl ?_)))))
 refine wl_callK rfl rfl rfl cb325 rfl rfl (fun wx hm => (ins_so  l0 br n cap base wx hm.k hl0 (by omega) )) ?_
 refine nn_ ?_
 refine gw_ret ?_
 refine nx_then_ret (nx_blk_ret (nx_then_ret (nx_blk_ret ?_)))
 refine nx_ret0' rfl fun wx hm => ?_
 exact ⟨rfl, fin_row hm.k hm.g⟩
theorem sort_so  (l0 : List ByteArray) (br n cap base : Nat) (w : World) (h : w.ownsRow base 9 1 (.slice (some ⟨br, 0, none⟩) n cap) n (l0.flatMap sgEnc)) (hl0 : l0.length = n) (hn : n ≤ 12)  :
  Calls Tryz.prog 223 #[.slice (some ⟨br, 0, none⟩) n cap] w (fun e w' => e = .returned (.tuple #[]) ∧ w'.ownsRow base 9 1 (.slice (some ⟨br, 0, none⟩) n cap) n ((isort (bsLt) l0).flatMap sgEnc) ∧ w.grownBy w' (some br)) := by
 refine gw_enter ⟨11, w, (some br), []⟩ Tryz.func223 rfl Tryz.ntmps223 rfl (memR (X := []) h allF_nil allL_nil) ?_
 refine sr_ (mv_ rfl (wl_ov (ov_len es112 rfl) rfl (sg_ rfl (nn_ (gw_region (mv_ rfl (mv_ rfl (mv_ rfl ?_))))))))
 refine wl_ov (ov_u64 (a := n) (by kernel_rfl) (by kernel_rfl) rfl (by omega)) rfl ?_
 refine wl_callx (γ := Int) (val := (fun g => .int .i64 g)) (φ := (fun g => True)) (Y := (fun g => fun _ => True)) rfl cb225 rfl rfl (fun wx hm => (bitsLen_any n wx (by omega)).mono fun _ _ ⟨v, he, hg⟩ => ⟨v, he, trivial, hg, trivial⟩) (fun _ => Lasts2.true_) ?_
 rintro lim hphi
 clear hphi
 refine wl_callK rfl rfl rfl cb268 rfl rfl (fun wx hm => (pdq_so  l0 br n cap base _ wx hm.k hl0 hn )) ?_
 refine wl_nil ?_
 refine nx_ret0 rfl fun wx hm => ?_
 exact ⟨rfl, fin_row hm.k hm.g⟩
theorem ins0_so  (A : Option Addr) (cap : Nat)  (w : World) : Calls Tryz.prog 325 #[.slice A 0 cap, .int .i64 0, .int .i64 0] w (fun e w' => e = .returned (.tuple #[]) ∧ w.grownBy w' none) := by
 refine gw_enter ⟨49, w, none, []⟩ Tryz.func325 rfl Tryz.ntmps325 rfl (mem0 (X := []) allF_nil allL_nil) ?_
 refine sr_ (mv_ rfl (ad_ rfl rfl ?_))
 refine wl_set 9 (v' := .int .i64 1) rfl rfl ?_
 refine sg_ rfl (nn_ (gw_block ?_))
 refine gw_rounds 1 ?_
 refine gr_next ?_
 refine gw_seq (sr_ (mv_ rfl (mv_ rfl (wl_ov (ov_lss rfl rfl) rfl ?_))))
 refine wl_set 12 (v' := .bool false) rfl (congrArg Value.bool (by decide)) ?_
 refine nn_ (cf_ rfl ?_)
 refine gw_exit ?_
 refine nx_then_exit (nx_then_exit ?_)
 refine nx_blk_here ?_
 refine nx_ret0 rfl fun wx hm => ?_
 exact ⟨rfl, hm.g⟩
theorem pdq0_so  (A : Option Addr) (cap : Nat) (lim : Int) (w : World) : Calls Tryz.prog 268 #[.slice A 0 cap, .int .i64 0, .int .i64 0, .int .i64 lim] w (fun e w' => e = .returned (.tuple #[]) ∧ w.grownBy w' none) := by
 refine gw_enter ⟨134, w, none, []⟩ Tryz.func268 rfl Tryz.ntmps268 rfl (mem0 (X := []) allF_nil allL_nil) ?_
 refine sr_ (sg_ rfl (nn_ (sr_ (sg_ rfl (nn_ (gw_block ?_))))))
 refine gw_rounds 1 ?_
 refine gr_next ?_
 refine gw_block (sr_ (mv_ rfl (mv_ rfl ?_)))
 refine wl_ov (ov_sub rfl rfl (by omega) (by omega)) rfl ?_
 refine wl_set 21 (v' := .int .i64 0) rfl rfl ?_
 refine sg_ rfl (nn_ (gw_seq (sr_ (mv_ rfl (wl_ov (ov_leq rfl rfl) rfl ?_)))))
 refine wl_set 23 (v' := .bool true) rfl (congrArg Value.bool (by decide)) ?_
 refine nn_ (ct_ rfl (sr_ (mv_ rfl (mv_ rfl (mv_ rfl ?_)))))
 refine wl_callv rfl cb325 rfl rfl (fun wx hm => (ins0_so  A cap  wx)) ?_
 refine nn_ ?_
 refine gw_ret ?_
 refine nx_then_ret (nx_blk_ret (nx_then_ret (nx_blk_ret ?_)))
 refine nx_ret0' rfl fun wx hm => ?_
 exact ⟨rfl, hm.g⟩
theorem sort0_so  (A : Option Addr) (cap : Nat)  (w : World) : Calls Tryz.prog 223 #[.slice A 0 cap] w (fun e w' => e = .returned (.tuple #[]) ∧ w.grownBy w' none) := by
 refine gw_enter ⟨11, w, none, []⟩ Tryz.func223 rfl Tryz.ntmps223 rfl (mem0 (X := []) allF_nil allL_nil) ?_
 refine sr_ (mv_ rfl (wl_ov (ov_len es112 rfl) rfl ?_))
 refine wl_set 4 (v' := .int .i64 0) rfl rfl ?_
 refine sg_ rfl (nn_ (gw_region (mv_ rfl (mv_ rfl (mv_ rfl ?_)))))
 refine wl_ov (ov_u64 (a := 0) (by kernel_rfl) (by kernel_rfl) rfl (by omega)) rfl ?_
 refine wl_callx (γ := Int) (val := (fun g => .int .i64 g)) (φ := (fun g => True)) (Y := (fun g => fun _ => True)) rfl cb225 rfl rfl (fun wx hm => (by have h := bitsLen_any 0 wx (by omega); exact h.mono fun _ _ ⟨v, he, hg⟩ => ⟨v, he, trivial, hg, trivial⟩)) (fun _ => Lasts2.true_) ?_
 rintro lim hphi
 clear hphi
 refine wl_callv rfl cb268 rfl rfl (fun wx hm => (pdq0_so  A cap _ wx)) ?_
 refine wl_nil ?_
 refine nx_ret0 rfl fun wx hm => ?_
 exact ⟨rfl, hm.g⟩
end Go.Proofs.YtnpcbfllnkiopaaGreatDoor
namespace Go.Proofs.YtnpcbfllnkiopaaGreatDoor
open Go.RowKit
theorem booking_info : ∃ i z, Tryz.prog.info? 199 = some i ∧ i.zero = some z ∧ i.size = 6 ∧ i.bytes = 64 ∧ z.cells.size = 6 := info_parts (by kernel_rfl)
set_option maxRecDepth 100000 in
set_option maxHeartbeats 1000000 in
theorem cloneBks_pos (l : List Bk) (A : Option Addr) (n c : Nat) (w : World) (hl : SlT bkEnc 6 199 w A n l) (hn0 : 0 < n) (hn : n ≤ 1000000) :
    Calls Tryz.prog 218 #[.slice A n c] w (fun e w' => ∃ A' c', e = .returned (.slice A' n c') ∧ w'.ownsRow w.heap.size 199 6 (.slice A' n c') n (l.flatMap bkEnc) ∧ w.grownBy w' none) := by
  obtain ⟨b, off, rfl, hbl, hfl⟩ := hl.flat bk_len hn0
  have hlen := hl.len
  obtain ⟨i0, z0, hi, hz, hsz, hby, hzs⟩ := booking_info
  have hnews : ∀ (o : Obj) j u, (l.flatMap bkEnc)[j]? = some u → (w.alloc o).cell? ((⟨b, off, none⟩ : Addr).add j) = some u := fun o j u hj =>
    (World.cell?_of_block (Below.heap_alloc w o _ (by unfold Addr.add; split <;> exact hbl))).trans (hfl j u hj)
  have hone := flat_one bkEnc bk_one l
  have hll := flat_len bkEnc 6 bk_len l
  rw [hlen] at hll
  clear hfl hl
  have Hnews := Lib.hid hnews
  clear hnews
  have he : ∀ w : World, (binOp .eql 84 (.slice (some ⟨b, off, none⟩) n c) (.slice none 0 0)).run Tryz.prog w = .ok (.bool false) w := fun _ => rfl
  go_enter Tryz.func218, Tryz.ntmps218
  go_wp2_with (at_builtin; refine wpList_append_own_at _ rfl _ _ 84 rfl w.heap.size 199 i0 z0 6 64 Tryz.underlying84 hi hz hsz hby hzs (by decide) (.slice (some ⟨w.heap.size, 0, none⟩) 0 0) 0 [] rfl ⟨rfl, .inr ⟨w.heap.size, 0, #[], rfl, Nat.le_refl _, heap_alloc_new w _, Nat.le_refl _, by decide, rfl, rfl⟩⟩ ⟨b, off, none⟩ n c (l.flatMap bkEnc) rfl hll (Hnews.out _) hone (by unfold maxLen; omega) (by omega) (by simp) ?_; intro v' w' hown hgrow hnil hat)
  rw [Nat.zero_add, List.nil_append] at hown
  have hown2 := hown
  obtain ⟨_, ho⟩ := hown2
  rcases ho with ⟨_, h0⟩ | ⟨g, cap, cur, rfl, hg, _⟩
  · omega
  · go_ret
    exact ⟨some ⟨g, 0, none⟩, cap, rfl, hown, grow_own (grow_alloc (World.grownBy.refl _ _) _) hgrow (fun k h => by cases h; exact Nat.le_refl _)⟩
set_option maxRecDepth 100000 in
set_option maxHeartbeats 1000000 in
theorem cloneBks_empty (a : Addr) (c : Nat) (w : World) :
    Calls Tryz.prog 218 #[.slice (some a) 0 c] w (fun e w' => ∃ A' c', e = .returned (.slice A' 0 c') ∧ w'.ownsRow w.heap.size 199 6 (.slice A' 0 c') 0 [] ∧ w.grownBy w' none) := by
  obtain ⟨i0, z0, hi, hz, hsz, hby, hzs⟩ := booking_info
  have he : ∀ w : World, (binOp .eql 84 (.slice (some a) 0 c) (.slice none 0 0)).run Tryz.prog w = .ok (.bool false) w := fun _ => rfl
  go_enter Tryz.func218, Tryz.ntmps218
  go_wp2_with (at_builtin; refine wpList_append_own_at _ rfl _ _ 84 rfl w.heap.size 199 i0 z0 6 64 Tryz.underlying84 hi hz hsz hby hzs (by decide) (.slice (some ⟨w.heap.size, 0, none⟩) 0 0) 0 [] rfl ⟨rfl, .inr ⟨w.heap.size, 0, #[], rfl, Nat.le_refl _, heap_alloc_new w _, Nat.le_refl _, by decide, rfl, rfl⟩⟩ a 0 c [] rfl rfl (fun j u hj => by simp at hj) (fun v hv => by cases hv) (by unfold maxLen; omega) (by omega) (by simp) ?_; intro v' w' hown hgrow hnil hat)
  rw [Nat.zero_add, List.nil_append] at hown
  have hown2 := hown
  obtain ⟨_, ho⟩ := hown2
  rcases ho with ⟨rfl, _⟩ | ⟨g, cap, cur, rfl, hg, _⟩
  · go_ret
    exact ⟨none, 0, rfl, hown, grow_own (grow_alloc (World.grownBy.refl _ _) _) hgrow (fun k h => by cases h; exact Nat.le_refl _)⟩
  · go_ret
    exact ⟨some ⟨g, 0, none⟩, cap, rfl, hown, grow_own (grow_alloc (World.grownBy.refl _ _) _) hgrow (fun k h => by cases h; exact Nat.le_refl _)⟩
set_option maxRecDepth 100000 in
set_option maxHeartbeats 400000 in
theorem cloneBks_nil (c : Nat) (w : World) : Calls Tryz.prog 218 #[.slice none 0 c] w (fun e w' => e = .returned (.slice none 0 0) ∧ w = w') := by
  have he : ∀ w : World, (binOp .eql 84 (.slice none 0 c) (.slice none 0 0)).run Tryz.prog w = .ok (.bool true) w := fun _ => rfl
  go_enter Tryz.func218, Tryz.ntmps218
  go_wp2_with fail
  go_ret
  exact ⟨rfl, rfl⟩
theorem cloneBks_any (l : List Bk) (A : Option Addr) (n c : Nat) (w : World) (hl : SlT bkEnc 6 199 w A n l) (hn : n ≤ 1000000) :
    Calls Tryz.prog 218 #[.slice A n c] w (fun e w' => ∃ A' c', e = .returned (.slice A' n c') ∧ w'.ownsRow w.heap.size 199 6 (.slice A' n c') n (l.flatMap bkEnc) ∧ w.grownBy w' none) := by
  by_cases h0 : n = 0
  · subst h0
    have hl0 : l = [] := List.length_eq_zero_iff.1 hl.len
    subst hl0
    cases A with
    | none => exact (cloneBks_nil c w).mono fun e w' ⟨he, hw⟩ => ⟨none, 0, he, ⟨rfl, .inl ⟨rfl, rfl⟩⟩, hw ▸ World.grownBy.refl _ _⟩
    | some a => exact cloneBks_empty a c w
  · exact cloneBks_pos l A n c w hl (by omega) hn
end Go.Proofs.YtnpcbfllnkiopaaGreatDoor
namespace Go.Proofs.YtnpcbfllnkiopaaGreatDoor
open Go.RowKit
theorem frB_of {l : List Bk} (h : formE l = 0) : ∀ x ∈ l, FrB x := fun x hx => by
  have := form_tim h x hx
  unfold FrB
  omega
theorem greedyOf_own (cs : List Cs) (A0 : Option Addr) (n0 c0 : Nat) (sl : List Sk) (A1 : Option Addr) (n1 c1 : Nat) (l : List Bk) (A : Option Addr) (n c : Nat) (w : World) (hcs : SlT csEnc 2 170 w A0 n0 cs) (hco : ∀ x ∈ cs, CsOk x) (hn0 : n0 ≤ 30) (hcl : Closed cs) (hlo : loopB cs cs.length = false) (hs : SlT skEnc 2 254 w A1 n1 sl) (hso : ∀ x ∈ sl, SkOk x) (hn1 : n1 ≤ 1000) (hmany : ∀ k, manyV sl k ≤ 100) (hl : SlT bkEnc 6 199 w A n l) (hn : n ≤ 9) (hf : formE l = 0) :
  Calls Tryz.prog 140 #[.slice A0 n0 c0, .slice A1 n1 c1, .slice A n c] w (fun e w' => ∃ (Ag : Option Addr) (k cg : Nat) (Al : Option Addr) (q cl : Nat), e = .returned (.tuple #[.slice Ag k cg, .slice Al q cl]) ∧ w'.ownsRow w.heap.size 193 3 (.slice Ag k cg) k ((givenE cs sl l).flatMap gvEnc) ∧ (givenE cs sl l).length = k ∧ SlT sgEnc 1 9 w' Al q (waitE cs sl l) ∧ k ≤ n ∧ k + q ≤ n ∧ w.grownBy w' none) := by
 refine gw_enter ⟨56, w, none, []⟩ Tryz.func140 rfl Tryz.ntmps140 rfl (mem0 (X := [SlOld csEnc 2 170 w.heap.size none A0 n0 cs, SlOld skEnc 2 254 w.heap.size none A1 n1 sl, SlOld bkEnc 6 199 w.heap.size none A n l]) (allF_cons hcs.old (allF_cons hs.old (allF_cons hl.old allF_nil))) (allL_cons SlOld.lasts (allL_cons SlOld.lasts (allL_cons SlOld.lasts allL_nil)))) ?_
 refine sr_ ?_
 have hlen := hl.len
 obtain ⟨S, hS⟩ : ∃ z, z = isort grLt l := ⟨_, rfl⟩
 have hSl : S.length = n := by rw [hS, isort_len]; exact hlen
 have hSm : ∀ x ∈ S, x ∈ l := fun x hx => isort_mem.1 (by rw [hS] at hx; exact hx)
 have htl := form_tim hf
 have hgv := given_eq (cs := cs) (sl := sl) hf
 have hwt := wait_eq (cs := cs) (sl := sl) bsLt_bl hf
 rw [← hS] at hgv hwt
 obtain ⟨CD, hCD⟩ : ∃ z, z = cdB cs sl := ⟨_, rfl⟩
 rw [← hCD] at hgv hwt
 rw [← hgv, ← hwt]
 refine sg_ rfl (sg_ rfl (nn_ (sr_ (mv_ rfl ?_))))
 refine wl_callgo (γ := Option Addr × Nat) (val := (fun g => .slice g.1 n g.2)) (φ := (fun g => True)) (fun g => ⟨.slice g.1 n g.2, 199, 6, n, l.flatMap bkEnc⟩) rfl cb218 rfl rfl (fun wx hm => (cloneBks_any l A n c wx (hm.fact 2 rfl).1 (by omega)).mono fun _ _ ⟨A, c, he, ho, hg⟩ => ⟨(A, c), he, trivial, ho, hg⟩) ?_
 rintro ⟨A2, c2⟩ hphi
 dsimp only at hphi ⊢
 refine sg_ rfl (nn_ ?_)
 refine gw_cut (γ := Option Addr) (I := (fun (A3 : Option Addr) => True)) (S' := (fun (A3 : Option Addr) => [(0, .slice A0 n0 c0), (1, .slice A1 n1 c1), (6, .slice none 0 0), (7, .slice none 0 0), (8, .slice A3 n c2)])) (K' := (fun (A3 : Option Addr) => fun _ => True)) (L' := (fun (A3 : Option Addr) => [])) (O' := (fun (A3 : Option Addr) => [⟨.slice A3 n c2, 199, 6, n, S.flatMap bkEnc⟩])) (X' := (fun (A3 : Option Addr) => [SlOld csEnc 2 170 w.heap.size none A0 n0 cs, SlOld skEnc 2 254 w.heap.size none A1 n1 sl, SlOld bkEnc 6 199 w.heap.size none A n l])) ?_ ?_
 ·refine gw_region (mv_ rfl ?_)
  by_cases h0 : n = 0
  ·refine wl_callv (v := .tuple #[]) rfl cb219 rfl rfl (fun wx hm => (by subst h0; exact stable0_gr A2 c2 wx)) ?_
   have hl0 : l = [] := List.length_eq_zero_iff.1 (by omega)
   rw [show l.flatMap bkEnc = S.flatMap bkEnc from by rw [hS, hl0]; rfl]
   refine wl_nil ?_
   exact nx_meet A2 trivial ⟨rfl, rfl, rfl, rfl, rfl, trivial⟩ (fun _ hm => hm.pick [] [0] [0, 1, 2] rfl rfl)
  refine wl_look (R := ∃ g, A2 = some ⟨g, 0, none⟩) (fun wx hm => own_addr (hm.ownI 0 rfl) (by omega)) ?_
  rintro ⟨g5, rfl⟩
  refine wl_callr (v := .tuple #[]) (xs' := S.flatMap bkEnc) 0 rfl rfl rfl cb219 rfl rfl (fun wx hm => (by have h := stable_gr l g5 n c2 _ wx (hm.ownI 0 rfl) hlen (by omega) (frB_of hf); rw [← hS] at h; exact h)) ?_
  refine wl_nil ?_
  exact nx_meet (some ⟨g5, 0, none⟩) trivial ⟨rfl, rfl, rfl, rfl, rfl, trivial⟩ (fun _ hm => hm.pick [] [0] [0, 1, 2] rfl rfl)
 intro A3 hinv
 replace hinv : True := hinv
 refine sr_ ?_
 refine wl_nilOwn 9 1 ?_
 refine wl_nilOwn 193 3 ?_
 refine wl_nilOwn 199 6 ?_
 refine sg_ rfl (nn_ (sr_ (sg_ rfl (nn_ (sr_ (sg_ rfl (nn_ (gw_seq ?_))))))))
 refine sr_ (mv_ rfl (wl_ov (ov_len es84 rfl) rfl (mv_ rfl (nn_ (gw_block ?_)))))
 refine gw_loop (γ := Nat × Nat × Nat × Value × Value × Value) (fun g => g.1 ≤ n ∧ (hadOf (gAll CD (S.take g.1))).length = g.2.1 ∧ (givOf (gAll CD (S.take g.1))).length = g.2.1 ∧ (leftOf (gAll CD (S.take g.1))).length = g.2.2.1 ∧ g.2.1 ≤ g.1 ∧ g.2.1 + g.2.2.1 = g.1) (fun g => [(0, .slice A0 n0 c0), (1, .slice A1 n1 c1), (6, .slice none 0 0), (7, .slice none 0 0), (9, g.2.2.2.1), (10, g.2.2.2.2.1), (11, g.2.2.2.2.2), (19, .slice A3 n c2), (20, .int .i64 ((n : Nat) : Int)), (21, .int .i64 ((g.1 : Nat) : Int))]) (fun g => fun _ => True) (fun g => []) (fun g => [⟨g.2.2.2.1, 199, 6, g.2.1, (hadOf (gAll CD (S.take g.1))).flatMap bkEnc⟩, ⟨g.2.2.2.2.1, 193, 3, g.2.1, (givOf (gAll CD (S.take g.1))).flatMap gvEnc⟩, ⟨g.2.2.2.2.2, 9, 1, g.2.2.1, (leftOf (gAll CD (S.take g.1))).flatMap sgEnc⟩, ⟨.slice A3 n c2, 199, 6, n, S.flatMap bkEnc⟩]) (fun g => [SlOld csEnc 2 170 w.heap.size none A0 n0 cs, SlOld skEnc 2 254 w.heap.size none A1 n1 sl, SlOld bkEnc 6 199 w.heap.size none A n l]) (fun g => n - g.1) (0, 0, 0, .slice none 0 0, .slice none 0 0, .slice none 0 0) ⟨Nat.zero_le _, rfl, rfl, rfl, Nat.zero_le _, rfl⟩ ⟨rfl, rfl, rfl, rfl, rfl, rfl, rfl, rfl, rfl, rfl, trivial⟩ (fun _ hm => hm.pick [] [0, 1, 2, 3] [0, 1, 2] rfl rfl) ?_
 rintro ⟨i, k, q, v1, v2, v3⟩ hinv
 replace hinv : i ≤ n ∧ (hadOf (gAll CD (S.take i))).length = k ∧ (givOf (gAll CD (S.take i))).length = k ∧ (leftOf (gAll CD (S.take i))).length = q ∧ k ≤ i ∧ k + q = i := hinv
 dsimp only
 refine sr_ ?_
 obtain ⟨hi0, hhl, hgl, hll, hki, hqi⟩ := hinv
 refine wl_ov (ov_lss rfl rfl) rfl (nn_ (gw_seq ?_))
 refine gw_cond rfl (fun hh => ?_) (fun hh => ?_)
 ·have hi : ((i : Nat) : Int) < ((n : Nat) : Int) := by simpa using hh
  clear hh
  refine gw_skip (nx_then (gw_seq (gw_block (sr_ ?_))))
  refine wl_look (R := ∃ A cc, v1 = .slice A k cc) (fun wx hm => own_slice (hm.ownI 0 rfl)) ?_
  rintro ⟨H, hc, rfl⟩
  refine wl_look (R := ∃ A cc, v2 = .slice A k cc) (fun wx hm => own_slice (hm.ownI 1 rfl)) ?_
  rintro ⟨G, gc, rfl⟩
  refine wl_look (R := ∃ g, A3 = some ⟨g, 0, none⟩) (fun wx hm => own_addr (hm.ownI 3 rfl) (by omega)) ?_
  rintro ⟨g6, rfl⟩
  obtain ⟨x, hx⟩ : ∃ x, S[i]? = some x := ⟨_, List.getElem?_eq_getElem (by omega)⟩
  obtain ⟨x0, x1, x2, x3, x4, x5⟩ := x
  have hxl := hSm _ (List.mem_of_getElem? hx)
  have htx := htl _ hxl
  dsimp only at htx
  have hat := gAll_at (cd := CD) hx
  have hhad : ∀ b ∈ hadOf (gAll CD (S.take i)), b.fr < b.to_ := fun b hb => (htl _ (hSm _ (List.mem_of_mem_take (had_mem hb)))).2.1
  refine wl_ov (ov_index (j := i) es84 rfl rfl (by omega)) rfl ?_
  refine wl_ov (ov_elem (vs := [.string x0, .string x1, .int .i64 x2, .int .i64 x3, .int .i64 x4, .int .i64 x5]) rz199 rfl (fun _ hm => (SlT.ofOwn bk_len (hm.ownI 3 rfl) hSl)) hx rfl rfl) rfl ?_
  refine wl_alloc zc199 rfl fun g1 => ?_
  refine wl_stores (cs' := [.string x0, .string x1, .int .i64 x2, .int .i64 x3, .int .i64 x4, .int .i64 x5]) 0 rz199 rfl rfl rfl rfl rfl rfl rfl rfl ?_
  refine nn_ (sr_ (mv_ rfl (mv_ rfl (mv_ rfl (mv_ rfl ?_)))))
  refine wl_ov (ov_loads rz199 rfl (fun _ hm => hm.blkI 0 rfl) rfl rfl) rfl ?_
  refine wl_callgo (γ := Option Addr × Nat × Nat) (val := (fun g => .slice g.1 g.2.1 g.2.2)) (φ := (fun g => (chR CD (hadOf (gAll CD (S.take i))) (givOf (gAll CD (S.take i))) (⟨x0, x1, x2, x3, x4, x5⟩ : Bk)).length = g.2.1 ∧ g.2.1 ≤ 3100)) (fun g => ⟨.slice g.1 g.2.1 g.2.2, 193, 3, g.2.1, (chR CD (hadOf (gAll CD (S.take i))) (givOf (gAll CD (S.take i))) (⟨x0, x1, x2, x3, x4, x5⟩ : Bk)).flatMap gvEnc⟩) rfl cb221 rfl rfl (fun wx hm => (by have h := choices_any cs A0 n0 c0 sl A1 n1 c1 (hadOf (gAll CD (S.take i))) (givOf (gAll CD (S.take i))) H G k hc gc x0 x1 x2 x3 x4 x5 wx (hm.fact 0 rfl).1 hco hn0 hcl hlo (hm.fact 1 rfl).1 hso hn1 hmany (SlT.ofOwn bk_len (hm.ownI 0 rfl) hhl) (SlT.ofOwn gv_len (hm.ownI 1 rfl) hgl) (by omega) hhad (by omega); rw [← chR_chF, ← hCD] at h; exact h.mono fun _ _ ⟨A8, k2, c8, he, ho, hln, hk3, hg⟩ => ⟨(A8, k2, c8), he, ⟨hln, hk3⟩, ho, hg⟩)) ?_
  rintro ⟨A5, n5, c5⟩ hch
  dsimp only at hch ⊢
  obtain ⟨hcn, hc3⟩ := hch
  refine sg_ rfl (nn_ (sr_ (mv_ rfl (wl_ov (ov_len es88 rfl) rfl ?_))))
  refine wl_ov (ov_gtr rfl rfl) rfl ?_
  refine nn_ ?_
  refine gw_cond rfl (fun hh => ?_) (fun hh => ?_)
  ·have hn5 : 0 < ((n5 : Nat) : Int) := by simpa using hh
   clear hh
   refine gw_look (R := ∃ g, A5 = some ⟨g, 0, none⟩) (fun wx hm => own_addr (hm.ownI 0 rfl) (by omega)) ?_
   rintro ⟨g7, rfl⟩
   obtain ⟨gg, rr, hgr⟩ : ∃ g r, chR CD (hadOf (gAll CD (S.take i))) (givOf (gAll CD (S.take i))) (⟨x0, x1, x2, x3, x4, x5⟩ : Bk) = g :: r := List.exists_cons_of_length_pos (by omega)
   obtain ⟨cc, hp, hge⟩ := pick_some hgr
   obtain ⟨hs1, hs2, hs3⟩ := step_some hp
   rw [← hat] at hs1 hs2 hs3
   have hx5 : (chR CD (hadOf (gAll CD (S.take i))) (givOf (gAll CD (S.take i))) (⟨x0, x1, x2, x3, x4, x5⟩ : Bk))[0]? = some (⟨x0, cc.1, cc.2⟩ : Gv) := by rw [hgr, hge]; rfl
   rw [hge] at hgr
   obtain ⟨z1, z2⟩ := cc
   dsimp only at hs1 hs2 hs3 hx5
   refine gd (fun wz => Blk wz g1 199 [.string x0, .string x1, .int .i64 x2, .int .i64 x3, .int .i64 x4, .int .i64 x5] ∧ (SlOld csEnc 2 170 w.heap.size none A0 n0 cs) wz ∧ (SlOld skEnc 2 254 w.heap.size none A1 n1 sl) wz ∧ (SlOld bkEnc 6 199 w.heap.size none A n l) wz ∧ True) mixed (fun _ hm => ⟨hm.bl 0, hm.fa 0, hm.fa 1, hm.fa 2, trivial⟩) fun z => ?_
   refine wt 0 12 1 rfl z (ov_move rfl) ?_
   refine wt 1 12 3 rfl z (ov_loads rz199 rfl (fun _ hm => hm.1) rfl rfl) ?_
   refine wt 4 12 19 rfl z (ov_move rfl) ?_
   refine wt 5 12 51 rfl z (ov_move rfl) ?_
   refine wt 6 12 115 rfl z (ov_index (j := 0) es88 rfl rfl (by omega)) ?_
   refine wa_all [2, 7] (by kernel_rfl) rfl ⟨⟨_, rfl, ?_⟩, ⟨_, rfl, ?_⟩, trivial⟩
   ·refine wl_buildSlice (e := 199) (cs := [.string x0, .string x1, .int .i64 x2, .int .i64 x3, .int .i64 x4, .int .i64 x5]) rfl (by kernel_rfl) rfl fun g2 => ?_
    refine wl_nil ?_
    refine nw 12 119 (fun _ hm => ⟨hm.bl 1, hm.fa 0, hm.fa 1, hm.fa 2, trivial⟩) fun z => ?_
    refine wa_all [3, 7] (by kernel_rfl) rfl ⟨⟨_, rfl, ?_⟩, ⟨_, rfl, ?_⟩, trivial⟩
    ·refine wl_append (news := [.string x0, .string x1, .int .i64 x2, .int .i64 x3, .int .i64 x4, .int .i64 x5]) 1 0 ap84 rfl rfl rfl rfl rfl rfl rfl (by omega) (by unfold maxLen; omega) rfl rfl fun u1 hu1 => ?_
     rw [show (hadOf (gAll CD (S.take i))).flatMap bkEnc ++ ([.string x0, .string x1, .int .i64 x2, .int .i64 x3, .int .i64 x4, .int .i64 x5] : List Value) = (hadOf (gAll CD (S.take (i + 1)))).flatMap bkEnc from by rw [hs1]; simp [bkEnc]]
     refine wl_nil ?_
     refine nw 12 127 (fun _ hm => ⟨hm.bl 1, hm.fa 0, hm.fa 1, hm.fa 2, trivial⟩) fun z => ?_
     refine wa1 7 rfl ?_
     refine wl_ov (ov_elem (vs := [.string x0, .string z1, .int .i64 z2]) rz193 rfl (fun _ hm => (SlT.ofOwn gv_len (hm.ownI 0 rfl) hcn)) hx5 rfl rfl) rfl ?_
     refine wl_nil ?_
     refine nw 12 255 (fun _ hm => ⟨hm.bl 1, hm.fa 0, hm.fa 1, hm.fa 2, trivial⟩) fun z => ?_
     refine wa1 8 rfl ?_
     refine wl_buildSlice (e := 193) (cs := [.string x0, .string z1, .int .i64 z2]) rfl (by kernel_rfl) rfl fun g3 => ?_
     refine wl_nil ?_
     refine nw 12 511 (fun _ hm => ⟨hm.bl 2, hm.fa 0, hm.fa 1, hm.fa 2, trivial⟩) fun z => ?_
     refine wa1 9 rfl ?_
     refine wl_append (news := [.string x0, .string z1, .int .i64 z2]) 2 0 ap88 rfl rfl rfl rfl rfl rfl rfl (by omega) (by unfold maxLen; omega) rfl rfl fun u2 hu2 => ?_
     rw [show (givOf (gAll CD (S.take i))).flatMap gvEnc ++ ([.string x0, .string z1, .int .i64 z2] : List Value) = (givOf (gAll CD (S.take (i + 1)))).flatMap gvEnc from by rw [hs2]; simp [gvEnc]]
     refine wl_nil ?_
     refine nw 12 1023 (fun _ hm => ⟨hm.bl 2, hm.fa 0, hm.fa 1, hm.fa 2, trivial⟩) fun z => ?_
     refine wt 10 12 2047 rfl z (ov_assign rfl) ?_
     refine wt 11 12 4095 rfl z (ov_assign rfl) ?_
     refine wa_done (by kernel_rfl) ?_
     refine nx_blk_nrm (nx_then (gw_region (ad_ rfl rfl (mv_ rfl (wl_nil ?_)))))
     rw [show (leftOf (gAll CD (S.take i))).flatMap sgEnc = (leftOf (gAll CD (S.take (i + 1)))).flatMap sgEnc from by rw [hs3]]
     exact nx_round (i + 1, k + 1, q, u1, u2, v3) ⟨by dsimp only; omega, by dsimp only; rw [hs1]; simp [hhl], by dsimp only; rw [hs2]; simp [hgl], by dsimp only; rw [hs3]; exact hll, by dsimp only; omega, by dsimp only; omega⟩ (by dsimp only; omega) ⟨rfl, rfl, rfl, rfl, rfl, rfl, rfl, rfl, rfl, (some_int (by omega)), trivial⟩ (fun _ hm => hm.pick [] [1, 2, 3, 4] [0, 1, 2] rfl rfl)
    refine wl_ov (ov_elem (vs := [.string x0, .string z1, .int .i64 z2]) rz193 rfl (fun _ hm => (SlT.ofOwn gv_len (hm.ownI 0 rfl) hcn)) hx5 rfl rfl) rfl ?_
    refine wl_nil ?_
    refine nw 12 247 (fun _ hm => ⟨hm.bl 1, hm.fa 0, hm.fa 1, hm.fa 2, trivial⟩) fun z => ?_
    refine wa_all [3, 8] (by kernel_rfl) rfl ⟨⟨_, rfl, ?_⟩, ⟨_, rfl, ?_⟩, trivial⟩
    ·refine wl_append (news := [.string x0, .string x1, .int .i64 x2, .int .i64 x3, .int .i64 x4, .int .i64 x5]) 1 0 ap84 rfl rfl rfl rfl rfl rfl rfl (by omega) (by unfold maxLen; omega) rfl rfl fun u1 hu1 => ?_
     rw [show (hadOf (gAll CD (S.take i))).flatMap bkEnc ++ ([.string x0, .string x1, .int .i64 x2, .int .i64 x3, .int .i64 x4, .int .i64 x5] : List Value) = (hadOf (gAll CD (S.take (i + 1)))).flatMap bkEnc from by rw [hs1]; simp [bkEnc]]
     refine wl_nil ?_
     refine nw 12 255 (fun _ hm => ⟨hm.bl 1, hm.fa 0, hm.fa 1, hm.fa 2, trivial⟩) fun z => ?_
     refine wa1 8 rfl ?_
     refine wl_buildSlice (e := 193) (cs := [.string x0, .string z1, .int .i64 z2]) rfl (by kernel_rfl) rfl fun g4 => ?_
     refine wl_nil ?_
     refine nw 12 511 (fun _ hm => ⟨hm.bl 2, hm.fa 0, hm.fa 1, hm.fa 2, trivial⟩) fun z => ?_
     refine wa1 9 rfl ?_
     refine wl_append (news := [.string x0, .string z1, .int .i64 z2]) 2 0 ap88 rfl rfl rfl rfl rfl rfl rfl (by omega) (by unfold maxLen; omega) rfl rfl fun u2 hu2 => ?_
     rw [show (givOf (gAll CD (S.take i))).flatMap gvEnc ++ ([.string x0, .string z1, .int .i64 z2] : List Value) = (givOf (gAll CD (S.take (i + 1)))).flatMap gvEnc from by rw [hs2]; simp [gvEnc]]
     refine wl_nil ?_
     refine nw 12 1023 (fun _ hm => ⟨hm.bl 2, hm.fa 0, hm.fa 1, hm.fa 2, trivial⟩) fun z => ?_
     refine wt 10 12 2047 rfl z (ov_assign rfl) ?_
     refine wt 11 12 4095 rfl z (ov_assign rfl) ?_
     refine wa_done (by kernel_rfl) ?_
     refine nx_blk_nrm (nx_then (gw_region (ad_ rfl rfl (mv_ rfl (wl_nil ?_)))))
     rw [show (leftOf (gAll CD (S.take i))).flatMap sgEnc = (leftOf (gAll CD (S.take (i + 1)))).flatMap sgEnc from by rw [hs3]]
     exact nx_round (i + 1, k + 1, q, u1, u2, v3) ⟨by dsimp only; omega, by dsimp only; rw [hs1]; simp [hhl], by dsimp only; rw [hs2]; simp [hgl], by dsimp only; rw [hs3]; exact hll, by dsimp only; omega, by dsimp only; omega⟩ (by dsimp only; omega) ⟨rfl, rfl, rfl, rfl, rfl, rfl, rfl, rfl, rfl, (some_int (by omega)), trivial⟩ (fun _ hm => hm.pick [] [1, 2, 3, 4] [0, 1, 2] rfl rfl)
    refine wl_buildSlice (e := 193) (cs := [.string x0, .string z1, .int .i64 z2]) rfl (by kernel_rfl) rfl fun g5 => ?_
    refine wl_nil ?_
    refine nw 12 503 (fun _ hm => ⟨hm.bl 2, hm.fa 0, hm.fa 1, hm.fa 2, trivial⟩) fun z => ?_
    refine wa1 3 rfl ?_
    refine wl_append (news := [.string x0, .string x1, .int .i64 x2, .int .i64 x3, .int .i64 x4, .int .i64 x5]) 1 1 ap84 rfl rfl rfl rfl rfl rfl rfl (by omega) (by unfold maxLen; omega) rfl rfl fun u1 hu1 => ?_
    rw [show (hadOf (gAll CD (S.take i))).flatMap bkEnc ++ ([.string x0, .string x1, .int .i64 x2, .int .i64 x3, .int .i64 x4, .int .i64 x5] : List Value) = (hadOf (gAll CD (S.take (i + 1)))).flatMap bkEnc from by rw [hs1]; simp [bkEnc]]
    refine wl_nil ?_
    refine nw 12 511 (fun _ hm => ⟨hm.bl 2, hm.fa 0, hm.fa 1, hm.fa 2, trivial⟩) fun z => ?_
    refine wa1 9 rfl ?_
    refine wl_append (news := [.string x0, .string z1, .int .i64 z2]) 2 0 ap88 rfl rfl rfl rfl rfl rfl rfl (by omega) (by unfold maxLen; omega) rfl rfl fun u2 hu2 => ?_
    rw [show (givOf (gAll CD (S.take i))).flatMap gvEnc ++ ([.string x0, .string z1, .int .i64 z2] : List Value) = (givOf (gAll CD (S.take (i + 1)))).flatMap gvEnc from by rw [hs2]; simp [gvEnc]]
    refine wl_nil ?_
    refine nw 12 1023 (fun _ hm => ⟨hm.bl 2, hm.fa 0, hm.fa 1, hm.fa 2, trivial⟩) fun z => ?_
    refine wt 10 12 2047 rfl z (ov_assign rfl) ?_
    refine wt 11 12 4095 rfl z (ov_assign rfl) ?_
    refine wa_done (by kernel_rfl) ?_
    refine nx_blk_nrm (nx_then (gw_region (ad_ rfl rfl (mv_ rfl (wl_nil ?_)))))
    rw [show (leftOf (gAll CD (S.take i))).flatMap sgEnc = (leftOf (gAll CD (S.take (i + 1)))).flatMap sgEnc from by rw [hs3]]
    exact nx_round (i + 1, k + 1, q, u1, u2, v3) ⟨by dsimp only; omega, by dsimp only; rw [hs1]; simp [hhl], by dsimp only; rw [hs2]; simp [hgl], by dsimp only; rw [hs3]; exact hll, by dsimp only; omega, by dsimp only; omega⟩ (by dsimp only; omega) ⟨rfl, rfl, rfl, rfl, rfl, rfl, rfl, rfl, rfl, (some_int (by omega)), trivial⟩ (fun _ hm => hm.pick [] [1, 2, 3, 4] [0, 1, 2] rfl rfl)
   refine wl_ov (ov_elem (vs := [.string x0, .string z1, .int .i64 z2]) rz193 rfl (fun _ hm => (SlT.ofOwn gv_len (hm.ownI 0 rfl) hcn)) hx5 rfl rfl) rfl ?_
   refine wl_nil ?_
   refine nw 12 243 (fun _ hm => ⟨hm.bl 0, hm.fa 0, hm.fa 1, hm.fa 2, trivial⟩) fun z => ?_
   refine wa_all [2, 8] (by kernel_rfl) rfl ⟨⟨_, rfl, ?_⟩, ⟨_, rfl, ?_⟩, trivial⟩
   ·refine wl_buildSlice (e := 199) (cs := [.string x0, .string x1, .int .i64 x2, .int .i64 x3, .int .i64 x4, .int .i64 x5]) rfl (by kernel_rfl) rfl fun g6 => ?_
    refine wl_nil ?_
    refine nw 12 247 (fun _ hm => ⟨hm.bl 1, hm.fa 0, hm.fa 1, hm.fa 2, trivial⟩) fun z => ?_
    refine wa_all [3, 8] (by kernel_rfl) rfl ⟨⟨_, rfl, ?_⟩, ⟨_, rfl, ?_⟩, trivial⟩
    ·refine wl_append (news := [.string x0, .string x1, .int .i64 x2, .int .i64 x3, .int .i64 x4, .int .i64 x5]) 1 0 ap84 rfl rfl rfl rfl rfl rfl rfl (by omega) (by unfold maxLen; omega) rfl rfl fun u1 hu1 => ?_
     rw [show (hadOf (gAll CD (S.take i))).flatMap bkEnc ++ ([.string x0, .string x1, .int .i64 x2, .int .i64 x3, .int .i64 x4, .int .i64 x5] : List Value) = (hadOf (gAll CD (S.take (i + 1)))).flatMap bkEnc from by rw [hs1]; simp [bkEnc]]
     refine wl_nil ?_
     refine nw 12 255 (fun _ hm => ⟨hm.bl 1, hm.fa 0, hm.fa 1, hm.fa 2, trivial⟩) fun z => ?_
     refine wa1 8 rfl ?_
     refine wl_buildSlice (e := 193) (cs := [.string x0, .string z1, .int .i64 z2]) rfl (by kernel_rfl) rfl fun g7 => ?_
     refine wl_nil ?_
     refine nw 12 511 (fun _ hm => ⟨hm.bl 2, hm.fa 0, hm.fa 1, hm.fa 2, trivial⟩) fun z => ?_
     refine wa1 9 rfl ?_
     refine wl_append (news := [.string x0, .string z1, .int .i64 z2]) 2 0 ap88 rfl rfl rfl rfl rfl rfl rfl (by omega) (by unfold maxLen; omega) rfl rfl fun u2 hu2 => ?_
     rw [show (givOf (gAll CD (S.take i))).flatMap gvEnc ++ ([.string x0, .string z1, .int .i64 z2] : List Value) = (givOf (gAll CD (S.take (i + 1)))).flatMap gvEnc from by rw [hs2]; simp [gvEnc]]
     refine wl_nil ?_
     refine nw 12 1023 (fun _ hm => ⟨hm.bl 2, hm.fa 0, hm.fa 1, hm.fa 2, trivial⟩) fun z => ?_
     refine wt 10 12 2047 rfl z (ov_assign rfl) ?_
     refine wt 11 12 4095 rfl z (ov_assign rfl) ?_
     refine wa_done (by kernel_rfl) ?_
     refine nx_blk_nrm (nx_then (gw_region (ad_ rfl rfl (mv_ rfl (wl_nil ?_)))))
     rw [show (leftOf (gAll CD (S.take i))).flatMap sgEnc = (leftOf (gAll CD (S.take (i + 1)))).flatMap sgEnc from by rw [hs3]]
     exact nx_round (i + 1, k + 1, q, u1, u2, v3) ⟨by dsimp only; omega, by dsimp only; rw [hs1]; simp [hhl], by dsimp only; rw [hs2]; simp [hgl], by dsimp only; rw [hs3]; exact hll, by dsimp only; omega, by dsimp only; omega⟩ (by dsimp only; omega) ⟨rfl, rfl, rfl, rfl, rfl, rfl, rfl, rfl, rfl, (some_int (by omega)), trivial⟩ (fun _ hm => hm.pick [] [1, 2, 3, 4] [0, 1, 2] rfl rfl)
    refine wl_buildSlice (e := 193) (cs := [.string x0, .string z1, .int .i64 z2]) rfl (by kernel_rfl) rfl fun g8 => ?_
    refine wl_nil ?_
    refine nw 12 503 (fun _ hm => ⟨hm.bl 2, hm.fa 0, hm.fa 1, hm.fa 2, trivial⟩) fun z => ?_
    refine wa1 3 rfl ?_
    refine wl_append (news := [.string x0, .string x1, .int .i64 x2, .int .i64 x3, .int .i64 x4, .int .i64 x5]) 1 1 ap84 rfl rfl rfl rfl rfl rfl rfl (by omega) (by unfold maxLen; omega) rfl rfl fun u1 hu1 => ?_
    rw [show (hadOf (gAll CD (S.take i))).flatMap bkEnc ++ ([.string x0, .string x1, .int .i64 x2, .int .i64 x3, .int .i64 x4, .int .i64 x5] : List Value) = (hadOf (gAll CD (S.take (i + 1)))).flatMap bkEnc from by rw [hs1]; simp [bkEnc]]
    refine wl_nil ?_
    refine nw 12 511 (fun _ hm => ⟨hm.bl 2, hm.fa 0, hm.fa 1, hm.fa 2, trivial⟩) fun z => ?_
    refine wa1 9 rfl ?_
    refine wl_append (news := [.string x0, .string z1, .int .i64 z2]) 2 0 ap88 rfl rfl rfl rfl rfl rfl rfl (by omega) (by unfold maxLen; omega) rfl rfl fun u2 hu2 => ?_
    rw [show (givOf (gAll CD (S.take i))).flatMap gvEnc ++ ([.string x0, .string z1, .int .i64 z2] : List Value) = (givOf (gAll CD (S.take (i + 1)))).flatMap gvEnc from by rw [hs2]; simp [gvEnc]]
    refine wl_nil ?_
    refine nw 12 1023 (fun _ hm => ⟨hm.bl 2, hm.fa 0, hm.fa 1, hm.fa 2, trivial⟩) fun z => ?_
    refine wt 10 12 2047 rfl z (ov_assign rfl) ?_
    refine wt 11 12 4095 rfl z (ov_assign rfl) ?_
    refine wa_done (by kernel_rfl) ?_
    refine nx_blk_nrm (nx_then (gw_region (ad_ rfl rfl (mv_ rfl (wl_nil ?_)))))
    rw [show (leftOf (gAll CD (S.take i))).flatMap sgEnc = (leftOf (gAll CD (S.take (i + 1)))).flatMap sgEnc from by rw [hs3]]
    exact nx_round (i + 1, k + 1, q, u1, u2, v3) ⟨by dsimp only; omega, by dsimp only; rw [hs1]; simp [hhl], by dsimp only; rw [hs2]; simp [hgl], by dsimp only; rw [hs3]; exact hll, by dsimp only; omega, by dsimp only; omega⟩ (by dsimp only; omega) ⟨rfl, rfl, rfl, rfl, rfl, rfl, rfl, rfl, rfl, (some_int (by omega)), trivial⟩ (fun _ hm => hm.pick [] [1, 2, 3, 4] [0, 1, 2] rfl rfl)
   refine wl_buildSlice (e := 193) (cs := [.string x0, .string z1, .int .i64 z2]) rfl (by kernel_rfl) rfl fun g9 => ?_
   refine wl_nil ?_
   refine nw 12 499 (fun _ hm => ⟨hm.bl 1, hm.fa 0, hm.fa 1, hm.fa 2, trivial⟩) fun z => ?_
   refine wa1 2 rfl ?_
   refine wl_buildSlice (e := 199) (cs := [.string x0, .string x1, .int .i64 x2, .int .i64 x3, .int .i64 x4, .int .i64 x5]) rfl (by kernel_rfl) rfl fun g10 => ?_
   refine wl_nil ?_
   refine nw 12 503 (fun _ hm => ⟨hm.bl 2, hm.fa 0, hm.fa 1, hm.fa 2, trivial⟩) fun z => ?_
   refine wa1 3 rfl ?_
   refine wl_append (news := [.string x0, .string x1, .int .i64 x2, .int .i64 x3, .int .i64 x4, .int .i64 x5]) 1 0 ap84 rfl rfl rfl rfl rfl rfl rfl (by omega) (by unfold maxLen; omega) rfl rfl fun u1 hu1 => ?_
   rw [show (hadOf (gAll CD (S.take i))).flatMap bkEnc ++ ([.string x0, .string x1, .int .i64 x2, .int .i64 x3, .int .i64 x4, .int .i64 x5] : List Value) = (hadOf (gAll CD (S.take (i + 1)))).flatMap bkEnc from by rw [hs1]; simp [bkEnc]]
   refine wl_nil ?_
   refine nw 12 511 (fun _ hm => ⟨hm.bl 2, hm.fa 0, hm.fa 1, hm.fa 2, trivial⟩) fun z => ?_
   refine wa1 9 rfl ?_
   refine wl_append (news := [.string x0, .string z1, .int .i64 z2]) 2 1 ap88 rfl rfl rfl rfl rfl rfl rfl (by omega) (by unfold maxLen; omega) rfl rfl fun u2 hu2 => ?_
   rw [show (givOf (gAll CD (S.take i))).flatMap gvEnc ++ ([.string x0, .string z1, .int .i64 z2] : List Value) = (givOf (gAll CD (S.take (i + 1)))).flatMap gvEnc from by rw [hs2]; simp [gvEnc]]
   refine wl_nil ?_
   refine nw 12 1023 (fun _ hm => ⟨hm.bl 2, hm.fa 0, hm.fa 1, hm.fa 2, trivial⟩) fun z => ?_
   refine wt 10 12 2047 rfl z (ov_assign rfl) ?_
   refine wt 11 12 4095 rfl z (ov_assign rfl) ?_
   refine wa_done (by kernel_rfl) ?_
   refine nx_blk_nrm (nx_then (gw_region (ad_ rfl rfl (mv_ rfl (wl_nil ?_)))))
   rw [show (leftOf (gAll CD (S.take i))).flatMap sgEnc = (leftOf (gAll CD (S.take (i + 1)))).flatMap sgEnc from by rw [hs3]]
   exact nx_round (i + 1, k + 1, q, u1, u2, v3) ⟨by dsimp only; omega, by dsimp only; rw [hs1]; simp [hhl], by dsimp only; rw [hs2]; simp [hgl], by dsimp only; rw [hs3]; exact hll, by dsimp only; omega, by dsimp only; omega⟩ (by dsimp only; omega) ⟨rfl, rfl, rfl, rfl, rfl, rfl, rfl, rfl, rfl, (some_int (by omega)), trivial⟩ (fun _ hm => hm.pick [] [1, 2, 3, 4] [0, 1, 2] rfl rfl)
  have hn5 : ¬ (0 < ((n5 : Nat) : Int)) := by simpa using hh
  clear hh
  refine gw_region ?_
  have hn50 : chR CD (hadOf (gAll CD (S.take i))) (givOf (gAll CD (S.take i))) (⟨x0, x1, x2, x3, x4, x5⟩ : Bk) = [] := List.length_eq_zero_iff.1 (by omega)
  obtain ⟨hs1, hs2, hs3⟩ := step_none (pick_none hn50)
  rw [← hat] at hs1 hs2 hs3
  dsimp only at hs3
  refine mv_ rfl (fd_ fo199_0 rfl rfl (lk_ sc9 0 rfl rfl rfl ?_))
  refine wl_buildSlice (e := 9) (cs := [.string x0]) rfl (by kernel_rfl) rfl fun g11 => ?_
  refine wl_append (news := [.string x0]) 3 0 ap112 rfl rfl rfl rfl rfl rfl rfl (by omega) (by unfold maxLen; omega) rfl rfl fun u3 hu3 => ?_
  rw [show (leftOf (gAll CD (S.take i))).flatMap sgEnc ++ ([.string x0] : List Value) = (leftOf (gAll CD (S.take (i + 1)))).flatMap sgEnc from by rw [hs3]; simp [sgEnc]]
  rw [show (hadOf (gAll CD (S.take i))).flatMap bkEnc = (hadOf (gAll CD (S.take (i + 1)))).flatMap bkEnc from by rw [hs1], show (givOf (gAll CD (S.take i))).flatMap gvEnc = (givOf (gAll CD (S.take (i + 1)))).flatMap gvEnc from by rw [hs2]]
  refine sg_ rfl (wl_nil (nx_blk_nrm (nx_then (gw_region (ad_ rfl rfl (mv_ rfl (wl_nil ?_)))))))
  exact nx_round (i + 1, k, q + 1, .slice H k hc, .slice G k gc, u3) ⟨by dsimp only; omega, by dsimp only; rw [hs1]; exact hhl, by dsimp only; rw [hs2]; exact hgl, by dsimp only; rw [hs3]; simp [hll], by dsimp only; omega, by dsimp only; omega⟩ (by dsimp only; omega) ⟨rfl, rfl, rfl, rfl, rfl, rfl, rfl, rfl, rfl, (some_int (by omega)), trivial⟩ (fun _ hm => hm.pick [] [1, 2, 3, 4] [0, 1, 2] rfl rfl)
 have hi : ¬ (((i : Nat) : Int) < ((n : Nat) : Int)) := by simpa using hh
 clear hh
 refine gw_exit ?_
 refine nx_then_exit (nx_then_exit ?_)
 refine nx_blk_here ?_
 refine nx_then (sr_ ?_)
 have hall : S.take i = S := List.take_of_length_le (by omega)
 rw [hall] at hhl hgl hll ⊢
 refine wl_look (R := ∃ A cc, v2 = .slice A k cc) (fun wx hm => own_slice (hm.ownI 1 rfl)) ?_
 rintro ⟨G, gc, rfl⟩
 refine wl_look (R := ∃ A cc, v3 = .slice A q cc) (fun wx hm => own_slice (hm.ownI 2 rfl)) ?_
 rintro ⟨Lf, lc, rfl⟩
 refine mv_ rfl ?_
 by_cases h0giv : k = 0
 ·refine wl_callv (v := .tuple #[]) rfl cb141 rfl rfl (fun wx hm => (by subst h0giv; exact sort0_gv G gc wx)) ?_
  rw [show (givOf (gAll CD S)).flatMap gvEnc = (isort gvLt (givOf (gAll CD S))).flatMap gvEnc from by rw [List.length_eq_zero_iff.1 (hgl.trans h0giv)]; rfl]
  refine nn_ (sr_ (mv_ rfl ?_))
  by_cases h0left : q = 0
  ·refine wl_callv (v := .tuple #[]) rfl cb223 rfl rfl (fun wx hm => (by subst h0left; exact sort0_so Lf lc wx)) ?_
   rw [show (leftOf (gAll CD S)).flatMap sgEnc = (isort bsLt (leftOf (gAll CD S))).flatMap sgEnc from by rw [List.length_eq_zero_iff.1 (hll.trans h0left)]; rfl]
   refine nn_ (sr_ (mv_ rfl (mv_ rfl (sg_ rfl (sg_ rfl (nn_ ?_))))))
   refine gw_ret ?_
   refine nx_ret2 rfl rfl rfl fun wx hm => ?_
   exact ⟨_, k, _, _, q, _, rfl, (hm.ownI 1 rfl), (by rw [isort_len]; exact hgl), SlT.ofOwn sg_len (hm.ownI 2 rfl) (by rw [isort_len]; exact hll), by omega, by omega, hm.g⟩
  refine wl_look (R := ∃ g, Lf = some ⟨g, 0, none⟩) (fun wx hm => own_addr (hm.ownI 2 rfl) (by omega)) ?_
  rintro ⟨g9, rfl⟩
  refine wl_callr (v := .tuple #[]) (xs' := (isort bsLt (leftOf (gAll CD S))).flatMap sgEnc) 2 rfl rfl rfl cb223 rfl rfl (fun wx hm => sort_so (leftOf (gAll CD S)) g9 q lc _ wx (hm.ownI 2 rfl) hll (by omega)) ?_
  refine nn_ (sr_ (mv_ rfl (mv_ rfl (sg_ rfl (sg_ rfl (nn_ ?_))))))
  refine gw_ret ?_
  refine nx_ret2 rfl rfl rfl fun wx hm => ?_
  exact ⟨_, k, _, _, q, _, rfl, (hm.ownI 1 rfl), (by rw [isort_len]; exact hgl), SlT.ofOwn sg_len (hm.ownI 2 rfl) (by rw [isort_len]; exact hll), by omega, by omega, hm.g⟩
 refine wl_look (R := ∃ g, G = some ⟨g, 0, none⟩) (fun wx hm => own_addr (hm.ownI 1 rfl) (by omega)) ?_
 rintro ⟨g8, rfl⟩
 refine wl_callr (v := .tuple #[]) (xs' := (isort gvLt (givOf (gAll CD S))).flatMap gvEnc) 1 rfl rfl rfl cb141 rfl rfl (fun wx hm => sort_gv (givOf (gAll CD S)) g8 k gc _ wx (hm.ownI 1 rfl) hgl (by omega)) ?_
 refine nn_ (sr_ (mv_ rfl ?_))
 by_cases h0left : q = 0
 ·refine wl_callv (v := .tuple #[]) rfl cb223 rfl rfl (fun wx hm => (by subst h0left; exact sort0_so Lf lc wx)) ?_
  rw [show (leftOf (gAll CD S)).flatMap sgEnc = (isort bsLt (leftOf (gAll CD S))).flatMap sgEnc from by rw [List.length_eq_zero_iff.1 (hll.trans h0left)]; rfl]
  refine nn_ (sr_ (mv_ rfl (mv_ rfl (sg_ rfl (sg_ rfl (nn_ ?_))))))
  refine gw_ret ?_
  refine nx_ret2 rfl rfl rfl fun wx hm => ?_
  exact ⟨_, k, _, _, q, _, rfl, (hm.ownI 1 rfl), (by rw [isort_len]; exact hgl), SlT.ofOwn sg_len (hm.ownI 2 rfl) (by rw [isort_len]; exact hll), by omega, by omega, hm.g⟩
 refine wl_look (R := ∃ g, Lf = some ⟨g, 0, none⟩) (fun wx hm => own_addr (hm.ownI 2 rfl) (by omega)) ?_
 rintro ⟨g9, rfl⟩
 refine wl_callr (v := .tuple #[]) (xs' := (isort bsLt (leftOf (gAll CD S))).flatMap sgEnc) 2 rfl rfl rfl cb223 rfl rfl (fun wx hm => sort_so (leftOf (gAll CD S)) g9 q lc _ wx (hm.ownI 2 rfl) hll (by omega)) ?_
 refine nn_ (sr_ (mv_ rfl (mv_ rfl (sg_ rfl (sg_ rfl (nn_ ?_))))))
 refine gw_ret ?_
 refine nx_ret2 rfl rfl rfl fun wx hm => ?_
 exact ⟨_, k, _, _, q, _, rfl, (hm.ownI 1 rfl), (by rw [isort_len]; exact hgl), SlT.ofOwn sg_len (hm.ownI 2 rfl) (by rw [isort_len]; exact hll), by omega, by omega, hm.g⟩
end Go.Proofs.YtnpcbfllnkiopaaGreatDoor
