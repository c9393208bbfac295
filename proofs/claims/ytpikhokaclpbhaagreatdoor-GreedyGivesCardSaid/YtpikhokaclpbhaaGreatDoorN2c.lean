/- Several texts as one: Gi Srt Gq Sl Sk Stc Bt Gu Gl Go Gov Gow Cells Lst Mp Md Ev Yp Gox Goy Bv Goa Goz Fw Fx Fz Gf Gst Lop LopA LopB Win LopC Sq Sn Ix Sr Gg Goq Goe Rn Wn God Az Gob Gos Gck -/
import Derived.Test.YtpikhokaclpbhaaGreatDoorN2b
import Derived.Test.YtpikhokaclpbhaaGreatDoorN2a
import Derived.Test.YtpikhokaclpbhaaGreatDoorProg
import Derived.Ground.NamesProg
import Derived.Shelf.Small.Bits
import Derived.Shelf.Small.Strs
import Derived.Laws.BitsLemmas
import Derived.Laws.Shifts
import Derived.Deep.LoopGhost
import Derived.Deep.DeepCutAuto
import Derived.Maps.Own
import Derived.MapKept
import Derived.StillTailTactics
import Derived.Laws.Concat
import Derived.Lib.AppendZeros
import Derived.OneCell
set_option maxRecDepth 100000
set_option maxHeartbeats 4000000
namespace Go.Proofs.YtpikhokaclpbhaaGreatDoor
open Go.RowKit
/-- Whether two times have a moment in common. -/
def meetW (a b c d : Int) : Bool := decide (a < d) && decide (c < b)
def meetB (x y : Bk) : Bool := meetW x.fr x.to_ y.fr y.to_
def sgnI (z : Int) : Int := if z < 0 then -1 else if 0 < z then 1 else 0
theorem sgn_cmp (a b : Int) : sgnI (a - b) = cmpI a b := by
  unfold sgnI cmpI
  by_cases h1 : a < b
  · rw [if_pos (by omega), if_pos h1]
  · by_cases h2 : b < a
    · rw [if_neg (by omega), if_pos (by omega), if_neg h1, if_pos h2]
    · rw [if_neg (by omega), if_neg (by omega), if_neg h1, if_neg h2]
theorem meet_any (a b c d : Int) (w : World) :
  Calls Tryz.prog 128 #[.agg #[.int .i64 a, .int .i64 b], .agg #[.int .i64 c, .int .i64 d]] w (fun e w' => e = .returned (.bool (meetW a b c d)) ∧ w.grownBy w' none) := by
 refine gw_enter ⟨17, w, none, []⟩ Tryz.func128 rfl Tryz.ntmps128 rfl (mem0 (X := []) allF_nil allL_nil) ?_
 refine sr_ ?_
 refine wl_box rfl rfl rfl fun g1 => ?_
 refine wl_box rfl rfl rfl fun g2 => ?_
 refine sg_ rfl (nn_ (sr_ (fd_ fo62_0 rfl rfl (lk_ sc3 1 rfl rfl rfl (fd_ fo62_1 rfl rfl (lk_ sc3 0 rfl rfl rfl (wl_ov (ov_lss rfl rfl) rfl (mv_ rfl ?_))))))))
 rcases Bool.eq_false_or_eq_true (decide (a < d)) with h1 | h1
 ·refine wl_set 10 rfl (congrArg Value.bool h1) ?_
  refine wl_guard_on rfl rfl rfl (fd_ fo62_0 rfl rfl (wl_guard_on rfl rfl rfl (lk_ sc3 0 rfl rfl rfl (wl_guard_on rfl rfl rfl (fd_ fo62_1 rfl rfl (wl_guard_on rfl rfl rfl (lk_ sc3 1 rfl rfl rfl (wl_guard_on rfl rfl rfl (wl_ov (ov_lss rfl rfl) rfl (pt_ rfl rfl (sg_ rfl (nn_ ?_))))))))))))
  refine gw_ret ?_
  refine nx_ret1 rfl rfl fun wx hm => ?_
  exact ⟨by unfold meetW; simp [h1], hm.g⟩
 refine wl_set 10 rfl (congrArg Value.bool h1) ?_
 refine goff rfl rfl rfl (goff rfl rfl rfl (goff rfl rfl rfl (goff rfl rfl rfl (goff rfl rfl rfl (pf_ rfl rfl (sg_ rfl (nn_ ?_)))))))
 refine gw_ret ?_
 refine nx_ret1 rfl rfl fun wx hm => ?_
 exact ⟨by unfold meetW; simp [h1], hm.g⟩
theorem rmeet_any (a b c d : Int) (w : World) (hab : a < b) (hcd : c < d) :
  Calls Tryz.prog 209 #[.agg #[.int .i64 a, .int .i64 b], .agg #[.int .i64 c, .int .i64 d]] w (fun e w' => e = .returned (.bool (meetW a b c d)) ∧ w.grownBy w' none) := by
 refine gw_enter ⟨16, w, none, []⟩ Tryz.func209 rfl Tryz.ntmps209 rfl (mem0 (X := []) allF_nil allL_nil) ?_
 refine sr_ ?_
 refine wl_box rfl rfl rfl fun g1 => ?_
 refine wl_box rfl rfl rfl fun g2 => ?_
 refine sg_ rfl (nn_ (sr_ (fd_ fo62_0 rfl rfl (lk_ sc3 1 rfl rfl rfl (fd_ fo62_0 rfl rfl (lk_ sc3 0 rfl rfl rfl ?_))))))
 refine wl_ov (ov_max rfl rfl) rfl ?_
 refine fd_ fo62_1 rfl rfl (lk_ sc3 1 rfl rfl rfl (fd_ fo62_1 rfl rfl (lk_ sc3 0 rfl rfl rfl ?_)))
 refine wl_ov (ov_min rfl rfl) rfl ?_
 refine wl_ov (ov_lss rfl rfl) rfl (sg_ rfl (nn_ ?_))
 refine gw_ret ?_
 refine nx_ret1 rfl rfl fun wx hm => ?_
 refine ⟨?_, hm.g⟩
 refine congrArg (fun z => Ending.returned (.bool z)) ?_
 unfold meetW
 rw [Bool.eq_iff_iff]
 simp only [Bool.and_eq_true, decide_eq_true_eq]
 omega
theorem sign_any (z : Int) (w : World) : Calls Tryz.prog 135 #[.int .i64 z] w (fun e w' => e = .returned (.int .i64 (sgnI z)) ∧ w.grownBy w' none) := by
 refine gw_enter ⟨9, w, none, []⟩ Tryz.func135 rfl Tryz.ntmps135 rfl (mem0 (X := []) allF_nil allL_nil) ?_
 refine sr_ (sg_ rfl (nn_ (gw_seq (gw_block (sr_ (mv_ rfl (wl_ov (ov_lss rfl rfl) rfl (sg_ rfl (nn_ ?_)))))))))
 refine gw_cond rfl (fun hh => ?_) (fun hh => ?_)
 ·have h1 : z < 0 := by simpa using hh
  clear hh
  refine sr_ (sg_ rfl ?_)
  refine wl_set 2 (v' := .int .i64 (-1)) rfl rfl ?_
  refine nn_ ?_
  refine gw_ret ?_
  refine nx_blk_ret (nx_then_ret ?_)
  refine nx_ret1 rfl rfl fun wx hm => ?_
  exact ⟨by unfold sgnI; rw [if_pos h1], hm.g⟩
 have h1 : ¬ (z < 0) := by simpa using hh
 clear hh
 refine sr_ (mv_ rfl ?_)
 refine wl_ov (ov_gtr rfl rfl) rfl ?_
 refine sg_ rfl (nn_ ?_)
 refine gw_cond rfl (fun hh => ?_) (fun hh => ?_)
 ·have h2 : 0 < z := by simpa using hh
  clear hh
  refine sr_ (sg_ rfl (nn_ ?_))
  refine gw_ret ?_
  refine nx_blk_ret (nx_then_ret ?_)
  refine nx_ret1 rfl rfl fun wx hm => ?_
  exact ⟨by unfold sgnI; rw [if_neg (by omega), if_pos (by omega)], hm.g⟩
 have h2 : ¬ (0 < z) := by simpa using hh
 clear hh
 refine gw_skip (nx_blk_nrm (nx_then (sr_ (sg_ rfl (nn_ ?_)))))
 refine gw_ret ?_
 refine nx_ret1 rfl rfl fun wx hm => ?_
 exact ⟨by unfold sgnI; rw [if_neg (by omega), if_neg (by omega)], hm.g⟩
theorem greedy1_any (k1 c1 k2 c2 : ByteArray) (f1 t1 m1 o1 f2 t2 m2 o2 : Int) (w : World) (hb : -1000000000000 ≤ f1 ∧ f1 ≤ 1000000000000) (hb2 : -1000000000000 ≤ f2 ∧ f2 ≤ 1000000000000) :
  Calls Tryz.prog 134 #[.agg #[.string k1, .string c1, .int .i64 f1, .int .i64 t1, .int .i64 m1, .int .i64 o1], .agg #[.string k2, .string c2, .int .i64 f2, .int .i64 t2, .int .i64 m2, .int .i64 o2]] w (fun e w' => e = .returned (.int .i64 (cmpI f1 f2)) ∧ w.grownBy w' none) := by
 refine gw_enter ⟨13, w, none, []⟩ Tryz.func134 rfl Tryz.ntmps134 rfl (mem0 (X := []) allF_nil allL_nil) ?_
 refine sr_ ?_
 refine wl_box rfl rfl rfl fun g1 => ?_
 refine wl_box rfl rfl rfl fun g2 => ?_
 refine sg_ rfl (nn_ (sr_ (fd_ fo181_2 rfl rfl (fd_ fo62_0 rfl rfl (lk_ sc3 1 rfl rfl rfl (fd_ fo181_2 rfl rfl (fd_ fo62_0 rfl rfl (lk_ sc3 0 rfl rfl rfl ?_))))))))
 refine wl_ov (ov_sub rfl rfl (by omega) (by omega)) rfl ?_
 refine wl_callv rfl cb135 rfl rfl (fun wx hm => (sign_any (f1 - f2) wx)) ?_
 refine sg_ rfl (nn_ ?_)
 refine gw_ret ?_
 refine nx_ret1 rfl rfl fun wx hm => ?_
 exact ⟨by rw [sgn_cmp], hm.g⟩
end Go.Proofs.YtpikhokaclpbhaaGreatDoor
namespace Go.Proofs.YtpikhokaclpbhaaGreatDoor
open Go.RowKit
section
variable {α : Type}
def sink (lt : α → α → Bool) : Nat → List α → List α
  | 0, l => l
  | j + 1, l => match l[j + 1]?, l[j]? with
    | some x, some y => if lt x y then sink lt j ((l.set (j + 1) y).set j x) else l
    | _, _ => l
def isortF (lt : α → α → Bool) : Nat → Nat → List α → List α
  | 0, _, l => l
  | f + 1, i, l => isortF lt f (i + 1) (sink lt i l)
def isort (lt : α → α → Bool) (l : List α) : List α := isortF lt (l.length - 1) 1 l
theorem sink_yes {lt : α → α → Bool} {j : Nat} {l : List α} {x y : α} (hx : l[j + 1]? = some x) (hy : l[j]? = some y) (h : lt x y = true) : sink lt (j + 1) l = sink lt j ((l.set (j + 1) y).set j x) := by
  simp only [sink, hx, hy, h, if_true]
theorem sink_no {lt : α → α → Bool} {j : Nat} {l : List α} {x y : α} (hx : l[j + 1]? = some x) (hy : l[j]? = some y) (h : lt x y = false) : sink lt (j + 1) l = l := by
  simp only [sink, hx, hy, h, Bool.false_eq_true, if_false]
theorem sink_len (lt : α → α → Bool) : ∀ (j : Nat) (l : List α), (sink lt j l).length = l.length
  | 0, _ => rfl
  | j + 1, l => by
    unfold sink
    split
    · split
      · rw [sink_len lt j]; simp
      · rfl
    · rfl
theorem isortF_len (lt : α → α → Bool) : ∀ (f i : Nat) (l : List α), (isortF lt f i l).length = l.length
  | 0, _, _ => rfl
  | f + 1, i, l => by
    unfold isortF
    rw [isortF_len lt f, sink_len]
theorem isort_len (lt : α → α → Bool) (l : List α) : (isort lt l).length = l.length := isortF_len lt _ _ _
theorem swap_perm {l : List α} {j : Nat} {x y : α} (hx : l[j + 1]? = some x) (hy : l[j]? = some y) : ((l.set (j + 1) y).set j x).Perm l := by
  obtain ⟨h1, rfl⟩ := List.getElem?_eq_some_iff.1 hx
  obtain ⟨h2, rfl⟩ := List.getElem?_eq_some_iff.1 hy
  have e : l = l.take j ++ l[j] :: l[j + 1] :: l.drop (j + 2) := by
    conv => lhs; rw [← List.take_append_drop j l, List.drop_eq_getElem_cons h2, List.drop_eq_getElem_cons h1]
  have hl : (l.take j).length = j := by simp; omega
  have e2 : (l.set (j + 1) l[j]).set j l[j + 1] = l.take j ++ l[j + 1] :: l[j] :: l.drop (j + 2) := by
    refine List.ext_getElem? fun k => ?_
    rw [List.getElem?_set, List.length_set, List.getElem?_set]
    rcases Nat.lt_trichotomy k j with hk | rfl | hk
    · rw [if_neg (by omega), if_neg (by omega), List.getElem?_append_left (by rw [hl]; exact hk), List.getElem?_take, if_pos hk]
    · rw [if_pos rfl, if_pos h2, List.getElem?_append_right (by omega), hl, Nat.sub_self]; rfl
    · rw [if_neg (by omega), List.getElem?_append_right (by omega), hl]
      rcases Nat.lt_trichotomy k (j + 1) with h3 | rfl | h3
      · omega
      · rw [if_pos rfl, if_pos h1, show j + 1 - j = 1 by omega]; rfl
      · rw [if_neg (by omega), show k - j = (k - (j + 2)) + 2 by omega]
        simp only [List.getElem?_cons_succ, List.getElem?_drop]
        congr 1; omega
  rw [e2]
  conv => rhs; rw [e]
  exact List.Perm.append_left _ (List.Perm.swap _ _ _)
theorem sink_perm (lt : α → α → Bool) : ∀ (j : Nat) (l : List α), (sink lt j l).Perm l
  | 0, _ => List.Perm.refl _
  | j + 1, l => by
    unfold sink
    split
    · rename_i x y hx hy
      split
      · exact (sink_perm lt j _).trans (swap_perm hx hy)
      · exact List.Perm.refl _
    · exact List.Perm.refl _
theorem isortF_perm (lt : α → α → Bool) : ∀ (f i : Nat) (l : List α), (isortF lt f i l).Perm l
  | 0, _, _ => List.Perm.refl _
  | f + 1, i, l => (isortF_perm lt f (i + 1) _).trans (sink_perm lt i l)
theorem isort_perm (lt : α → α → Bool) (l : List α) : (isort lt l).Perm l := isortF_perm lt _ _ _
theorem mem_in {lt : α → α → Bool} {l0 R S m : List α} {f i j : Nat} (hR : R = isort lt l0) (hF : isortF lt f i S = R) (hS : sink lt j m = S) {z : α} (hz : z ∈ m) : z ∈ l0 := by
  have h1 : z ∈ S := by rw [← hS]; exact (sink_perm lt j m).mem_iff.2 hz
  have h2 : z ∈ R := by rw [← hF]; exact (isortF_perm lt f i S).mem_iff.2 h1
  rw [hR] at h2
  exact (isort_perm lt l0).mem_iff.1 h2
theorem isort_mem {lt : α → α → Bool} {l : List α} {x : α} : x ∈ isort lt l ↔ x ∈ l := (isort_perm lt l).mem_iff
end
section
variable {P : Program} {c : Cx} {ops : Array Oper} {Q : Exit → Act → World → Prop} {rest : List Oper} {S : List (Nat × Value)} {K : World → Prop} {L : List (Nat × TypeId × List Value)} {O : List Own} {X : List (World → Prop)} {d : Nat} {ty : TypeId} {pos : String} {aft : Array Edge}
theorem memR {n0 : Nat} {Tt : List TypeId} {w : World} {base : Nat} {e : TypeId} {sz n cap g : Nat} {xs : List Value} (hS : w.ownsRow base e sz (.slice (some ⟨g, 0, none⟩) n cap) n xs) (hX : ∀ A ∈ X, A w) (hl : ∀ A ∈ X, Lasts2 w.heap.size (some g) Tt A) : Mem ⟨n0, w, some g, Tt⟩ (RowK base e sz n cap g xs) [] [] X w :=
  have hS2 : RowK base e sz n cap g xs w := hS
  ⟨World.grownBy.refl _ _, hS2, (fun _ hx => by cases hx), List.Pairwise.nil, (fun _ hx => by cases hx), (fun _ hx => by cases hx), List.Pairwise.nil, hX, RowK.keeps hS2.lt.2, hl, (fun _ hr => by cases hr; exact hS2.lt.2)⟩
/-- The row has turned. -/
theorem Mem.turned {base g n cap sz : Nat} {e : TypeId} {xs xs' : List Value} {w w' : World} (h : Mem c (RowK base e sz n cap g xs) L O X w) (hrow : c.row = some g) (hT : c.Tt.contains e = false) (hown : w'.ownsRow base e sz (.slice (some ⟨g, 0, none⟩) n cap) n xs') (hg : w.grownBy w' (some g)) : Mem c (RowK base e sz n cap g xs') L O X w' := by
  have hlt0 := h.rs g hrow
  have hk : w.ownsRow base e sz (.slice (some ⟨g, 0, none⟩) n cap) n xs := h.k
  obtain ⟨cells, hcells⟩ : ∃ cells, w.heap[g]? = some (.cells cells e (0, 0)) := by
    rcases hk.2 with ⟨h1, _⟩ | ⟨g', cap', cur, h1, _, h2, _⟩
    · cases h1
    · injection h1 with h1 _ _
      injection h1 with h1
      injection h1 with h1 _ _
      subst h1
      exact ⟨_, h2⟩
  refine ⟨grow_trans h.g (hrow ▸ hg), hown, fun x hx => ⟨(h.b x hx).1, (h.b x hx).2.grown hg (fun e => ?_)⟩, h.nd, fun r hr => (h.o r hr).kept hg ?_, h.od, h.oo, fun A hA => ?_, RowK.keeps hlt0, h.l, h.rs⟩
  · have := (h.b x hx).1; injection e with e; omega
  · cases hv : r.v.ownBlock with
    | none => exact .inl rfl
    | some g' => exact .inr (fun e => by have := ((h.o r hr).lt g' hv).1; injection e with e; omega)
  · exact (h.l A hA).st w _ g e cells hcells (fun e => by simp [e] at hT) (.inr hrow) hg (h.x A hA)
theorem wl_storesRow {α : Type} {enc : α → List Value} {t : TypeId} {x y : Operand} {base g n cap sz o j r m : Nat} {e : TypeId} {vs : List Value} {l : List α} {el el' : α} (hrow : c.row = some g) (hs : rowSz P t = some m) (hx : rd S x = some (.pointer (some ⟨g, o, none⟩))) (hy : rd S y = some (.agg vs.toArray)) (h1 : vs.all (·.oneCell') = true) (hn : vs.length = m)
    (hk : ∀ x, (enc x).length = sz) (ho : 0 + j * sz + r = o) (hj : l[j]? = some el) (hl : l.length = n) (hr : r + m ≤ sz) (he : splice (enc el) r vs = enc el') (hT : c.Tt.contains e = false)
    (h : WL P c ops Q rest S (RowK base e sz n cap g ((l.set j el').flatMap enc)) L O X) : WL P c ops Q (⟨none, .store t x y, ty, pos, aft, none⟩ :: rest) S (RowK base e sz n cap g (l.flatMap enc)) L O X := by
  intro a w ha hm
  have hown : w.ownsRow base e sz (.slice (some ⟨g, 0, none⟩) n cap) n (l.flatMap enc) := hm.k
  have hjl := (List.getElem?_eq_some_iff.1 hj).1
  have hlt : o + m ≤ n * sz := by
    have : (j + 1) * sz ≤ n * sz := Nat.mul_le_mul_right sz (by omega)
    rw [Nat.add_mul] at this
    omega
  obtain ⟨dd, hu, _, hi⟩ := run_row hs
  rcases hown.2 with ⟨h', _⟩ | ⟨g', cap', cur, h', hb, hg, hnc, hcm, hcs, htake⟩
  · simp at h'
  · simp only [Value.slice.injEq, Option.some.injEq, Addr.mk.injEq, and_true, true_and] at h'
    obtain ⟨rfl, rfl⟩ := h'
    have hbk : Blk w g e cur.toList := by unfold Blk; rw [Array.toArray_toList]; exact hg
    have hcl : n * sz ≤ cur.toList.length := by
      have := Nat.mul_le_mul_right sz hnc
      simp [hcs]; exact this
    refine wpList_store_blk rfl t x y rfl g o e cur.toList vs hbk (ha.eval hx) (ha.eval hy) m hi hn (by omega) (by simpa using h1) fun w' hb' hgr => ?_
    have hsl := splice_length cur.toList o vs (by omega)
    have hfl := flat_len enc sz hk (l.set j el')
    rw [List.length_set, hl] at hfl
    refine h _ _ ⟨ha.size, ha.val, ha.df⟩ (hm.turned hrow hT ⟨hfl, .inr ⟨g, cap, (splice cur.toList o vs).toArray, rfl, hb, hb', hnc, hcm, by simpa [hsl] using hcs, ?_⟩⟩ hgr)
    rw [List.toList_toArray, own_take_splice hcl (by omega), htake, ← ho, Nat.zero_add, own_flat_splice enc sz hk hj he (by omega)]
/-- A call that turns the row. -/
theorem wl_callK {f : FuncId} {x : Operand} {ags : List Operand} {ats : Array TypeId} {vs fs cs : List Value} {v : Value} {base g n cap sz : Nat} {e : TypeId} {xs xs' : List Value} (hrow : c.row = some g) (hT : c.Tt.contains e = false) (hx : rd S x = some (.func (.func f) fs.toArray cs.toArray)) (hf : callableB P f = true) (ha : evArgs S ags = some vs) (hd : Nat.ble (d + 1) c.n = true)
    (hC : ∀ w, Mem c (RowK base e sz n cap g xs) L O X w → Calls P f (fs ++ vs ++ cs).toArray w (fun e1 w' => e1 = .returned v ∧ w'.ownsRow base e sz (.slice (some ⟨g, 0, none⟩) n cap) n xs' ∧ w.grownBy w' (some g))) (h : WL P c ops Q rest ((d, v) :: S) (RowK base e sz n cap g xs') L O X) :
    WL P c ops Q (⟨some d, .call ⟨.value x, ags.toArray, ats⟩, ty, pos, aft, none⟩ :: rest) S (RowK base e sz n cap g xs) L O X :=
  wl_callG (γ := Unit) (val := fun _ => v) (φ := fun _ => True) (K' := fun _ => RowK base e sz n cap g xs') (L' := fun _ => L) (O' := fun _ => O) (X' := fun _ => X) hx hf ha hd (fun w hm => (hC w hm).mono fun _ _ ⟨he, ho, hg⟩ => ⟨(), he, trivial, hm.turned hrow hT ho hg⟩) (fun _ _ => h)
end
/-- A call on a row of the call's own ends by the row's contract. -/
theorem fin_row {base : Nat} {e : TypeId} {sz n cap g : Nat} {xs : List Value} {w0 w : World} (hk : RowK base e sz n cap g xs w) (hg : w0.grownBy w (some g)) : w.ownsRow base e sz (.slice (some ⟨g, 0, none⟩) n cap) n xs ∧ w0.grownBy w (some g) := ⟨hk, hg⟩
end Go.Proofs.YtpikhokaclpbhaaGreatDoor
namespace Go.Proofs.YtpikhokaclpbhaaGreatDoor
open Go.RowKit
theorem bk_one : ∀ (x : Bk), ∀ v ∈ bkEnc x, v.oneCell' = true := fun x v hv => by
  unfold bkEnc at hv
  simp only [List.mem_cons, List.not_mem_nil, or_false] at hv
  rcases hv with rfl | rfl | rfl | rfl | rfl | rfl <;> rfl
def grLt (x y : Bk) : Bool := decide (cmpI x.fr y.fr < 0)
def FrB (x : Bk) : Prop := -1000000000000 ≤ x.fr ∧ x.fr ≤ 1000000000000
theorem ins_gr  (l0 : List Bk) (br n cap base : Nat) (w : World) (h : w.ownsRow base 181 6 (.slice (some ⟨br, 0, none⟩) n cap) n (l0.flatMap bkEnc)) (hl0 : l0.length = n) (hn : n ≤ 1000000) (hall : ∀ x ∈ l0, FrB x) :
  Calls Tryz.prog 253 #[.slice (some ⟨br, 0, none⟩) n cap, .int .i64 0, .int .i64 ((n : Nat) : Int), .func (.func 134) #[] #[]] w (fun e w' => e = .returned (.tuple #[]) ∧ w'.ownsRow base 181 6 (.slice (some ⟨br, 0, none⟩) n cap) n ((isort (grLt) l0).flatMap bkEnc) ∧ w.grownBy w' (some br)) := by
 obtain ⟨R, hR⟩ : ∃ z, z = isort (grLt) l0 := ⟨_, rfl⟩
 rw [← hR]
 refine gw_enter ⟨53, w, (some br), []⟩ Tryz.func253 rfl Tryz.ntmps253 rfl (memR (X := []) h allF_nil allL_nil) ?_
 refine sr_ (mv_ rfl (ad_ rfl rfl ?_))
 refine wl_set 11 (v' := .int .i64 1) rfl rfl ?_
 refine sg_ rfl (nn_ (gw_block ?_))
 refine gw_loop (γ := Nat × List Bk) (fun gg => (1 ≤ gg.1 ∧ gg.1 ≤ n + 1) ∧ gg.2.length = n ∧ isortF (grLt) (n - gg.1) gg.1 gg.2 = R) (fun gg => [(0, .slice (some ⟨br, 0, none⟩) n cap), (1, .int .i64 0), (2, .int .i64 ((n : Nat) : Int)), (3, .func (.func 134) #[] #[]), (8, .int .i64 ((gg.1 : Nat) : Int))]) (fun gg => RowK base 181 6 n cap br ((gg.2).flatMap bkEnc)) (fun gg => []) (fun gg => []) (fun gg => []) (fun gg => n + 1 - gg.1) (1, l0) ⟨⟨Nat.le_refl _, by omega⟩, hl0, by rw [hR]; unfold isort; rw [hl0]⟩ ⟨rfl, rfl, rfl, rfl, (some_int (by omega)), trivial⟩ (fun _ hm => hm.pick [] [] [] rfl rfl) ?_
 rintro ⟨i, l⟩ hinv
 replace hinv : (1 ≤ i ∧ i ≤ n + 1) ∧ l.length = n ∧ isortF (grLt) (n - i) i l = R := hinv
 dsimp only
 refine gw_seq (sr_ ?_)
 obtain ⟨⟨hi1, hi2⟩, hl1, hR1⟩ := hinv
 refine mv_ rfl (mv_ rfl (wl_ov (ov_lss rfl rfl) rfl (nn_ ?_)))
 refine gw_cond rfl (fun hh => ?_) (fun hh => ?_)
 ·have hi : ((i : Nat) : Int) < ((n : Nat) : Int) := by simpa using hh
  clear hh
  refine gw_skip (nx_then (gw_seq (gw_block (sr_ ?_))))
  have hRi : isortF (grLt) (n - (i + 1)) (i + 1) (sink (grLt) i l) = R := by rw [← hR1, show n - i = (n - (i + 1)) + 1 by omega]; rfl
  obtain ⟨S, hS⟩ : ∃ z, z = sink (grLt) i l := ⟨_, rfl⟩
  rw [← hS] at hRi
  have hSl : S.length = n := by rw [hS, sink_len]; exact hl1
  refine mv_ rfl (sg_ rfl (nn_ (gw_block ?_)))
  refine gw_loop (γ := Nat × List Bk) (fun gg => (gg.1 ≤ i) ∧ gg.2.length = n ∧ sink (grLt) gg.1 gg.2 = S) (fun gg => [(0, .slice (some ⟨br, 0, none⟩) n cap), (1, .int .i64 0), (2, .int .i64 ((n : Nat) : Int)), (3, .func (.func 134) #[] #[]), (8, .int .i64 ((i : Nat) : Int)), (9, .int .i64 ((gg.1 : Nat) : Int))]) (fun gg => RowK base 181 6 n cap br ((gg.2).flatMap bkEnc)) (fun gg => []) (fun gg => []) (fun gg => []) (fun gg => gg.1) (i, l) ⟨Nat.le_refl _, hl1, hS.symm⟩ ⟨rfl, rfl, rfl, rfl, rfl, rfl, trivial⟩ (fun _ hm => hm.pick [] [] [] rfl rfl) ?_
  rintro ⟨jj, m⟩ hinv
  replace hinv : (jj ≤ i) ∧ m.length = n ∧ sink (grLt) jj m = S := hinv
  dsimp only
  refine gw_seq (gw_seq ?_)
  obtain ⟨hj1, hm1, hS1⟩ := hinv
  rcases jj with _ | j
  ·refine gd (fun wz => True) mixed (fun _ _ => trivial) fun z => ?_
   refine wt 0 17 1 rfl z (ov_move rfl) ?_
   refine wa_set 18 (v' := .int .i64 0) rfl rfl ?_
   refine wt 1 17 3 rfl z (ov_move rfl) ?_
   refine wt 2 17 7 rfl z (ov_gtr rfl rfl) ?_
   refine wa_set 20 (v' := .bool false) rfl (congrArg Value.bool (by decide)) ?_
   refine wt 3 17 15 rfl z (ov_move rfl) ?_
   refine wtf 4 17 31 rfl rfl rfl z ?_
   refine wtf 5 17 63 rfl rfl rfl z ?_
   refine wtf 6 17 127 rfl rfl rfl z ?_
   refine wtf 7 17 255 rfl rfl rfl z ?_
   refine wtf 8 17 511 rfl rfl rfl z ?_
   refine wtf 9 17 1023 rfl rfl rfl z ?_
   refine wtf 10 17 2047 rfl rfl rfl z ?_
   refine wtf 11 17 4095 rfl rfl rfl z ?_
   refine wtf 12 17 8191 rfl rfl rfl z ?_
   refine wtf 13 17 16383 rfl rfl rfl z ?_
   refine wtf 14 17 32767 rfl rfl rfl z ?_
   refine wtf 15 17 65535 rfl rfl rfl z ?_
   refine wt 16 17 131071 rfl z (ov_pick_f rfl rfl) ?_
   refine wa_done (by kernel_rfl) ?_
   refine nx_then (cf_ rfl ?_)
   refine gw_exit ?_
   refine nx_then_exit (nx_then_exit ?_)
   refine nx_blk_here ?_
   refine nx_blk_nrm (nx_then (gw_region (mv_ rfl (ad_ rfl rfl (sg_ rfl (wl_nil ?_))))))
   have hm2 : m = S := hS1
   exact nx_round (i + 1, m) ⟨⟨by dsimp only; omega, by dsimp only; omega⟩, by rw [hm2]; exact hSl, by rw [hm2]; exact hRi⟩ (by dsimp only; omega) ⟨rfl, rfl, rfl, rfl, (some_int (by omega)), trivial⟩ (fun _ hm => hm.pick [] [] [] rfl rfl)
  have hj2 : j + 1 < n := by omega
  have hin : ∀ z ∈ m, z ∈ l0 := fun z hz => mem_in hR hRi hS1 hz
  obtain ⟨xx, hx⟩ : ∃ x, m[j + 1]? = some x := ⟨_, List.getElem?_eq_getElem (by omega)⟩
  obtain ⟨x0, x1, x2, x3, x4, x5⟩ := xx
  obtain ⟨yy, hy⟩ : ∃ x, m[j]? = some x := ⟨_, List.getElem?_eq_getElem (by omega)⟩
  obtain ⟨y0, y1, y2, y3, y4, y5⟩ := yy
  refine gd (fun wz => (RowK base 181 6 n cap br ((m).flatMap bkEnc)) wz ∧ True) mixed (fun _ hm => ⟨hm.k, trivial⟩) fun z => ?_
  refine wt 0 17 1 rfl z (ov_move rfl) ?_
  refine wt 1 17 3 rfl z (ov_move rfl) ?_
  refine wt 2 17 7 rfl z (ov_gtr rfl rfl) ?_
  refine wa_set 20 (v' := .bool true) rfl (congrArg Value.bool (decide_eq_true (by omega))) ?_
  refine wt 3 17 15 rfl z (ov_move rfl) ?_
  refine wto 4 17 31 rfl rfl rfl z (ov_move rfl) ?_
  refine wto 5 17 63 rfl rfl rfl z (ov_move rfl) ?_
  refine wto 6 17 127 rfl rfl rfl z (ov_move rfl) ?_
  refine wto 7 17 255 rfl rfl rfl z (ov_index (j := (j + 1)) es78 rfl rfl (by omega)) ?_
  refine wto 8 17 511 rfl rfl rfl z (ov_elem (vs := [.string x0, .string x1, .int .i64 x2, .int .i64 x3, .int .i64 x4, .int .i64 x5]) rz181 rfl (fun _ hm => (RowK.get (hm.1) bk_len hm1)) hx rfl rfl) ?_
  refine wto 9 17 1023 rfl rfl rfl z (ov_move rfl) ?_
  refine wto 10 17 2047 rfl rfl rfl z (ov_move rfl) ?_
  refine wto 11 17 4095 rfl rfl rfl z (ov_sub rfl rfl (by omega) (by omega)) ?_
  refine wa_set 29 (v' := .int .i64 ((j : Nat) : Int)) rfl (congrArg (Value.int .i64) (by omega)) ?_
  refine wto 12 17 8191 rfl rfl rfl z (ov_index (j := j) es78 rfl rfl (by omega)) ?_
  refine wto 13 17 16383 rfl rfl rfl z (ov_elem (vs := [.string y0, .string y1, .int .i64 y2, .int .i64 y3, .int .i64 y4, .int .i64 y5]) rz181 rfl (fun _ hm => (RowK.get (hm.1) bk_len hm1)) hy rfl rfl) ?_
  refine wa1 14 rfl ?_
  refine wl_guard_on rfl rfl rfl ?_
  refine wl_callv rfl cb134 rfl rfl (fun wx hm => (greedy1_any x0 x1 y0 y1 x2 x3 x4 x5 y2 y3 y4 y5 wx (hall _ (hin _ (List.mem_of_getElem? hx))) (hall _ (hin _ (List.mem_of_getElem? hy))))) ?_
  refine wl_nil ?_
  refine nw 17 32767 (fun _ hm => ⟨hm.k, trivial⟩) fun z => ?_
  refine wto 15 17 65535 rfl rfl rfl z (ov_lss rfl rfl) ?_
  refine wt 16 17 131071 rfl z (ov_pick_t rfl rfl) ?_
  refine wa_done (by kernel_rfl) ?_
  refine nx_then ?_
  refine gw_cond rfl (fun hh => ?_) (fun hh => ?_)
  ·have hlt : cmpI x2 y2 < 0 := by simpa using hh
   clear hh
   refine gw_skip (nx_then (gw_seq (gw_block ?_)))
   have hlt2 : (grLt) ⟨x0, x1, x2, x3, x4, x5⟩ ⟨y0, y1, y2, y3, y4, y5⟩ = true := decide_eq_true (show cmpI x2 y2 < 0 from hlt)
   have hS2 := (sink_yes hx hy hlt2).symm.trans hS1
   refine gd (fun wz => True) mixed (fun _ _ => trivial) fun z => ?_
   refine wt 0 18 1 rfl z (ov_move rfl) ?_
   refine wt 1 18 3 rfl z (ov_move rfl) ?_
   refine wt 2 18 7 rfl z (ov_move rfl) ?_
   refine wt 3 18 15 rfl z (ov_move rfl) ?_
   refine wt 4 18 31 rfl z (ov_sub rfl rfl (by omega) (by omega)) ?_
   refine wa_set 41 (v' := .int .i64 ((j : Nat) : Int)) rfl (congrArg (Value.int .i64) (by omega)) ?_
   refine wt 5 18 63 rfl z (ov_move rfl) ?_
   refine wt 6 18 127 rfl z (ov_move rfl) ?_
   refine wt 7 18 255 rfl z (ov_sub rfl rfl (by omega) (by omega)) ?_
   refine wa_set 44 (v' := .int .i64 ((j : Nat) : Int)) rfl (congrArg (Value.int .i64) (by omega)) ?_
   refine wt 8 18 511 rfl z (ov_index (j := j) es78 rfl rfl (by omega)) ?_
   refine wt 10 18 1535 rfl z (ov_move rfl) ?_
   refine wt 11 18 3583 rfl z (ov_move rfl) ?_
   refine wt 12 18 7679 rfl z (ov_index (j := (j + 1)) es78 rfl rfl (by omega)) ?_
   refine wa_all [9, 13] (by kernel_rfl) rfl ⟨⟨_, rfl, ?_⟩, ⟨_, rfl, ?_⟩, trivial⟩
   ·refine wl_ov (ov_elem (vs := [.string y0, .string y1, .int .i64 y2, .int .i64 y3, .int .i64 y4, .int .i64 y5]) rz181 rfl (fun _ hm => (RowK.get hm.k bk_len hm1)) hy rfl rfl) rfl ?_
    refine wl_nil ?_
    refine nw 18 8191 (fun _ _ => trivial) fun z => ?_
    refine wa1 13 rfl ?_
    refine wl_ov (ov_elem (vs := [.string x0, .string x1, .int .i64 x2, .int .i64 x3, .int .i64 x4, .int .i64 x5]) rz181 rfl (fun _ hm => (RowK.get hm.k bk_len hm1)) hx rfl rfl) rfl ?_
    refine wl_nil ?_
    refine nw 18 16383 (fun _ _ => trivial) fun z => ?_
    refine wt 14 18 32767 rfl z (ov_index (j := (j + 1)) es78 rfl rfl (by omega)) ?_
    refine wa1 15 rfl ?_
    refine wl_storesRow (l := m) (j := j + 1) (r := 0) (el := ⟨x0, x1, x2, x3, x4, x5⟩) (el' := ⟨y0, y1, y2, y3, y4, y5⟩) rfl rz181 rfl rfl rfl rfl bk_len rfl hx hm1 (by decide) rfl rfl ?_
    refine wl_nil ?_
    refine nw 18 65535 (fun _ _ => trivial) fun z => ?_
    refine wt 16 18 131071 rfl z (ov_index (j := j) es78 rfl rfl (by omega)) ?_
    refine wa1 17 rfl ?_
    refine wl_storesRow (l := m.set (j + 1) ⟨y0, y1, y2, y3, y4, y5⟩) (j := j) (r := 0) (el := ⟨y0, y1, y2, y3, y4, y5⟩) (el' := ⟨x0, x1, x2, x3, x4, x5⟩) rfl rz181 rfl rfl rfl rfl bk_len rfl (by rw [List.getElem?_set_ne (by omega)]; exact hy) (by rw [List.length_set]; exact hm1) (by decide) rfl rfl ?_
    refine wl_nil ?_
    refine nw 18 262143 (fun _ _ => trivial) fun z => ?_
    refine wa_done (by kernel_rfl) ?_
    refine nx_blk_nrm (nx_then (gw_region (mv_ rfl ?_)))
    refine wl_ov (ov_sub rfl rfl (by omega) (by omega)) rfl ?_
    refine wl_set 36 (v' := .int .i64 ((j : Nat) : Int)) rfl (congrArg (Value.int .i64) (by omega)) ?_
    refine sg_ rfl (wl_nil ?_)
    exact nx_round (j, (m.set (j + 1) ⟨y0, y1, y2, y3, y4, y5⟩).set j ⟨x0, x1, x2, x3, x4, x5⟩) ⟨by dsimp only; omega, by simp [hm1], hS2⟩ (by dsimp only; omega) ⟨rfl, rfl, rfl, rfl, rfl, (some_int (by omega)), trivial⟩ (fun _ hm => hm.pick [] [] [] rfl rfl)
   refine wl_ov (ov_elem (vs := [.string x0, .string x1, .int .i64 x2, .int .i64 x3, .int .i64 x4, .int .i64 x5]) rz181 rfl (fun _ hm => (RowK.get hm.k bk_len hm1)) hx rfl rfl) rfl ?_
   refine wl_nil ?_
   refine nw 18 15871 (fun _ _ => trivial) fun z => ?_
   refine wa1 9 rfl ?_
   refine wl_ov (ov_elem (vs := [.string y0, .string y1, .int .i64 y2, .int .i64 y3, .int .i64 y4, .int .i64 y5]) rz181 rfl (fun _ hm => (RowK.get hm.k bk_len hm1)) hy rfl rfl) rfl ?_
   refine wl_nil ?_
   refine nw 18 16383 (fun _ _ => trivial) fun z => ?_
   refine wt 14 18 32767 rfl z (ov_index (j := (j + 1)) es78 rfl rfl (by omega)) ?_
   refine wa1 15 rfl ?_
   refine wl_storesRow (l := m) (j := j + 1) (r := 0) (el := ⟨x0, x1, x2, x3, x4, x5⟩) (el' := ⟨y0, y1, y2, y3, y4, y5⟩) rfl rz181 rfl rfl rfl rfl bk_len rfl hx hm1 (by decide) rfl rfl ?_
   refine wl_nil ?_
   refine nw 18 65535 (fun _ _ => trivial) fun z => ?_
   refine wt 16 18 131071 rfl z (ov_index (j := j) es78 rfl rfl (by omega)) ?_
   refine wa1 17 rfl ?_
   refine wl_storesRow (l := m.set (j + 1) ⟨y0, y1, y2, y3, y4, y5⟩) (j := j) (r := 0) (el := ⟨y0, y1, y2, y3, y4, y5⟩) (el' := ⟨x0, x1, x2, x3, x4, x5⟩) rfl rz181 rfl rfl rfl rfl bk_len rfl (by rw [List.getElem?_set_ne (by omega)]; exact hy) (by rw [List.length_set]; exact hm1) (by decide) rfl rfl ?_
   refine wl_nil ?_
   refine nw 18 262143 (fun _ _ => trivial) fun z => ?_
   refine wa_done (by kernel_rfl) ?_
   refine nx_blk_nrm (nx_then (gw_region (mv_ rfl ?_)))
   refine wl_ov (ov_sub rfl rfl (by omega) (by omega)) rfl ?_
   refine wl_set 36 (v' := .int .i64 ((j : Nat) : Int)) rfl (congrArg (Value.int .i64) (by omega)) ?_
   refine sg_ rfl (wl_nil ?_)
   exact nx_round (j, (m.set (j + 1) ⟨y0, y1, y2, y3, y4, y5⟩).set j ⟨x0, x1, x2, x3, x4, x5⟩) ⟨by dsimp only; omega, by simp [hm1], hS2⟩ (by dsimp only; omega) ⟨rfl, rfl, rfl, rfl, rfl, (some_int (by omega)), trivial⟩ (fun _ hm => hm.pick [] [] [] rfl rfl)
  have hlt : ¬ (cmpI x2 y2 < 0) := by simpa using hh
  clear hh
  refine gw_exit ?_
  refine nx_then_exit (nx_then_exit ?_)
  refine nx_blk_here ?_
  refine nx_blk_nrm (nx_then (gw_region ?_))
  have hlt2 : (grLt) ⟨x0, x1, x2, x3, x4, x5⟩ ⟨y0, y1, y2, y3, y4, y5⟩ = false := decide_eq_false (show ¬ cmpI x2 y2 < 0 from hlt)
  have hS2 := (sink_no hx hy hlt2).symm.trans hS1
  refine mv_ rfl (ad_ rfl rfl (sg_ rfl (wl_nil ?_)))
  have hm2 : m = S := hS2
  exact nx_round (i + 1, m) ⟨⟨by dsimp only; omega, by dsimp only; omega⟩, by rw [hm2]; exact hSl, by rw [hm2]; exact hRi⟩ (by dsimp only; omega) ⟨rfl, rfl, rfl, rfl, (some_int (by omega)), trivial⟩ (fun _ hm => hm.pick [] [] [] rfl rfl)
 have hi : ¬ (((i : Nat) : Int) < ((n : Nat) : Int)) := by simpa using hh
 clear hh
 refine gw_exit ?_
 refine nx_then_exit (nx_then_exit ?_)
 refine nx_blk_here ?_
 obtain rfl : l = R := by rw [← hR1, show n - i = 0 by omega]; rfl
 refine nx_ret0 rfl fun wx hm => ?_
 exact ⟨rfl, fin_row hm.k hm.g⟩
theorem stb_gr (l0 : List Bk) (br n cap base : Nat) (w : World) (h : w.ownsRow base 181 6 (.slice (some ⟨br, 0, none⟩) n cap) n (l0.flatMap bkEnc)) (hl0 : l0.length = n) (hn : n ≤ 19) (hall : ∀ x ∈ l0, FrB x) :
  Calls Tryz.prog 207 #[.slice (some ⟨br, 0, none⟩) n cap, .int .i64 ((n : Nat) : Int), .func (.func 134) #[] #[]] w (fun e w' => e = .returned (.tuple #[]) ∧ w'.ownsRow base 181 6 (.slice (some ⟨br, 0, none⟩) n cap) n ((isort grLt l0).flatMap bkEnc) ∧ w.grownBy w' (some br)) := by
 refine gw_enter ⟨63, w, (some br), []⟩ Tryz.func207 rfl Tryz.ntmps207 rfl (memR (X := []) h allF_nil allL_nil) ?_
 refine sr_ (sg_ rfl (nn_ (sr_ (mv_ rfl (sg_ rfl (sg_ rfl (nn_ (gw_seq (gw_block ?_)))))))))
 refine gw_rounds 1 ?_
 refine gr_next ?_
 refine gw_seq (sr_ (mv_ rfl (mv_ rfl (wl_ov (ov_leq rfl rfl) rfl ?_))))
 refine wl_set 13 (v' := .bool false) rfl (congrArg Value.bool (decide_eq_false (by omega))) ?_
 refine nn_ (cf_ rfl ?_)
 refine gw_exit ?_
 refine nx_then_exit (nx_then_exit ?_)
 refine nx_blk_here ?_
 refine nx_then (sr_ (mv_ rfl (mv_ rfl (mv_ rfl (mv_ rfl ?_)))))
 refine wl_callK rfl rfl rfl cb253 rfl rfl (fun wx hm => (ins_gr l0 br n cap base wx hm.k hl0 (by omega) hall)) ?_
 refine nn_ (gw_block ?_)
 refine gw_rounds 1 ?_
 refine gr_next ?_
 refine gw_seq (sr_ (mv_ rfl (mv_ rfl (wl_ov (ov_lss rfl rfl) rfl ?_))))
 refine wl_set 30 (v' := .bool false) rfl (congrArg Value.bool (decide_eq_false (by omega))) ?_
 refine nn_ (cf_ rfl ?_)
 refine gw_exit ?_
 refine nx_then_exit (nx_then_exit ?_)
 refine nx_blk_here ?_
 refine nx_ret0 rfl fun wx hm => ?_
 exact ⟨rfl, fin_row hm.k hm.g⟩
set_option maxRecDepth 100000 in
set_option maxHeartbeats 400000 in
theorem stable_gr (l0 : List Bk) (br n cap base : Nat) (w : World) (h : w.ownsRow base 181 6 (.slice (some ⟨br, 0, none⟩) n cap) n (l0.flatMap bkEnc)) (hl0 : l0.length = n) (hn : n ≤ 19) (hall : ∀ x ∈ l0, FrB x) :
    Calls Tryz.prog 133 #[.slice (some ⟨br, 0, none⟩) n cap, .func (.func 134) #[] #[]] w (fun e w' => e = .returned (.tuple #[]) ∧ w'.ownsRow base 181 6 (.slice (some ⟨br, 0, none⟩) n cap) n ((isort grLt l0).flatMap bkEnc) ∧ w.grownBy w' (some br)) := by
  refine gw_enter ⟨9, w, (some br), []⟩ Tryz.func133 rfl Tryz.ntmps133 rfl (memR (X := []) h allF_nil allL_nil) ?_
  refine gw_region ?_
  refine wl_ov (ov_move rfl) rfl ?_
  refine wl_ov (ov_move rfl) rfl ?_
  refine wl_ov (ov_len es78 rfl) rfl ?_
  refine wl_ov (ov_move rfl) rfl ?_
  refine wl_callK rfl rfl rfl cb207 rfl rfl (fun wx hm => (stb_gr l0 br n cap base wx hm.k hl0 (by omega) hall)) ?_
  refine wl_nil ?_
  refine nx_ret0 rfl fun wx hm => ?_
  exact ⟨rfl, fin_row hm.k hm.g⟩
theorem ins0_gr (A : Option Addr) (cap : Nat) (w : World) : Calls Tryz.prog 253 #[.slice A 0 cap, .int .i64 0, .int .i64 0, .func (.func 134) #[] #[]] w (fun e w' => e = .returned (.tuple #[]) ∧ w.grownBy w' none) := by
 refine gw_enter ⟨53, w, none, []⟩ Tryz.func253 rfl Tryz.ntmps253 rfl (mem0 (X := []) allF_nil allL_nil) ?_
 refine sr_ (mv_ rfl (ad_ rfl rfl ?_))
 refine wl_set 11 (v' := .int .i64 1) rfl rfl ?_
 refine sg_ rfl (nn_ (gw_block ?_))
 refine gw_rounds 1 ?_
 refine gr_next ?_
 refine gw_seq (sr_ (mv_ rfl (mv_ rfl (wl_ov (ov_lss rfl rfl) rfl ?_))))
 refine wl_set 14 (v' := .bool false) rfl (congrArg Value.bool (by decide)) ?_
 refine nn_ (cf_ rfl ?_)
 refine gw_exit ?_
 refine nx_then_exit (nx_then_exit ?_)
 refine nx_blk_here ?_
 refine nx_ret0 rfl fun wx hm => ?_
 exact ⟨rfl, hm.g⟩
theorem stb0_gr (A : Option Addr) (cap : Nat) (w : World) : Calls Tryz.prog 207 #[.slice A 0 cap, .int .i64 0, .func (.func 134) #[] #[]] w (fun e w' => e = .returned (.tuple #[]) ∧ w.grownBy w' none) := by
 refine gw_enter ⟨63, w, none, []⟩ Tryz.func207 rfl Tryz.ntmps207 rfl (mem0 (X := []) allF_nil allL_nil) ?_
 refine sr_ (sg_ rfl (nn_ (sr_ (mv_ rfl (sg_ rfl (sg_ rfl (nn_ (gw_seq (gw_block ?_)))))))))
 refine gw_rounds 1 ?_
 refine gr_next ?_
 refine gw_seq (sr_ (mv_ rfl (mv_ rfl (wl_ov (ov_leq rfl rfl) rfl ?_))))
 refine wl_set 13 (v' := .bool false) rfl (congrArg Value.bool (by decide)) ?_
 refine nn_ (cf_ rfl ?_)
 refine gw_exit ?_
 refine nx_then_exit (nx_then_exit ?_)
 refine nx_blk_here ?_
 refine nx_then (sr_ (mv_ rfl (mv_ rfl (mv_ rfl (mv_ rfl ?_)))))
 refine wl_callv rfl cb253 rfl rfl (fun wx hm => (ins0_gr A cap wx)) ?_
 refine nn_ (gw_block ?_)
 refine gw_rounds 1 ?_
 refine gr_next ?_
 refine gw_seq (sr_ (mv_ rfl (mv_ rfl (wl_ov (ov_lss rfl rfl) rfl ?_))))
 refine wl_set 30 (v' := .bool false) rfl (congrArg Value.bool (by decide)) ?_
 refine nn_ (cf_ rfl ?_)
 refine gw_exit ?_
 refine nx_then_exit (nx_then_exit ?_)
 refine nx_blk_here ?_
 refine nx_ret0 rfl fun wx hm => ?_
 exact ⟨rfl, hm.g⟩
set_option maxRecDepth 100000 in
set_option maxHeartbeats 400000 in
theorem stable0_gr (A : Option Addr) (cap : Nat) (w : World) : Calls Tryz.prog 133 #[.slice A 0 cap, .func (.func 134) #[] #[]] w (fun e w' => e = .returned (.tuple #[]) ∧ w.grownBy w' none) := by
  refine gw_enter ⟨9, w, none, []⟩ Tryz.func133 rfl Tryz.ntmps133 rfl (mem0 (X := []) allF_nil allL_nil) ?_
  refine gw_region ?_
  refine wl_ov (ov_move rfl) rfl ?_
  refine wl_ov (ov_move rfl) rfl ?_
  refine wl_ov (ov_len es78 rfl) rfl ?_
  refine wl_set 6 (v' := .int .i64 0) rfl rfl ?_
  refine wl_ov (ov_move rfl) rfl ?_
  refine wl_callv rfl cb207 rfl rfl (fun wx hm => (stb0_gr A cap wx)) ?_
  refine wl_nil ?_
  refine nx_ret0 rfl fun wx hm => ?_
  exact ⟨rfl, hm.g⟩
end Go.Proofs.YtpikhokaclpbhaaGreatDoor
namespace Go.Proofs
open Go.Shelf
def Tryz.lays125_ren : Go.Shelf.Ren := ⟨fun | 125 => 211 | 128 => 263 | 129 => 264 | n => n, fun | 46 => 250 | 3 => 3 | 51 => 294 | 53 => 296 | 4 => 4 | 5 => 5 | 9 => 9 | n => n, fun | n => n⟩
theorem Tryz.lays125 : Go.Proofs.Lays.n125 Tryz.prog Tryz.lays125_ren := {
  mixed := by kernel_rfl
  f125 := Tryz.func211.trans (congrArg some (by kernel_rfl))
  f128 := Tryz.func263.trans (congrArg some (by kernel_rfl))
  f129 := Tryz.func264.trans (congrArg some (by kernel_rfl))
  t3 := Tryz.underlying3
  a3 := Tryz.isAgg3
  z3 := Tryz.sizeOf3
  v3 := Tryz.zeroValue3
  t4 := Tryz.underlying4
  a4 := Tryz.isAgg4
  z4 := Tryz.sizeOf4
  v4 := Tryz.zeroValue4
  t5 := Tryz.underlying5
  a5 := Tryz.isAgg5
  z5 := Tryz.sizeOf5
  v5 := Tryz.zeroValue5
  t9 := Tryz.underlying9
  a9 := Tryz.isAgg9
  z9 := Tryz.sizeOf9
  v9 := Tryz.zeroValue9
  t46 := Tryz.underlying250
  a46 := Tryz.isAgg250
  z46 := Tryz.sizeOf250
  v46 := Tryz.zeroValue250
  t51 := Tryz.underlying294
  a51 := Tryz.isAgg294
  z51 := Tryz.sizeOf294
  v51 := Tryz.zeroValue294
  t53 := Tryz.underlying296
  a53 := Tryz.isAgg296
  z53 := Tryz.sizeOf296
  v53 := Tryz.zeroValue296 }
end Go.Proofs
namespace Go.Proofs
open Go.Shelf
def Tryz.lays106_ren : Go.Shelf.Ren := ⟨fun | 106 => 139 | 213 => 212 | 265 => 265 | n => n, fun | 9 => 9 | 3 => 3 | n => n, fun | n => n⟩
theorem Tryz.lays106 : Go.Proofs.Lays.n106 Tryz.prog Tryz.lays106_ren := {
  mixed := by kernel_rfl
  f106 := Tryz.func139.trans (congrArg some (by kernel_rfl))
  f213 := Tryz.func212.trans (congrArg some (by kernel_rfl))
  f265 := Tryz.func265.trans (congrArg some (by kernel_rfl))
  t3 := Tryz.underlying3
  a3 := Tryz.isAgg3
  z3 := Tryz.sizeOf3
  v3 := Tryz.zeroValue3
  t9 := Tryz.underlying9
  a9 := Tryz.isAgg9
  z9 := Tryz.sizeOf9
  v9 := Tryz.zeroValue9 }
end Go.Proofs
namespace Go.Proofs.YtpikhokaclpbhaaGreatDoor
open Go.RowKit
theorem cmpB_eq : ∀ a b : List UInt8, Lib.compareBytes a b = if Go.Op.bytesLess a b = true then -1 else if (Go.Op.bytesLess a b || a == b) = false then 1 else 0
  | [], [] => rfl
  | [], b :: y => by simp [Lib.compareBytes, Go.Op.bytesLess]
  | a :: x, [] => by simp [Lib.compareBytes, Go.Op.bytesLess]
  | a :: x, b :: y => by
    have ih := cmpB_eq x y
    unfold Lib.compareBytes Go.Op.bytesLess
    by_cases h1 : a < b
    · simp [h1]
    · by_cases h2 : b < a
      · have h3 : ¬ a = b := fun e => by subst e; exact h1 h2
        simp [h1, h2, h3]
      · have h3 : a = b := by
          rcases Decidable.em (a = b) with h | h
          · exact h
          · rcases UInt8.lt_or_lt_of_ne h with h | h
            · exact absurd h h1
            · exact absurd h h2
        subst h3
        simp only [h1, if_false, ih, decide_false, Bool.false_or, beq_self_eq_true, Bool.true_and, List.cons_beq_cons]
theorem strCompare_any (a b : ByteArray) (w : World) : Calls Tryz.prog 139 #[.string a, .string b] w (fun e w' => e = .returned (.int .i64 (cmpS a b)) ∧ w.grownBy w' none) := by
  have hcon := Any.strings_Compare Tryz.lays106 a b w
  refine Calls.mono hcon ?_
  rintro e w' ⟨rfl, rfl⟩
  refine ⟨?_, World.grownBy.refl _ _⟩
  unfold cmpS
  rw [cmpB_eq, ByteArray.toList_eq, ByteArray.toList_eq]
theorem bitsLen_any (n : Nat) (w : World) (hn : n ≤ 1000000) : Calls Tryz.prog 211 #[.int .u64 ((n : Nat) : Int)] w (fun e w' => ∃ v : Int, e = .returned (.int .i64 v) ∧ w.grownBy w' none) := by
  have hcon := Any.bits_Len Tryz.lays125 ((n : Nat) : Int) w (by omega) (by omega)
  refine Calls.mono hcon ?_
  rintro e w' ⟨rfl, rfl⟩
  exact ⟨_, rfl, World.grownBy.refl _ _⟩
end Go.Proofs.YtpikhokaclpbhaaGreatDoor
namespace Go.Proofs.YtpikhokaclpbhaaGreatDoor
open Go.RowKit
section
variable {P : Program} {nn : Nat} {S : List (Nat × Value)} {Z : World → Prop} {d : Nat} {ty : TypeId} {pos : String} {aft : Array Edge}
def kindTy (P : Program) (t : TypeId) : Option IntKind :=
  match P.underlying t with
  | some (.int k) => some k
  | _ => none
theorem kindTy_u {t : TypeId} {k : IntKind} (h : kindTy P t = some k) : P.underlying t = some (.int k) := by
  unfold kindTy at h
  cases hu : P.underlying t with
  | none => simp [hu] at h
  | some dd => cases dd <;> simp [hu] at h <;> simp [h]
theorem ov_u64 {s t : TypeId} {k : IntKind} {x : Operand} {a : Nat} (hs : kindTy P s = some .i64) (ht : kindTy P t = some .u64) (hx : rd S x = some (.int k (a : Int))) (ha : a ≤ 9223372036854775807) : OV P nn S Z ⟨some d, .convert s t x, ty, pos, aft, none⟩ (.int .u64 (a : Int)) := fun b w hb hm => by
  have h1 : IntKind.u64.wrap (a : Int) = (a : Int) := by rw [IntKind.wrap_u64]; omega
  have hk : P.intKind t = .u64 := by simp [Program.intKind, kindTy_u ht]
  have h2 := run_convert_int (P := P) w s t k (a : Int) (by rw [kindTy_u hs]; rfl) (by rw [hk]; exact kindTy_u ht)
  rw [hk, h1] at h2
  simp [execOp, hb.eval hx, h2]
end
end Go.Proofs.YtpikhokaclpbhaaGreatDoor
namespace Go.Proofs.YtpikhokaclpbhaaGreatDoor
open Go.RowKit
structure Gv where
  bk : ByteArray
  cls : ByteArray
  unit : Int
def gvEnc (x : Gv) : List Value := [.string x.bk, .string x.cls, .int .i64 x.unit]
theorem gv_len (x : Gv) : (gvEnc x).length = 3 := rfl
def gvLt (x y : Gv) : Bool := decide (cmpS x.bk y.bk < 0)
def gfrAt (l : List Bk) (i : Int) : Int := match l[i.toNat]? with
  | some b => b.fr
  | none => 0
theorem gfrAt_at {l : List Bk} {i : Nat} {b : Bk} (h : l[i]? = some b) : gfrAt l ((i : Nat) : Int) = b.fr := by
  unfold gfrAt; rw [Int.toNat_natCast, h]
def idLt (l : List Bk) (x y : Int) : Bool := decide (cmpI (gfrAt l x) (gfrAt l y) < 0)
theorem greedy2_any (x0 x1 y0 y1 : ByteArray) (x2 y2 : Int) (w : World) :
  Calls Tryz.prog 138 #[.agg #[.string x0, .string x1, .int .i64 x2], .agg #[.string y0, .string y1, .int .i64 y2]] w (fun e w' => e = .returned (.int .i64 (cmpS x0 y0)) ∧ w.grownBy w' none) := by
 refine gw_enter ⟨10, w, none, []⟩ Tryz.func138 rfl Tryz.ntmps138 rfl (mem0 (X := []) allF_nil allL_nil) ?_
 refine sr_ ?_
 refine wl_box rfl rfl rfl fun g1 => ?_
 refine wl_box rfl rfl rfl fun g2 => ?_
 refine sg_ rfl (nn_ (sr_ (fd_ fo91_0 rfl rfl (lk_ sc9 1 rfl rfl rfl (fd_ fo91_0 rfl rfl (lk_ sc9 0 rfl rfl rfl ?_))))))
 refine wl_callv rfl cb139 rfl rfl (fun wx hm => (strCompare_any _ _ wx)) ?_
 refine sg_ rfl (nn_ ?_)
 refine gw_ret ?_
 refine nx_ret1 rfl rfl fun wx hm => ?_
 exact ⟨rfl, hm.g⟩
theorem ins_gv  (l0 : List Gv) (br n cap base : Nat) (w : World) (h : w.ownsRow base 91 3 (.slice (some ⟨br, 0, none⟩) n cap) n (l0.flatMap gvEnc)) (hl0 : l0.length = n) (hn : n ≤ 1000000)  :
  Calls Tryz.prog 255 #[.slice (some ⟨br, 0, none⟩) n cap, .int .i64 0, .int .i64 ((n : Nat) : Int), .func (.func 138) #[] #[]] w (fun e w' => e = .returned (.tuple #[]) ∧ w'.ownsRow base 91 3 (.slice (some ⟨br, 0, none⟩) n cap) n ((isort (gvLt) l0).flatMap gvEnc) ∧ w.grownBy w' (some br)) := by
 obtain ⟨R, hR⟩ : ∃ z, z = isort (gvLt) l0 := ⟨_, rfl⟩
 rw [← hR]
 refine gw_enter ⟨53, w, (some br), []⟩ Tryz.func255 rfl Tryz.ntmps255 rfl (memR (X := []) h allF_nil allL_nil) ?_
 refine sr_ (mv_ rfl (ad_ rfl rfl ?_))
 refine wl_set 11 (v' := .int .i64 1) rfl rfl ?_
 refine sg_ rfl (nn_ (gw_block ?_))
 refine gw_loop (γ := Nat × List Gv) (fun gg => (1 ≤ gg.1 ∧ gg.1 ≤ n + 1) ∧ gg.2.length = n ∧ isortF (gvLt) (n - gg.1) gg.1 gg.2 = R) (fun gg => [(0, .slice (some ⟨br, 0, none⟩) n cap), (1, .int .i64 0), (2, .int .i64 ((n : Nat) : Int)), (3, .func (.func 138) #[] #[]), (8, .int .i64 ((gg.1 : Nat) : Int))]) (fun gg => RowK base 91 3 n cap br ((gg.2).flatMap gvEnc)) (fun gg => []) (fun gg => []) (fun gg => []) (fun gg => n + 1 - gg.1) (1, l0) ⟨⟨Nat.le_refl _, by omega⟩, hl0, by rw [hR]; unfold isort; rw [hl0]⟩ ⟨rfl, rfl, rfl, rfl, (some_int (by omega)), trivial⟩ (fun _ hm => hm.pick [] [] [] rfl rfl) ?_
 rintro ⟨i, l⟩ hinv
 replace hinv : (1 ≤ i ∧ i ≤ n + 1) ∧ l.length = n ∧ isortF (gvLt) (n - i) i l = R := hinv
 dsimp only
 refine gw_seq (sr_ ?_)
 obtain ⟨⟨hi1, hi2⟩, hl1, hR1⟩ := hinv
 refine mv_ rfl (mv_ rfl (wl_ov (ov_lss rfl rfl) rfl (nn_ ?_)))
 refine gw_cond rfl (fun hh => ?_) (fun hh => ?_)
 ·have hi : ((i : Nat) : Int) < ((n : Nat) : Int) := by simpa using hh
  clear hh
  refine gw_skip (nx_then (gw_seq (gw_block (sr_ ?_))))
  have hRi : isortF (gvLt) (n - (i + 1)) (i + 1) (sink (gvLt) i l) = R := by rw [← hR1, show n - i = (n - (i + 1)) + 1 by omega]; rfl
  obtain ⟨S, hS⟩ : ∃ z, z = sink (gvLt) i l := ⟨_, rfl⟩
  rw [← hS] at hRi
  have hSl : S.length = n := by rw [hS, sink_len]; exact hl1
  refine mv_ rfl (sg_ rfl (nn_ (gw_block ?_)))
  refine gw_loop (γ := Nat × List Gv) (fun gg => (gg.1 ≤ i) ∧ gg.2.length = n ∧ sink (gvLt) gg.1 gg.2 = S) (fun gg => [(0, .slice (some ⟨br, 0, none⟩) n cap), (1, .int .i64 0), (2, .int .i64 ((n : Nat) : Int)), (3, .func (.func 138) #[] #[]), (8, .int .i64 ((i : Nat) : Int)), (9, .int .i64 ((gg.1 : Nat) : Int))]) (fun gg => RowK base 91 3 n cap br ((gg.2).flatMap gvEnc)) (fun gg => []) (fun gg => []) (fun gg => []) (fun gg => gg.1) (i, l) ⟨Nat.le_refl _, hl1, hS.symm⟩ ⟨rfl, rfl, rfl, rfl, rfl, rfl, trivial⟩ (fun _ hm => hm.pick [] [] [] rfl rfl) ?_
  rintro ⟨jj, m⟩ hinv
  replace hinv : (jj ≤ i) ∧ m.length = n ∧ sink (gvLt) jj m = S := hinv
  dsimp only
  refine gw_seq (gw_seq ?_)
  obtain ⟨hj1, hm1, hS1⟩ := hinv
  rcases jj with _ | j
  ·refine gd (fun wz => True) mixed (fun _ _ => trivial) fun z => ?_
   refine wt 0 17 1 rfl z (ov_move rfl) ?_
   refine wa_set 18 (v' := .int .i64 0) rfl rfl ?_
   refine wt 1 17 3 rfl z (ov_move rfl) ?_
   refine wt 2 17 7 rfl z (ov_gtr rfl rfl) ?_
   refine wa_set 20 (v' := .bool false) rfl (congrArg Value.bool (by decide)) ?_
   refine wt 3 17 15 rfl z (ov_move rfl) ?_
   refine wtf 4 17 31 rfl rfl rfl z ?_
   refine wtf 5 17 63 rfl rfl rfl z ?_
   refine wtf 6 17 127 rfl rfl rfl z ?_
   refine wtf 7 17 255 rfl rfl rfl z ?_
   refine wtf 8 17 511 rfl rfl rfl z ?_
   refine wtf 9 17 1023 rfl rfl rfl z ?_
   refine wtf 10 17 2047 rfl rfl rfl z ?_
   refine wtf 11 17 4095 rfl rfl rfl z ?_
   refine wtf 12 17 8191 rfl rfl rfl z ?_
   refine wtf 13 17 16383 rfl rfl rfl z ?_
   refine wtf 14 17 32767 rfl rfl rfl z ?_
   refine wtf 15 17 65535 rfl rfl rfl z ?_
   refine wt 16 17 131071 rfl z (ov_pick_f rfl rfl) ?_
   refine wa_done (by kernel_rfl) ?_
   refine nx_then (cf_ rfl ?_)
   refine gw_exit ?_
   refine nx_then_exit (nx_then_exit ?_)
   refine nx_blk_here ?_
   refine nx_blk_nrm (nx_then (gw_region (mv_ rfl (ad_ rfl rfl (sg_ rfl (wl_nil ?_))))))
   have hm2 : m = S := hS1
   exact nx_round (i + 1, m) ⟨⟨by dsimp only; omega, by dsimp only; omega⟩, by rw [hm2]; exact hSl, by rw [hm2]; exact hRi⟩ (by dsimp only; omega) ⟨rfl, rfl, rfl, rfl, (some_int (by omega)), trivial⟩ (fun _ hm => hm.pick [] [] [] rfl rfl)
  have hj2 : j + 1 < n := by omega
  obtain ⟨xx, hx⟩ : ∃ x, m[j + 1]? = some x := ⟨_, List.getElem?_eq_getElem (by omega)⟩
  obtain ⟨x0, x1, x2⟩ := xx
  obtain ⟨yy, hy⟩ : ∃ x, m[j]? = some x := ⟨_, List.getElem?_eq_getElem (by omega)⟩
  obtain ⟨y0, y1, y2⟩ := yy
  refine gd (fun wz => (RowK base 91 3 n cap br ((m).flatMap gvEnc)) wz ∧ True) mixed (fun _ hm => ⟨hm.k, trivial⟩) fun z => ?_
  refine wt 0 17 1 rfl z (ov_move rfl) ?_
  refine wt 1 17 3 rfl z (ov_move rfl) ?_
  refine wt 2 17 7 rfl z (ov_gtr rfl rfl) ?_
  refine wa_set 20 (v' := .bool true) rfl (congrArg Value.bool (decide_eq_true (by omega))) ?_
  refine wt 3 17 15 rfl z (ov_move rfl) ?_
  refine wto 4 17 31 rfl rfl rfl z (ov_move rfl) ?_
  refine wto 5 17 63 rfl rfl rfl z (ov_move rfl) ?_
  refine wto 6 17 127 rfl rfl rfl z (ov_move rfl) ?_
  refine wto 7 17 255 rfl rfl rfl z (ov_index (j := (j + 1)) es82 rfl rfl (by omega)) ?_
  refine wto 8 17 511 rfl rfl rfl z (ov_elem (vs := [.string x0, .string x1, .int .i64 x2]) rz91 rfl (fun _ hm => (RowK.get (hm.1) gv_len hm1)) hx rfl rfl) ?_
  refine wto 9 17 1023 rfl rfl rfl z (ov_move rfl) ?_
  refine wto 10 17 2047 rfl rfl rfl z (ov_move rfl) ?_
  refine wto 11 17 4095 rfl rfl rfl z (ov_sub rfl rfl (by omega) (by omega)) ?_
  refine wa_set 29 (v' := .int .i64 ((j : Nat) : Int)) rfl (congrArg (Value.int .i64) (by omega)) ?_
  refine wto 12 17 8191 rfl rfl rfl z (ov_index (j := j) es82 rfl rfl (by omega)) ?_
  refine wto 13 17 16383 rfl rfl rfl z (ov_elem (vs := [.string y0, .string y1, .int .i64 y2]) rz91 rfl (fun _ hm => (RowK.get (hm.1) gv_len hm1)) hy rfl rfl) ?_
  refine wa1 14 rfl ?_
  refine wl_guard_on rfl rfl rfl ?_
  refine wl_callv rfl cb138 rfl rfl (fun wx hm => (greedy2_any x0 x1 y0 y1 x2 y2 wx)) ?_
  refine wl_nil ?_
  refine nw 17 32767 (fun _ hm => ⟨hm.k, trivial⟩) fun z => ?_
  refine wto 15 17 65535 rfl rfl rfl z (ov_lss rfl rfl) ?_
  refine wt 16 17 131071 rfl z (ov_pick_t rfl rfl) ?_
  refine wa_done (by kernel_rfl) ?_
  refine nx_then ?_
  refine gw_cond rfl (fun hh => ?_) (fun hh => ?_)
  ·have hlt : cmpS x0 y0 < 0 := by simpa using hh
   clear hh
   refine gw_skip (nx_then (gw_seq (gw_block ?_)))
   have hlt2 : (gvLt) ⟨x0, x1, x2⟩ ⟨y0, y1, y2⟩ = true := decide_eq_true (show cmpS x0 y0 < 0 from hlt)
   have hS2 := (sink_yes hx hy hlt2).symm.trans hS1
   refine gd (fun wz => True) mixed (fun _ _ => trivial) fun z => ?_
   refine wt 0 18 1 rfl z (ov_move rfl) ?_
   refine wt 1 18 3 rfl z (ov_move rfl) ?_
   refine wt 2 18 7 rfl z (ov_move rfl) ?_
   refine wt 3 18 15 rfl z (ov_move rfl) ?_
   refine wt 4 18 31 rfl z (ov_sub rfl rfl (by omega) (by omega)) ?_
   refine wa_set 41 (v' := .int .i64 ((j : Nat) : Int)) rfl (congrArg (Value.int .i64) (by omega)) ?_
   refine wt 5 18 63 rfl z (ov_move rfl) ?_
   refine wt 6 18 127 rfl z (ov_move rfl) ?_
   refine wt 7 18 255 rfl z (ov_sub rfl rfl (by omega) (by omega)) ?_
   refine wa_set 44 (v' := .int .i64 ((j : Nat) : Int)) rfl (congrArg (Value.int .i64) (by omega)) ?_
   refine wt 8 18 511 rfl z (ov_index (j := j) es82 rfl rfl (by omega)) ?_
   refine wt 10 18 1535 rfl z (ov_move rfl) ?_
   refine wt 11 18 3583 rfl z (ov_move rfl) ?_
   refine wt 12 18 7679 rfl z (ov_index (j := (j + 1)) es82 rfl rfl (by omega)) ?_
   refine wa_all [9, 13] (by kernel_rfl) rfl ⟨⟨_, rfl, ?_⟩, ⟨_, rfl, ?_⟩, trivial⟩
   ·refine wl_ov (ov_elem (vs := [.string y0, .string y1, .int .i64 y2]) rz91 rfl (fun _ hm => (RowK.get hm.k gv_len hm1)) hy rfl rfl) rfl ?_
    refine wl_nil ?_
    refine nw 18 8191 (fun _ _ => trivial) fun z => ?_
    refine wa1 13 rfl ?_
    refine wl_ov (ov_elem (vs := [.string x0, .string x1, .int .i64 x2]) rz91 rfl (fun _ hm => (RowK.get hm.k gv_len hm1)) hx rfl rfl) rfl ?_
    refine wl_nil ?_
    refine nw 18 16383 (fun _ _ => trivial) fun z => ?_
    refine wt 14 18 32767 rfl z (ov_index (j := (j + 1)) es82 rfl rfl (by omega)) ?_
    refine wa1 15 rfl ?_
    refine wl_storesRow (l := m) (j := j + 1) (r := 0) (el := ⟨x0, x1, x2⟩) (el' := ⟨y0, y1, y2⟩) rfl rz91 rfl rfl rfl rfl gv_len rfl hx hm1 (by decide) rfl rfl ?_
    refine wl_nil ?_
    refine nw 18 65535 (fun _ _ => trivial) fun z => ?_
    refine wt 16 18 131071 rfl z (ov_index (j := j) es82 rfl rfl (by omega)) ?_
    refine wa1 17 rfl ?_
    refine wl_storesRow (l := m.set (j + 1) ⟨y0, y1, y2⟩) (j := j) (r := 0) (el := ⟨y0, y1, y2⟩) (el' := ⟨x0, x1, x2⟩) rfl rz91 rfl rfl rfl rfl gv_len rfl (by rw [List.getElem?_set_ne (by omega)]; exact hy) (by rw [List.length_set]; exact hm1) (by decide) rfl rfl ?_
    refine wl_nil ?_
    refine nw 18 262143 (fun _ _ => trivial) fun z => ?_
    refine wa_done (by kernel_rfl) ?_
    refine nx_blk_nrm (nx_then (gw_region (mv_ rfl ?_)))
    refine wl_ov (ov_sub rfl rfl (by omega) (by omega)) rfl ?_
    refine wl_set 36 (v' := .int .i64 ((j : Nat) : Int)) rfl (congrArg (Value.int .i64) (by omega)) ?_
    refine sg_ rfl (wl_nil ?_)
    exact nx_round (j, (m.set (j + 1) ⟨y0, y1, y2⟩).set j ⟨x0, x1, x2⟩) ⟨by dsimp only; omega, by simp [hm1], hS2⟩ (by dsimp only; omega) ⟨rfl, rfl, rfl, rfl, rfl, (some_int (by omega)), trivial⟩ (fun _ hm => hm.pick [] [] [] rfl rfl)
   refine wl_ov (ov_elem (vs := [.string x0, .string x1, .int .i64 x2]) rz91 rfl (fun _ hm => (RowK.get hm.k gv_len hm1)) hx rfl rfl) rfl ?_
   refine wl_nil ?_
   refine nw 18 15871 (fun _ _ => trivial) fun z => ?_
   refine wa1 9 rfl ?_
   refine wl_ov (ov_elem (vs := [.string y0, .string y1, .int .i64 y2]) rz91 rfl (fun _ hm => (RowK.get hm.k gv_len hm1)) hy rfl rfl) rfl ?_
   refine wl_nil ?_
   refine nw 18 16383 (fun _ _ => trivial) fun z => ?_
   refine wt 14 18 32767 rfl z (ov_index (j := (j + 1)) es82 rfl rfl (by omega)) ?_
   refine wa1 15 rfl ?_
   refine wl_storesRow (l := m) (j := j + 1) (r := 0) (el := ⟨x0, x1, x2⟩) (el' := ⟨y0, y1, y2⟩) rfl rz91 rfl rfl rfl rfl gv_len rfl hx hm1 (by decide) rfl rfl ?_
   refine wl_nil ?_
   refine nw 18 65535 (fun _ _ => trivial) fun z => ?_
   refine wt 16 18 131071 rfl z (ov_index (j := j) es82 rfl rfl (by omega)) ?_
   refine wa1 17 rfl ?_
   refine wl_storesRow (l := m.set (j + 1) ⟨y0, y1, y2⟩) (j := j) (r := 0) (el := ⟨y0, y1, y2⟩) (el' := ⟨x0, x1, x2⟩) rfl rz91 rfl rfl rfl rfl gv_len rfl (by rw [List.getElem?_set_ne (by omega)]; exact hy) (by rw [List.length_set]; exact hm1) (by decide) rfl rfl ?_
   refine wl_nil ?_
   refine nw 18 262143 (fun _ _ => trivial) fun z => ?_
   refine wa_done (by kernel_rfl) ?_
   refine nx_blk_nrm (nx_then (gw_region (mv_ rfl ?_)))
   refine wl_ov (ov_sub rfl rfl (by omega) (by omega)) rfl ?_
   refine wl_set 36 (v' := .int .i64 ((j : Nat) : Int)) rfl (congrArg (Value.int .i64) (by omega)) ?_
   refine sg_ rfl (wl_nil ?_)
   exact nx_round (j, (m.set (j + 1) ⟨y0, y1, y2⟩).set j ⟨x0, x1, x2⟩) ⟨by dsimp only; omega, by simp [hm1], hS2⟩ (by dsimp only; omega) ⟨rfl, rfl, rfl, rfl, rfl, (some_int (by omega)), trivial⟩ (fun _ hm => hm.pick [] [] [] rfl rfl)
  have hlt : ¬ (cmpS x0 y0 < 0) := by simpa using hh
  clear hh
  refine gw_exit ?_
  refine nx_then_exit (nx_then_exit ?_)
  refine nx_blk_here ?_
  refine nx_blk_nrm (nx_then (gw_region ?_))
  have hlt2 : (gvLt) ⟨x0, x1, x2⟩ ⟨y0, y1, y2⟩ = false := decide_eq_false (show ¬ cmpS x0 y0 < 0 from hlt)
  have hS2 := (sink_no hx hy hlt2).symm.trans hS1
  refine mv_ rfl (ad_ rfl rfl (sg_ rfl (wl_nil ?_)))
  have hm2 : m = S := hS2
  exact nx_round (i + 1, m) ⟨⟨by dsimp only; omega, by dsimp only; omega⟩, by rw [hm2]; exact hSl, by rw [hm2]; exact hRi⟩ (by dsimp only; omega) ⟨rfl, rfl, rfl, rfl, (some_int (by omega)), trivial⟩ (fun _ hm => hm.pick [] [] [] rfl rfl)
 have hi : ¬ (((i : Nat) : Int) < ((n : Nat) : Int)) := by simpa using hh
 clear hh
 refine gw_exit ?_
 refine nx_then_exit (nx_then_exit ?_)
 refine nx_blk_here ?_
 obtain rfl : l = R := by rw [← hR1, show n - i = 0 by omega]; rfl
 refine nx_ret0 rfl fun wx hm => ?_
 exact ⟨rfl, fin_row hm.k hm.g⟩
theorem pdq_gv  (l0 : List Gv) (br n cap base : Nat) (lim : Int) (w : World) (h : w.ownsRow base 91 3 (.slice (some ⟨br, 0, none⟩) n cap) n (l0.flatMap gvEnc)) (hl0 : l0.length = n) (hn : n ≤ 12)  :
  Calls Tryz.prog 210 #[.slice (some ⟨br, 0, none⟩) n cap, .int .i64 0, .int .i64 ((n : Nat) : Int), .int .i64 lim, .func (.func 138) #[] #[]] w (fun e w' => e = .returned (.tuple #[]) ∧ w'.ownsRow base 91 3 (.slice (some ⟨br, 0, none⟩) n cap) n ((isort (gvLt) l0).flatMap gvEnc) ∧ w.grownBy w' (some br)) := by
 refine gw_enter ⟨148, w, (some br), []⟩ Tryz.func210 rfl Tryz.ntmps210 rfl (memR (X := []) h allF_nil allL_nil) ?_
 refine sr_ (sg_ rfl (nn_ (sr_ (sg_ rfl (nn_ (gw_block ?_))))))
 refine gw_rounds 1 ?_
 refine gr_next ?_
 refine gw_block (sr_ (mv_ rfl (mv_ rfl ?_)))
 refine wl_ov (ov_sub rfl rfl (by omega) (by omega)) rfl ?_
 refine sg_ rfl (nn_ (gw_seq (sr_ (mv_ rfl (wl_ov (ov_leq rfl rfl) rfl ?_)))))
 refine wl_set 25 (v' := .bool true) rfl (congrArg Value.bool (decide_eq_true (by omega))) ?_
 refine nn_ (ct_ rfl (sr_ (mv_ rfl (mv_ rfl (mv_ rfl (mv_ rfl ?_))))))
 refine wl_callK rfl rfl rfl cb255 rfl rfl (fun wx hm => (ins_gv  l0 br n cap base wx hm.k hl0 (by omega) )) ?_
 refine nn_ ?_
 refine gw_ret ?_
 refine nx_then_ret (nx_blk_ret (nx_then_ret (nx_blk_ret ?_)))
 refine nx_ret0' rfl fun wx hm => ?_
 exact ⟨rfl, fin_row hm.k hm.g⟩
theorem sort_gv  (l0 : List Gv) (br n cap base : Nat) (w : World) (h : w.ownsRow base 91 3 (.slice (some ⟨br, 0, none⟩) n cap) n (l0.flatMap gvEnc)) (hl0 : l0.length = n) (hn : n ≤ 12)  :
  Calls Tryz.prog 137 #[.slice (some ⟨br, 0, none⟩) n cap, .func (.func 138) #[] #[]] w (fun e w' => e = .returned (.tuple #[]) ∧ w'.ownsRow base 91 3 (.slice (some ⟨br, 0, none⟩) n cap) n ((isort (gvLt) l0).flatMap gvEnc) ∧ w.grownBy w' (some br)) := by
 refine gw_enter ⟨14, w, (some br), []⟩ Tryz.func137 rfl Tryz.ntmps137 rfl (memR (X := []) h allF_nil allL_nil) ?_
 refine sr_ (mv_ rfl (wl_ov (ov_len es82 rfl) rfl (sg_ rfl (nn_ (gw_region (mv_ rfl (mv_ rfl (mv_ rfl ?_))))))))
 refine wl_ov (ov_u64 (a := n) (by kernel_rfl) (by kernel_rfl) rfl (by omega)) rfl ?_
 refine wl_callx (γ := Int) (val := (fun g => .int .i64 g)) (φ := (fun g => True)) (Y := (fun g => fun _ => True)) rfl cb211 rfl rfl (fun wx hm => (bitsLen_any n wx (by omega)).mono fun _ _ ⟨v, he, hg⟩ => ⟨v, he, trivial, hg, trivial⟩) (fun _ => Lasts2.true_) ?_
 rintro lim hphi
 clear hphi
 refine mv_ rfl ?_
 refine wl_callK rfl rfl rfl cb210 rfl rfl (fun wx hm => (pdq_gv  l0 br n cap base _ wx hm.k hl0 hn )) ?_
 refine wl_nil ?_
 refine nx_ret0 rfl fun wx hm => ?_
 exact ⟨rfl, fin_row hm.k hm.g⟩
theorem ins0_gv  (A : Option Addr) (cap : Nat)  (w : World) : Calls Tryz.prog 255 #[.slice A 0 cap, .int .i64 0, .int .i64 0, .func (.func 138) #[] #[]] w (fun e w' => e = .returned (.tuple #[]) ∧ w.grownBy w' none) := by
 refine gw_enter ⟨53, w, none, []⟩ Tryz.func255 rfl Tryz.ntmps255 rfl (mem0 (X := []) allF_nil allL_nil) ?_
 refine sr_ (mv_ rfl (ad_ rfl rfl ?_))
 refine wl_set 11 (v' := .int .i64 1) rfl rfl ?_
 refine sg_ rfl (nn_ (gw_block ?_))
 refine gw_rounds 1 ?_
 refine gr_next ?_
 refine gw_seq (sr_ (mv_ rfl (mv_ rfl (wl_ov (ov_lss rfl rfl) rfl ?_))))
 refine wl_set 14 (v' := .bool false) rfl (congrArg Value.bool (by decide)) ?_
 refine nn_ (cf_ rfl ?_)
 refine gw_exit ?_
 refine nx_then_exit (nx_then_exit ?_)
 refine nx_blk_here ?_
 refine nx_ret0 rfl fun wx hm => ?_
 exact ⟨rfl, hm.g⟩
theorem pdq0_gv  (A : Option Addr) (cap : Nat) (lim : Int) (w : World) : Calls Tryz.prog 210 #[.slice A 0 cap, .int .i64 0, .int .i64 0, .int .i64 lim, .func (.func 138) #[] #[]] w (fun e w' => e = .returned (.tuple #[]) ∧ w.grownBy w' none) := by
 refine gw_enter ⟨148, w, none, []⟩ Tryz.func210 rfl Tryz.ntmps210 rfl (mem0 (X := []) allF_nil allL_nil) ?_
 refine sr_ (sg_ rfl (nn_ (sr_ (sg_ rfl (nn_ (gw_block ?_))))))
 refine gw_rounds 1 ?_
 refine gr_next ?_
 refine gw_block (sr_ (mv_ rfl (mv_ rfl ?_)))
 refine wl_ov (ov_sub rfl rfl (by omega) (by omega)) rfl ?_
 refine wl_set 23 (v' := .int .i64 0) rfl rfl ?_
 refine sg_ rfl (nn_ (gw_seq (sr_ (mv_ rfl (wl_ov (ov_leq rfl rfl) rfl ?_)))))
 refine wl_set 25 (v' := .bool true) rfl (congrArg Value.bool (by decide)) ?_
 refine nn_ (ct_ rfl (sr_ (mv_ rfl (mv_ rfl (mv_ rfl (mv_ rfl ?_))))))
 refine wl_callv rfl cb255 rfl rfl (fun wx hm => (ins0_gv  A cap  wx)) ?_
 refine nn_ ?_
 refine gw_ret ?_
 refine nx_then_ret (nx_blk_ret (nx_then_ret (nx_blk_ret ?_)))
 refine nx_ret0' rfl fun wx hm => ?_
 exact ⟨rfl, hm.g⟩
theorem sort0_gv  (A : Option Addr) (cap : Nat)  (w : World) : Calls Tryz.prog 137 #[.slice A 0 cap, .func (.func 138) #[] #[]] w (fun e w' => e = .returned (.tuple #[]) ∧ w.grownBy w' none) := by
 refine gw_enter ⟨14, w, none, []⟩ Tryz.func137 rfl Tryz.ntmps137 rfl (mem0 (X := []) allF_nil allL_nil) ?_
 refine sr_ (mv_ rfl (wl_ov (ov_len es82 rfl) rfl ?_))
 refine wl_set 6 (v' := .int .i64 0) rfl rfl ?_
 refine sg_ rfl (nn_ (gw_region (mv_ rfl (mv_ rfl (mv_ rfl ?_)))))
 refine wl_ov (ov_u64 (a := 0) (by kernel_rfl) (by kernel_rfl) rfl (by omega)) rfl ?_
 refine wl_callx (γ := Int) (val := (fun g => .int .i64 g)) (φ := (fun g => True)) (Y := (fun g => fun _ => True)) rfl cb211 rfl rfl (fun wx hm => (by have h := bitsLen_any 0 wx (by omega); exact h.mono fun _ _ ⟨v, he, hg⟩ => ⟨v, he, trivial, hg, trivial⟩)) (fun _ => Lasts2.true_) ?_
 rintro lim hphi
 clear hphi
 refine mv_ rfl ?_
 refine wl_callv rfl cb210 rfl rfl (fun wx hm => (pdq0_gv  A cap _ wx)) ?_
 refine wl_nil ?_
 refine nx_ret0 rfl fun wx hm => ?_
 exact ⟨rfl, hm.g⟩
theorem greedyI_any (l : List Bk) (A : Option Addr) (nb cb g5 i j : Nat) (w : World) (hl : SlT bkEnc 6 181 w A nb l) (hk : Blk w g5 78 [.slice A nb cb]) (hi : i < nb) (hj : j < nb) :
  Calls Tryz.prog 123 #[.int .i64 ((i : Nat) : Int), .int .i64 ((j : Nat) : Int), .pointer (some ⟨g5, 0, none⟩)] w (fun e w' => e = .returned (.int .i64 (cmpI (gfrAt l ((i : Nat) : Int)) (gfrAt l ((j : Nat) : Int)))) ∧ w.grownBy w' none) := by
 refine gw_enter ⟨19, w, none, []⟩ Tryz.func123 rfl Tryz.ntmps123 rfl (mem0 (X := [SlOld bkEnc 6 181 w.heap.size none A nb l, BlkOld w.heap.size none g5 78 [.slice A nb cb]]) (allF_cons hl.old (allF_cons hk.old allF_nil)) (allL_cons SlOld.lasts (allL_cons BlkOld.lasts allL_nil))) ?_
 refine sr_ ?_
 have hlen := hl.len
 obtain ⟨b, off, hA, _, _⟩ := hl.get (by omega)
 subst hA
 obtain ⟨x, hx⟩ : ∃ x, l[i]? = some x := ⟨_, List.getElem?_eq_getElem (by omega)⟩
 obtain ⟨x0, x1, x2, x3, x4, x5⟩ := x
 obtain ⟨y, hy⟩ : ∃ x, l[j]? = some x := ⟨_, List.getElem?_eq_getElem (by omega)⟩
 obtain ⟨y0, y1, y2, y3, y4, y5⟩ := y
 rw [gfrAt_at hx, gfrAt_at hy]
 refine sg_ rfl (nn_ (gw_seq ?_))
 refine gd (fun wz => (SlOld bkEnc 6 181 w.heap.size none (some ⟨b, off, none⟩) nb l) wz ∧ (BlkOld w.heap.size none g5 78 [.slice (some ⟨b, off, none⟩) nb cb]) wz ∧ True) mixed (fun _ hm => ⟨hm.fa 0, hm.fa 1, trivial⟩) fun z => ?_
 refine wt 0 14 1 rfl z (ov_load (v := .slice (some ⟨b, off, none⟩) nb cb) sc78 rfl (fun _ hm => (hm.2.1).2) rfl) ?_
 refine wt 1 14 3 rfl z (ov_move rfl) ?_
 refine wt 2 14 7 rfl z (ov_index (j := i) es78 rfl rfl (by omega)) ?_
 refine wt 3 14 15 rfl z (ov_field fo181_2 rfl rfl) ?_
 refine wt 4 14 31 rfl z (ov_field fo62_0 rfl rfl) ?_
 refine wt 5 14 63 rfl z (ov_elem1 (k := 2) (v := .int .i64 x2) sc3 rfl (fun _ hm => (hm.1).1) hx rfl rfl) ?_
 refine wt 6 14 127 rfl z (ov_load (v := .slice (some ⟨b, off, none⟩) nb cb) sc78 rfl (fun _ hm => (hm.2.1).2) rfl) ?_
 refine wt 7 14 255 rfl z (ov_move rfl) ?_
 refine wt 8 14 511 rfl z (ov_index (j := j) es78 rfl rfl (by omega)) ?_
 refine wt 9 14 1023 rfl z (ov_field fo181_2 rfl rfl) ?_
 refine wt 10 14 2047 rfl z (ov_field fo62_0 rfl rfl) ?_
 refine wt 11 14 4095 rfl z (ov_elem1 (k := 2) (v := .int .i64 y2) sc3 rfl (fun _ hm => (hm.1).1) hy rfl rfl) ?_
 refine wa1 12 rfl ?_
 refine wl_callv rfl cb103 rfl rfl (fun wx hm => (cmp_int _ _ wx)) ?_
 refine wl_nil ?_
 refine nw 14 8191 (fun _ hm => ⟨hm.fa 0, hm.fa 1, trivial⟩) fun z => ?_
 refine wt 13 14 16383 rfl z (ov_assign rfl) ?_
 refine wa_done (by kernel_rfl) ?_
 refine nx_then ?_
 refine gw_ret ?_
 refine nx_ret1 rfl rfl fun wx hm => ?_
 exact ⟨rfl, hm.g⟩
end Go.Proofs.YtpikhokaclpbhaaGreatDoor
namespace Go.Proofs.YtpikhokaclpbhaaGreatDoor
open Go.RowKit
theorem SlOld.again {α : Type} {enc : α → List Value} {k : Nat} {T : TypeId} {N : Nat} {row : Option Nat} {A : Option Addr} {n : Nat} {l : List α} {w : World} (h : SlOld enc k T N row A n l w) : SlOld enc k T w.heap.size row A n l w := ⟨h.1, fun b off e hn => by
  obtain ⟨b2, off2, cells, fz, e2, hh, _⟩ := h.1.at_ hn
  rw [e] at e2; cases e2
  exact ⟨(Array.getElem?_eq_some_iff.1 hh).1, (h.2 b off e hn).2⟩⟩
theorem BlkOld.again2 {N g br : Nat} {T : TypeId} {cs : List Value} {w : World} (h : BlkOld N (some br) g T cs w) : BlkOld w.heap.size (some br) g T cs w := ⟨⟨h.2.lt, h.1.2⟩, h.2⟩
theorem iE_len (x : Int) : (iEnc x).length = 1 := rfl
theorem greedyJ_any (l : List Bk) (A : Option Addr) (nb cb g5 : Nat) (x y : Int) (w : World) (hl : SlT bkEnc 6 181 w A nb l) (hk : Blk w g5 78 [.slice A nb cb]) (hx : 0 ≤ x ∧ x < (nb : Int)) (hy : 0 ≤ y ∧ y < (nb : Int)) :
    Calls Tryz.prog 123 #[.int .i64 x, .int .i64 y, .pointer (some ⟨g5, 0, none⟩)] w (fun e w' => e = .returned (.int .i64 (cmpI (gfrAt l x) (gfrAt l y))) ∧ w.grownBy w' none) := by
  obtain ⟨i, rfl⟩ := Int.eq_ofNat_of_zero_le hx.1
  obtain ⟨j, rfl⟩ := Int.eq_ofNat_of_zero_le hy.1
  exact greedyI_any l A nb cb g5 i j w hl hk (by omega) (by omega)
theorem ins_gi (bl : List Bk) (A : Option Addr) (nb cb g5 : Nat) (l0 : List Int) (br n cap base : Nat) (w : World) (h : w.ownsRow base 3 1 (.slice (some ⟨br, 0, none⟩) n cap) n (l0.flatMap iEnc)) (hl0 : l0.length = n) (hn : n ≤ 1000000) (hl : SlOld bkEnc 6 181 w.heap.size (some br) A nb bl w) (hk : BlkOld w.heap.size (some br) g5 78 [.slice A nb cb] w) (hall : ∀ z ∈ l0, 0 ≤ z ∧ z < (nb : Int)) :
  Calls Tryz.prog 250 #[.slice (some ⟨br, 0, none⟩) n cap, .int .i64 0, .int .i64 ((n : Nat) : Int), .func (.func 123) #[] #[.pointer (some ⟨g5, 0, none⟩)]] w (fun e w' => e = .returned (.tuple #[]) ∧ w'.ownsRow base 3 1 (.slice (some ⟨br, 0, none⟩) n cap) n ((isort (idLt bl) l0).flatMap iEnc) ∧ w.grownBy w' (some br)) := by
 obtain ⟨R, hR⟩ : ∃ z, z = isort (idLt bl) l0 := ⟨_, rfl⟩
 rw [← hR]
 refine gw_enter ⟨53, w, (some br), []⟩ Tryz.func250 rfl Tryz.ntmps250 rfl (memR (X := [SlOld bkEnc 6 181 w.heap.size (some br) A nb bl, BlkOld w.heap.size (some br) g5 78 [.slice A nb cb]]) h (allF_cons hl (allF_cons hk allF_nil)) (allL_cons SlOld.lasts (allL_cons BlkOld.lasts allL_nil))) ?_
 refine sr_ (mv_ rfl (ad_ rfl rfl ?_))
 refine wl_set 11 (v' := .int .i64 1) rfl rfl ?_
 refine sg_ rfl (nn_ (gw_block ?_))
 refine gw_loop (γ := Nat × List Int) (fun gg => (1 ≤ gg.1 ∧ gg.1 ≤ n + 1) ∧ gg.2.length = n ∧ isortF (idLt bl) (n - gg.1) gg.1 gg.2 = R) (fun gg => [(0, .slice (some ⟨br, 0, none⟩) n cap), (1, .int .i64 0), (2, .int .i64 ((n : Nat) : Int)), (3, .func (.func 123) #[] #[.pointer (some ⟨g5, 0, none⟩)]), (8, .int .i64 ((gg.1 : Nat) : Int))]) (fun gg => RowK base 3 1 n cap br ((gg.2).flatMap iEnc)) (fun gg => []) (fun gg => []) (fun gg => [SlOld bkEnc 6 181 w.heap.size (some br) A nb bl, BlkOld w.heap.size (some br) g5 78 [.slice A nb cb]]) (fun gg => n + 1 - gg.1) (1, l0) ⟨⟨Nat.le_refl _, by omega⟩, hl0, by rw [hR]; unfold isort; rw [hl0]⟩ ⟨rfl, rfl, rfl, rfl, (some_int (by omega)), trivial⟩ (fun _ hm => hm.pick [] [] [0, 1] rfl rfl) ?_
 rintro ⟨i, l⟩ hinv
 replace hinv : (1 ≤ i ∧ i ≤ n + 1) ∧ l.length = n ∧ isortF (idLt bl) (n - i) i l = R := hinv
 dsimp only
 refine gw_seq (sr_ ?_)
 obtain ⟨⟨hi1, hi2⟩, hl1, hR1⟩ := hinv
 refine mv_ rfl (mv_ rfl (wl_ov (ov_lss rfl rfl) rfl (nn_ ?_)))
 refine gw_cond rfl (fun hh => ?_) (fun hh => ?_)
 ·have hi : ((i : Nat) : Int) < ((n : Nat) : Int) := by simpa using hh
  clear hh
  refine gw_skip (nx_then (gw_seq (gw_block (sr_ ?_))))
  have hRi : isortF (idLt bl) (n - (i + 1)) (i + 1) (sink (idLt bl) i l) = R := by rw [← hR1, show n - i = (n - (i + 1)) + 1 by omega]; rfl
  obtain ⟨S, hS⟩ : ∃ z, z = sink (idLt bl) i l := ⟨_, rfl⟩
  rw [← hS] at hRi
  have hSl : S.length = n := by rw [hS, sink_len]; exact hl1
  refine mv_ rfl (sg_ rfl (nn_ (gw_block ?_)))
  refine gw_loop (γ := Nat × List Int) (fun gg => (gg.1 ≤ i) ∧ gg.2.length = n ∧ sink (idLt bl) gg.1 gg.2 = S) (fun gg => [(0, .slice (some ⟨br, 0, none⟩) n cap), (1, .int .i64 0), (2, .int .i64 ((n : Nat) : Int)), (3, .func (.func 123) #[] #[.pointer (some ⟨g5, 0, none⟩)]), (8, .int .i64 ((i : Nat) : Int)), (9, .int .i64 ((gg.1 : Nat) : Int))]) (fun gg => RowK base 3 1 n cap br ((gg.2).flatMap iEnc)) (fun gg => []) (fun gg => []) (fun gg => [SlOld bkEnc 6 181 w.heap.size (some br) A nb bl, BlkOld w.heap.size (some br) g5 78 [.slice A nb cb]]) (fun gg => gg.1) (i, l) ⟨Nat.le_refl _, hl1, hS.symm⟩ ⟨rfl, rfl, rfl, rfl, rfl, rfl, trivial⟩ (fun _ hm => hm.pick [] [] [0, 1] rfl rfl) ?_
  rintro ⟨jj, m⟩ hinv
  replace hinv : (jj ≤ i) ∧ m.length = n ∧ sink (idLt bl) jj m = S := hinv
  dsimp only
  refine gw_seq (gw_seq ?_)
  obtain ⟨hj1, hm1, hS1⟩ := hinv
  rcases jj with _ | j
  ·refine gd (fun wz => (SlOld bkEnc 6 181 w.heap.size (some br) A nb bl) wz ∧ (BlkOld w.heap.size (some br) g5 78 [.slice A nb cb]) wz ∧ True) mixed (fun _ hm => ⟨hm.fa 0, hm.fa 1, trivial⟩) fun z => ?_
   refine wt 0 17 1 rfl z (ov_move rfl) ?_
   refine wa_set 18 (v' := .int .i64 0) rfl rfl ?_
   refine wt 1 17 3 rfl z (ov_move rfl) ?_
   refine wt 2 17 7 rfl z (ov_gtr rfl rfl) ?_
   refine wa_set 20 (v' := .bool false) rfl (congrArg Value.bool (by decide)) ?_
   refine wt 3 17 15 rfl z (ov_move rfl) ?_
   refine wtf 4 17 31 rfl rfl rfl z ?_
   refine wtf 5 17 63 rfl rfl rfl z ?_
   refine wtf 6 17 127 rfl rfl rfl z ?_
   refine wtf 7 17 255 rfl rfl rfl z ?_
   refine wtf 8 17 511 rfl rfl rfl z ?_
   refine wtf 9 17 1023 rfl rfl rfl z ?_
   refine wtf 10 17 2047 rfl rfl rfl z ?_
   refine wtf 11 17 4095 rfl rfl rfl z ?_
   refine wtf 12 17 8191 rfl rfl rfl z ?_
   refine wtf 13 17 16383 rfl rfl rfl z ?_
   refine wtf 14 17 32767 rfl rfl rfl z ?_
   refine wtf 15 17 65535 rfl rfl rfl z ?_
   refine wt 16 17 131071 rfl z (ov_pick_f rfl rfl) ?_
   refine wa_done (by kernel_rfl) ?_
   refine nx_then (cf_ rfl ?_)
   refine gw_exit ?_
   refine nx_then_exit (nx_then_exit ?_)
   refine nx_blk_here ?_
   refine nx_blk_nrm (nx_then (gw_region (mv_ rfl (ad_ rfl rfl (sg_ rfl (wl_nil ?_))))))
   have hm2 : m = S := hS1
   exact nx_round (i + 1, m) ⟨⟨by dsimp only; omega, by dsimp only; omega⟩, by rw [hm2]; exact hSl, by rw [hm2]; exact hRi⟩ (by dsimp only; omega) ⟨rfl, rfl, rfl, rfl, (some_int (by omega)), trivial⟩ (fun _ hm => hm.pick [] [] [0, 1] rfl rfl)
  have hj2 : j + 1 < n := by omega
  have hin : ∀ z ∈ m, z ∈ l0 := fun z hz => mem_in hR hRi hS1 hz
  obtain ⟨x0, hx⟩ : ∃ x, m[j + 1]? = some x := ⟨_, List.getElem?_eq_getElem (by omega)⟩
  obtain ⟨y0, hy⟩ : ∃ x, m[j]? = some x := ⟨_, List.getElem?_eq_getElem (by omega)⟩
  refine gd (fun wz => (SlOld bkEnc 6 181 w.heap.size (some br) A nb bl) wz ∧ (BlkOld w.heap.size (some br) g5 78 [.slice A nb cb]) wz ∧ (RowK base 3 1 n cap br ((m).flatMap iEnc)) wz ∧ True) mixed (fun _ hm => ⟨hm.fa 0, hm.fa 1, hm.k, trivial⟩) fun z => ?_
  refine wt 0 17 1 rfl z (ov_move rfl) ?_
  refine wt 1 17 3 rfl z (ov_move rfl) ?_
  refine wt 2 17 7 rfl z (ov_gtr rfl rfl) ?_
  refine wa_set 20 (v' := .bool true) rfl (congrArg Value.bool (decide_eq_true (by omega))) ?_
  refine wt 3 17 15 rfl z (ov_move rfl) ?_
  refine wto 4 17 31 rfl rfl rfl z (ov_move rfl) ?_
  refine wto 5 17 63 rfl rfl rfl z (ov_move rfl) ?_
  refine wto 6 17 127 rfl rfl rfl z (ov_move rfl) ?_
  refine wto 7 17 255 rfl rfl rfl z (ov_index (j := (j + 1)) es22 rfl rfl (by omega)) ?_
  refine wto 8 17 511 rfl rfl rfl z (ov_elem1 (k := 0) (v := .int .i64 x0) sc3 rfl (fun _ hm => (RowK.get (hm.2.2.1) iE_len hm1)) hx rfl rfl) ?_
  refine wto 9 17 1023 rfl rfl rfl z (ov_move rfl) ?_
  refine wto 10 17 2047 rfl rfl rfl z (ov_move rfl) ?_
  refine wto 11 17 4095 rfl rfl rfl z (ov_sub rfl rfl (by omega) (by omega)) ?_
  refine wa_set 29 (v' := .int .i64 ((j : Nat) : Int)) rfl (congrArg (Value.int .i64) (by omega)) ?_
  refine wto 12 17 8191 rfl rfl rfl z (ov_index (j := j) es22 rfl rfl (by omega)) ?_
  refine wto 13 17 16383 rfl rfl rfl z (ov_elem1 (k := 0) (v := .int .i64 y0) sc3 rfl (fun _ hm => (RowK.get (hm.2.2.1) iE_len hm1)) hy rfl rfl) ?_
  refine wa1 14 rfl ?_
  refine wl_guard_on rfl rfl rfl ?_
  refine wl_callv rfl cb123 rfl rfl (fun wx hm => (greedyJ_any bl A nb cb g5 x0 y0 wx (hm.fact 0 rfl).1 (hm.fact 1 rfl).2 (hall _ (hin _ (List.mem_of_getElem? hx))) (hall _ (hin _ (List.mem_of_getElem? hy))))) ?_
  refine wl_nil ?_
  refine nw 17 32767 (fun _ hm => ⟨hm.fa 0, hm.fa 1, hm.k, trivial⟩) fun z => ?_
  refine wto 15 17 65535 rfl rfl rfl z (ov_lss rfl rfl) ?_
  refine wt 16 17 131071 rfl z (ov_pick_t rfl rfl) ?_
  refine wa_done (by kernel_rfl) ?_
  refine nx_then ?_
  refine gw_cond rfl (fun hh => ?_) (fun hh => ?_)
  ·have hlt : cmpI (gfrAt bl x0) (gfrAt bl y0) < 0 := by simpa using hh
   clear hh
   refine gw_skip (nx_then (gw_seq (gw_block ?_)))
   have hlt2 : (idLt bl) x0 y0 = true := decide_eq_true (show cmpI (gfrAt bl x0) (gfrAt bl y0) < 0 from hlt)
   have hS2 := (sink_yes hx hy hlt2).symm.trans hS1
   refine gd (fun wz => (SlOld bkEnc 6 181 w.heap.size (some br) A nb bl) wz ∧ (BlkOld w.heap.size (some br) g5 78 [.slice A nb cb]) wz ∧ True) mixed (fun _ hm => ⟨hm.fa 0, hm.fa 1, trivial⟩) fun z => ?_
   refine wt 0 18 1 rfl z (ov_move rfl) ?_
   refine wt 1 18 3 rfl z (ov_move rfl) ?_
   refine wt 2 18 7 rfl z (ov_move rfl) ?_
   refine wt 3 18 15 rfl z (ov_move rfl) ?_
   refine wt 4 18 31 rfl z (ov_sub rfl rfl (by omega) (by omega)) ?_
   refine wa_set 41 (v' := .int .i64 ((j : Nat) : Int)) rfl (congrArg (Value.int .i64) (by omega)) ?_
   refine wt 5 18 63 rfl z (ov_move rfl) ?_
   refine wt 6 18 127 rfl z (ov_move rfl) ?_
   refine wt 7 18 255 rfl z (ov_sub rfl rfl (by omega) (by omega)) ?_
   refine wa_set 44 (v' := .int .i64 ((j : Nat) : Int)) rfl (congrArg (Value.int .i64) (by omega)) ?_
   refine wt 8 18 511 rfl z (ov_index (j := j) es22 rfl rfl (by omega)) ?_
   refine wt 10 18 1535 rfl z (ov_move rfl) ?_
   refine wt 11 18 3583 rfl z (ov_move rfl) ?_
   refine wt 12 18 7679 rfl z (ov_index (j := (j + 1)) es22 rfl rfl (by omega)) ?_
   refine wa_all [9, 13] (by kernel_rfl) rfl ⟨⟨_, rfl, ?_⟩, ⟨_, rfl, ?_⟩, trivial⟩
   ·refine wl_ov (ov_elem1 (k := 0) (v := .int .i64 y0) sc3 rfl (fun _ hm => (RowK.get hm.k iE_len hm1)) hy rfl rfl) rfl ?_
    refine wl_nil ?_
    refine nw 18 8191 (fun _ hm => ⟨hm.fa 0, hm.fa 1, trivial⟩) fun z => ?_
    refine wa1 13 rfl ?_
    refine wl_ov (ov_elem1 (k := 0) (v := .int .i64 x0) sc3 rfl (fun _ hm => (RowK.get hm.k iE_len hm1)) hx rfl rfl) rfl ?_
    refine wl_nil ?_
    refine nw 18 16383 (fun _ hm => ⟨hm.fa 0, hm.fa 1, trivial⟩) fun z => ?_
    refine wt 14 18 32767 rfl z (ov_index (j := (j + 1)) es22 rfl rfl (by omega)) ?_
    refine wa1 15 rfl ?_
    refine wl_storeRow (l := m) (j := j + 1) (r := 0) (el := x0) (el' := y0) rfl sc3 rfl rfl rfl iE_len rfl hx hm1 (by decide) rfl rfl ?_
    refine wl_nil ?_
    refine nw 18 65535 (fun _ hm => ⟨hm.fa 0, hm.fa 1, trivial⟩) fun z => ?_
    refine wt 16 18 131071 rfl z (ov_index (j := j) es22 rfl rfl (by omega)) ?_
    refine wa1 17 rfl ?_
    refine wl_storeRow (l := m.set (j + 1) y0) (j := j) (r := 0) (el := y0) (el' := x0) rfl sc3 rfl rfl rfl iE_len rfl (by rw [List.getElem?_set_ne (by omega)]; exact hy) (by rw [List.length_set]; exact hm1) (by decide) rfl rfl ?_
    refine wl_nil ?_
    refine nw 18 262143 (fun _ hm => ⟨hm.fa 0, hm.fa 1, trivial⟩) fun z => ?_
    refine wa_done (by kernel_rfl) ?_
    refine nx_blk_nrm (nx_then (gw_region (mv_ rfl ?_)))
    refine wl_ov (ov_sub rfl rfl (by omega) (by omega)) rfl ?_
    refine wl_set 36 (v' := .int .i64 ((j : Nat) : Int)) rfl (congrArg (Value.int .i64) (by omega)) ?_
    refine sg_ rfl (wl_nil ?_)
    exact nx_round (j, (m.set (j + 1) y0).set j x0) ⟨by dsimp only; omega, by simp [hm1], hS2⟩ (by dsimp only; omega) ⟨rfl, rfl, rfl, rfl, rfl, (some_int (by omega)), trivial⟩ (fun _ hm => hm.pick [] [] [0, 1] rfl rfl)
   refine wl_ov (ov_elem1 (k := 0) (v := .int .i64 x0) sc3 rfl (fun _ hm => (RowK.get hm.k iE_len hm1)) hx rfl rfl) rfl ?_
   refine wl_nil ?_
   refine nw 18 15871 (fun _ hm => ⟨hm.fa 0, hm.fa 1, trivial⟩) fun z => ?_
   refine wa1 9 rfl ?_
   refine wl_ov (ov_elem1 (k := 0) (v := .int .i64 y0) sc3 rfl (fun _ hm => (RowK.get hm.k iE_len hm1)) hy rfl rfl) rfl ?_
   refine wl_nil ?_
   refine nw 18 16383 (fun _ hm => ⟨hm.fa 0, hm.fa 1, trivial⟩) fun z => ?_
   refine wt 14 18 32767 rfl z (ov_index (j := (j + 1)) es22 rfl rfl (by omega)) ?_
   refine wa1 15 rfl ?_
   refine wl_storeRow (l := m) (j := j + 1) (r := 0) (el := x0) (el' := y0) rfl sc3 rfl rfl rfl iE_len rfl hx hm1 (by decide) rfl rfl ?_
   refine wl_nil ?_
   refine nw 18 65535 (fun _ hm => ⟨hm.fa 0, hm.fa 1, trivial⟩) fun z => ?_
   refine wt 16 18 131071 rfl z (ov_index (j := j) es22 rfl rfl (by omega)) ?_
   refine wa1 17 rfl ?_
   refine wl_storeRow (l := m.set (j + 1) y0) (j := j) (r := 0) (el := y0) (el' := x0) rfl sc3 rfl rfl rfl iE_len rfl (by rw [List.getElem?_set_ne (by omega)]; exact hy) (by rw [List.length_set]; exact hm1) (by decide) rfl rfl ?_
   refine wl_nil ?_
   refine nw 18 262143 (fun _ hm => ⟨hm.fa 0, hm.fa 1, trivial⟩) fun z => ?_
   refine wa_done (by kernel_rfl) ?_
   refine nx_blk_nrm (nx_then (gw_region (mv_ rfl ?_)))
   refine wl_ov (ov_sub rfl rfl (by omega) (by omega)) rfl ?_
   refine wl_set 36 (v' := .int .i64 ((j : Nat) : Int)) rfl (congrArg (Value.int .i64) (by omega)) ?_
   refine sg_ rfl (wl_nil ?_)
   exact nx_round (j, (m.set (j + 1) y0).set j x0) ⟨by dsimp only; omega, by simp [hm1], hS2⟩ (by dsimp only; omega) ⟨rfl, rfl, rfl, rfl, rfl, (some_int (by omega)), trivial⟩ (fun _ hm => hm.pick [] [] [0, 1] rfl rfl)
  have hlt : ¬ (cmpI (gfrAt bl x0) (gfrAt bl y0) < 0) := by simpa using hh
  clear hh
  refine gw_exit ?_
  refine nx_then_exit (nx_then_exit ?_)
  refine nx_blk_here ?_
  refine nx_blk_nrm (nx_then (gw_region ?_))
  have hlt2 : (idLt bl) x0 y0 = false := decide_eq_false (show ¬ cmpI (gfrAt bl x0) (gfrAt bl y0) < 0 from hlt)
  have hS2 := (sink_no hx hy hlt2).symm.trans hS1
  refine mv_ rfl (ad_ rfl rfl (sg_ rfl (wl_nil ?_)))
  have hm2 : m = S := hS2
  exact nx_round (i + 1, m) ⟨⟨by dsimp only; omega, by dsimp only; omega⟩, by rw [hm2]; exact hSl, by rw [hm2]; exact hRi⟩ (by dsimp only; omega) ⟨rfl, rfl, rfl, rfl, (some_int (by omega)), trivial⟩ (fun _ hm => hm.pick [] [] [0, 1] rfl rfl)
 have hi : ¬ (((i : Nat) : Int) < ((n : Nat) : Int)) := by simpa using hh
 clear hh
 refine gw_exit ?_
 refine nx_then_exit (nx_then_exit ?_)
 refine nx_blk_here ?_
 obtain rfl : l = R := by rw [← hR1, show n - i = 0 by omega]; rfl
 refine nx_ret0 rfl fun wx hm => ?_
 exact ⟨rfl, fin_row hm.k hm.g⟩
theorem stb_gi (bl : List Bk) (A : Option Addr) (nb cb g5 : Nat) (l0 : List Int) (br n cap base : Nat) (w : World) (h : w.ownsRow base 3 1 (.slice (some ⟨br, 0, none⟩) n cap) n (l0.flatMap iEnc)) (hl0 : l0.length = n) (hn : n ≤ 19) (hl : SlOld bkEnc 6 181 w.heap.size (some br) A nb bl w) (hk : BlkOld w.heap.size (some br) g5 78 [.slice A nb cb] w) (hall : ∀ z ∈ l0, 0 ≤ z ∧ z < (nb : Int)) :
  Calls Tryz.prog 200 #[.slice (some ⟨br, 0, none⟩) n cap, .int .i64 ((n : Nat) : Int), .func (.func 123) #[] #[.pointer (some ⟨g5, 0, none⟩)]] w (fun e w' => e = .returned (.tuple #[]) ∧ w'.ownsRow base 3 1 (.slice (some ⟨br, 0, none⟩) n cap) n ((isort (idLt bl) l0).flatMap iEnc) ∧ w.grownBy w' (some br)) := by
 refine gw_enter ⟨63, w, (some br), []⟩ Tryz.func200 rfl Tryz.ntmps200 rfl (memR (X := [SlOld bkEnc 6 181 w.heap.size (some br) A nb bl, BlkOld w.heap.size (some br) g5 78 [.slice A nb cb]]) h (allF_cons hl (allF_cons hk allF_nil)) (allL_cons SlOld.lasts (allL_cons BlkOld.lasts allL_nil))) ?_
 refine sr_ (sg_ rfl (nn_ (sr_ (mv_ rfl (sg_ rfl (sg_ rfl (nn_ (gw_seq (gw_block ?_)))))))))
 refine gw_rounds 1 ?_
 refine gr_next ?_
 refine gw_seq (sr_ (mv_ rfl (mv_ rfl (wl_ov (ov_leq rfl rfl) rfl ?_))))
 refine wl_set 13 (v' := .bool false) rfl (congrArg Value.bool (decide_eq_false (by omega))) ?_
 refine nn_ (cf_ rfl ?_)
 refine gw_exit ?_
 refine nx_then_exit (nx_then_exit ?_)
 refine nx_blk_here ?_
 refine nx_then (sr_ (mv_ rfl (mv_ rfl (mv_ rfl (mv_ rfl ?_)))))
 refine wl_callK rfl rfl rfl cb250 rfl rfl (fun wx hm => (ins_gi bl A nb cb g5 l0 br n cap base wx hm.k hl0 (by omega) (hm.fact 0 rfl).again (hm.fact 1 rfl).again2 hall)) ?_
 refine nn_ (gw_block ?_)
 refine gw_rounds 1 ?_
 refine gr_next ?_
 refine gw_seq (sr_ (mv_ rfl (mv_ rfl (wl_ov (ov_lss rfl rfl) rfl ?_))))
 refine wl_set 30 (v' := .bool false) rfl (congrArg Value.bool (decide_eq_false (by omega))) ?_
 refine nn_ (cf_ rfl ?_)
 refine gw_exit ?_
 refine nx_then_exit (nx_then_exit ?_)
 refine nx_blk_here ?_
 refine nx_ret0 rfl fun wx hm => ?_
 exact ⟨rfl, fin_row hm.k hm.g⟩
set_option maxRecDepth 100000 in
set_option maxHeartbeats 400000 in
theorem stable_gi (bl : List Bk) (A : Option Addr) (nb cb g5 : Nat) (l0 : List Int) (br n cap base : Nat) (w : World) (h : w.ownsRow base 3 1 (.slice (some ⟨br, 0, none⟩) n cap) n (l0.flatMap iEnc)) (hl0 : l0.length = n) (hn : n ≤ 19) (hl : SlOld bkEnc 6 181 w.heap.size (some br) A nb bl w) (hk : BlkOld w.heap.size (some br) g5 78 [.slice A nb cb] w) (hall : ∀ z ∈ l0, 0 ≤ z ∧ z < (nb : Int)) :
    Calls Tryz.prog 122 #[.slice (some ⟨br, 0, none⟩) n cap, .func (.func 123) #[] #[.pointer (some ⟨g5, 0, none⟩)]] w (fun e w' => e = .returned (.tuple #[]) ∧ w'.ownsRow base 3 1 (.slice (some ⟨br, 0, none⟩) n cap) n ((isort (idLt bl) l0).flatMap iEnc) ∧ w.grownBy w' (some br)) := by
  refine gw_enter ⟨9, w, (some br), []⟩ Tryz.func122 rfl Tryz.ntmps122 rfl (memR (X := [SlOld bkEnc 6 181 w.heap.size (some br) A nb bl, BlkOld w.heap.size (some br) g5 78 [.slice A nb cb]]) h (allF_cons hl (allF_cons hk allF_nil)) (allL_cons SlOld.lasts (allL_cons BlkOld.lasts allL_nil))) ?_
  refine gw_region ?_
  refine wl_ov (ov_move rfl) rfl ?_
  refine wl_ov (ov_move rfl) rfl ?_
  refine wl_ov (ov_len es22 rfl) rfl ?_
  refine wl_ov (ov_move rfl) rfl ?_
  refine wl_callK rfl rfl rfl cb200 rfl rfl (fun wx hm => (stb_gi bl A nb cb g5 l0 br n cap base wx hm.k hl0 (by omega) (hm.fact 0 rfl).again (hm.fact 1 rfl).again2 hall)) ?_
  refine wl_nil ?_
  refine nx_ret0 rfl fun wx hm => ?_
  exact ⟨rfl, fin_row hm.k hm.g⟩
end Go.Proofs.YtpikhokaclpbhaaGreatDoor
namespace Go.Proofs.YtpikhokaclpbhaaGreatDoor
section
variable {α β : Type}
theorem sink_map {lt : α → α → Bool} {lt' : β → β → Bool} {f : α → β} (hf : ∀ x y, lt' (f x) (f y) = lt x y) : ∀ (j : Nat) (l : List α), sink lt' j (l.map f) = (sink lt j l).map f
  | 0, l => by simp [sink]
  | j + 1, l => by
    have ih := fun m => sink_map (lt := lt) (lt' := lt') hf j m
    cases hx : l[j + 1]? with
    | none =>
      unfold sink
      simp [List.getElem?_map, hx]
    | some x =>
      cases hy : l[j]? with
      | none =>
        unfold sink
        simp [List.getElem?_map, hx, hy]
      | some y =>
        have hx' : (l.map f)[j + 1]? = some (f x) := by rw [List.getElem?_map, hx]; rfl
        have hy' : (l.map f)[j]? = some (f y) := by rw [List.getElem?_map, hy]; rfl
        cases h : lt x y with
        | true =>
          rw [sink_yes hx hy h, sink_yes hx' hy' (by rw [hf]; exact h), ← ih, List.map_set, List.map_set]
        | false =>
          rw [sink_no hx hy h, sink_no hx' hy' (by rw [hf]; exact h)]
theorem isortF_map {lt : α → α → Bool} {lt' : β → β → Bool} {f : α → β} (hf : ∀ x y, lt' (f x) (f y) = lt x y) : ∀ (k i : Nat) (l : List α), isortF lt' k i (l.map f) = (isortF lt k i l).map f
  | 0, i, l => by simp [isortF]
  | k + 1, i, l => by
    unfold isortF
    rw [sink_map hf, isortF_map hf]
/-- Sorting commutes with a map that keeps the order. -/
theorem isort_mapF {lt : α → α → Bool} {lt' : β → β → Bool} {f : α → β} (hf : ∀ x y, lt' (f x) (f y) = lt x y) (l : List α) : isort lt' (l.map f) = (isort lt l).map f := by
  unfold isort
  rw [isortF_map hf, List.length_map]
/-- Two lists of the same elements that both rise strictly are one. -/
theorem rise_one {R : α → α → Prop} (ir : ∀ a, ¬ R a a) (tr : ∀ a b c, R a b → R b c → R a c) : ∀ {l m : List α}, l.Pairwise R → m.Pairwise R → l.Perm m → l = m
  | [], m, _, _, hp => (List.nil_perm.1 hp).symm
  | x :: l, [], _, _, hp => by cases hp.length_eq
  | x :: l, y :: m, hl, hm, hp => by
    obtain ⟨hx, hl'⟩ := List.pairwise_cons.1 hl
    obtain ⟨hy, hm'⟩ := List.pairwise_cons.1 hm
    have e : x = y := by
      rcases List.mem_cons.1 (hp.mem_iff.1 (List.mem_cons_self ..)) with h | h
      · exact h
      · rcases List.mem_cons.1 (hp.mem_iff.2 (List.mem_cons_self ..)) with h2 | h2
        · exact h2.symm
        · exact absurd (tr _ _ _ (hx y h2) (hy x h)) (ir x)
    subst e
    rw [rise_one ir tr hl' hm' ((List.perm_cons x).1 hp)]
end
end Go.Proofs.YtpikhokaclpbhaaGreatDoor
namespace Go.Proofs.YtpikhokaclpbhaaGreatDoor
abbrev Cand := ByteArray × Int
abbrev GSt := List (Bk × Option Cand)
/-- Whether a candidate is taken at a booking's time by one of those before. -/
def takenB (st : GSt) (b : Bk) (c : Cand) : Bool := st.any fun p => match p.2 with
  | some d => d.1.toList == c.1.toList && decide (d.2 = c.2) && meetB b p.1
  | none => false
def gPick (cd : Bk → List Cand) (st : GSt) (b : Bk) : Option Cand := (cd b).find? fun c => !takenB st b c
def gStep (cd : Bk → List Cand) (st : GSt) (b : Bk) : GSt := st ++ [(b, gPick cd st b)]
def gAll (cd : Bk → List Cand) (ord : List Bk) : GSt := ord.foldl (gStep cd) []
theorem gAll_snoc {cd : Bk → List Cand} {ord : List Bk} {b : Bk} : gAll cd (ord ++ [b]) = gStep cd (gAll cd ord) b := by
  unfold gAll; rw [List.foldl_append]; rfl
theorem foldl_fst {cd : Bk → List Cand} : ∀ (ord : List Bk) (st : GSt), (ord.foldl (gStep cd) st).map (·.1) = st.map (·.1) ++ ord
  | [], st => by simp
  | b :: r, st => by
    rw [List.foldl_cons, foldl_fst r]
    unfold gStep
    simp
/-- Those who have been served are the bookings, in order. -/
theorem gAll_fst {cd : Bk → List Cand} (ord : List Bk) : (gAll cd ord).map (·.1) = ord := by
  unfold gAll; rw [foldl_fst]; rfl
/-- The document's three lists, from the one. -/
def hadOf (st : GSt) : List Bk := st.filterMap fun p => p.2.map fun _ => p.1
def givOf (st : GSt) : List Gv := st.filterMap fun p => p.2.map fun c => ⟨p.1.key, c.1, c.2⟩
def leftOf (st : GSt) : List ByteArray := st.filterMap fun p => match p.2 with
  | some _ => none
  | none => some p.1.key
/-- Whether a candidate is taken, by the document's two lists. -/
def takenR (had : List Bk) (giv : List Gv) (b : Bk) (c : Cand) : Bool := (had.zip giv).any fun p => p.2.cls.toList == c.1.toList && decide (p.2.unit = c.2) && meetB b p.1
theorem takenR_st {b : Bk} {c : Cand} : ∀ (st : GSt), takenR (hadOf st) (givOf st) b c = takenB st b c
  | [] => rfl
  | (x, none) :: r => by
    have ih := takenR_st (b := b) (c := c) r
    unfold takenR takenB hadOf givOf at ih ⊢
    simpa using ih
  | (x, some d) :: r => by
    have ih := takenR_st (b := b) (c := c) r
    unfold takenR takenB hadOf givOf at ih ⊢
    simp only [List.filterMap_cons, Option.map_some, List.zip_cons_cons, List.any_cons]
    rw [ih]
/-- The document's choices, and its step. -/
def chR (cd : Bk → List Cand) (had : List Bk) (giv : List Gv) (b : Bk) : List Gv := ((cd b).filter fun c => !takenR had giv b c).map fun c => ⟨b.key, c.1, c.2⟩
theorem chR_head {cd : Bk → List Cand} {st : GSt} {b : Bk} : (chR cd (hadOf st) (givOf st) b).head? = (gPick cd st b).map fun c => ⟨b.key, c.1, c.2⟩ := by
  unfold chR gPick
  rw [List.head?_map, List.head?_filter]
  congr 1
  congr 1
  funext c
  rw [takenR_st]
theorem step_some {cd : Bk → List Cand} {st : GSt} {b : Bk} {c : Cand} (h : gPick cd st b = some c) : hadOf (gStep cd st b) = hadOf st ++ [b] ∧ givOf (gStep cd st b) = givOf st ++ [⟨b.key, c.1, c.2⟩] ∧ leftOf (gStep cd st b) = leftOf st := by
  unfold gStep hadOf givOf leftOf
  rw [h]
  simp
theorem step_none {cd : Bk → List Cand} {st : GSt} {b : Bk} (h : gPick cd st b = none) : hadOf (gStep cd st b) = hadOf st ∧ givOf (gStep cd st b) = givOf st ∧ leftOf (gStep cd st b) = leftOf st ++ [b.key] := by
  unfold gStep hadOf givOf leftOf
  rw [h]
  simp
end Go.Proofs.YtpikhokaclpbhaaGreatDoor
namespace Go.Proofs.YtpikhokaclpbhaaGreatDoor
def bkAt (l : List Bk) (i : Nat) : Bk := (l[i]?).getD ⟨⟨#[]⟩, ⟨#[]⟩, 0, 0, 0, 0⟩
def gvZ : Gv := ⟨⟨#[]⟩, ⟨#[]⟩, 0⟩
def gvAt (got : List Gv) (i : Nat) : Gv := (got[i]?).getD gvZ
/-- Whether a candidate is taken, by the program's row and the numbers of those before. -/
def takenI (l : List Bk) (got : List Gv) (done : List Nat) (i : Nat) (c : Cand) : Bool := done.any fun k => (gvAt got k).cls.toList == c.1.toList && decide ((gvAt got k).unit = c.2) && meetB (bkAt l i) (bkAt l k)
def gPickI (cd : Bk → List Cand) (l : List Bk) (got : List Gv) (done : List Nat) (i : Nat) : Option Cand := (cd (bkAt l i)).find? fun c => !takenI l got done i c
def gStepI (cd : Bk → List Cand) (l : List Bk) (got : List Gv) (done : List Nat) (i : Nat) : List Gv := match gPickI cd l got done i with
  | some c => got.set i ⟨(bkAt l i).key, c.1, c.2⟩
  | none => got
/-- What the row holds is what the one list says. -/
def GotOk (l : List Bk) (got : List Gv) (done : List Nat) (st : GSt) : Prop := st.length = done.length ∧ ∀ (j : Nat) (k : Nat), done[j]? = some k → ∃ o, st[j]? = some (bkAt l k, o) ∧ gvAt got k = match o with
  | some c => ⟨(bkAt l k).key, c.1, c.2⟩
  | none => gvZ
theorem gvAt_set {got : List Gv} {i k : Nat} {x : Gv} (hi : i < got.length) : gvAt (got.set i x) k = if k = i then x else gvAt got k := by
  unfold gvAt
  rw [List.getElem?_set]
  by_cases h : k = i
  · subst h; simp [hi]
  · rw [if_neg (fun e => h e.symm), if_neg h]
theorem taken_same {l : List Bk} {got : List Gv} {i : Nat} {c : Cand} (hc : 1 ≤ c.2) : ∀ {done : List Nat} {st : GSt}, GotOk l got done st → takenI l got done i c = takenB st (bkAt l i) c
  | [], st, h => by
    have h0 : st = [] := List.eq_nil_of_length_eq_zero h.1
    subst h0; rfl
  | k :: done, [], h => by
    have := h.1; simp at this
  | k :: done, (b, o) :: st, h => by
    have ht : GotOk l got done st := ⟨by have := h.1; simpa using this, fun j k' hk => h.2 (j + 1) k' (by simpa using hk)⟩
    have ih := taken_same (i := i) hc ht
    obtain ⟨o', ho, hg⟩ := h.2 0 k rfl
    obtain ⟨rfl, rfl⟩ : b = bkAt l k ∧ o = o' := by simpa using ho
    unfold takenI takenB at ih ⊢
    rw [List.any_cons, List.any_cons, ih, hg]
    cases o with
    | none =>
      have : decide (gvZ.unit = c.2) = false := decide_eq_false (by show ¬ (0 : Int) = c.2; omega)
      simp [this]
    | some d => rfl
theorem pick_same {cd : Bk → List Cand} {l : List Bk} {got : List Gv} {done : List Nat} {st : GSt} {i : Nat} (hcd : ∀ b, ∀ c ∈ cd b, 1 ≤ c.2) (h : GotOk l got done st) : gPickI cd l got done i = gPick cd st (bkAt l i) := by
  unfold gPickI gPick
  have : ∀ (cs : List Cand), (∀ c ∈ cs, 1 ≤ c.2) → cs.find? (fun c => !takenI l got done i c) = cs.find? (fun c => !takenB st (bkAt l i) c) := by
    intro cs
    induction cs with
    | nil => intro _; rfl
    | cons x r ih =>
      intro hx
      rw [List.find?_cons, List.find?_cons, taken_same (hx x (List.mem_cons_self ..)) h, ih fun c hc => hx c (List.mem_cons_of_mem _ hc)]
  exact this _ (hcd _)
/-- One booking more. -/
theorem gotOk_step {cd : Bk → List Cand} {l : List Bk} {got : List Gv} {done : List Nat} {st : GSt} {i : Nat} (hcd : ∀ b, ∀ c ∈ cd b, 1 ≤ c.2) (h : GotOk l got done st) (hi : i < got.length) (hn : i ∉ done) (hz : gvAt got i = gvZ) : GotOk l (gStepI cd l got done i) (done ++ [i]) (gStep cd st (bkAt l i)) := by
  have hp := pick_same (i := i) hcd h
  have hl := h.1
  refine ⟨by unfold gStep; simp [hl], fun j k hk => ?_⟩
  unfold gStep gStepI
  rw [hp]
  rcases Nat.lt_or_ge j done.length with hj | hj
  · rw [List.getElem?_append_left hj] at hk
    obtain ⟨o, ho, hg⟩ := h.2 j k hk
    have hne : k ≠ i := fun e => hn (e ▸ List.mem_of_getElem? hk)
    refine ⟨o, by rw [List.getElem?_append_left (by omega)]; exact ho, ?_⟩
    cases hq : gPick cd st (bkAt l i) with
    | none => exact hg
    | some c => show gvAt (got.set i _) k = _; rw [gvAt_set hi, if_neg hne]; exact hg
  · have hj2 : j = done.length := by
      have := (List.getElem?_eq_some_iff.1 hk).1
      rw [List.length_append, List.length_singleton] at this
      omega
    subst hj2
    obtain rfl : i = k := by simpa using hk
    refine ⟨gPick cd st (bkAt l i), by rw [← hl]; simp, ?_⟩
    cases hq : gPick cd st (bkAt l i) with
    | none => exact hz
    | some c => show gvAt (got.set i _) i = _; rw [gvAt_set hi, if_pos rfl]
end Go.Proofs.YtpikhokaclpbhaaGreatDoor
namespace Go.Proofs.YtpikhokaclpbhaaGreatDoor
open Go.RowKit
open Go.ChangeMaps (setBlock)
/-- The map at block g holds es. -/
def MapAt (g : Nat) (es : Array MapEntry) (ck : Nat) (w : World) : Prop := w.heap[g]? = some (.map es ck)
theorem MapAt.lasts2 {N : Nat} {row : Option Nat} {Tt : List TypeId} {g : Nat} {es : Array MapEntry} {ck : Nat} : Lasts2 N row Tt (MapAt g es ck) :=
  ⟨fun w w' h hx => (h.block g (Array.getElem?_eq_some_iff.1 hx).1 (by simp)).trans hx,
   fun w w' r T c h1 _ _ h3 hx => (h3.block g (Array.getElem?_eq_some_iff.1 hx).1 (fun e => by
     have e2 : g = r := by injection e
     subst e2
     unfold MapAt at hx
     rw [h1] at hx; cases hx)).trans hx⟩
/-- The map at block g, one of the call's own. -/
def OwnMap (N g : Nat) (es : Array MapEntry) (ck : Nat) (w : World) : Prop := N ≤ g ∧ MapAt g es ck w
theorem OwnMap.lasts2 {N M : Nat} {row : Option Nat} {Tt : List TypeId} {g : Nat} {es : Array MapEntry} {ck : Nat} : Lasts2 N row Tt (OwnMap M g es ck) :=
  ⟨fun w w' h hx => ⟨hx.1, MapAt.lasts2.gr (N := N) (row := row) (Tt := Tt) w w' h hx.2⟩, fun w w' r T c h1 h2 h3 h4 hx => ⟨hx.1, MapAt.lasts2.st w w' r T c h1 h2 h3 h4 hx.2⟩⟩
theorem BlkOld.far {N g b : Nat} {row : Option Nat} {T : TypeId} {cs : List Value} : ∀ w w' : World, N ≤ g → w.grownBy w' (some g) → BlkOld N row b T cs w → BlkOld N row b T cs w' := fun _ _ h1 h2 ⟨h3, h4⟩ => ⟨h3, h4.grown h2 (fun e => by
  have e2 : b = g := by injection e
  omega)⟩
end Go.Proofs.YtpikhokaclpbhaaGreatDoor
namespace Go.Proofs.YtpikhokaclpbhaaGreatDoor
open Go.RowKit Go.MapKept
open Go.ChangeMaps (setBlock)
theorem bytes_ext {a b : ByteArray} (h : a.toList = b.toList) : a = b := by
  rw [ByteArray.toList_eq, ByteArray.toList_eq] at h
  cases a; cases b
  simp only at h
  exact congrArg ByteArray.mk (Array.toList_inj.1 h)
theorem bytes_eqb {a b : ByteArray} : (a.toList == b.toList) = true ↔ a = b :=
  ⟨fun h => bytes_ext (by simpa using h), fun h => by subst h; simp⟩
def fDel {α : Type} (f : ByteArray → Option α) (k : ByteArray) : ByteArray → Option α := fun j => if (j.toList == k.toList) = true then none else f j
def fNil {α : Type} : ByteArray → Option α := fun _ => none
theorem fDel_same {α : Type} (f : ByteArray → Option α) (k : ByteArray) : fDel f k k = none := by unfold fDel; rw [if_pos (by simp)]
theorem fDel_other {α : Type} (f : ByteArray → Option α) {k j : ByteArray} (h : j ≠ k) : fDel f k j = f j := by unfold fDel; rw [if_neg (fun e => h (bytes_eqb.1 e))]
/-- What a map's block holds, key by key. -/
def Entries {α : Type} (enc : α → Value) (f : ByteArray → Option α) (es : Array MapEntry) (ck : Nat) : Prop :=
  Stamped es ck ∧ (∀ x ∈ es.toList, IsKey .string x.key) ∧ ∀ k v, (∃ e ∈ es.toList, e.key = .string k ∧ e.val = v) ↔ ∃ x, f k = some x ∧ v = enc x
/-- The map at block g, one of the call's own, has under each key what f says. -/
def MapF {α : Type} (enc : α → Value) (N g : Nat) (f : ByteArray → Option α) (w : World) : Prop :=
  N ≤ g ∧ ∃ es ck, w.heap[g]? = some (.map es ck) ∧ Entries enc f es ck
theorem MapF.lt {α : Type} {enc : α → Value} {N g : Nat} {f : ByteArray → Option α} {w : World} (h : MapF enc N g f w) : g < w.heap.size := by
  obtain ⟨_, es, ck, hb, _⟩ := h
  exact (Array.getElem?_eq_some_iff.1 hb).1
theorem MapF.kept {α : Type} {enc : α → Value} {N g : Nat} {f : ByteArray → Option α} {w w' : World} {row : Option Nat} (h : MapF enc N g f w) (hg : w.grownBy w' row) (hne : some g ≠ row) : MapF enc N g f w' := by
  have hlt := h.lt
  obtain ⟨h0, es, ck, hb, he⟩ := h
  exact ⟨h0, es, ck, (hg.block g hlt hne).trans hb, he⟩
theorem MapF.lasts2 {α : Type} {enc : α → Value} {N M : Nat} {row : Option Nat} {Tt : List TypeId} {g : Nat} {f : ByteArray → Option α} : Lasts2 N row Tt (MapF enc M g f) :=
  ⟨fun w w' h hx => hx.kept h (by simp),
   fun w w' r T c h1 _ _ h3 hx => hx.kept h3 (fun e => by
     have e2 : g = r := by injection e
     subst e2
     obtain ⟨_, es, ck, hb, _⟩ := hx
     rw [h1] at hb; cases hb)⟩
theorem MapF.far {α : Type} {enc : α → Value} {N M g g1 : Nat} {f : ByteArray → Option α} (hne : g1 ≠ g) : ∀ w w' : World, N ≤ g → w.grownBy w' (some g) → MapF enc M g1 f w → MapF enc M g1 f w' :=
  fun _ _ _ hg h => h.kept hg (fun e => hne (by injection e))
theorem SlOld.far {α : Type} {enc : α → List Value} {k N g : Nat} {T : TypeId} {row : Option Nat} {A : Option Addr} {n : Nat} {l : List α} : ∀ w w' : World, N ≤ g → w.grownBy w' (some g) → SlOld enc k T N row A n l w → SlOld enc k T N row A n l w' := fun w w' h1 h2 ⟨h3, h4⟩ => by
  refine ⟨⟨h3.len, fun hn => ?_⟩, h4⟩
  obtain ⟨b, off, cells, fz, e, hh, hr⟩ := h3.at_ hn
  exact ⟨b, off, cells, fz, e, (h2.block b (Array.getElem?_eq_some_iff.1 hh).1 (fun e2 => by
    have e3 : b = g := by injection e2
    obtain ⟨h5, _⟩ := h4 b off e hn
    omega)).trans hh, hr⟩
section
variable {α : Type} {enc : α → Value} {f : ByteArray → Option α} {es : Array MapEntry} {ck : Nat}
theorem Entries.nil : Entries enc fNil #[] 0 := ⟨stamped_empty 0, by simp, fun k v => by simp [fNil]⟩
/-- Where a key is, or that it is not there. -/
theorem Entries.find (h : Entries enc f es ck) (k : ByteArray) : (Instr.findNow .string (.string k) es.toList 0 = some none ∧ f k = none ∧ ∀ x ∈ es.toList, x.key ≠ .string k) ∨ ∃ j e x, Instr.findNow .string (.string k) es.toList 0 = some (some (j, e.val)) ∧ es[j]? = some e ∧ e.key = .string k ∧ f k = some x ∧ e.val = enc x := by
  have hk : IsKey .string (.string k) := trivial
  rcases findNow_spec hk es.toList 0 h.2.1 with ⟨h1, h2⟩ | ⟨j, e, h1, h2, h3⟩
  · left
    refine ⟨h1, ?_, h2⟩
    cases hf : f k with
    | none => rfl
    | some x =>
      obtain ⟨e, he, hek, _⟩ := (h.2.2 k (enc x)).2 ⟨x, hf, rfl⟩
      exact absurd hek (h2 e he)
  · right
    obtain ⟨x, hx, hv⟩ := (h.2.2 k e.val).1 ⟨e, List.mem_of_getElem? h2, h3, rfl⟩
    refine ⟨j, e, x, by simpa using h1, by simpa using h2, h3, hx, hv⟩
theorem Entries.same (h : Entries enc f es ck) {k : ByteArray} (hn : f k = none) : Entries enc (fDel f k) es ck := by
  have e : fDel f k = f := by
    funext j
    by_cases hj : j = k
    · subst hj; rw [fDel_same, hn]
    · rw [fDel_other _ hj]
  rw [e]; exact h
end
end Go.Proofs.YtpikhokaclpbhaaGreatDoor
namespace Go.Proofs.YtpikhokaclpbhaaGreatDoor
open Go.RowKit
section
variable {α : Type}
/-- One is put into a list that is sorted from behind. -/
def insR (lt : α → α → Bool) (x : α) : List α → List α
  | [] => [x]
  | y :: r => if lt x y = true then y :: insR lt x r else x :: y :: r
theorem insR_mem {lt : α → α → Bool} {x z : α} : ∀ {l : List α}, z ∈ insR lt x l → z = x ∨ z ∈ l
  | [], h => .inl (List.mem_singleton.1 h)
  | y :: r, h => by
    unfold insR at h
    split at h
    · rcases List.mem_cons.1 h with rfl | h
      · exact .inr (List.mem_cons_self ..)
      · rcases insR_mem h with h | h
        · exact .inl h
        · exact .inr (List.mem_cons_of_mem _ h)
    · rcases List.mem_cons.1 h with h | h
      · exact .inl h
      · exact .inr h
theorem insR_len {lt : α → α → Bool} {x : α} : ∀ {l : List α}, (insR lt x l).length = l.length + 1
  | [] => rfl
  | y :: r => by
    have := insR_len (lt := lt) (x := x) (l := r)
    unfold insR
    split
    · rw [List.length_cons, this, List.length_cons]
    · rw [List.length_cons]
theorem sink_ins {lt : α → α → Bool} : ∀ {j : Nat} {l : List α} {x : α}, l[j]? = some x → sink lt j l = (insR lt x (l.take j).reverse).reverse ++ l.drop (j + 1)
  | 0, l, x, h => by
    obtain ⟨h1, rfl⟩ := List.getElem?_eq_some_iff.1 h
    show l = [l[0]] ++ l.drop 1
    rw [List.singleton_append, ← List.drop_eq_getElem_cons h1, List.drop_zero]
  | j + 1, l, x, h => by
    obtain ⟨h1, hx⟩ := List.getElem?_eq_some_iff.1 h
    obtain ⟨y, hy⟩ : ∃ y, l[j]? = some y := ⟨_, List.getElem?_eq_getElem (by omega)⟩
    have ht : (l.take (j + 1)).reverse = y :: (l.take j).reverse := by
      rw [List.take_add_one, hy]; simp
    rw [ht]
    by_cases hl : lt x y = true
    · have hs : ((l.set (j + 1) y).set j x)[j]? = some x := List.getElem?_set_self (by rw [List.length_set]; omega)
      rw [sink_yes h hy hl, sink_ins hs]
      have e1 : ((l.set (j + 1) y).set j x).take j = l.take j := by
        rw [List.take_set_of_le (by omega), List.take_set_of_le (by omega)]
      have e2 : ((l.set (j + 1) y).set j x).drop (j + 1) = y :: l.drop (j + 2) := by
        rw [List.drop_set_of_lt (by omega), List.drop_eq_getElem_cons (by rw [List.length_set]; omega), List.getElem_set_self, List.drop_set_of_lt (by omega)]
      rw [e1, e2]
      unfold insR
      rw [if_pos hl]; simp
      cases (l.take j).reverse <;> rfl
    · have hl2 : lt x y = false := by simpa using hl
      rw [sink_no h hy hl2]
      unfold insR
      rw [if_neg hl]
      obtain ⟨h2, hy2⟩ := List.getElem?_eq_some_iff.1 hy
      conv => lhs; rw [← List.take_append_drop j l, List.drop_eq_getElem_cons h2, List.drop_eq_getElem_cons h1, hx, hy2]
      simp
theorem isortF_fold {lt : α → α → Bool} : ∀ (f i : Nat) (l : List α), i + f = l.length → isortF lt f i l = ((l.drop i).foldl (fun a x => insR lt x a) (l.take i).reverse).reverse
  | 0, i, l, h => by
    rw [List.drop_eq_nil_of_le (by omega), List.take_of_length_le (by omega)]
    show l = l.reverse.reverse
    rw [List.reverse_reverse]
  | f + 1, i, l, h => by
    obtain ⟨x, hx⟩ : ∃ x, l[i]? = some x := ⟨_, List.getElem?_eq_getElem (by omega)⟩
    obtain ⟨h1, hx1⟩ := List.getElem?_eq_some_iff.1 hx
    have hlen : (insR lt x (l.take i).reverse).reverse.length = i + 1 := by
      rw [List.length_reverse, insR_len, List.length_reverse, List.length_take]; omega
    show isortF lt f (i + 1) (sink lt i l) = _
    rw [isortF_fold f (i + 1) (sink lt i l) (by rw [sink_len]; omega), sink_ins hx]
    rw [show i + 1 = (insR lt x (l.take i).reverse).reverse.length from hlen.symm, List.drop_left, List.take_left, List.reverse_reverse, hlen, List.drop_eq_getElem_cons h1, hx1]
    rfl
theorem isort_fold {lt : α → α → Bool} (l : List α) : isort lt l = (l.foldl (fun a x => insR lt x a) []).reverse := by
  cases l with
  | nil => rfl
  | cons x r =>
    unfold isort
    rw [isortF_fold _ _ _ (by rw [List.length_cons]; omega)]
    rfl
theorem insR_pair {lt : α → α → Bool} {R : α → α → Prop} (tr : ∀ a b c, R a b → R b c → R a c) {x : α} : ∀ {l : List α}, l.Pairwise (fun a b => R b a) → (∀ y ∈ l, (lt x y = true → R x y) ∧ (lt x y = false → R y x)) → (insR lt x l).Pairwise (fun a b => R b a)
  | [], _, _ => List.pairwise_singleton _ _
  | y :: r, hp, hc => by
    obtain ⟨hp1, hp2⟩ := List.pairwise_cons.1 hp
    have hy := hc y (List.mem_cons_self ..)
    unfold insR
    split
    · rename_i h
      refine List.pairwise_cons.2 ⟨fun z hz => ?_, insR_pair (R := R) tr hp2 fun z hz => hc z (List.mem_cons_of_mem _ hz)⟩
      rcases insR_mem hz with rfl | hz
      · exact hy.1 h
      · exact hp1 z hz
    · rename_i h
      have h2 := hy.2 (by simpa using h)
      refine List.pairwise_cons.2 ⟨fun z hz => ?_, hp⟩
      rcases List.mem_cons.1 hz with rfl | hz
      · exact h2
      · exact tr _ _ _ (hp1 z hz) h2
theorem fold_pair {lt : α → α → Bool} {R : α → α → Prop} (tr : ∀ a b c, R a b → R b c → R a c) : ∀ {l acc : List α}, acc.Pairwise (fun a b => R b a) → (∀ y ∈ acc, ∀ x ∈ l, (lt x y = true → R x y) ∧ (lt x y = false → R y x)) → l.Pairwise (fun y x => (lt x y = true → R x y) ∧ (lt x y = false → R y x)) → (l.foldl (fun a x => insR lt x a) acc).Pairwise (fun a b => R b a)
  | [], _, h, _, _ => h
  | x :: r, acc, h, hc, hp => by
    obtain ⟨hp1, hp2⟩ := List.pairwise_cons.1 hp
    refine fold_pair (R := R) tr (l := r) (acc := insR lt x acc) (insR_pair (R := R) tr h fun y hy => hc y hy x (List.mem_cons_self ..)) (fun y hy z hz => ?_) hp2
    rcases insR_mem hy with rfl | hy
    · exact hp1 z hz
    · exact hc y hy z (List.mem_cons_of_mem _ hz)
/-- Sorting by insertion is stable, and sorts. -/
theorem isort_pair {lt : α → α → Bool} {R : α → α → Prop} (tr : ∀ a b c, R a b → R b c → R a c) {l : List α} (hp : l.Pairwise (fun y x => (lt x y = true → R x y) ∧ (lt x y = false → R y x))) : (isort lt l).Pairwise R := by
  rw [isort_fold, List.pairwise_reverse]
  exact fold_pair (R := R) tr List.Pairwise.nil (fun _ h => by cases h) hp
end
end Go.Proofs.YtpikhokaclpbhaaGreatDoor
namespace Go.Proofs.YtpikhokaclpbhaaGreatDoor
def blR (x y : ByteArray) : Prop := Go.Op.bytesLess x.toList y.toList = true
theorem blR_tr {a b c : ByteArray} (h1 : blR a b) (h2 : blR b c) : blR a c := bl_trans h1 h2
theorem blR_ir (a : ByteArray) : ¬ blR a a := fun h => by unfold blR at h; rw [bl_irrefl] at h; cases h
theorem blR_tri {a b : ByteArray} (h1 : ¬ blR a b) (hne : a ≠ b) : blR b a := by
  unfold blR at h1 ⊢
  cases h : Go.Op.bytesLess b.toList a.toList with
  | true => rfl
  | false => exact absurd (bytes_ext (bl_tri (by simpa using h1) h)) hne
/-- A list that rises strictly by its keys is what any arrangement of it is sorted to. -/
theorem sorted_rise {α : Type} {key : α → ByteArray} {lt : α → α → Bool} (hlt : ∀ x y, lt x y = true ↔ blR (key x) (key y)) {m giv : List α} (hp : giv.Perm m) (hm : m.Pairwise fun x y => blR (key x) (key y)) : isort lt giv = m := by
  have hd : giv.Pairwise fun x y => key x ≠ key y := by
    refine (hp.pairwise_iff (R := fun x y => key x ≠ key y) fun h e => h e.symm).2 (hm.imp fun {x y} h e => ?_)
    rw [e] at h
    exact blR_ir _ h
  have hs : (isort lt giv).Pairwise fun x y => blR (key x) (key y) := isort_pair (R := fun x y => blR (key x) (key y)) (fun _ _ _ h1 h2 => blR_tr h1 h2) (hd.imp fun {y x} h => ⟨fun h2 => (hlt _ _).1 h2, fun h2 => blR_tri (fun h3 => by
    have := (hlt x y).2 h3
    rw [this] at h2; cases h2) fun e => h e.symm⟩)
  exact rise_one (R := fun x y => blR (key x) (key y)) (fun a => blR_ir _) (fun _ _ _ h1 h2 => blR_tr h1 h2) hs hm ((isort_perm lt giv).trans hp)
theorem gvLt_bl (x y : Gv) : gvLt x y = true ↔ blR x.bk y.bk := by
  unfold gvLt blR
  rw [decide_eq_true_iff, cmpS_neg]
end Go.Proofs.YtpikhokaclpbhaaGreatDoor
namespace Go.Proofs.YtpikhokaclpbhaaGreatDoor
def gvF (got : List Gv) (k : Nat) : Option Gv := if 0 < (gvAt got k).unit then some (gvAt got k) else none
theorem giv_ids {l : List Bk} {got : List Gv} : ∀ {ids : List Nat} {st : GSt}, GotOk l got ids st → (∀ p ∈ st, ∀ c, p.2 = some c → 1 ≤ c.2) → givOf st = ids.filterMap (gvF got)
  | [], st, h, _ => by
    have h0 : st = [] := List.eq_nil_of_length_eq_zero h.1
    subst h0; rfl
  | k :: ids, [], h, _ => by have := h.1; simp at this
  | k :: ids, (b, o) :: st, h, hu => by
    have ht : GotOk l got ids st := ⟨by have := h.1; simpa using this, fun j k' hk => h.2 (j + 1) k' (by simpa using hk)⟩
    have ih := giv_ids ht fun p hp => hu p (List.mem_cons_of_mem _ hp)
    obtain ⟨o', ho, hg⟩ := h.2 0 k rfl
    obtain ⟨rfl, rfl⟩ : b = bkAt l k ∧ o = o' := by simpa using ho
    cases o with
    | none =>
      have e : gvF got k = none := by unfold gvF; rw [hg]; rfl
      rw [List.filterMap_cons, e, ← ih]
      unfold givOf
      simp
    | some c =>
      have hc := hu _ (List.mem_cons_self ..) c rfl
      have e : gvF got k = some ⟨(bkAt l k).key, c.1, c.2⟩ := by
        unfold gvF; rw [hg, if_pos (by show 0 < c.2; omega)]
      rw [List.filterMap_cons, e, ← ih]
      unfold givOf
      simp
theorem got_range (got : List Gv) : got.filter (fun g => decide (0 < g.unit)) = (List.range got.length).filterMap (gvF got) := by
  have e : got = (List.range got.length).map (gvAt got) := by
    apply List.ext_getElem?
    intro i
    rw [List.getElem?_map]
    by_cases hi : i < got.length
    · rw [List.getElem?_range hi, List.getElem?_eq_getElem hi]
      show some got[i] = some ((got[i]?).getD gvZ)
      rw [List.getElem?_eq_getElem hi]; rfl
    · rw [List.getElem?_eq_none (by omega), List.getElem?_eq_none (by rw [List.length_range]; omega)]; rfl
  have key : ∀ (r : List Nat), (r.map (gvAt got)).filter (fun g => decide (0 < g.unit)) = r.filterMap (gvF got) := by
    intro r
    induction r with
    | nil => rfl
    | cons x r ih =>
      rw [List.map_cons, List.filter_cons, List.filterMap_cons, ih]
      unfold gvF
      by_cases hx : 0 < (gvAt got x).unit
      · rw [if_pos (decide_eq_true hx), if_pos hx]
      · rw [if_neg (by simpa using hx), if_neg hx]
  rw [← key, ← e]
theorem giv_perm {l : List Bk} {got : List Gv} {ids : List Nat} {st : GSt} (hids : ids.Perm (List.range got.length)) (h : GotOk l got ids st) (hu : ∀ p ∈ st, ∀ c, p.2 = some c → 1 ≤ c.2) : (givOf st).Perm (got.filter fun g => decide (0 < g.unit)) := by
  rw [giv_ids h hu, got_range]
  exact hids.filterMap _
/-- What is given, sorted by key: the row without those who got none. -/
theorem given_sorted {l : List Bk} {got : List Gv} {ids : List Nat} {st : GSt} (hids : ids.Perm (List.range got.length)) (h : GotOk l got ids st) (hu : ∀ p ∈ st, ∀ c, p.2 = some c → 1 ≤ c.2)
    (hr : (got.filter fun g => decide (0 < g.unit)).Pairwise fun x y => blR x.bk y.bk) : isort gvLt (givOf st) = got.filter fun g => decide (0 < g.unit) :=
  sorted_rise (key := Gv.bk) gvLt_bl (giv_perm hids h hu) hr
def lfF (l : List Bk) (got : List Gv) (k : Nat) : Option ByteArray := if 0 < (gvAt got k).unit then none else some (bkAt l k).key
theorem left_ids {l : List Bk} {got : List Gv} : ∀ {ids : List Nat} {st : GSt}, GotOk l got ids st → (∀ p ∈ st, ∀ c, p.2 = some c → 1 ≤ c.2) → leftOf st = ids.filterMap (lfF l got)
  | [], st, h, _ => by
    have h0 : st = [] := List.eq_nil_of_length_eq_zero h.1
    subst h0; rfl
  | k :: ids, [], h, _ => by have := h.1; simp at this
  | k :: ids, (b, o) :: st, h, hu => by
    have ht : GotOk l got ids st := ⟨by have := h.1; simpa using this, fun j k' hk => h.2 (j + 1) k' (by simpa using hk)⟩
    have ih := left_ids ht fun p hp => hu p (List.mem_cons_of_mem _ hp)
    obtain ⟨o', ho, hg⟩ := h.2 0 k rfl
    obtain ⟨rfl, rfl⟩ : b = bkAt l k ∧ o = o' := by simpa using ho
    cases o with
    | none =>
      have e : lfF l got k = some (bkAt l k).key := by unfold lfF; rw [hg]; rfl
      rw [List.filterMap_cons, e, ← ih]
      unfold leftOf
      simp
    | some c =>
      have hc := hu _ (List.mem_cons_self ..) c rfl
      have e : lfF l got k = none := by
        unfold lfF; rw [hg, if_pos (by show 0 < c.2; omega)]
      rw [List.filterMap_cons, e, ← ih]
      unfold leftOf
      simp
/-- Who waits, sorted: in the order of the numbers. -/
theorem left_sorted {l : List Bk} {got : List Gv} {ids : List Nat} {st : GSt} {lt : ByteArray → ByteArray → Bool} (hlt : ∀ x y, lt x y = true ↔ blR x y) (hids : ids.Perm (List.range got.length)) (h : GotOk l got ids st) (hu : ∀ p ∈ st, ∀ c, p.2 = some c → 1 ≤ c.2)
    (hr : ((List.range got.length).filterMap (lfF l got)).Pairwise blR) : isort lt (leftOf st) = (List.range got.length).filterMap (lfF l got) := by
  refine sorted_rise (key := fun x => x) hlt ?_ hr
  rw [left_ids h hu]
  exact hids.filterMap _
end Go.Proofs.YtpikhokaclpbhaaGreatDoor
namespace Go.Proofs.YtpikhokaclpbhaaGreatDoor
open Go.RowKit
def BkTim (l : List Bk) : Prop := ∀ b ∈ l, 0 ≤ b.fr ∧ b.fr < b.to_ ∧ b.to_ ≤ 5761439
theorem form_tim {l : List Bk} (h : formE l = 0) : BkTim l := fun b hb => by
  unfold formE at h
  split at h
  · cases h
  · obtain ⟨q, hq⟩ := scanE_all h b hb
    have := bookE_ok hq
    exact ⟨this.1, this.2.1, this.2.2.1⟩
theorem checkE_eq (cs : List Cs) (l : List Bk) : checkE cs l = firstE [classesE cs, formE l, if l.any (fun b => noB cs b.cls) = true then 8 else 0] := by
  unfold checkE classedE
  by_cases h : classesE cs = 0
  · rw [h]
    by_cases h2 : formE l = 0
    · rw [if_neg (by simpa using h2), h2]; simp [firstE]
    · rw [if_pos h2]; simp [firstE, h2]
  · simp [firstE, h]
theorem bf1_any (cs : List Cs) (A0 : Option Addr) (n0 c0 : Nat) (gc : Nat) (w : World) (hcs : SlT csEnc 2 145 w A0 n0 cs) (hco : ∀ x ∈ cs, CsOk x) (hn0 : n0 ≤ 1000) (hgc : Blk w gc 42 [.slice A0 n0 c0]) :
  Calls Tryz.prog 193 #[.pointer (some ⟨gc, 0, none⟩)] w (GotE w (classesE cs)) := by
 refine gw_enter ⟨4, w, none, []⟩ Tryz.func193 rfl Tryz.ntmps193 rfl (mem0 (X := [SlOld csEnc 2 145 w.heap.size none A0 n0 cs, BlkOld w.heap.size none gc 42 [.slice A0 n0 c0]]) (allF_cons hcs.old (allF_cons hgc.old allF_nil)) (allL_cons SlOld.lasts (allL_cons BlkOld.lasts allL_nil))) ?_
 refine sr_ ?_
 obtain ⟨EE, hEE⟩ : ∃ E : Int, E = (classesE cs) := ⟨_, rfl⟩
 rw [← hEE]
 refine sg_ rfl (nn_ (sr_ ?_))
 refine wl_ov (ov_load (v := .slice A0 n0 c0) sc42 rfl (fun _ hm => (hm.fact 1 rfl).2) rfl) rfl ?_
 refine wl_callv (v := .int .i64 EE) rfl cb83 rfl rfl (fun wx hm => (by rw [hEE]; exact classesFault_any cs A0 n0 c0 wx (hm.fact 0 rfl).1 hco (by omega))) ?_
 refine sg_ rfl (nn_ ?_)
 refine gw_ret ?_
 refine nx_ret1 rfl rfl fun wx hm => ?_
 exact ⟨rfl, hm.g⟩
theorem bf2_any (l : List Bk) (A : Option Addr) (n c : Nat) (gb : Nat) (w : World) (hl : SlT bkEnc 6 181 w A n l) (hok : ∀ x ∈ l, BkOk x) (hn : n ≤ 1000) (hgb : Blk w gb 78 [.slice A n c]) :
  Calls Tryz.prog 194 #[.pointer (some ⟨gb, 0, none⟩)] w (GotE w (formE l)) := by
 refine gw_enter ⟨4, w, none, []⟩ Tryz.func194 rfl Tryz.ntmps194 rfl (mem0 (X := [SlOld bkEnc 6 181 w.heap.size none A n l, BlkOld w.heap.size none gb 78 [.slice A n c]]) (allF_cons hl.old (allF_cons hgb.old allF_nil)) (allL_cons SlOld.lasts (allL_cons BlkOld.lasts allL_nil))) ?_
 refine sr_ ?_
 obtain ⟨EE, hEE⟩ : ∃ E : Int, E = (formE l) := ⟨_, rfl⟩
 rw [← hEE]
 refine sg_ rfl (nn_ (sr_ ?_))
 refine wl_ov (ov_load (v := .slice A n c) sc78 rfl (fun _ hm => (hm.fact 1 rfl).2) rfl) rfl ?_
 refine wl_callv (v := .int .i64 EE) rfl cb195 rfl rfl (fun wx hm => (by rw [hEE]; exact bookingForm_any l A n c wx (hm.fact 0 rfl).1 hok (by omega))) ?_
 refine sg_ rfl (nn_ ?_)
 refine gw_ret ?_
 refine nx_ret1 rfl rfl fun wx hm => ?_
 exact ⟨rfl, hm.g⟩
theorem bf3_any (cs : List Cs) (A0 : Option Addr) (n0 c0 : Nat) (l : List Bk) (A : Option Addr) (n c : Nat) (gc gb : Nat) (w : World) (hcs : SlT csEnc 2 145 w A0 n0 cs) (hco : ∀ x ∈ cs, CsOk x) (hn0 : n0 ≤ 1000) (hl : SlT bkEnc 6 181 w A n l) (hok : ∀ x ∈ l, BkOk x) (hn : n ≤ 1000) (hgc : Blk w gc 42 [.slice A0 n0 c0]) (hgb : Blk w gb 78 [.slice A n c]) :
  Calls Tryz.prog 196 #[.pointer (some ⟨gc, 0, none⟩), .pointer (some ⟨gb, 0, none⟩)] w (GotE w (if l.any (fun b => noB cs b.cls) = true then 8 else 0)) := by
 refine gw_enter ⟨6, w, none, []⟩ Tryz.func196 rfl Tryz.ntmps196 rfl (mem0 (X := [SlOld csEnc 2 145 w.heap.size none A0 n0 cs, SlOld bkEnc 6 181 w.heap.size none A n l, BlkOld w.heap.size none gc 42 [.slice A0 n0 c0], BlkOld w.heap.size none gb 78 [.slice A n c]]) (allF_cons hcs.old (allF_cons hl.old (allF_cons hgc.old (allF_cons hgb.old allF_nil)))) (allL_cons SlOld.lasts (allL_cons SlOld.lasts (allL_cons BlkOld.lasts (allL_cons BlkOld.lasts allL_nil))))) ?_
 refine sr_ ?_
 obtain ⟨EE, hEE⟩ : ∃ E : Int, E = (if l.any (fun b => noB cs b.cls) = true then 8 else 0) := ⟨_, rfl⟩
 rw [← hEE]
 refine sg_ rfl (nn_ (sr_ ?_))
 refine wl_ov (ov_load (v := .slice A0 n0 c0) sc42 rfl (fun _ hm => (hm.fact 2 rfl).2) rfl) rfl ?_
 refine wl_ov (ov_load (v := .slice A n c) sc78 rfl (fun _ hm => (hm.fact 3 rfl).2) rfl) rfl ?_
 refine wl_callv (v := .int .i64 EE) rfl cb197 rfl rfl (fun wx hm => (by rw [hEE]; exact known_any cs A0 n0 c0 l A n c wx (hm.fact 0 rfl).1 hco hn0 (hm.fact 1 rfl).1 hok hn)) ?_
 refine sg_ rfl (nn_ ?_)
 refine gw_ret ?_
 refine nx_ret1 rfl rfl fun wx hm => ?_
 exact ⟨rfl, hm.g⟩
theorem bookingsFault_any (cs : List Cs) (A0 : Option Addr) (n0 c0 : Nat) (l : List Bk) (A : Option Addr) (n c : Nat) (w : World) (hcs : SlT csEnc 2 145 w A0 n0 cs) (hco : ∀ x ∈ cs, CsOk x) (hn0 : n0 ≤ 1000) (hl : SlT bkEnc 6 181 w A n l) (hok : ∀ x ∈ l, BkOk x) (hn : n ≤ 1000) :
  Calls Tryz.prog 120 #[.slice A0 n0 c0, .slice A n c] w (GotE w (checkE cs l)) := by
 refine gw_enter ⟨23, w, none, []⟩ Tryz.func120 rfl Tryz.ntmps120 rfl (mem0 (X := [SlOld csEnc 2 145 w.heap.size none A0 n0 cs, SlOld bkEnc 6 181 w.heap.size none A n l]) (allF_cons hcs.old (allF_cons hl.old allF_nil)) (allL_cons SlOld.lasts (allL_cons SlOld.lasts allL_nil))) ?_
 refine sr_ ?_
 rw [checkE_eq]
 obtain ⟨CE, hCE⟩ : ∃ E, E = classesE cs := ⟨_, rfl⟩
 obtain ⟨FE, hFE⟩ : ∃ E, E = formE l := ⟨_, rfl⟩
 obtain ⟨KE, hKE⟩ : ∃ E, E = (if l.any (fun b => noB cs b.cls) = true then (8 : Int) else 0) := ⟨_, rfl⟩
 rw [← hCE, ← hFE, ← hKE]
 refine wl_box rfl rfl rfl fun g1 => ?_
 refine wl_box rfl rfl rfl fun g2 => ?_
 refine sg_ rfl (nn_ (gw_seq (sr_ (wl_ov (ov_makeFunc rfl rfl) rfl (wl_ov (ov_makeFunc rfl rfl) rfl (wl_ov (ov_makeFunc rfl rfl) rfl ?_))))))
 refine wl_buildSlice (e := 86) (cs := [.func (.func 193) #[] #[.pointer (some ⟨g1, 0, none⟩)], .func (.func 194) #[] #[.pointer (some ⟨g2, 0, none⟩)], .func (.func 196) #[] #[.pointer (some ⟨g1, 0, none⟩), .pointer (some ⟨g2, 0, none⟩)]]) rfl (by kernel_rfl) rfl fun g3 => ?_
 refine wl_ov (ov_len es240 rfl) rfl ?_
 refine wl_set 12 (v' := .int .i64 3) rfl rfl ?_
 refine mv_ rfl (nn_ (gw_block ?_))
 refine gw_rounds 4 ?_
 refine gr_next ?_
 refine sr_ (wl_ov (ov_lss rfl rfl) rfl ?_)
 refine wl_set 14 (v' := .bool true) rfl (congrArg Value.bool (by decide)) ?_
 refine nn_ (gw_seq (ct_ rfl (gw_skip (nx_then (gw_seq (gw_block (sr_ ?_)))))))
 refine wl_ov (ov_index (j := 0) es240 rfl rfl (by decide)) rfl ?_
 refine lk_ sc86 0 rfl rfl rfl (sg_ rfl (nn_ (sr_ (mv_ rfl ?_))))
 refine wl_callv (v := .int .i64 CE) rfl cb193 rfl rfl (fun wx hm => (by rw [hCE]; exact bf1_any cs A0 n0 c0 _ wx (hm.fact 0 rfl).1 hco hn0 (hm.blkI 2 rfl))) ?_
 refine sg_ rfl (nn_ (sr_ (mv_ rfl (wl_ov (ov_neq rfl rfl) rfl (nn_ ?_)))))
 refine gw_cond rfl (fun hh => ?_) (fun hh => ?_)
 ·have h0 : ¬ (CE = 0) := by simpa using hh
  clear hh
  refine sr_ (mv_ rfl (sg_ rfl (nn_ ?_)))
  refine gw_ret ?_
  refine nx_blk_ret (nx_then_ret (nx_then_ret (nx_blk_ret (nx_then_ret ?_))))
  refine nx_ret1 rfl rfl fun wx hm => ?_
  exact ⟨ret_int (by simp [firstE, h0]), hm.g⟩
 have h0 : CE = 0 := by simpa using hh
 clear hh
 refine gw_skip (nx_blk_nrm (nx_then (gw_region (ad_ rfl rfl ?_))))
 refine wl_set 22 (v' := .int .i64 1) rfl rfl ?_
 refine mv_ rfl (wl_nil ?_)
 refine nx_next ?_
 refine gr_next ?_
 refine sr_ (wl_ov (ov_lss rfl rfl) rfl ?_)
 refine wl_set 14 (v' := .bool true) rfl (congrArg Value.bool (by decide)) ?_
 refine nn_ (gw_seq (ct_ rfl (gw_skip (nx_then (gw_seq (gw_block (sr_ ?_)))))))
 refine wl_ov (ov_index (j := 1) es240 rfl rfl (by decide)) rfl ?_
 refine lk_ sc86 0 rfl rfl rfl (sg_ rfl (nn_ (sr_ (mv_ rfl ?_))))
 refine wl_callv (v := .int .i64 FE) rfl cb194 rfl rfl (fun wx hm => (by rw [hFE]; exact bf2_any l A n c _ wx (hm.fact 1 rfl).1 hok hn (hm.blkI 1 rfl))) ?_
 refine sg_ rfl (nn_ (sr_ (mv_ rfl (wl_ov (ov_neq rfl rfl) rfl (nn_ ?_)))))
 refine gw_cond rfl (fun hh => ?_) (fun hh => ?_)
 ·have h1 : ¬ (FE = 0) := by simpa using hh
  clear hh
  refine sr_ (mv_ rfl (sg_ rfl (nn_ ?_)))
  refine gw_ret ?_
  refine nx_blk_ret (nx_then_ret (nx_then_ret (nx_blk_ret (nx_then_ret ?_))))
  refine nx_ret1 rfl rfl fun wx hm => ?_
  exact ⟨ret_int (by simp [firstE, h0, h1]), hm.g⟩
 have h1 : FE = 0 := by simpa using hh
 clear hh
 refine gw_skip (nx_blk_nrm (nx_then (gw_region (ad_ rfl rfl ?_))))
 refine wl_set 22 (v' := .int .i64 2) rfl rfl ?_
 refine mv_ rfl (wl_nil ?_)
 refine nx_next ?_
 refine gr_next ?_
 refine sr_ (wl_ov (ov_lss rfl rfl) rfl ?_)
 refine wl_set 14 (v' := .bool true) rfl (congrArg Value.bool (by decide)) ?_
 refine nn_ (gw_seq (ct_ rfl (gw_skip (nx_then (gw_seq (gw_block (sr_ ?_)))))))
 refine wl_ov (ov_index (j := 2) es240 rfl rfl (by decide)) rfl ?_
 refine lk_ sc86 0 rfl rfl rfl (sg_ rfl (nn_ (sr_ (mv_ rfl ?_))))
 refine wl_callv (v := .int .i64 KE) rfl cb196 rfl rfl (fun wx hm => (by rw [hKE]; exact bf3_any cs A0 n0 c0 l A n c _ _ wx (hm.fact 0 rfl).1 hco hn0 (hm.fact 1 rfl).1 hok hn (hm.blkI 2 rfl) (hm.blkI 1 rfl))) ?_
 refine sg_ rfl (nn_ (sr_ (mv_ rfl (wl_ov (ov_neq rfl rfl) rfl (nn_ ?_)))))
 refine gw_cond rfl (fun hh => ?_) (fun hh => ?_)
 ·have h2 : ¬ (KE = 0) := by simpa using hh
  clear hh
  refine sr_ (mv_ rfl (sg_ rfl (nn_ ?_)))
  refine gw_ret ?_
  refine nx_blk_ret (nx_then_ret (nx_then_ret (nx_blk_ret (nx_then_ret ?_))))
  refine nx_ret1 rfl rfl fun wx hm => ?_
  exact ⟨ret_int (by simp [firstE, h0, h1, h2]), hm.g⟩
 have h2 : KE = 0 := by simpa using hh
 clear hh
 refine gw_skip (nx_blk_nrm (nx_then (gw_region (ad_ rfl rfl ?_))))
 refine wl_set 22 (v' := .int .i64 3) rfl rfl ?_
 refine mv_ rfl (wl_nil ?_)
 refine nx_next ?_
 refine gr_next ?_
 refine sr_ (wl_ov (ov_lss rfl rfl) rfl ?_)
 refine wl_set 14 (v' := .bool false) rfl (congrArg Value.bool (by decide)) ?_
 refine nn_ (gw_seq (cf_ rfl ?_))
 refine gw_exit ?_
 refine nx_then_exit (nx_then_exit ?_)
 refine nx_blk_here ?_
 refine nx_then (sr_ (sg_ rfl (nn_ ?_)))
 refine gw_ret ?_
 refine nx_ret1 rfl rfl fun wx hm => ?_
 exact ⟨ret_int (by simp [firstE, h0, h1, h2]), hm.g⟩
end Go.Proofs.YtpikhokaclpbhaaGreatDoor
namespace Go.Proofs.YtpikhokaclpbhaaGreatDoor
/-- The units of a class, from number u + 1 on. -/
def unitsF (sl : List Sk) (k : ByteArray) (u : Nat) : List Cand := ((List.range (manyV sl k).toNat).drop u).map fun i => (k, ((i + 1 : Nat) : Int))
theorem unitsF_more {sl : List Sk} {k : ByteArray} {u : Nat} (h : ((u + 1 : Nat) : Int) ≤ manyV sl k) : unitsF sl k u = (k, ((u + 1 : Nat) : Int)) :: unitsF sl k (u + 1) := by
  unfold unitsF
  have hu : u < (List.range (manyV sl k).toNat).length := by rw [List.length_range]; omega
  rw [List.drop_eq_getElem_cons hu, List.map_cons, List.getElem_range]
theorem unitsF_end {sl : List Sk} {k : ByteArray} {u : Nat} (h : ¬ ((u + 1 : Nat) : Int) ≤ manyV sl k) : unitsF sl k u = [] := by
  unfold unitsF
  rw [List.drop_eq_nil_of_le (by rw [List.length_range]; omega)]; rfl
def candsF (sl : List Sk) (ks : List ByteArray) : List Cand := ks.flatMap fun k => unitsF sl k 0
theorem candsF_at {sl : List Sk} {ks : List ByteArray} {i : Nat} {k : ByteArray} (h : ks[i]? = some k) : candsF sl (ks.drop i) = unitsF sl k 0 ++ candsF sl (ks.drop (i + 1)) := by
  obtain ⟨hi, rfl⟩ := List.getElem?_eq_some_iff.1 h
  rw [List.drop_eq_getElem_cons hi]; rfl
theorem candsF_end {sl : List Sk} {ks : List ByteArray} {i : Nat} (h : ks.length ≤ i) : candsF sl (ks.drop i) = [] := by
  rw [List.drop_eq_nil_of_le h]; rfl
/-- The classes of a booking: its own, then those above. -/
def clsF (cs : List Cs) (b : Bk) : List ByteArray := b.cls :: pathN cs cs.length b.cls
def cdB (cs : List Cs) (sl : List Sk) (b : Bk) : List Cand := candsF sl (clsF cs b)
theorem cd_pos {cs : List Cs} {sl : List Sk} : ∀ b, ∀ c ∈ cdB cs sl b, 1 ≤ c.2 := fun b c hc => by
  unfold cdB candsF at hc
  obtain ⟨k, _, hc⟩ := List.mem_flatMap.1 hc
  unfold unitsF at hc
  obtain ⟨i, _, rfl⟩ := List.mem_map.1 hc
  show (1 : Int) ≤ ((i + 1 : Nat) : Int)
  omega
/-- Those of some candidates that are free, as given vehicles. -/
def chF (had : List Bk) (giv : List Gv) (b : Bk) (l : List Cand) : List Gv := (l.filter fun c => !takenR had giv b c).map fun c => ⟨b.key, c.1, c.2⟩
theorem chF_app (had : List Bk) (giv : List Gv) (b : Bk) (l m : List Cand) : chF had giv b (l ++ m) = chF had giv b l ++ chF had giv b m := by
  unfold chF; rw [List.filter_append, List.map_append]
theorem chF_yes {had : List Bk} {giv : List Gv} {b : Bk} {c : Cand} {l : List Cand} (h : takenR had giv b c = true) : chF had giv b (c :: l) = chF had giv b l := by
  unfold chF; rw [List.filter_cons_of_neg (by simp [h])]
theorem chF_no {had : List Bk} {giv : List Gv} {b : Bk} {c : Cand} {l : List Cand} (h : takenR had giv b c = false) : chF had giv b (c :: l) = ⟨b.key, c.1, c.2⟩ :: chF had giv b l := by
  unfold chF; rw [List.filter_cons_of_pos (by simp [h]), List.map_cons]
theorem chR_chF {cs : List Cs} {sl : List Sk} {had : List Bk} {giv : List Gv} {b : Bk} : chR (cdB cs sl) had giv b = chF had giv b (cdB cs sl b) := rfl
theorem any_take1 {α : Type} {p : α → Bool} {l : List α} {i : Nat} {x : α} (h : l[i]? = some x) : (l.take (i + 1)).any p = ((l.take i).any p || p x) := by
  rw [List.take_add_one, h, List.any_append]; simp
theorem meetW_comm (a b c d : Int) : meetW a b c d = meetW c d a b := by unfold meetW; rw [Bool.and_comm]
theorem zip_at {α β : Type} {l : List α} {m : List β} {i : Nat} {x : α} {y : β} (h1 : l[i]? = some x) (h2 : m[i]? = some y) : (l.zip m)[i]? = some (x, y) := by
  rw [List.getElem?_zip_eq_some]; exact ⟨h1, h2⟩
/-- Whether one of those before has a candidate at a booking's time. -/
def takP (b : Bk) (k : ByteArray) (u : Int) (p : Bk × Gv) : Bool := p.2.cls.toList == k.toList && decide (p.2.unit = u) && meetB b p.1
theorem takP_at {had : List Bk} {giv : List Gv} {j : Nat} {y : Bk} {z : Gv} {b : Bk} {k : ByteArray} {u : Int} (h1 : had[j]? = some y) (h2 : giv[j]? = some z) : ((had.zip giv).take (j + 1)).any (takP b k u) = (((had.zip giv).take j).any (takP b k u) || (z.cls.toList == k.toList && decide (z.unit = u) && meetW y.fr y.to_ b.fr b.to_)) := by
  rw [any_take1 (zip_at h1 h2)]
  have e : takP b k u (y, z) = (z.cls.toList == k.toList && decide (z.unit = u) && meetW y.fr y.to_ b.fr b.to_) := by
    show (_ && _ && meetW _ _ _ _) = _
    rw [meetW_comm]
  rw [e]
/-- One booking more, in order. -/
theorem gAll_at {cd : Bk → List Cand} {ord : List Bk} {i : Nat} {b : Bk} (h : ord[i]? = some b) : gAll cd (ord.take (i + 1)) = gStep cd (gAll cd (ord.take i)) b := by
  rw [List.take_add_one, h]; exact gAll_snoc
theorem had_mem {cd : Bk → List Cand} {ord : List Bk} {b : Bk} (h : b ∈ hadOf (gAll cd ord)) : b ∈ ord := by
  unfold hadOf at h
  obtain ⟨p, hp, he⟩ := List.mem_filterMap.1 h
  have h2 : p.1 ∈ (gAll cd ord).map (·.1) := List.mem_map.2 ⟨p, hp, rfl⟩
  rw [gAll_fst] at h2
  cases ho : p.2 with
  | none => rw [ho] at he; cases he
  | some c =>
    rw [ho] at he
    obtain rfl : p.1 = b := by simpa using he
    exact h2
/-- What the document picks is the head of its choices. -/
theorem pick_some {cd : Bk → List Cand} {st : GSt} {b : Bk} {g : Gv} {r : List Gv} (h : chR cd (hadOf st) (givOf st) b = g :: r) : ∃ c, gPick cd st b = some c ∧ g = ⟨b.key, c.1, c.2⟩ := by
  have h1 := chR_head (cd := cd) (st := st) (b := b)
  rw [h] at h1
  cases hp : gPick cd st b with
  | none => rw [hp] at h1; cases h1
  | some c => rw [hp] at h1; exact ⟨c, rfl, by simpa using h1⟩
theorem pick_none {cd : Bk → List Cand} {st : GSt} {b : Bk} (h : chR cd (hadOf st) (givOf st) b = []) : gPick cd st b = none := by
  have h1 := chR_head (cd := cd) (st := st) (b := b)
  rw [h] at h1
  cases hp : gPick cd st b with
  | none => rfl
  | some c => rw [hp] at h1; cases h1
/-- The program's row after the numbers of a list. -/
def gotF (cs : List Cs) (sl : List Sk) (l : List Bk) (ids : List Nat) : List Gv × List Nat := ids.foldl (fun p i => (gStepI (cdB cs sl) l p.1 p.2 i, p.2 ++ [i])) (List.replicate l.length gvZ, [])
theorem gotF_snoc {cs : List Cs} {sl : List Sk} {l : List Bk} {ids : List Nat} {i : Nat} : gotF cs sl l (ids ++ [i]) = (gStepI (cdB cs sl) l (gotF cs sl l ids).1 (gotF cs sl l ids).2 i, (gotF cs sl l ids).2 ++ [i]) := by
  unfold gotF; rw [List.foldl_append]; rfl
theorem gotF_done {cs : List Cs} {sl : List Sk} {l : List Bk} (ids : List Nat) : (gotF cs sl l ids).2 = ids := by
  have h : ∀ (ids : List Nat) (p : List Gv × List Nat), (ids.foldl (fun p i => (gStepI (cdB cs sl) l p.1 p.2 i, p.2 ++ [i])) p).2 = p.2 ++ ids := by
    intro ids
    induction ids with
    | nil => intro p; simp
    | cons x r ih => intro p; rw [List.foldl_cons, ih]; simp
  unfold gotF; rw [h]; rfl
theorem gStepI_len {cd : Bk → List Cand} {l : List Bk} {got : List Gv} {done : List Nat} {i : Nat} : (gStepI cd l got done i).length = got.length := by
  unfold gStepI; split
  · exact List.length_set ..
  · rfl
theorem gotF_len {cs : List Cs} {sl : List Sk} {l : List Bk} (ids : List Nat) : (gotF cs sl l ids).1.length = l.length := by
  have h : ∀ (ids : List Nat) (p : List Gv × List Nat), (ids.foldl (fun p i => (gStepI (cdB cs sl) l p.1 p.2 i, p.2 ++ [i])) p).1.length = p.1.length := by
    intro ids
    induction ids with
    | nil => intro p; rfl
    | cons x r ih => intro p; rw [List.foldl_cons, ih]; exact gStepI_len
  unfold gotF; rw [h]; exact List.length_replicate ..
theorem gotF_at {cs : List Cs} {sl : List Sk} {l : List Bk} {ids : List Nat} {j i : Nat} (h : ids[j]? = some i) : (gotF cs sl l (ids.take (j + 1))).1 = gStepI (cdB cs sl) l (gotF cs sl l (ids.take j)).1 (ids.take j) i := by
  rw [List.take_add_one, h]
  have := gotF_snoc (cs := cs) (sl := sl) (l := l) (ids := ids.take j) (i := i)
  rw [gotF_done] at this
  exact congrArg Prod.fst this
theorem gvAt_rep (n i : Nat) : gvAt (List.replicate n gvZ) i = gvZ := by
  unfold gvAt
  by_cases h : i < n
  · rw [List.getElem?_replicate_of_lt h]; rfl
  · rw [List.getElem?_eq_none (by simpa using h)]; rfl
/-- What has not been served yet has got nothing. -/
theorem gotF_zero {cs : List Cs} {sl : List Sk} {l : List Bk} {i : Nat} : ∀ (k : Nat) (ids : List Nat), ids.length = k → (∀ x ∈ ids, x < l.length) → i ∉ ids → gvAt (gotF cs sl l ids).1 i = gvZ
  | 0, ids, hk, _, _ => by
    obtain rfl : ids = [] := List.eq_nil_of_length_eq_zero hk
    exact gvAt_rep _ _
  | k + 1, ids, hk, hb, hn => by
    obtain ⟨r, x, rfl⟩ : ∃ r x, ids = r ++ [x] := ⟨ids.dropLast, ids.getLast (by intro h; subst h; cases hk), (List.dropLast_concat_getLast _).symm⟩
    have hr := gotF_zero (cs := cs) (sl := sl) (l := l) (i := i) k r (by simpa using hk) (fun y hy => hb y (List.mem_append_left _ hy)) (fun h => hn (List.mem_append_left _ h))
    have hx : i ≠ x := fun e => hn (by rw [e]; simp)
    rw [gotF_snoc]
    show gvAt (gStepI _ l (gotF cs sl l r).1 (gotF cs sl l r).2 x) i = gvZ
    unfold gStepI
    split
    · rw [gvAt_set (by rw [gotF_len]; exact hb x (by simp)), if_neg hx]; exact hr
    · exact hr
/-- The program's row is what the one list says. -/
theorem gotF_ok {cs : List Cs} {sl : List Sk} {l : List Bk} : ∀ (k : Nat) (ids : List Nat), ids.length = k → (∀ x ∈ ids, x < l.length) → ids.Nodup → GotOk l (gotF cs sl l ids).1 ids (gAll (cdB cs sl) (ids.map (bkAt l)))
  | 0, ids, hk, _, _ => by
    obtain rfl : ids = [] := List.eq_nil_of_length_eq_zero hk
    exact ⟨rfl, fun j k h => by simp at h⟩
  | k + 1, ids, hk, hb, hd => by
    obtain ⟨r, x, rfl⟩ : ∃ r x, ids = r ++ [x] := ⟨ids.dropLast, ids.getLast (by intro h; subst h; cases hk), (List.dropLast_concat_getLast _).symm⟩
    obtain ⟨hd1, hd2⟩ : r.Nodup ∧ x ∉ r := by
      have h := List.nodup_append.1 hd
      exact ⟨h.1, fun hx => h.2.2 x hx x (by simp) rfl⟩
    have hbr : ∀ y ∈ r, y < l.length := fun y hy => hb y (List.mem_append_left _ hy)
    have hr := gotF_ok (cs := cs) (sl := sl) (l := l) k r (by simpa using hk) hbr hd1
    have h := gotOk_step (cd := cdB cs sl) (i := x) cd_pos hr (by rw [gotF_len]; exact hb x (by simp)) hd2 (gotF_zero (cs := cs) (sl := sl) k r (by simpa using hk) hbr hd2)
    rw [gotF_snoc, gotF_done, List.map_append, List.map_singleton, gAll_snoc]
    exact h
/-- The numbers of the bookings in the order of their begin. -/
def idsI (l : List Bk) : List Int := isort (idLt l) ((List.range l.length).map fun k => ((k : Nat) : Int))
def idsN (l : List Bk) : List Nat := isort (fun a b => decide (cmpI (bkAt l a).fr (bkAt l b).fr < 0)) (List.range l.length)
theorem gfrAt_bk {l : List Bk} {k : Nat} : gfrAt l ((k : Nat) : Int) = (bkAt l k).fr := by
  unfold gfrAt bkAt
  rw [Int.toNat_natCast]
  cases h : l[k]? with
  | none => rfl
  | some b => rfl
theorem ids_eq (l : List Bk) : idsI l = (idsN l).map fun k => ((k : Nat) : Int) := by
  unfold idsI idsN
  exact isort_mapF (f := fun k : Nat => ((k : Nat) : Int)) (fun x y => by unfold idLt; rw [gfrAt_bk, gfrAt_bk]) _
theorem range_bk (l : List Bk) : (List.range l.length).map (bkAt l) = l := by
  apply List.ext_getElem?
  intro i
  rw [List.getElem?_map]
  by_cases hi : i < l.length
  · rw [List.getElem?_range hi, List.getElem?_eq_getElem hi]
    show some ((l[i]?).getD _) = _
    rw [List.getElem?_eq_getElem hi]; rfl
  · rw [List.getElem?_eq_none (by rw [List.length_range]; omega), List.getElem?_eq_none (by omega)]; rfl
theorem ids_ord (l : List Bk) : (idsN l).map (bkAt l) = isort grLt l := by
  unfold idsN
  rw [← isort_mapF (lt := fun a b => decide (cmpI (bkAt l a).fr (bkAt l b).fr < 0)) (lt' := grLt) (f := bkAt l) (fun x y => rfl), range_bk]
theorem ids_perm (l : List Bk) : (idsN l).Perm (List.range l.length) := isort_perm _ _
theorem ids_lt (l : List Bk) : ∀ x ∈ idsN l, x < l.length := fun x hx => by
  have := (ids_perm l).mem_iff.1 hx
  simpa using this
theorem ids_nodup (l : List Bk) : (idsN l).Nodup := (ids_perm l).nodup_iff.2 List.nodup_range
/-- The program's row at the end; what is given, who waits. -/
def gotE (cs : List Cs) (sl : List Sk) (l : List Bk) : List Gv := (gotF cs sl l (idsN l)).1
def givenE (cs : List Cs) (sl : List Sk) (l : List Bk) : List Gv := (gotE cs sl l).filter fun g => decide (0 < g.unit)
def waitE (cs : List Cs) (sl : List Sk) (l : List Bk) : List ByteArray := (List.range l.length).filterMap (lfF l (gotE cs sl l))
theorem gotE_len (cs : List Cs) (sl : List Sk) (l : List Bk) : (gotE cs sl l).length = l.length := gotF_len _
theorem gotE_ok (cs : List Cs) (sl : List Sk) (l : List Bk) : GotOk l (gotE cs sl l) (idsN l) (gAll (cdB cs sl) (isort grLt l)) := by
  have h := gotF_ok (cs := cs) (sl := sl) (l := l) _ (idsN l) rfl (ids_lt l) (ids_nodup l)
  rw [ids_ord] at h
  exact h
/-- Where something is given, its key is the booking's. -/
theorem gotE_key {cs : List Cs} {sl : List Sk} {l : List Bk} {i : Nat} (hi : i < l.length) (h : 0 < (gvAt (gotE cs sl l) i).unit) : (gvAt (gotE cs sl l) i).bk = (bkAt l i).key := by
  have hm : i ∈ idsN l := (ids_perm l).mem_iff.2 (by simpa using hi)
  obtain ⟨j, hj⟩ := List.getElem?_of_mem hm
  obtain ⟨o, _, hg⟩ := (gotE_ok cs sl l).2 j i hj
  rw [hg] at h ⊢
  cases o with
  | none => exact absurd h (by show ¬ (0 : Int) < 0; omega)
  | some c => rfl
theorem st_pos {cs : List Cs} {sl : List Sk} : ∀ (ord : List Bk), ∀ p ∈ gAll (cdB cs sl) ord, ∀ c, p.2 = some c → 1 ≤ c.2 := by
  have h : ∀ (ord : List Bk) (st : GSt), (∀ p ∈ st, ∀ c, p.2 = some c → 1 ≤ c.2) → ∀ p ∈ ord.foldl (gStep (cdB cs sl)) st, ∀ c, p.2 = some c → 1 ≤ c.2 := by
    intro ord
    induction ord with
    | nil => intro st h; exact h
    | cons b r ih =>
      intro st h
      rw [List.foldl_cons]
      refine ih _ fun p hp c hc => ?_
      unfold gStep at hp
      rcases List.mem_append.1 hp with hp | hp
      · exact h p hp c hc
      · rw [List.mem_singleton.1 hp] at hc
        have hc2 : gPick (cdB cs sl) st b = some c := hc
        unfold gPick at hc2
        exact cd_pos b c (List.mem_of_find?_eq_some hc2)
  exact fun ord => h ord [] (fun p hp => by cases hp)
theorem keys_scan : ∀ {l : List Bk} {p : Option Bk}, scanE bookE p l = 0 → l.Pairwise (fun x y => blR x.key y.key) ∧ ∀ q, p = some q → ∀ x ∈ l, blR q.key x.key
  | [], _, _ => ⟨List.Pairwise.nil, fun _ _ x hx => by cases hx⟩
  | b :: r, p, h => by
    unfold scanE at h
    by_cases hb : bookE p b = 0
    · rw [if_pos hb] at h
      obtain ⟨h1, h2⟩ := keys_scan h
      have hb2 := hb
      unfold bookE at hb2
      by_cases k1 : (!keyB b.key) = true
      · rw [if_pos k1] at hb2; cases hb2
      · rw [if_neg k1] at hb2
        by_cases k2 : (!keyB b.cls) = true
        · rw [if_pos k2] at hb2; cases hb2
        · rw [if_neg k2] at hb2
          by_cases k3 : leO p b = true
          · rw [if_pos k3] at hb2; cases hb2
          · refine ⟨List.Pairwise.cons (fun x hx => h2 b rfl x hx) h1, fun q hq x hx => ?_⟩
            subst hq
            have hlt : blR q.key b.key := leB_lt (by simpa [leO] using k3)
            rcases List.mem_cons.1 hx with rfl | hx
            · exact hlt
            · exact blR_tr hlt (h2 b rfl x hx)
    · rw [if_neg hb] at h
      exact absurd h hb
/-- The keys of right bookings rise. -/
theorem bkeys_rise {l : List Bk} (h : formE l = 0) : l.Pairwise fun x y => blR x.key y.key := by
  unfold formE at h
  split at h
  · cases h
  · exact (keys_scan h).1
theorem given_eq {cs : List Cs} {sl : List Sk} {l : List Bk} (h : formE l = 0) : isort gvLt (givOf (gAll (cdB cs sl) (isort grLt l))) = givenE cs sl l := by
  have hp : (idsN l).Perm (List.range (gotE cs sl l).length) := by rw [gotE_len]; exact ids_perm l
  refine given_sorted hp (gotE_ok cs sl l) (st_pos _) ?_
  have hk := bkeys_rise h
  rw [List.pairwise_iff_getElem] at hk
  rw [got_range, gotE_len]
  have hr : (List.range l.length).Pairwise fun a b => a < b := List.pairwise_lt_range
  refine List.Pairwise.filterMap (R := fun a b => a < b ∧ a < l.length ∧ b < l.length) (S := fun x y : Gv => blR x.bk y.bk) (gvF (gotE cs sl l)) ?_ ?_
  · rintro a b ⟨hab, ha, hb⟩ x hx y hy
    unfold gvF at hx hy
    split at hx
    · split at hy
      · rename_i h1 h2
        obtain rfl : gvAt (gotE cs sl l) a = x := by simpa using hx
        obtain rfl : gvAt (gotE cs sl l) b = y := by simpa using hy
        rw [gotE_key ha h1, gotE_key hb h2]
        have := hk a b ha hb hab
        unfold bkAt
        rw [List.getElem?_eq_getElem ha, List.getElem?_eq_getElem hb]
        exact this
      · cases hy
    · cases hx
  · refine List.Pairwise.imp_of_mem (fun {a b} ha hb h => ?_) hr
    exact ⟨h, by simpa using ha, by simpa using hb⟩
theorem wait_eq {cs : List Cs} {sl : List Sk} {l : List Bk} {lt : ByteArray → ByteArray → Bool} (hlt : ∀ x y, lt x y = true ↔ blR x y) (h : formE l = 0) : isort lt (leftOf (gAll (cdB cs sl) (isort grLt l))) = waitE cs sl l := by
  have hp : (idsN l).Perm (List.range (gotE cs sl l).length) := by rw [gotE_len]; exact ids_perm l
  have hl := left_sorted (l := l) (lt := lt) hlt hp (gotE_ok cs sl l) (st_pos _)
  rw [gotE_len] at hl
  refine hl ?_
  have hk := bkeys_rise h
  rw [List.pairwise_iff_getElem] at hk
  have hr : (List.range l.length).Pairwise fun a b => a < b := List.pairwise_lt_range
  refine List.Pairwise.filterMap (R := fun a b => a < b ∧ a < l.length ∧ b < l.length) (S := blR) (lfF l (gotE cs sl l)) ?_ ?_
  · rintro a b ⟨hab, ha, hb⟩ x hx y hy
    unfold lfF at hx hy
    split at hx
    · cases hx
    · split at hy
      · cases hy
      · obtain rfl : (bkAt l a).key = x := by simpa using hx
        obtain rfl : (bkAt l b).key = y := by simpa using hy
        have := hk a b ha hb hab
        unfold bkAt
        rw [List.getElem?_eq_getElem ha, List.getElem?_eq_getElem hb]
        exact this
  · refine List.Pairwise.imp_of_mem (fun {a b} ha hb h => ?_) hr
    exact ⟨h, by simpa using ha, by simpa using hb⟩
end Go.Proofs.YtpikhokaclpbhaaGreatDoor
namespace Go.Proofs.YtpikhokaclpbhaaGreatDoor
open Go.RowKit
theorem greedyT_any (l : List Bk) (got : List Gv) (A G : Option Addr) (nb cb gc g1 g2 g3 g4 g5 i k : Nat) (c : ByteArray) (u : Int) (w : World) (hl : SlT bkEnc 6 181 w A nb l) (hv : SlT gvEnc 3 91 w G nb got) (hg1 : Blk w g1 82 [.slice G nb gc]) (hg2 : Blk w g2 9 [.string c]) (hg3 : Blk w g3 3 [.int .i64 u]) (hg4 : Blk w g4 78 [.slice A nb cb]) (hg5 : Blk w g5 3 [.int .i64 ((i : Nat) : Int)]) (hi : i < nb) (hk : k < nb) :
  Calls Tryz.prog 127 #[.int .i64 ((k : Nat) : Int), .pointer (some ⟨g1, 0, none⟩), .pointer (some ⟨g2, 0, none⟩), .pointer (some ⟨g3, 0, none⟩), .pointer (some ⟨g4, 0, none⟩), .pointer (some ⟨g5, 0, none⟩)] w (fun e w' => e = .returned (.bool ((gvAt got k).cls.toList == c.toList && decide ((gvAt got k).unit = u) && meetB (bkAt l i) (bkAt l k))) ∧ w.grownBy w' none) := by
 refine gw_enter ⟨37, w, none, []⟩ Tryz.func127 rfl Tryz.ntmps127 rfl (mem0 (X := [SlOld bkEnc 6 181 w.heap.size none A nb l, SlOld gvEnc 3 91 w.heap.size none G nb got, BlkOld w.heap.size none g1 82 [.slice G nb gc], BlkOld w.heap.size none g2 9 [.string c], BlkOld w.heap.size none g3 3 [.int .i64 u], BlkOld w.heap.size none g4 78 [.slice A nb cb], BlkOld w.heap.size none g5 3 [.int .i64 ((i : Nat) : Int)]]) (allF_cons hl.old (allF_cons hv.old (allF_cons hg1.old (allF_cons hg2.old (allF_cons hg3.old (allF_cons hg4.old (allF_cons hg5.old allF_nil))))))) (allL_cons SlOld.lasts (allL_cons SlOld.lasts (allL_cons BlkOld.lasts (allL_cons BlkOld.lasts (allL_cons BlkOld.lasts (allL_cons BlkOld.lasts (allL_cons BlkOld.lasts allL_nil)))))))) ?_
 refine sr_ ?_
 have hlen := hl.len
 have hlen2 := hv.len
 obtain ⟨b, off, hA, _, _⟩ := hl.get (by omega)
 subst hA
 obtain ⟨d, of2, hA, _, _⟩ := hv.get (by omega)
 subst hA
 obtain ⟨x, hx⟩ : ∃ x, l[i]? = some x := ⟨_, List.getElem?_eq_getElem (by omega)⟩
 obtain ⟨x0, x1, x2, x3, x4, x5⟩ := x
 obtain ⟨y, hy⟩ : ∃ x, l[k]? = some x := ⟨_, List.getElem?_eq_getElem (by omega)⟩
 obtain ⟨y0, y1, y2, y3, y4, y5⟩ := y
 obtain ⟨z, hz⟩ : ∃ x, got[k]? = some x := ⟨_, List.getElem?_eq_getElem (by omega)⟩
 obtain ⟨z0, z1, z2⟩ := z
 have e1 : bkAt l i = ⟨x0, x1, x2, x3, x4, x5⟩ := by unfold bkAt; rw [hx]; rfl
 have e2 : bkAt l k = ⟨y0, y1, y2, y3, y4, y5⟩ := by unfold bkAt; rw [hy]; rfl
 have e3 : gvAt got k = ⟨z0, z1, z2⟩ := by unfold gvAt; rw [hz]; rfl
 rw [e1, e2, e3]
 refine sg_ rfl (nn_ (gw_seq ?_))
 refine gd (fun wz => (SlOld bkEnc 6 181 w.heap.size none (some ⟨b, off, none⟩) nb l) wz ∧ (SlOld gvEnc 3 91 w.heap.size none (some ⟨d, of2, none⟩) nb got) wz ∧ (BlkOld w.heap.size none g1 82 [.slice (some ⟨d, of2, none⟩) nb gc]) wz ∧ (BlkOld w.heap.size none g2 9 [.string c]) wz ∧ (BlkOld w.heap.size none g3 3 [.int .i64 u]) wz ∧ (BlkOld w.heap.size none g4 78 [.slice (some ⟨b, off, none⟩) nb cb]) wz ∧ (BlkOld w.heap.size none g5 3 [.int .i64 ((i : Nat) : Int)]) wz ∧ True) mixed (fun _ hm => ⟨hm.fa 0, hm.fa 1, hm.fa 2, hm.fa 3, hm.fa 4, hm.fa 5, hm.fa 6, trivial⟩) fun z => ?_
 refine wt 0 30 1 rfl z (ov_load (v := .slice (some ⟨d, of2, none⟩) nb gc) sc82 rfl (fun _ hm => (hm.2.2.1).2) rfl) ?_
 refine wt 1 30 3 rfl z (ov_move rfl) ?_
 refine wt 2 30 7 rfl z (ov_index (j := k) es82 rfl rfl (by omega)) ?_
 refine wt 3 30 15 rfl z (ov_field fo91_1 rfl rfl) ?_
 refine wt 4 30 31 rfl z (ov_elem1 (k := 1) (v := .string z1) sc9 rfl (fun _ hm => (hm.2.1).1) hz rfl rfl) ?_
 refine wt 5 30 63 rfl z (ov_load (v := .string c) sc9 rfl (fun _ hm => (hm.2.2.2.1).2) rfl) ?_
 refine wt 6 30 127 rfl z (ov_seql rfl rfl) ?_
 refine wt 7 30 255 rfl z (ov_move rfl) ?_
 rcases Bool.eq_false_or_eq_true (z1.toList == c.toList) with hb1 | hb1
 ·refine wa_set 15 rfl (congrArg Value.bool hb1) ?_
  refine wto 8 30 511 rfl rfl rfl z (ov_load (v := .slice (some ⟨d, of2, none⟩) nb gc) sc82 rfl (fun _ hm => (hm.2.2.1).2) rfl) ?_
  refine wto 9 30 1023 rfl rfl rfl z (ov_move rfl) ?_
  refine wto 10 30 2047 rfl rfl rfl z (ov_index (j := k) es82 rfl rfl (by omega)) ?_
  refine wto 11 30 4095 rfl rfl rfl z (ov_field fo91_2 rfl rfl) ?_
  refine wto 12 30 8191 rfl rfl rfl z (ov_elem1 (k := 2) (v := .int .i64 z2) sc3 rfl (fun _ hm => (hm.2.1).1) hz rfl rfl) ?_
  refine wto 13 30 16383 rfl rfl rfl z (ov_load (v := .int .i64 u) sc3 rfl (fun _ hm => (hm.2.2.2.2.1).2) rfl) ?_
  refine wto 14 30 32767 rfl rfl rfl z (ov_eql rfl rfl) ?_
  refine wt 15 30 65535 rfl z (ov_pick_t rfl rfl) ?_
  refine wt 16 30 131071 rfl z (ov_move rfl) ?_
  rcases Bool.eq_false_or_eq_true (decide (z2 = u)) with hb2 | hb2
  ·refine wa_set 24 rfl (congrArg Value.bool hb2) ?_
   refine wto 17 30 262143 rfl rfl rfl z (ov_load (v := .slice (some ⟨b, off, none⟩) nb cb) sc78 rfl (fun _ hm => (hm.2.2.2.2.2.1).2) rfl) ?_
   refine wto 18 30 524287 rfl rfl rfl z (ov_load (v := .int .i64 ((i : Nat) : Int)) sc3 rfl (fun _ hm => (hm.2.2.2.2.2.2.1).2) rfl) ?_
   refine wto 19 30 1048575 rfl rfl rfl z (ov_index (j := i) es78 rfl rfl (by omega)) ?_
   refine wto 20 30 2097151 rfl rfl rfl z (ov_field fo181_2 rfl rfl) ?_
   refine wto 21 30 4194303 rfl rfl rfl z (ov_elemN (k := 2) (vs := [.int .i64 x2, .int .i64 x3]) rz62 rfl (fun _ hm => (hm.1).1) hx rfl rfl rfl) ?_
   refine wto 22 30 8388607 rfl rfl rfl z (ov_load (v := .slice (some ⟨b, off, none⟩) nb cb) sc78 rfl (fun _ hm => (hm.2.2.2.2.2.1).2) rfl) ?_
   refine wto 23 30 16777215 rfl rfl rfl z (ov_move rfl) ?_
   refine wto 24 30 33554431 rfl rfl rfl z (ov_index (j := k) es78 rfl rfl (by omega)) ?_
   refine wto 25 30 67108863 rfl rfl rfl z (ov_field fo181_2 rfl rfl) ?_
   refine wto 26 30 134217727 rfl rfl rfl z (ov_elemN (k := 2) (vs := [.int .i64 y2, .int .i64 y3]) rz62 rfl (fun _ hm => (hm.1).1) hy rfl rfl rfl) ?_
   refine wa1 27 rfl ?_
   refine wl_guard_on rfl rfl rfl ?_
   refine wl_callv rfl cb128 rfl rfl (fun wx hm => (meet_any x2 x3 y2 y3 wx)) ?_
   refine wl_nil ?_
   refine nw 30 268435455 (fun _ hm => ⟨hm.fa 0, hm.fa 1, hm.fa 2, hm.fa 3, hm.fa 4, hm.fa 5, hm.fa 6, trivial⟩) fun z => ?_
   refine wt 28 30 536870911 rfl z (ov_pick_t rfl rfl) ?_
   refine wt 29 30 1073741823 rfl z (ov_assign rfl) ?_
   refine wa_done (by kernel_rfl) ?_
   refine nx_then ?_
   refine gw_ret ?_
   refine nx_ret1 rfl rfl fun wx hm => ?_
   exact ⟨by simp [meetB, hb1, hb2], hm.g⟩
  refine wa_set 24 rfl (congrArg Value.bool hb2) ?_
  refine wtf 17 30 262143 rfl rfl rfl z ?_
  refine wtf 18 30 524287 rfl rfl rfl z ?_
  refine wtf 19 30 1048575 rfl rfl rfl z ?_
  refine wtf 20 30 2097151 rfl rfl rfl z ?_
  refine wtf 21 30 4194303 rfl rfl rfl z ?_
  refine wtf 22 30 8388607 rfl rfl rfl z ?_
  refine wtf 23 30 16777215 rfl rfl rfl z ?_
  refine wtf 24 30 33554431 rfl rfl rfl z ?_
  refine wtf 25 30 67108863 rfl rfl rfl z ?_
  refine wtf 26 30 134217727 rfl rfl rfl z ?_
  refine wtf 27 30 268435455 rfl rfl rfl z ?_
  refine wt 28 30 536870911 rfl z (ov_pick_f rfl rfl) ?_
  refine wt 29 30 1073741823 rfl z (ov_assign rfl) ?_
  refine wa_done (by kernel_rfl) ?_
  refine nx_then ?_
  refine gw_ret ?_
  refine nx_ret1 rfl rfl fun wx hm => ?_
  exact ⟨by simp [meetB, hb1, hb2], hm.g⟩
 refine wa_set 15 rfl (congrArg Value.bool hb1) ?_
 refine wtf 8 30 511 rfl rfl rfl z ?_
 refine wtf 9 30 1023 rfl rfl rfl z ?_
 refine wtf 10 30 2047 rfl rfl rfl z ?_
 refine wtf 11 30 4095 rfl rfl rfl z ?_
 refine wtf 12 30 8191 rfl rfl rfl z ?_
 refine wtf 13 30 16383 rfl rfl rfl z ?_
 refine wtf 14 30 32767 rfl rfl rfl z ?_
 refine wt 15 30 65535 rfl z (ov_pick_f rfl rfl) ?_
 refine wt 16 30 131071 rfl z (ov_move rfl) ?_
 refine wtf 17 30 262143 rfl rfl rfl z ?_
 refine wtf 18 30 524287 rfl rfl rfl z ?_
 refine wtf 19 30 1048575 rfl rfl rfl z ?_
 refine wtf 20 30 2097151 rfl rfl rfl z ?_
 refine wtf 21 30 4194303 rfl rfl rfl z ?_
 refine wtf 22 30 8388607 rfl rfl rfl z ?_
 refine wtf 23 30 16777215 rfl rfl rfl z ?_
 refine wtf 24 30 33554431 rfl rfl rfl z ?_
 refine wtf 25 30 67108863 rfl rfl rfl z ?_
 refine wtf 26 30 134217727 rfl rfl rfl z ?_
 refine wtf 27 30 268435455 rfl rfl rfl z ?_
 refine wt 28 30 536870911 rfl z (ov_pick_f rfl rfl) ?_
 refine wt 29 30 1073741823 rfl z (ov_assign rfl) ?_
 refine wa_done (by kernel_rfl) ?_
 refine nx_then ?_
 refine gw_ret ?_
 refine nx_ret1 rfl rfl fun wx hm => ?_
 exact ⟨by simp [meetB, hb1], hm.g⟩
end Go.Proofs.YtpikhokaclpbhaaGreatDoor
namespace Go.Proofs.YtpikhokaclpbhaaGreatDoor
open Go.RowKit
def hourFr (hs : List Int) (d : Int) : Int := d * 1440 + frAt hs (d % 7).toNat
def hourTo (hs : List Int) (d : Int) : Int := d * 1440 + toAt hs (d % 7).toNat
end Go.Proofs.YtpikhokaclpbhaaGreatDoor
namespace Go.Proofs.YtpikhokaclpbhaaGreatDoor
open Go.RowKit
/-- The next opening from day d on; n days are left. -/
def nextFrom (hs : List Int) (at_ : Int) : Nat → Int → Option Int
  | 0, _ => none
  | n + 1, d => if max at_ (hourFr hs d) < hourTo hs d then some (max at_ (hourFr hs d)) else nextFrom hs at_ n (d + 1)
end Go.Proofs.YtpikhokaclpbhaaGreatDoor
namespace Go.Proofs.YtpikhokaclpbhaaGreatDoor
def frD (hs : List Int) (d : Int) : Int := frAt hs (d % 7).toNat
def toD (hs : List Int) (d : Int) : Int := toAt hs (d % 7).toNat
theorem hourFr_eq (hs : List Int) (d : Int) : hourFr hs d = d * 1440 + frD hs d := rfl
theorem hourTo_eq (hs : List Int) (d : Int) : hourTo hs d = d * 1440 + toD hs d := rfl
section
variable {hs : List Int} {at_ : Int}
theorem never (h : ∀ e, ¬ frD hs e < toD hs e) : ∀ (n : Nat) (d : Int), nextFrom hs at_ n d = none
  | 0, _ => rfl
  | n + 1, d => by
    have h1 := h d
    rw [nextFrom, if_neg (by rw [hourFr_eq, hourTo_eq]; omega)]
    exact never h n (d + 1)
end
end Go.Proofs.YtpikhokaclpbhaaGreatDoor
namespace Go.Proofs.YtpikhokaclpbhaaGreatDoor
open Go.RowKit
theorem ix_dec {α : Type} {p : α → Bool} {l : List α} : decide (0 ≤ ixP p l 0) = l.any p := ix_any
end Go.Proofs.YtpikhokaclpbhaaGreatDoor
namespace Go.Proofs.YtpikhokaclpbhaaGreatDoor
open Go.RowKit
def takZ (l : List Bk) (got : List Gv) (i : Nat) (c : ByteArray) (u : Int) (z : Int) : Bool := (gvAt got z.toNat).cls.toList == c.toList && decide ((gvAt got z.toNat).unit = u) && meetB (bkAt l i) (bkAt l z.toNat)
theorem tak_ids {l : List Bk} {got : List Gv} {i : Nat} {c : ByteArray} {u : Int} (ids : List Nat) : (ids.map fun k => ((k : Nat) : Int)).any (takZ l got i c u) = takenI l got ids i (c, u) := by
  unfold takenI
  rw [List.any_map]
  congr 1
theorem ixTak_any (l : List Bk) (got : List Gv) (A G : Option Addr) (nb cb gc g1 g2 g3 g4 g5 i : Nat) (c : ByteArray) (u : Int) (zs : List Int) (Z : Option Addr) (n c0 : Nat) (w : World) (hl : SlT bkEnc 6 181 w A nb l) (hv : SlT gvEnc 3 91 w G nb got) (hg1 : Blk w g1 82 [.slice G nb gc]) (hg2 : Blk w g2 9 [.string c]) (hg3 : Blk w g3 3 [.int .i64 u]) (hg4 : Blk w g4 78 [.slice A nb cb]) (hg5 : Blk w g5 3 [.int .i64 ((i : Nat) : Int)]) (hi : i < nb) (hz : SlT iEnc 1 3 w Z n zs) (hn : n ≤ 1000000) (hall : ∀ z ∈ zs, 0 ≤ z ∧ z < (nb : Int)) :
  Calls Tryz.prog 203 #[.slice Z n c0, .func (.func 127) #[] #[.pointer (some ⟨g1, 0, none⟩), .pointer (some ⟨g2, 0, none⟩), .pointer (some ⟨g3, 0, none⟩), .pointer (some ⟨g4, 0, none⟩), .pointer (some ⟨g5, 0, none⟩)]] w (GotE w (ixP (takZ l got i c u) zs 0)) := by
 refine gw_enter ⟨19, w, none, []⟩ Tryz.func203 rfl Tryz.ntmps203 rfl (mem0 (X := [SlOld iEnc 1 3 w.heap.size none Z n zs, SlOld bkEnc 6 181 w.heap.size none A nb l, SlOld gvEnc 3 91 w.heap.size none G nb got, BlkOld w.heap.size none g1 82 [.slice G nb gc], BlkOld w.heap.size none g2 9 [.string c], BlkOld w.heap.size none g3 3 [.int .i64 u], BlkOld w.heap.size none g4 78 [.slice A nb cb], BlkOld w.heap.size none g5 3 [.int .i64 ((i : Nat) : Int)]]) (allF_cons hz.old (allF_cons hl.old (allF_cons hv.old (allF_cons hg1.old (allF_cons hg2.old (allF_cons hg3.old (allF_cons hg4.old (allF_cons hg5.old allF_nil)))))))) (allL_cons SlOld.lasts (allL_cons SlOld.lasts (allL_cons SlOld.lasts (allL_cons BlkOld.lasts (allL_cons BlkOld.lasts (allL_cons BlkOld.lasts (allL_cons BlkOld.lasts (allL_cons BlkOld.lasts allL_nil))))))))) ?_
 refine sr_ ?_
 have hlen := hz.len
 refine sg_ rfl (nn_ (gw_seq (sr_ (mv_ rfl (wl_ov (ov_len es22 rfl) rfl (mv_ rfl (nn_ (gw_block ?_))))))))
 refine gw_loop (γ := Nat) (fun (j : Nat) => j ≤ n ∧ ixP (takZ l got i c u) zs 0 = ixP (takZ l got i c u) (zs.drop j) j) (fun (j : Nat) => [(0, .slice Z n c0), (1, .func (.func 127) #[] #[.pointer (some ⟨g1, 0, none⟩), .pointer (some ⟨g2, 0, none⟩), .pointer (some ⟨g3, 0, none⟩), .pointer (some ⟨g4, 0, none⟩), .pointer (some ⟨g5, 0, none⟩)]), (7, .int .i64 ((n : Nat) : Int)), (8, .int .i64 ((j : Nat) : Int))]) (fun (j : Nat) => fun _ => True) (fun (j : Nat) => []) (fun (j : Nat) => []) (fun (j : Nat) => [SlOld iEnc 1 3 w.heap.size none Z n zs, SlOld bkEnc 6 181 w.heap.size none A nb l, SlOld gvEnc 3 91 w.heap.size none G nb got, BlkOld w.heap.size none g1 82 [.slice G nb gc], BlkOld w.heap.size none g2 9 [.string c], BlkOld w.heap.size none g3 3 [.int .i64 u], BlkOld w.heap.size none g4 78 [.slice A nb cb], BlkOld w.heap.size none g5 3 [.int .i64 ((i : Nat) : Int)]]) (fun (j : Nat) => n - j) 0 ⟨Nat.zero_le _, rfl⟩ ⟨rfl, rfl, rfl, rfl, trivial⟩ (fun _ hm => hm.pick [] [] [0, 1, 2, 3, 4, 5, 6, 7] rfl rfl) ?_
 intro j hinv
 replace hinv : j ≤ n ∧ ixP (takZ l got i c u) zs 0 = ixP (takZ l got i c u) (zs.drop j) j := hinv
 refine sr_ (wl_ov (ov_lss rfl rfl) rfl (nn_ (gw_seq ?_)))
 refine gw_cond rfl (fun hh => ?_) (fun hh => ?_)
 ·have hj : ((j : Nat) : Int) < ((n : Nat) : Int) := by simpa using hh
  clear hh
  refine gw_skip (nx_then (gw_seq (gw_block (sr_ ?_))))
  obtain ⟨b, off, hA, _, _⟩ := hz.get (by omega)
  subst hA
  obtain ⟨x0, hx⟩ : ∃ x, zs[j]? = some x := ⟨_, List.getElem?_eq_getElem (by omega)⟩
  have hat := ixP_at (p := takZ l got i c u) hx
  obtain ⟨hx1, hx2⟩ := hall _ (List.mem_of_getElem? hx)
  obtain ⟨k, rfl⟩ := Int.eq_ofNat_of_zero_le hx1
  refine mv_ rfl (sg_ rfl (nn_ (sr_ (mv_ rfl (mv_ rfl (mv_ rfl ?_))))))
  refine wl_ov (ov_index (j := j) es22 rfl rfl (by omega)) rfl ?_
  refine wl_ov (ov_elem1 (k := 0) (v := .int .i64 ((k : Nat) : Int)) sc3 rfl (fun _ hm => (hm.fact 0 rfl).1) hx rfl rfl) rfl ?_
  refine wl_callv (v := .bool (takZ l got i c u ((k : Nat) : Int))) rfl cb127 rfl rfl (fun wx hm => (by have h := greedyT_any l got A G nb cb gc g1 g2 g3 g4 g5 i k c u wx (hm.fact 1 rfl).1 (hm.fact 2 rfl).1 (hm.fact 3 rfl).2 (hm.fact 4 rfl).2 (hm.fact 5 rfl).2 (hm.fact 6 rfl).2 (hm.fact 7 rfl).2 hi (by omega); exact h)) ?_
  refine nn_ ?_
  refine gw_cond rfl (fun hh => ?_) (fun hh => ?_)
  ·have hq : (takZ l got i c u ((k : Nat) : Int)) = true := by simpa using hh
   clear hh
   refine sr_ (mv_ rfl (sg_ rfl (nn_ ?_)))
   refine gw_ret ?_
   refine nx_blk_ret (nx_then_ret (nx_then_ret (nx_blk_ret (nx_then_ret ?_))))
   refine nx_ret1 rfl rfl fun wx hm => ?_
   exact ⟨ret_int (by rw [hinv.2, hat, if_pos hq]), hm.g⟩
  have hq : (takZ l got i c u ((k : Nat) : Int)) = false := by simpa using hh
  clear hh
  refine gw_skip (nx_blk_nrm (nx_then (gw_region (ad_ rfl rfl (mv_ rfl (wl_nil ?_))))))
  exact nx_round (j + 1) ⟨by omega, by rw [hinv.2, hat, if_neg (by rw [hq]; decide)]⟩ (by omega) ⟨rfl, rfl, rfl, (some_int (by omega)), trivial⟩ (fun _ hm => hm.pick [] [] [0, 1, 2, 3, 4, 5, 6, 7] rfl rfl)
 have hj : ¬ (((j : Nat) : Int) < ((n : Nat) : Int)) := by simpa using hh
 clear hh
 refine gw_exit ?_
 refine nx_then_exit (nx_then_exit ?_)
 refine nx_blk_here ?_
 refine nx_then (sr_ (sg_ rfl ?_))
 refine wl_set 4 (v' := .int .i64 (-1)) rfl rfl ?_
 refine nn_ ?_
 refine gw_ret ?_
 refine nx_ret1 rfl rfl fun wx hm => ?_
 exact ⟨ret_int (by rw [hinv.2, List.drop_eq_nil_of_le (by omega)]; rfl), hm.g⟩
theorem hasTak_any (l : List Bk) (got : List Gv) (A G : Option Addr) (nb cb gc g1 g2 g3 g4 g5 i : Nat) (c : ByteArray) (u : Int) (zs : List Int) (Z : Option Addr) (n c0 : Nat) (w : World) (hl : SlT bkEnc 6 181 w A nb l) (hv : SlT gvEnc 3 91 w G nb got) (hg1 : Blk w g1 82 [.slice G nb gc]) (hg2 : Blk w g2 9 [.string c]) (hg3 : Blk w g3 3 [.int .i64 u]) (hg4 : Blk w g4 78 [.slice A nb cb]) (hg5 : Blk w g5 3 [.int .i64 ((i : Nat) : Int)]) (hi : i < nb) (hz : SlT iEnc 1 3 w Z n zs) (hn : n ≤ 1000000) (hall : ∀ z ∈ zs, 0 ≤ z ∧ z < (nb : Int)) :
  Calls Tryz.prog 126 #[.slice Z n c0, .func (.func 127) #[] #[.pointer (some ⟨g1, 0, none⟩), .pointer (some ⟨g2, 0, none⟩), .pointer (some ⟨g3, 0, none⟩), .pointer (some ⟨g4, 0, none⟩), .pointer (some ⟨g5, 0, none⟩)]] w (fun e w' => e = .returned (.bool (zs.any (takZ l got i c u))) ∧ w.grownBy w' none) := by
 refine gw_enter ⟨9, w, none, []⟩ Tryz.func126 rfl Tryz.ntmps126 rfl (mem0 (X := [SlOld iEnc 1 3 w.heap.size none Z n zs, SlOld bkEnc 6 181 w.heap.size none A nb l, SlOld gvEnc 3 91 w.heap.size none G nb got, BlkOld w.heap.size none g1 82 [.slice G nb gc], BlkOld w.heap.size none g2 9 [.string c], BlkOld w.heap.size none g3 3 [.int .i64 u], BlkOld w.heap.size none g4 78 [.slice A nb cb], BlkOld w.heap.size none g5 3 [.int .i64 ((i : Nat) : Int)]]) (allF_cons hz.old (allF_cons hl.old (allF_cons hv.old (allF_cons hg1.old (allF_cons hg2.old (allF_cons hg3.old (allF_cons hg4.old (allF_cons hg5.old allF_nil)))))))) (allL_cons SlOld.lasts (allL_cons SlOld.lasts (allL_cons SlOld.lasts (allL_cons BlkOld.lasts (allL_cons BlkOld.lasts (allL_cons BlkOld.lasts (allL_cons BlkOld.lasts (allL_cons BlkOld.lasts allL_nil))))))))) ?_
 refine sr_ (sg_ rfl (nn_ (sr_ (mv_ rfl (mv_ rfl ?_)))))
 refine wl_callv rfl cb203 rfl rfl (fun wx hm => (ixTak_any l got A G nb cb gc g1 g2 g3 g4 g5 i c u zs Z n c0 wx (hm.fact 1 rfl).1 (hm.fact 2 rfl).1 (hm.fact 3 rfl).2 (hm.fact 4 rfl).2 (hm.fact 5 rfl).2 (hm.fact 6 rfl).2 (hm.fact 7 rfl).2 hi (hm.fact 0 rfl).1 hn hall)) ?_
 refine wl_ov (ov_geq rfl rfl) rfl ?_
 refine sg_ rfl (nn_ ?_)
 refine gw_ret ?_
 refine nx_ret1 rfl rfl fun wx hm => ?_
 exact ⟨by rw [← ix_dec], hm.g⟩
end Go.Proofs.YtpikhokaclpbhaaGreatDoor
namespace Go.Proofs.YtpikhokaclpbhaaGreatDoor
open Go.RowKit
/-- A booking's search: nothing has been found yet (and the rest holds what is to be found), or it has been. -/
def Pend (cd : Bk → List Cand) (l : List Bk) (g0 : List Gv) (done : List Nat) (k : Nat) (R : List Gv) (rest : List Cand) : Prop := (R = g0 ∧ rest.find? (fun c => !takenI l g0 done k c) = gPickI cd l g0 done k) ∨ (R = gStepI cd l g0 done k ∧ 1 ≤ (gvAt R k).unit)
section
variable {cd : Bk → List Cand} {l : List Bk} {g0 R : List Gv} {done : List Nat} {k : Nat} {rest : List Cand} {c : Cand}
theorem pend_start : Pend cd l g0 done k g0 (cd (bkAt l k)) := .inl ⟨rfl, rfl⟩
theorem pend_end (h : Pend cd l g0 done k R []) : R = gStepI cd l g0 done k := by
  rcases h with ⟨h1, h2⟩ | ⟨h1, _⟩
  · unfold gStepI
    rw [← h2]
    exact h1
  · exact h1
theorem pend_skip (h : Pend cd l g0 done k R rest) (hz : gvAt g0 k = gvZ) (hu : (gvAt R k).unit ≠ 0) (r2 : List Cand) : Pend cd l g0 done k R r2 := by
  rcases h with ⟨h1, _⟩ | h
  · exact absurd (by rw [h1, hz]; rfl) hu
  · exact .inr h
theorem pend_free (h : Pend cd l g0 done k R rest) (hu : (gvAt R k).unit = 0) : R = g0 ∧ rest.find? (fun c => !takenI l g0 done k c) = gPickI cd l g0 done k := by
  rcases h with h | ⟨_, h2⟩
  · exact h
  · omega
theorem pend_taken (h : Pend cd l g0 done k R (c :: rest)) (hu : (gvAt R k).unit = 0) (ht : takenI l R done k c = true) : Pend cd l g0 done k R rest := by
  obtain ⟨h1, h2⟩ := pend_free h hu
  refine .inl ⟨h1, ?_⟩
  rw [h1] at ht
  rw [← h2, List.find?_cons_of_neg (by simp [ht])]
theorem pend_got (h : Pend cd l g0 done k R (c :: rest)) (hu : (gvAt R k).unit = 0) (ht : takenI l R done k c = false) (hk : k < R.length) (hc : 1 ≤ c.2) (r2 : List Cand) : Pend cd l g0 done k (R.set k ⟨(bkAt l k).key, c.1, c.2⟩) r2 := by
  obtain ⟨h1, h2⟩ := pend_free h hu
  rw [h1] at ht
  rw [List.find?_cons_of_pos (by simp [ht])] at h2
  refine .inr ⟨?_, ?_⟩
  · unfold gStepI
    rw [← h2, h1]
  · rw [gvAt_set hk, if_pos rfl]; exact hc
end
/-- The numbers, as far as they have been written. -/
def fillI (n i : Nat) : List Int := (List.range n).map fun k => if k < i then ((k : Nat) : Int) else 0
theorem fill_len (n i : Nat) : (fillI n i).length = n := by unfold fillI; simp
theorem fill_zero (n : Nat) : fillI n 0 = List.replicate n 0 := by
  unfold fillI
  apply List.ext_getElem?
  intro j
  rw [List.getElem?_map]
  by_cases hj : j < n
  · rw [List.getElem?_range hj, List.getElem?_replicate_of_lt hj]; rfl
  · rw [List.getElem?_eq_none (by rw [List.length_range]; omega), List.getElem?_eq_none (by rw [List.length_replicate]; omega)]; rfl
theorem fill_at {n i : Nat} (h : i < n) : (fillI n i)[i]? = some 0 := by
  unfold fillI
  rw [List.getElem?_map, List.getElem?_range h]
  show some (if i < i then ((i : Nat) : Int) else 0) = _
  rw [if_neg (by omega)]
theorem fill_set {n i : Nat} (h : i < n) : (fillI n i).set i ((i : Nat) : Int) = fillI n (i + 1) := by
  apply List.ext_getElem?
  intro j
  rw [List.getElem?_set, fill_len]
  unfold fillI
  rw [List.getElem?_map, List.getElem?_map]
  by_cases hj : j < n
  · rw [List.getElem?_range hj]
    by_cases hij : i = j
    · subst hij
      rw [if_pos rfl, if_pos h]
      show _ = some (if i < i + 1 then ((i : Nat) : Int) else 0)
      rw [if_pos (by omega)]
    · rw [if_neg hij]
      show some (if j < i then ((j : Nat) : Int) else 0) = some (if j < i + 1 then ((j : Nat) : Int) else 0)
      by_cases h2 : j < i
      · rw [if_pos h2, if_pos (by omega)]
      · rw [if_neg h2, if_neg (by omega)]
  · rw [List.getElem?_eq_none (by rw [List.length_range]; omega), if_neg (by omega)]; rfl
theorem fill_all (n : Nat) : fillI n n = (List.range n).map fun k => ((k : Nat) : Int) := by
  unfold fillI
  refine List.map_congr_left fun k hk => ?_
  rw [if_pos (by simpa using hk)]
theorem gfilt_at {α : Type} {p : α → Bool} {l : List α} {i : Nat} {x : α} (h : l[i]? = some x) : (l.take (i + 1)).filter p = (l.take i).filter p ++ (if p x = true then [x] else []) := by
  rw [List.take_add_one, h, List.filter_append]
  by_cases hp : p x = true
  · rw [if_pos hp, Option.toList_some, List.filter_cons_of_pos hp]; rfl
  · rw [if_neg hp, Option.toList_some, List.filter_cons_of_neg hp]; rfl
theorem rangeF_at {β : Type} {f : Nat → Option β} (i : Nat) : (List.range (i + 1)).filterMap f = (List.range i).filterMap f ++ (f i).toList := by
  rw [List.range_succ, List.filterMap_append]
  cases h : f i <;> simp [h]
/-- Right bookings have classes that there are. -/
theorem gcheckE_ok {cs : List Cs} {l : List Bk} (h : checkE cs l = 0) : classesE cs = 0 ∧ formE l = 0 ∧ ∀ b ∈ l, keysE cs [b.cls] = 0 := by
  unfold checkE firstE at h
  by_cases h1 : classesE cs = 0
  · rw [if_pos h1] at h
    have h2 : classedE cs l = 0 := by
      unfold firstE at h
      by_cases e : classedE cs l = 0
      · exact e
      · rw [if_neg e] at h; exact h
    unfold classedE at h2
    by_cases h3 : formE l = 0
    · rw [if_neg (by rw [h3]; decide)] at h2
      refine ⟨h1, h3, fun b hb => ?_⟩
      rw [keysE_one, h1]
      have h4 : noB cs b.cls = false := by
        cases hn : noB cs b.cls with
        | false => rfl
        | true =>
          rw [if_pos (List.any_eq_true.2 ⟨b, hb, hn⟩)] at h2
          cases h2
      unfold noB at h4
      rw [h4]; rfl
    · rw [if_pos h3] at h2; exact absurd h2 h3
  · rw [if_neg h1] at h; exact absurd h h1
/-- A right stock has at most a hundred vehicles of a class. -/
theorem many_le {cs : List Cs} {sl : List Sk} (h : stockE cs sl = 0) (k : ByteArray) : manyV sl k ≤ 100 := by
  have hall : ∀ x ∈ sl, x.many ≤ 100 := fun x hx => by
    unfold stockE firstE at h
    by_cases h1 : classesE cs = 0
    · rw [if_pos h1] at h
      unfold firstE at h
      by_cases h2 : 30 < sl.length
      · rw [if_pos h2] at h; cases h
      · rw [if_neg h2] at h
        have h3 : scanE (skE cs) none sl = 0 := by
          by_cases e : scanE (skE cs) none sl = 0
          · exact e
          · rw [if_neg e] at h; exact h
        obtain ⟨q, hq⟩ := scanE_all h3 x hx
        unfold skE at hq
        repeat (split at hq; · cases hq)
        rename_i h4 h5 h6
        simp [inB] at h6
        omega
    · rw [if_neg h1] at h; exact absurd h h1
  clear h
  induction sl with
  | nil => show (0 : Int) ≤ 100; omega
  | cons x r ih =>
    unfold manyV
    split
    · exact hall x (List.mem_cons_self ..)
    · exact ih fun y hy => hall y (List.mem_cons_of_mem _ hy)
theorem SlOld.farOwn {α : Type} {enc : α → List Value} {k : Nat} {T : TypeId} {N : Nat} {A : Option Addr} {n : Nat} {l : List α} {w : World} (h : SlOld enc k T N none A n l w) {e : TypeId} {sz br m cap n' : Nat} {xs : List Value} (ho : w.ownsRow N e sz (.slice (some ⟨br, 0, none⟩) m cap) n' xs) : SlOld enc k T w.heap.size (some br) A n l w := ⟨h.1, fun b off e hn => by
  have h1 := h.2 b off e hn
  obtain ⟨b2, off2, cells, fz, e2, hh, _⟩ := h.1.at_ hn
  rw [e] at e2; cases e2
  refine ⟨(Array.getElem?_eq_some_iff.1 hh).1, fun e3 => ?_⟩
  cases e3
  rcases ho.2 with ⟨h2, _⟩ | ⟨g', cap', cur, hv, hbase, _⟩
  · cases h2
  · injection hv with hA _ _
    injection hA with hA
    injection hA with hA _ _
    have := h1.1
    omega⟩
end Go.Proofs.YtpikhokaclpbhaaGreatDoor
namespace Go.Proofs.YtpikhokaclpbhaaGreatDoor
open Go.RowKit
section
variable {c : Cx} {K : World → Prop} {L : List (Nat × TypeId × List Value)} {O : List Own} {X : List (World → Prop)} {w w' : World}
theorem Mem.blkFar (h : Mem c K L O X w) (i j : Nat) {g br : Nat} {T e : TypeId} {cs : List Value} {n cap sz n' : Nat} {xs : List Value} (hi : L[i]? = some (g, T, cs)) (hj : O[j]? = some ⟨.slice (some ⟨br, 0, none⟩) n cap, e, sz, n', xs⟩) : BlkOld w.heap.size (some br) g T cs w :=
  ⟨⟨(h.blkI i hi).lt, fun e => h.od _ (List.mem_of_getElem? hj) _ (List.mem_of_getElem? hi) e⟩, h.blkI i hi⟩
end
end Go.Proofs.YtpikhokaclpbhaaGreatDoor
namespace Go.Proofs.YtpikhokaclpbhaaGreatDoor
open Go.RowKit
theorem greedy_bad (cs : List Cs) (A0 : Option Addr) (n0 c0 : Nat) (sl : List Sk) (A1 : Option Addr) (n1 c1 : Nat) (l : List Bk) (A : Option Addr) (n c : Nat) (w : World) (hcs : SlT csEnc 2 145 w A0 n0 cs) (hco : ∀ x ∈ cs, CsOk x) (hn0 : n0 ≤ 1000) (hs : SlT skEnc 2 237 w A1 n1 sl) (hso : ∀ x ∈ sl, SkOk x) (hn1 : n1 ≤ 1000) (hl : SlT bkEnc 6 181 w A n l) (hok : ∀ x ∈ l, BkOk x) (hn : n ≤ 9) (h0 : firstE [stockE cs sl, checkE cs l] ≠ 0) :
  Calls Tryz.prog 40 #[.slice A0 n0 c0, .slice A1 n1 c1, .slice A n c] w (fun e w' => e = .returned (.tuple #[.slice none 0 0, .slice none 0 0, .int .i64 (firstE [stockE cs sl, checkE cs l])]) ∧ w.grownBy w' none) := by
 refine gw_enter ⟨142, w, none, []⟩ Tryz.func40 rfl Tryz.ntmps40 rfl (mem0 (X := [SlOld csEnc 2 145 w.heap.size none A0 n0 cs, SlOld skEnc 2 237 w.heap.size none A1 n1 sl, SlOld bkEnc 6 181 w.heap.size none A n l]) (allF_cons hcs.old (allF_cons hs.old (allF_cons hl.old allF_nil))) (allL_cons SlOld.lasts (allL_cons SlOld.lasts (allL_cons SlOld.lasts allL_nil)))) ?_
 refine sr_ ?_
 obtain ⟨E, hE⟩ : ∃ z, z = firstE [stockE cs sl, checkE cs l] := ⟨_, rfl⟩
 rw [← hE] at h0 ⊢
 refine wl_box rfl rfl rfl fun g1 => ?_
 refine sg_ rfl (sg_ rfl (sg_ rfl (nn_ (gw_seq (sr_ (mv_ rfl (mv_ rfl (lk_ sc78 0 rfl rfl rfl ?_))))))))
 refine wl_callv (v := .int .i64 E) rfl cb121 rfl rfl (fun wx hm => (by rw [hE]; exact checkAll_any cs A0 n0 c0 sl A1 n1 c1 l A n c wx (hm.fact 0 rfl).1 hco (by omega) (hm.fact 1 rfl).1 hso (by omega) (hm.fact 2 rfl).1 hok (by omega))) ?_
 refine sg_ rfl (nn_ (sr_ (mv_ rfl (wl_ov (ov_neq rfl rfl) rfl (nn_ ?_)))))
 refine gw_cond rfl (fun hh => ?_) (fun hh => ?_)
 ·have h1 : ¬ (E = 0) := by simpa using hh
  clear hh
  refine sr_ (mv_ rfl (sg_ rfl (sg_ rfl (sg_ rfl (nn_ ?_)))))
  refine gw_ret ?_
  refine nx_then_ret ?_
  refine nx_ret3 rfl rfl rfl rfl fun wx hm => ?_
  exact ⟨rfl, hm.g⟩
 have h1 : E = 0 := by simpa using hh
 clear hh
 refine gw_skip (nx_then (sr_ ?_))
 exact absurd (by simpa using h1) h0
theorem greedy_right (cs : List Cs) (A0 : Option Addr) (n0 c0 : Nat) (sl : List Sk) (A1 : Option Addr) (n1 c1 : Nat) (l : List Bk) (A : Option Addr) (n c : Nat) (w : World) (hcs : SlT csEnc 2 145 w A0 n0 cs) (hco : ∀ x ∈ cs, CsOk x) (hn0 : n0 ≤ 1000) (hs : SlT skEnc 2 237 w A1 n1 sl) (hso : ∀ x ∈ sl, SkOk x) (hn1 : n1 ≤ 1000) (hl : SlT bkEnc 6 181 w A n l) (hok : ∀ x ∈ l, BkOk x) (hn : n ≤ 9) (h0 : firstE [stockE cs sl, checkE cs l] = 0) :
  Calls Tryz.prog 40 #[.slice A0 n0 c0, .slice A1 n1 c1, .slice A n c] w (fun e w' => ∃ (Ag : Option Addr) (k cg : Nat) (Al : Option Addr) (q cw : Nat), e = .returned (.tuple #[.slice Ag k cg, .slice Al q cw, .int .i64 0]) ∧ SlT gvEnc 3 91 w' Ag k (givenE cs sl l) ∧ SlT sgEnc 1 9 w' Al q (waitE cs sl l) ∧ k ≤ 9 ∧ q ≤ 9 ∧ w.grownBy w' none) := by
 refine gw_enter ⟨142, w, none, []⟩ Tryz.func40 rfl Tryz.ntmps40 rfl (mem0 (X := [SlOld csEnc 2 145 w.heap.size none A0 n0 cs, SlOld skEnc 2 237 w.heap.size none A1 n1 sl, SlOld bkEnc 6 181 w.heap.size none A n l]) (allF_cons hcs.old (allF_cons hs.old (allF_cons hl.old allF_nil))) (allL_cons SlOld.lasts (allL_cons SlOld.lasts (allL_cons SlOld.lasts allL_nil)))) ?_
 refine sr_ ?_
 have hlen := hl.len
 have hlen0 := hcs.len
 obtain ⟨hst0, hck0⟩ : stockE cs sl = 0 ∧ checkE cs l = 0 := ⟨fe_all h0 _ (by simp), fe_all h0 _ (by simp)⟩
 obtain ⟨hc0, hf0, hkeys⟩ := gcheckE_ok hck0
 have hmany := many_le hst0
 obtain ⟨h30, hcl, hlo⟩ := classesE_ok hc0
 obtain ⟨E, hE⟩ : ∃ z, z = firstE [stockE cs sl, checkE cs l] := ⟨_, rfl⟩
 have hE0 : E = 0 := by rw [hE]; exact h0
 obtain ⟨NS, hNS⟩ : ∃ z, z = idsN l := ⟨_, rfl⟩
 obtain ⟨ZS, hZS⟩ : ∃ z, z = NS.map (fun k => ((k : Nat) : Int)) := ⟨_, rfl⟩
 have hNl : NS.length = n := by rw [hNS, (ids_perm l).length_eq, List.length_range]; exact hlen
 have hZl : ZS.length = n := by rw [hZS, List.length_map]; exact hNl
 have hNlt : ∀ x ∈ NS, x < n := fun x hx => by rw [← hlen]; exact ids_lt l x (by rw [← hNS]; exact hx)
 have hNd : NS.Nodup := by rw [hNS]; exact ids_nodup l
 have hids : idsI l = ZS := by rw [hZS, hNS]; exact ids_eq l
 refine wl_box rfl rfl rfl fun g1 => ?_
 refine sg_ rfl (sg_ rfl (sg_ rfl (nn_ (gw_seq (sr_ (mv_ rfl (mv_ rfl (lk_ sc78 0 rfl rfl rfl ?_))))))))
 refine wl_callv (v := .int .i64 E) rfl cb121 rfl rfl (fun wx hm => (by rw [hE]; exact checkAll_any cs A0 n0 c0 sl A1 n1 c1 l A n c wx (hm.fact 0 rfl).1 hco (by omega) (hm.fact 1 rfl).1 hso (by omega) (hm.fact 2 rfl).1 hok (by omega))) ?_
 refine sg_ rfl (nn_ (sr_ (mv_ rfl (wl_ov (ov_neq rfl rfl) rfl (nn_ ?_)))))
 refine gw_cond rfl (fun hh => ?_) (fun hh => ?_)
 ·have h1 : ¬ (E = 0) := by simpa using hh
  clear hh
  refine sr_ ?_
  exact absurd hE0 (by simpa using h1)
 have h1 : E = 0 := by simpa using hh
 clear hh
 refine gw_skip (nx_then (sr_ (lk_ sc78 0 rfl rfl rfl (wl_ov (ov_len es78 rfl) rfl ?_))))
 refine wl_makeO (n := n) (sz := 1) (e := 3) (by_ := 8) (z := .int .i64 0) (by kernel_rfl) (by kernel_rfl) rfl rfl (by omega) (by omega) (by omega) (by unfold maxLen; omega) (made_flat (enc := iEnc) (x := (0 : Int)) rfl rfl (by decide) (n)) rfl fun g2 => ?_
 rw [show List.replicate (n) (0 : Int) = fillI n 0 from (fill_zero n).symm]
 refine sg_ rfl (nn_ (gw_seq (sr_ (lk_ sc78 0 rfl rfl rfl (wl_ov (ov_len es78 rfl) rfl (mv_ rfl (nn_ (gw_block ?_))))))))
 refine gw_loop (γ := Nat) (fun (i : Nat) => i ≤ n) (fun (i : Nat) => [(0, .slice A0 n0 c0), (1, .slice A1 n1 c1), (5, .pointer (some ⟨g1, 0, none⟩)), (6, .slice none 0 0), (7, .slice none 0 0), (8, .int .i64 0), (10, .slice (some ⟨g2, 0, none⟩) n n), (36, .int .i64 ((n : Nat) : Int)), (37, .int .i64 ((i : Nat) : Int))]) (fun (i : Nat) => fun _ => True) (fun (i : Nat) => [(g1, 78, [.slice A n c])]) (fun (i : Nat) => [⟨.slice (some ⟨g2, 0, none⟩) n n, 3, 1, n, (fillI n i).flatMap iEnc⟩]) (fun (i : Nat) => [SlOld csEnc 2 145 w.heap.size none A0 n0 cs, SlOld skEnc 2 237 w.heap.size none A1 n1 sl, SlOld bkEnc 6 181 w.heap.size none A n l]) (fun (i : Nat) => n - i) 0 (Nat.zero_le _) ⟨rfl, rfl, rfl, rfl, rfl, rfl, rfl, rfl, rfl, trivial⟩ (fun _ hm => hm.pick [0] [0] [0, 1, 2] rfl rfl) ?_
 intro i hinv
 replace hinv : i ≤ n := hinv
 refine sr_ (wl_ov (ov_lss rfl rfl) rfl (nn_ (gw_seq ?_)))
 refine gw_cond rfl (fun hh => ?_) (fun hh => ?_)
 ·have hi : ((i : Nat) : Int) < ((n : Nat) : Int) := by simpa using hh
  clear hh
  refine gw_skip (nx_then (gw_seq (gw_block (sr_ ?_))))
  have hi2 : i < n := by omega
  refine mv_ rfl (sg_ rfl (nn_ (gw_region (mv_ rfl (mv_ rfl (mv_ rfl ?_))))))
  refine wl_ov (ov_index (j := i) es22 rfl rfl (by omega)) rfl ?_
  refine wl_storeE (l := (fillI n i)) (j := i) (r := 0) (el := 0) (el' := ((i : Nat) : Int)) 0 sc3 rfl rfl rfl rfl i_len rfl (fill_at hi2) (fill_len n i) (by decide) rfl rfl ?_
  rw [fill_set hi2]
  refine wl_nil (nx_blk_nrm (nx_then (gw_region (ad_ rfl rfl (mv_ rfl (wl_nil ?_))))))
  exact nx_round (i + 1) (by omega) (by omega) ⟨rfl, rfl, rfl, rfl, rfl, rfl, rfl, rfl, (some_int (by omega)), trivial⟩ (fun _ hm => hm.pick [0] [0] [0, 1, 2] rfl rfl)
 have hi : ¬ (((i : Nat) : Int) < ((n : Nat) : Int)) := by simpa using hh
 clear hh
 refine gw_exit ?_
 refine nx_then_exit (nx_then_exit ?_)
 refine nx_blk_here ?_
 refine nx_then (sr_ ?_)
 have hin : i = n := by omega
 rw [show fillI n i = (List.range l.length).map (fun k => ((k : Nat) : Int)) from by rw [hin, fill_all, hlen]]
 refine mv_ rfl (wl_ov (ov_makeFunc rfl rfl) rfl ?_)
 refine wl_callr (v := .tuple #[]) (xs' := ZS.flatMap iEnc) 0 rfl rfl rfl cb122 rfl rfl (fun wx hm => (by have h := stable_gi l A n c g1 ((List.range l.length).map (fun k => ((k : Nat) : Int))) g2 n n _ wx (hm.ownI 0 rfl) (by simp [hlen]) (by omega) ((hm.fact 2 rfl).farOwn (hm.ownI 0 rfl)) (hm.blkFar 0 0 rfl rfl) (fun z hz => by obtain ⟨q, hq, rfl⟩ := List.mem_map.1 hz; have := List.mem_range.1 hq; omega); rw [← hids]; exact h)) ?_
 refine nn_ (sr_ (lk_ sc78 0 rfl rfl rfl (wl_ov (ov_len es78 rfl) rfl ?_)))
 refine wl_makeO (n := n) (sz := 3) (e := 91) (by_ := 40) (z := .agg #[.string ⟨#[]⟩, .string ⟨#[]⟩, .int .i64 0]) (by kernel_rfl) (by kernel_rfl) rfl rfl (by omega) (by omega) (by omega) (by unfold maxLen; omega) (made_flat (enc := gvEnc) (x := gvZ) rfl rfl (by decide) (n)) rfl fun g3 => ?_
 rw [show List.replicate (n) gvZ = (gotF cs sl l (NS.take 0)).1 from by rw [List.take_zero, ← hlen]; rfl]
 refine wl_alloc zc82 rfl fun g4 => ?_
 refine wl_store 0 sc82 rfl rfl rfl rfl rfl rfl ?_
 refine nn_ (gw_seq (sr_ (mv_ rfl (wl_ov (ov_len es22 rfl) rfl (mv_ rfl (nn_ (gw_block ?_)))))))
 refine gw_loop (γ := Nat) (fun (j : Nat) => j ≤ n) (fun (j : Nat) => [(0, .slice A0 n0 c0), (1, .slice A1 n1 c1), (5, .pointer (some ⟨g1, 0, none⟩)), (6, .slice none 0 0), (7, .slice none 0 0), (8, .int .i64 0), (10, .slice (some ⟨g2, 0, none⟩) n n), (12, .pointer (some ⟨g4, 0, none⟩)), (51, .slice (some ⟨g2, 0, none⟩) n n), (52, .int .i64 ((n : Nat) : Int)), (53, .int .i64 ((j : Nat) : Int))]) (fun (j : Nat) => fun _ => True) (fun (j : Nat) => [(g4, 82, [.slice (some ⟨g3, 0, none⟩) n n]), (g1, 78, [.slice A n c])]) (fun (j : Nat) => [⟨.slice (some ⟨g3, 0, none⟩) n n, 91, 3, n, (gotF cs sl l (NS.take j)).1.flatMap gvEnc⟩, ⟨.slice (some ⟨g2, 0, none⟩) n n, 3, 1, n, ZS.flatMap iEnc⟩]) (fun (j : Nat) => [SlOld csEnc 2 145 w.heap.size none A0 n0 cs, SlOld skEnc 2 237 w.heap.size none A1 n1 sl, SlOld bkEnc 6 181 w.heap.size none A n l]) (fun (j : Nat) => n - j) 0 (Nat.zero_le _) ⟨rfl, rfl, rfl, rfl, rfl, rfl, rfl, rfl, rfl, rfl, rfl, trivial⟩ (fun _ hm => hm.pick [0, 1] [0, 1] [0, 1, 2] rfl rfl) ?_
 intro j hinv
 replace hinv : j ≤ n := hinv
 refine sr_ (wl_ov (ov_lss rfl rfl) rfl (nn_ (gw_seq ?_)))
 refine gw_cond rfl (fun hh => ?_) (fun hh => ?_)
 ·have hj : ((j : Nat) : Int) < ((n : Nat) : Int) := by simpa using hh
  clear hh
  refine gw_skip (nx_then (gw_seq (gw_block (sr_ ?_))))
  obtain ⟨k, hk⟩ : ∃ x, NS[j]? = some x := ⟨_, List.getElem?_eq_getElem (by omega)⟩
  have hkm := List.mem_of_getElem? hk
  have hkn := hNlt k hkm
  have hzk : ZS[j]? = some ((k : Nat) : Int) := by rw [hZS, List.getElem?_map, hk]; rfl
  have hat := gotF_at (cs := cs) (sl := sl) (l := l) hk
  obtain ⟨G0, hG0⟩ : ∃ z, z = (gotF cs sl l (NS.take j)).1 := ⟨_, rfl⟩
  rw [← hG0] at hat
  rw [← hG0]
  have hG0l : G0.length = n := by rw [hG0, gotF_len]; exact hlen
  have hnk : k ∉ NS.take j := fun hin => by
   obtain ⟨q, hq⟩ := List.getElem?_of_mem hin
   rw [List.getElem?_take] at hq
   split at hq
   ·have h1 := (List.getElem?_eq_some_iff.1 hq).1
    have h2 := (List.getElem?_eq_some_iff.1 hk).1
    exact absurd (((List.getElem?_eq_some_iff.1 hq).2).trans ((List.getElem?_eq_some_iff.1 hk).2).symm) (List.pairwise_iff_getElem.1 hNd q j h1 h2 (by omega))
   cases hq
  have hz0 : gvAt G0 k = gvZ := by
   rw [hG0]
   exact gotF_zero _ (NS.take j) rfl (fun x hx => by rw [hlen]; exact hNlt x (List.mem_of_mem_take hx)) hnk
  have hZt : ZS.take j = (NS.take j).map (fun k => ((k : Nat) : Int)) := by rw [hZS, List.map_take]
  have hZa : ∀ z ∈ ZS.take j, 0 ≤ z ∧ z < (n : Int) := fun z hz => by
   rw [hZt] at hz
   obtain ⟨q, hq, rfl⟩ := List.mem_map.1 hz
   have := hNlt q (List.mem_of_mem_take hq)
   omega
  obtain ⟨b, off, hA, _, _⟩ := hl.get (by omega)
  subst hA
  obtain ⟨x, hxl⟩ : ∃ x, l[k]? = some x := ⟨_, List.getElem?_eq_getElem (by omega)⟩
  obtain ⟨x0, x1, x2, x3, x4, x5⟩ := x
  have hbk : bkAt l k = (⟨x0, x1, x2, x3, x4, x5⟩ : Bk) := by unfold bkAt; rw [hxl]; rfl
  have hkey := hkeys _ (List.mem_of_getElem? hxl)
  dsimp only at hkey
  obtain ⟨KS, hKS⟩ : ∃ z, z = clsF cs (⟨x0, x1, x2, x3, x4, x5⟩ : Bk) := ⟨_, rfl⟩
  have hks : ([.string x1] : List Value) ++ (pathN cs n0 x1).flatMap sgEnc = KS.flatMap sgEnc := by
   rw [hKS]
   show _ = (x1 :: pathN cs cs.length x1).flatMap sgEnc
   rw [hlen0]; rfl
  have hkl : KS.length = 1 + (pathN cs n0 x1).length := by
   rw [hKS]
   show (x1 :: pathN cs cs.length x1).length = _
   rw [hlen0, List.length_cons]; omega
  have hpn := pathN_len cs n0 x1
  have hcd : candsF sl (KS.drop 0) = cdB cs sl (bkAt l k) := by rw [hKS, hbk]; rfl
  have hps := pend_start (cd := cdB cs sl) (l := l) (g0 := G0) (done := NS.take j) (k := k)
  rw [← hcd] at hps
  refine mv_ rfl ?_
  refine wl_ov (ov_index (j := j) es22 rfl rfl (by omega)) rfl ?_
  refine wl_ov (ov_elem1 (k := 0) (v := .int .i64 ((k : Nat) : Int)) sc3 rfl (fun _ hm => (SlT.ofOwn i_len (hm.ownI 1 rfl) hZl)) hzk rfl rfl) rfl ?_
  refine wl_alloc zc3 rfl fun g5 => ?_
  refine sg_ rfl ?_
  refine wl_store 0 sc3 rfl rfl rfl rfl rfl rfl ?_
  refine nn_ (sr_ (mv_ rfl (lk_ sc78 2 rfl rfl rfl (lk_ sc3 0 rfl rfl rfl ?_))))
  refine wl_ov (ov_index (j := k) es78 rfl rfl (by omega)) rfl ?_
  refine fd_ fo181_1 rfl rfl ?_
  refine wl_ov (ov_elem1 (k := 1) (v := .string x1) sc9 rfl (fun _ hm => (hm.fact 2 rfl).1) hxl rfl rfl) rfl ?_
  refine wl_callgo (γ := Option Addr × Nat × Nat) (val := (fun g => .tuple #[.slice g.1 g.2.1 g.2.2, .int .i64 0])) (φ := (fun g => (pathN cs n0 x1).length = g.2.1)) (fun g => ⟨.slice g.1 g.2.1 g.2.2, 9, 1, g.2.1, (pathN cs n0 x1).flatMap sgEnc⟩) rfl cb124 rfl rfl (fun wx hm => (above_right cs A0 n0 c0 x1 wx (hm.fact 0 rfl).1 hco (by omega) hkey).mono fun _ _ ⟨A2, n2, c2, he, ho, hl2, hg⟩ => ⟨(A2, n2, c2), he, hl2, ho, hg⟩) ?_
  rintro ⟨A2, n2, c2⟩ hpl
  dsimp only at hpl ⊢
  refine mv_ rfl (wl_ov (ov_extract rfl rfl) rfl (wl_ov (ov_extract rfl rfl) rfl (sg_ rfl (sg_ rfl (nn_ (sr_ (lk_ sc78 2 rfl rfl rfl (lk_ sc3 0 rfl rfl rfl ?_))))))))
  refine wl_ov (ov_index (j := k) es78 rfl rfl (by omega)) rfl ?_
  refine fd_ fo181_1 rfl rfl ?_
  refine wl_ov (ov_elem1 (k := 1) (v := .string x1) sc9 rfl (fun _ hm => (hm.fact 2 rfl).1) hxl rfl rfl) rfl ?_
  refine wl_buildSlice (e := 9) (cs := [.string x1]) rfl (by kernel_rfl) rfl fun g6 => ?_
  refine mv_ rfl ?_
  refine wl_toOwn (sz := 1) (n := 1) 0 [1, 2, 3] rfl rfl rfl (by unfold maxLen; omega) ?_
  refine wl_appendO 0 1 ap83 rfl rfl rfl rfl (flat_one sgEnc sg_one _) (by omega) (by unfold maxLen; omega) rfl rfl fun v2 hv => ?_
  rw [hks]
  refine wl_look (R := ∃ A cc, v2 = .slice A (1 + n2) cc) (fun wx hm => own_slice (hm.ownI 0 rfl)) ?_
  rintro ⟨A5, c5, rfl⟩
  have hKl : KS.length = 1 + n2 := by omega
  refine wl_ov (ov_len es83 rfl) rfl (mv_ rfl (nn_ (gw_block ?_)))
  refine gw_loop (γ := Nat × List Gv) (fun g => g.1 ≤ 1 + n2 ∧ g.2.length = n ∧ Pend (cdB cs sl) l G0 (NS.take j) k g.2 (candsF sl (KS.drop g.1))) (fun g => [(0, .slice A0 n0 c0), (1, .slice A1 n1 c1), (5, .pointer (some ⟨g1, 0, none⟩)), (6, .slice none 0 0), (7, .slice none 0 0), (8, .int .i64 0), (10, .slice (some ⟨g2, 0, none⟩) n n), (12, .pointer (some ⟨g4, 0, none⟩)), (13, .int .i64 ((j : Nat) : Int)), (14, .pointer (some ⟨g5, 0, none⟩)), (51, .slice (some ⟨g2, 0, none⟩) n n), (52, .int .i64 ((n : Nat) : Int)), (53, .int .i64 ((j : Nat) : Int)), (75, .slice A5 (1 + n2) c5), (76, .int .i64 ((1 + n2 : Nat) : Int)), (77, .int .i64 ((g.1 : Nat) : Int))]) (fun g => fun _ => True) (fun g => [(g5, 3, [.int .i64 ((k : Nat) : Int)]), (g4, 82, [.slice (some ⟨g3, 0, none⟩) n n]), (g1, 78, [.slice (some ⟨b, off, none⟩) n c])]) (fun g => [⟨.slice A5 (1 + n2) c5, 9, 1, 1 + n2, KS.flatMap sgEnc⟩, ⟨.slice (some ⟨g3, 0, none⟩) n n, 91, 3, n, g.2.flatMap gvEnc⟩, ⟨.slice (some ⟨g2, 0, none⟩) n n, 3, 1, n, ZS.flatMap iEnc⟩]) (fun g => [SlOld csEnc 2 145 w.heap.size none A0 n0 cs, SlOld skEnc 2 237 w.heap.size none A1 n1 sl, SlOld bkEnc 6 181 w.heap.size none (some ⟨b, off, none⟩) n l]) (fun g => 1 + n2 - g.1) (0, G0) ⟨Nat.zero_le _, hG0l, hps⟩ ⟨rfl, rfl, rfl, rfl, rfl, rfl, rfl, rfl, rfl, rfl, rfl, rfl, rfl, rfl, rfl, rfl, trivial⟩ (fun _ hm => hm.pick [0, 1, 2] [0, 2, 3] [0, 1, 2] rfl rfl) ?_
  rintro ⟨i, R⟩ hinv
  replace hinv : i ≤ 1 + n2 ∧ R.length = n ∧ Pend (cdB cs sl) l G0 (NS.take j) k R (candsF sl (KS.drop i)) := hinv
  dsimp only
  refine sr_ ?_
  obtain ⟨hi0, hRl, hpd⟩ := hinv
  refine wl_ov (ov_lss rfl rfl) rfl (nn_ (gw_seq ?_))
  refine gw_cond rfl (fun hh => ?_) (fun hh => ?_)
  ·have hi4 : ((i : Nat) : Int) < ((1 + n2 : Nat) : Int) := by simpa using hh
   clear hh
   refine gw_skip (nx_then (gw_seq (gw_block (sr_ ?_))))
   refine wl_look (R := ∃ g, A5 = some ⟨g, 0, none⟩) (fun wx hm => own_addr (hm.ownI 0 rfl) (by omega)) ?_
   rintro ⟨gk7, rfl⟩
   obtain ⟨cl, hx⟩ : ∃ x, KS[i]? = some x := ⟨_, List.getElem?_eq_getElem (by omega)⟩
   have hmb := hmany cl
   rw [candsF_at hx] at hpd
   refine wl_ov (ov_index (j := i) es83 rfl rfl (by omega)) rfl ?_
   refine wl_ov (ov_elem1 (k := 0) (v := .string cl) sc9 rfl (fun _ hm => (SlT.ofOwn sg_len (hm.ownI 0 rfl) hKl)) hx rfl rfl) rfl ?_
   refine wl_alloc zc9 rfl fun g7 => ?_
   refine wl_store 0 sc9 rfl rfl rfl rfl rfl rfl ?_
   refine nn_ (sr_ ?_)
   refine wl_alloc zc3 rfl fun g8 => ?_
   refine wl_store 0 sc3 rfl rfl rfl rfl rfl rfl ?_
   refine nn_ (gw_block ?_)
   refine gw_loop (γ := Nat × Nat × List Gv) (fun (gq : Nat × Nat × List Gv) => gq.1 ≤ 100 ∧ gq.2.2.length = n ∧ Pend (cdB cs sl) l G0 (NS.take j) k gq.2.2 (unitsF sl cl gq.1 ++ candsF sl (KS.drop (i + 1)))) (fun (gq : Nat × Nat × List Gv) => [(0, .slice A0 n0 c0), (1, .slice A1 n1 c1), (5, .pointer (some ⟨g1, 0, none⟩)), (6, .slice none 0 0), (7, .slice none 0 0), (8, .int .i64 0), (10, .slice (some ⟨g2, 0, none⟩) n n), (12, .pointer (some ⟨g4, 0, none⟩)), (13, .int .i64 ((j : Nat) : Int)), (14, .pointer (some ⟨g5, 0, none⟩)), (18, .pointer (some ⟨g7, 0, none⟩)), (19, .pointer (some ⟨gq.2.1, 0, none⟩)), (51, .slice (some ⟨g2, 0, none⟩) n n), (52, .int .i64 ((n : Nat) : Int)), (53, .int .i64 ((j : Nat) : Int)), (75, .slice (some ⟨gk7, 0, none⟩) (1 + n2) c5), (76, .int .i64 ((1 + n2 : Nat) : Int)), (77, .int .i64 ((i : Nat) : Int))]) (fun (gq : Nat × Nat × List Gv) => fun _ => True) (fun (gq : Nat × Nat × List Gv) => [(gq.2.1, 3, [.int .i64 ((gq.1 + 1 : Nat) : Int)]), (g7, 9, [.string cl]), (g5, 3, [.int .i64 ((k : Nat) : Int)]), (g4, 82, [.slice (some ⟨g3, 0, none⟩) n n]), (g1, 78, [.slice (some ⟨b, off, none⟩) n c])]) (fun (gq : Nat × Nat × List Gv) => [⟨.slice (some ⟨gk7, 0, none⟩) (1 + n2) c5, 9, 1, 1 + n2, KS.flatMap sgEnc⟩, ⟨.slice (some ⟨g3, 0, none⟩) n n, 91, 3, n, gq.2.2.flatMap gvEnc⟩, ⟨.slice (some ⟨g2, 0, none⟩) n n, 3, 1, n, ZS.flatMap iEnc⟩]) (fun (gq : Nat × Nat × List Gv) => [SlOld csEnc 2 145 w.heap.size none A0 n0 cs, SlOld skEnc 2 237 w.heap.size none A1 n1 sl, SlOld bkEnc 6 181 w.heap.size none (some ⟨b, off, none⟩) n l]) (fun (gq : Nat × Nat × List Gv) => 100 - gq.1) (0, g8, R) ⟨Nat.zero_le _, hRl, hpd⟩ ⟨rfl, rfl, rfl, rfl, rfl, rfl, rfl, rfl, rfl, rfl, rfl, rfl, rfl, rfl, rfl, rfl, rfl, rfl, trivial⟩ (fun _ hm => hm.pick [0, 1, 2, 3, 4] [0, 1, 2] [0, 1, 2] rfl rfl) ?_
   rintro ⟨u, g8, R2⟩ hinv
   replace hinv : u ≤ 100 ∧ R2.length = n ∧ Pend (cdB cs sl) l G0 (NS.take j) k R2 (unitsF sl cl u ++ candsF sl (KS.drop (i + 1))) := hinv
   dsimp only
   refine gw_seq (gw_seq ?_)
   obtain ⟨hu0, hR2, hp6⟩ := hinv
   obtain ⟨zz, hz⟩ : ∃ x, R2[k]? = some x := ⟨_, List.getElem?_eq_getElem (by omega)⟩
   obtain ⟨z0, z1, z2⟩ := zz
   have hgk : gvAt R2 k = ⟨z0, z1, z2⟩ := by unfold gvAt; rw [hz]; rfl
   refine gd (fun wz => Blk wz g8 3 [.int .i64 ((u + 1 : Nat) : Int)] ∧ Blk wz g7 9 [.string cl] ∧ Blk wz g5 3 [.int .i64 ((k : Nat) : Int)] ∧ Blk wz g4 82 [.slice (some ⟨g3, 0, none⟩) n n] ∧ Blk wz g1 78 [.slice (some ⟨b, off, none⟩) n c] ∧ (SlOld csEnc 2 145 w.heap.size none A0 n0 cs) wz ∧ (SlOld skEnc 2 237 w.heap.size none A1 n1 sl) wz ∧ (SlOld bkEnc 6 181 w.heap.size none (some ⟨b, off, none⟩) n l) wz ∧ wz.ownsRow w.heap.size 9 1 (.slice (some ⟨gk7, 0, none⟩) (1 + n2) c5) (1 + n2) (KS.flatMap sgEnc) ∧ wz.ownsRow w.heap.size 91 3 (.slice (some ⟨g3, 0, none⟩) n n) n (R2.flatMap gvEnc) ∧ wz.ownsRow w.heap.size 3 1 (.slice (some ⟨g2, 0, none⟩) n n) n (ZS.flatMap iEnc) ∧ True) mixed (fun _ hm => ⟨hm.bl 0, hm.bl 1, hm.bl 2, hm.bl 3, hm.bl 4, hm.fa 0, hm.fa 1, hm.fa 2, hm.ownI 0 rfl, hm.ownI 1 rfl, hm.ownI 2 rfl, trivial⟩) fun z => ?_
   refine wt 0 13 1 rfl z (ov_load sc3 rfl (fun _ hm => hm.1) rfl) ?_
   refine wt 1 13 3 rfl z (ov_move rfl) ?_
   refine wt 2 13 7 rfl z (ov_load sc9 rfl (fun _ hm => hm.2.1) rfl) ?_
   refine wa1 3 rfl ?_
   refine wl_callv rfl cb125 rfl rfl (fun wx hm => (many_any sl A1 n1 c1 cl wx (hm.fact 1 rfl).1 hso (by omega))) ?_
   refine wl_nil ?_
   refine nw 13 15 (fun _ hm => ⟨hm.bl 0, hm.bl 1, hm.bl 2, hm.bl 3, hm.bl 4, hm.fa 0, hm.fa 1, hm.fa 2, hm.ownI 0 rfl, hm.ownI 1 rfl, hm.ownI 2 rfl, trivial⟩) fun z => ?_
   refine wt 4 13 31 rfl z (ov_leq rfl rfl) ?_
   refine wt 5 13 63 rfl z (ov_move rfl) ?_
   rcases Bool.eq_false_or_eq_true (decide (((u + 1 : Nat) : Int) ≤ manyV sl cl)) with hu | hu
   ·refine wa_set 86 rfl (congrArg Value.bool hu) ?_
    replace hu := of_decide_eq_true hu
    rw [unitsF_more hu] at hp6
    refine wto 6 13 127 rfl rfl rfl z (ov_load sc82 rfl (fun _ hm => hm.2.2.2.1) rfl) ?_
    refine wto 7 13 255 rfl rfl rfl z (ov_load sc3 rfl (fun _ hm => hm.2.2.1) rfl) ?_
    refine wto 8 13 511 rfl rfl rfl z (ov_index (j := k) es82 rfl rfl (by omega)) ?_
    refine wto 9 13 1023 rfl rfl rfl z (ov_field fo91_2 rfl rfl) ?_
    refine wto 10 13 2047 rfl rfl rfl z (ov_elem1 (k := 2) (v := .int .i64 z2) sc3 rfl (fun _ hm => (SlT.ofOwn gv_len (hm.2.2.2.2.2.2.2.2.2.1) hR2)) hz rfl rfl) ?_
    refine wto 11 13 4095 rfl rfl rfl z (ov_eql rfl rfl) ?_
    refine wt 12 13 8191 rfl z (ov_pick_t rfl rfl) ?_
    refine wa_done (by kernel_rfl) ?_
    refine nx_then ?_
    refine gw_cond rfl (fun hh => ?_) (fun hh => ?_)
    ·have hz2 : z2 = 0 := by simpa using hh
     clear hh
     refine gw_skip (nx_then (gw_seq (gw_block (sr_ ?_))))
     have hu2 : (gvAt R2 k).unit = 0 := by rw [hgk]; exact hz2
     refine mv_ rfl (mv_ rfl ?_)
     refine wl_ov (ov_sliceHi (hi := j) es22 rfl rfl rfl (by omega)) rfl ?_
     refine wl_ov (ov_makeFunc rfl rfl) rfl ?_
     refine wl_callv (v := .bool (takenI l R2 (NS.take j) k (cl, ((u + 1 : Nat) : Int)))) rfl cb126 rfl rfl (fun wx hm => (by have h := hasTak_any l R2 (some ⟨b, off, none⟩) (some ⟨g3, 0, none⟩) n c n g4 g7 g8 g1 g5 k cl ((u + 1 : Nat) : Int) (ZS.take j) (some ⟨g2, 0, none⟩) j n wx (hm.fact 2 rfl).1 (SlT.ofOwn gv_len (hm.ownI 1 rfl) hR2) (hm.blkI 3 rfl) (hm.blkI 1 rfl) (hm.blkI 0 rfl) (hm.blkI 4 rfl) (hm.blkI 2 rfl) hkn ((SlT.ofOwn i_len (hm.ownI 2 rfl) hZl).takeT (by omega)) (by omega) hZa; rw [hZt, tak_ids] at h; exact h)) ?_
     refine sg_ rfl (nn_ (sr_ (mv_ rfl (wl_ov (ov_un_not rfl) rfl (nn_ ?_)))))
     refine gw_cond rfl (fun hh => ?_) (fun hh => ?_)
     ·have htk : (takenI l R2 (NS.take j) k (cl, ((u + 1 : Nat) : Int))) = false := by simpa using hh
      clear hh
      refine gd (fun wz => Blk wz g8 3 [.int .i64 ((u + 1 : Nat) : Int)] ∧ Blk wz g7 9 [.string cl] ∧ Blk wz g5 3 [.int .i64 ((k : Nat) : Int)] ∧ Blk wz g4 82 [.slice (some ⟨g3, 0, none⟩) n n] ∧ Blk wz g1 78 [.slice (some ⟨b, off, none⟩) n c] ∧ (SlOld csEnc 2 145 w.heap.size none A0 n0 cs) wz ∧ (SlOld skEnc 2 237 w.heap.size none A1 n1 sl) wz ∧ (SlOld bkEnc 6 181 w.heap.size none (some ⟨b, off, none⟩) n l) wz ∧ True) mixed (fun _ hm => ⟨hm.bl 0, hm.bl 1, hm.bl 2, hm.bl 3, hm.bl 4, hm.fa 0, hm.fa 1, hm.fa 2, trivial⟩) fun z => ?_
      refine wt 0 12 1 rfl z (ov_load sc82 rfl (fun _ hm => hm.2.2.2.1) rfl) ?_
      refine wt 1 12 3 rfl z (ov_load sc3 rfl (fun _ hm => hm.2.2.1) rfl) ?_
      refine wt 2 12 7 rfl z (ov_load sc78 rfl (fun _ hm => hm.2.2.2.2.1) rfl) ?_
      refine wt 3 12 15 rfl z (ov_load sc3 rfl (fun _ hm => hm.2.2.1) rfl) ?_
      refine wt 4 12 31 rfl z (ov_index (j := k) es78 rfl rfl (by omega)) ?_
      refine wt 5 12 63 rfl z (ov_field fo181_0 rfl rfl) ?_
      refine wt 6 12 127 rfl z (ov_elem1 (k := 0) (v := .string x0) sc9 rfl (fun _ hm => (hm.2.2.2.2.2.2.2.1).1) hxl rfl rfl) ?_
      refine wt 7 12 255 rfl z (ov_load sc9 rfl (fun _ hm => hm.2.1) rfl) ?_
      refine wt 8 12 511 rfl z (ov_load sc3 rfl (fun _ hm => hm.1) rfl) ?_
      refine wt 9 12 1023 rfl z (ov_build (cs := [.string x0, .string cl, .int .i64 ((u + 1 : Nat) : Int)]) rfl (by kernel_rfl)) ?_
      refine wt 10 12 2047 rfl z (ov_index (j := k) es82 rfl rfl (by omega)) ?_
      refine wa1 11 rfl ?_
      refine wl_storesE (l := R2) (j := k) (r := 0) (el := ⟨z0, z1, z2⟩) (el' := ⟨x0, cl, ((u + 1 : Nat) : Int)⟩) 1 rz91 rfl rfl rfl rfl rfl gv_len rfl hz hR2 (by decide) rfl rfl ?_
      have hgot := pend_got hp6 hu2 htk (by omega) (by dsimp only; omega) (unitsF sl cl (u + 1) ++ candsF sl (KS.drop (i + 1)))
      rw [hbk] at hgot
      refine wl_nil ?_
      refine nw 12 4095 (fun _ hm => ⟨hm.bl 0, hm.bl 1, hm.bl 2, hm.bl 3, hm.bl 4, hm.fa 0, hm.fa 1, hm.fa 2, trivial⟩) fun z => ?_
      refine wa_done (by kernel_rfl) ?_
      refine nx_blk_nrm (nx_then (gw_seq (sr_ (lk_ sc3 0 rfl rfl rfl (nn_ (gw_region ?_))))))
      refine wl_alloc zc3 rfl fun g9 => ?_
      refine wl_store 0 sc3 rfl rfl rfl rfl rfl rfl ?_
      refine nn_ (gw_region (lk_ sc3 0 rfl rfl rfl (ad_ rfl rfl ?_)))
      refine wl_store 0 sc3 rfl rfl rfl rfl rfl rfl ?_
      refine wl_nil ?_
      rw [show (((u + 1 : Nat) : Int) + 1) = ((u + 1 + 1 : Nat) : Int) from by omega]
      exact nx_round (u + 1, g9, (R2.set (k) ⟨x0, cl, ((u + 1 : Nat) : Int)⟩)) ⟨by dsimp only; omega, by rw [List.length_set]; exact hR2, hgot⟩ (by dsimp only; omega) ⟨rfl, rfl, rfl, rfl, rfl, rfl, rfl, rfl, rfl, rfl, rfl, rfl, rfl, rfl, rfl, rfl, rfl, rfl, trivial⟩ (fun _ hm => hm.pick [0, 2, 3, 4, 5] [0, 1, 2] [0, 1, 2] rfl rfl)
     have htk : (takenI l R2 (NS.take j) k (cl, ((u + 1 : Nat) : Int))) = true := by simpa using hh
     clear hh
     refine gw_skip (nx_blk_nrm (nx_then (gw_seq (sr_ (lk_ sc3 0 rfl rfl rfl (nn_ (gw_region ?_)))))))
     refine wl_alloc zc3 rfl fun g10 => ?_
     refine wl_store 0 sc3 rfl rfl rfl rfl rfl rfl ?_
     refine nn_ (gw_region (lk_ sc3 0 rfl rfl rfl (ad_ rfl rfl ?_)))
     refine wl_store 0 sc3 rfl rfl rfl rfl rfl rfl ?_
     refine wl_nil ?_
     rw [show (((u + 1 : Nat) : Int) + 1) = ((u + 1 + 1 : Nat) : Int) from by omega]
     exact nx_round (u + 1, g10, R2) ⟨by dsimp only; omega, hR2, pend_taken hp6 hu2 htk⟩ (by dsimp only; omega) ⟨rfl, rfl, rfl, rfl, rfl, rfl, rfl, rfl, rfl, rfl, rfl, rfl, rfl, rfl, rfl, rfl, rfl, rfl, trivial⟩ (fun _ hm => hm.pick [0, 2, 3, 4, 5] [0, 1, 2] [0, 1, 2] rfl rfl)
    have hz2 : ¬ (z2 = 0) := by simpa using hh
    clear hh
    refine gw_exit ?_
    refine nx_then_exit (nx_then_exit ?_)
    refine nx_blk_here ?_
    refine nx_blk_nrm (nx_then (gw_region ?_))
    have hu2 : (gvAt R2 k).unit ≠ 0 := by rw [hgk]; exact hz2
    refine ad_ rfl rfl (mv_ rfl (wl_nil ?_))
    exact nx_round (i + 1, R2) ⟨by dsimp only; omega, hR2, pend_skip hp6 hz0 hu2 _⟩ (by dsimp only; omega) ⟨rfl, rfl, rfl, rfl, rfl, rfl, rfl, rfl, rfl, rfl, rfl, rfl, rfl, rfl, rfl, (some_int (by omega)), trivial⟩ (fun _ hm => hm.pick [2, 3, 4] [0, 1, 2] [0, 1, 2] rfl rfl)
   refine wa_set 86 rfl (congrArg Value.bool hu) ?_
   replace hu := of_decide_eq_false hu
   rw [unitsF_end hu] at hp6
   refine wtf 6 13 127 rfl rfl rfl z ?_
   refine wtf 7 13 255 rfl rfl rfl z ?_
   refine wtf 8 13 511 rfl rfl rfl z ?_
   refine wtf 9 13 1023 rfl rfl rfl z ?_
   refine wtf 10 13 2047 rfl rfl rfl z ?_
   refine wtf 11 13 4095 rfl rfl rfl z ?_
   refine wt 12 13 8191 rfl z (ov_pick_f rfl rfl) ?_
   refine wa_done (by kernel_rfl) ?_
   refine nx_then (cf_ rfl ?_)
   refine gw_exit ?_
   refine nx_then_exit (nx_then_exit ?_)
   refine nx_blk_here ?_
   refine nx_blk_nrm (nx_then (gw_region (ad_ rfl rfl (mv_ rfl (wl_nil ?_)))))
   exact nx_round (i + 1, R2) ⟨by dsimp only; omega, hR2, hp6⟩ (by dsimp only; omega) ⟨rfl, rfl, rfl, rfl, rfl, rfl, rfl, rfl, rfl, rfl, rfl, rfl, rfl, rfl, rfl, (some_int (by omega)), trivial⟩ (fun _ hm => hm.pick [2, 3, 4] [0, 1, 2] [0, 1, 2] rfl rfl)
  have hi4 : ¬ (((i : Nat) : Int) < ((1 + n2 : Nat) : Int)) := by simpa using hh
  clear hh
  refine gw_exit ?_
  refine nx_then_exit (nx_then_exit ?_)
  refine nx_blk_here ?_
  refine nx_blk_nrm (nx_then (gw_region ?_))
  rw [candsF_end (by omega)] at hpd
  have hRe := (pend_end hpd).trans hat.symm
  rw [hRe]
  refine ad_ rfl rfl (mv_ rfl (wl_nil ?_))
  exact nx_round (j + 1) (by omega) (by omega) ⟨rfl, rfl, rfl, rfl, rfl, rfl, rfl, rfl, rfl, rfl, (some_int (by omega)), trivial⟩ (fun _ hm => hm.pick [1, 2] [1, 2] [0, 1, 2] rfl rfl)
 have hj : ¬ (((j : Nat) : Int) < ((n : Nat) : Int)) := by simpa using hh
 clear hh
 refine gw_exit ?_
 refine nx_then_exit (nx_then_exit ?_)
 refine nx_blk_here ?_
 refine nx_then (sr_ ?_)
 have hallN : NS.take j = NS := List.take_of_length_le (by omega)
 obtain ⟨GE, hGE⟩ : ∃ z, z = (gotF cs sl l NS).1 := ⟨_, rfl⟩
 rw [hallN, ← hGE]
 have hGl : GE.length = n := by rw [hGE, gotF_len]; exact hlen
 have hgiv : givenE cs sl l = GE.filter fun g => decide (0 < g.unit) := by rw [hGE, hNS]; rfl
 have hwai : waitE cs sl l = (List.range n).filterMap (lfF l GE) := by rw [hGE, hNS, ← hlen]; rfl
 rw [hgiv, hwai]
 refine wl_nilOwn 9 1 ?_
 refine wl_nilOwn 91 3 ?_
 refine sg_ rfl (nn_ (sr_ (sg_ rfl (nn_ (gw_seq (sr_ (lk_ sc82 0 rfl rfl rfl (wl_ov (ov_len es82 rfl) rfl (mv_ rfl ?_)))))))))
 refine nn_ (gw_block ?_)
 refine gw_loop (γ := Nat × Nat × Nat × Value × Value) (fun g => g.1 ≤ n ∧ ((GE.take g.1).filter fun g => decide (0 < g.unit)).length = g.2.1 ∧ ((List.range g.1).filterMap (lfF l GE)).length = g.2.2.1 ∧ g.2.1 ≤ g.1 ∧ g.2.2.1 ≤ g.1) (fun g => [(5, .pointer (some ⟨g1, 0, none⟩)), (6, .slice none 0 0), (7, .slice none 0 0), (8, .int .i64 0), (21, g.2.2.2.1), (22, g.2.2.2.2), (117, .slice (some ⟨g3, 0, none⟩) n n), (118, .int .i64 ((n : Nat) : Int)), (119, .int .i64 ((g.1 : Nat) : Int))]) (fun g => fun _ => True) (fun g => [(g4, 82, [.slice (some ⟨g3, 0, none⟩) n n]), (g1, 78, [.slice A n c])]) (fun g => [⟨g.2.2.2.1, 91, 3, g.2.1, ((GE.take g.1).filter fun g => decide (0 < g.unit)).flatMap gvEnc⟩, ⟨g.2.2.2.2, 9, 1, g.2.2.1, ((List.range g.1).filterMap (lfF l GE)).flatMap sgEnc⟩, ⟨.slice (some ⟨g3, 0, none⟩) n n, 91, 3, n, GE.flatMap gvEnc⟩]) (fun g => [SlOld csEnc 2 145 w.heap.size none A0 n0 cs, SlOld skEnc 2 237 w.heap.size none A1 n1 sl, SlOld bkEnc 6 181 w.heap.size none A n l]) (fun g => n - g.1) (0, 0, 0, .slice none 0 0, .slice none 0 0) ⟨Nat.zero_le _, rfl, rfl, Nat.zero_le _, Nat.zero_le _⟩ ⟨rfl, rfl, rfl, rfl, rfl, rfl, rfl, rfl, rfl, trivial⟩ (fun _ hm => hm.pick [0, 1] [0, 1, 2] [0, 1, 2] rfl rfl) ?_
 rintro ⟨i, k, q, v1, v2⟩ hinv
 replace hinv : i ≤ n ∧ ((GE.take i).filter fun g => decide (0 < g.unit)).length = k ∧ ((List.range i).filterMap (lfF l GE)).length = q ∧ k ≤ i ∧ q ≤ i := hinv
 dsimp only
 refine sr_ ?_
 obtain ⟨hi0, hgk, hwq, hki, hqi⟩ := hinv
 refine wl_ov (ov_lss rfl rfl) rfl (nn_ (gw_seq ?_))
 refine gw_cond rfl (fun hh => ?_) (fun hh => ?_)
 ·have hi8 : ((i : Nat) : Int) < ((n : Nat) : Int) := by simpa using hh
  clear hh
  refine gw_skip (nx_then (gw_seq (gw_block (sr_ ?_))))
  obtain ⟨b, off, hA, _, _⟩ := hl.get (by omega)
  subst hA
  obtain ⟨x, hxl⟩ : ∃ x, l[i]? = some x := ⟨_, List.getElem?_eq_getElem (by omega)⟩
  obtain ⟨x0, x1, x2, x3, x4, x5⟩ := x
  obtain ⟨zz, hz⟩ : ∃ x, GE[i]? = some x := ⟨_, List.getElem?_eq_getElem (by omega)⟩
  obtain ⟨z0, z1, z2⟩ := zz
  have hbk : bkAt l i = (⟨x0, x1, x2, x3, x4, x5⟩ : Bk) := by unfold bkAt; rw [hxl]; rfl
  have hgi : gvAt GE i = ⟨z0, z1, z2⟩ := by unfold gvAt; rw [hz]; rfl
  have hga := gfilt_at (p := fun g : Gv => decide (0 < g.unit)) hz
  have hwa := rangeF_at (f := lfF l GE) i
  have hlf : lfF l GE i = if 0 < z2 then none else some x0 := by unfold lfF; rw [hgi, hbk]
  rw [hlf] at hwa
  dsimp only at hga
  refine mv_ rfl ?_
  refine wl_ov (ov_index (j := i) es82 rfl rfl (by omega)) rfl ?_
  refine wl_ov (ov_elem (vs := [.string z0, .string z1, .int .i64 z2]) rz91 rfl (fun _ hm => (SlT.ofOwn gv_len (hm.ownI 2 rfl) hGl)) hz rfl rfl) rfl ?_
  refine wl_alloc zc91 rfl fun g11 => ?_
  refine sg_ rfl ?_
  refine wl_stores (cs' := [.string z0, .string z1, .int .i64 z2]) 0 rz91 rfl rfl rfl rfl rfl rfl rfl rfl ?_
  refine nn_ (sr_ (fd_ fo91_2 rfl rfl (lk_ sc3 0 rfl rfl rfl ?_)))
  refine wl_ov (ov_gtr rfl rfl) rfl ?_
  refine nn_ ?_
  refine gw_cond rfl (fun hh => ?_) (fun hh => ?_)
  ·have hp : 0 < z2 := by simpa using hh
   clear hh
   refine gw_region ?_
   rw [if_pos (decide_eq_true hp)] at hga
   rw [if_pos hp, Option.toList_none, List.append_nil] at hwa
   refine mv_ rfl ?_
   refine wl_ov (ov_loads rz91 rfl (fun _ hm => hm.blkI 0 rfl) rfl rfl) rfl ?_
   refine wl_buildSlice (e := 91) (cs := [.string z0, .string z1, .int .i64 z2]) rfl (by kernel_rfl) rfl fun g12 => ?_
   refine wl_append (news := [.string z0, .string z1, .int .i64 z2]) 0 0 ap82 rfl rfl rfl rfl rfl rfl rfl (by omega) (by unfold maxLen; omega) rfl rfl fun u1 hu1 => ?_
   rw [show ((GE.take i).filter fun g => decide (0 < g.unit)).flatMap gvEnc ++ ([.string z0, .string z1, .int .i64 z2] : List Value) = ((GE.take (i + 1)).filter fun g => decide (0 < g.unit)).flatMap gvEnc from by rw [hga]; simp [gvEnc], show ((List.range i).filterMap (lfF l GE)).flatMap sgEnc = ((List.range (i + 1)).filterMap (lfF l GE)).flatMap sgEnc from by rw [hwa]]
   refine sg_ rfl (wl_nil (nx_blk_nrm (nx_then (gw_region (ad_ rfl rfl (mv_ rfl (wl_nil ?_)))))))
   exact nx_round (i + 1, k + 1, q, u1, v2) ⟨by dsimp only; omega, by dsimp only; rw [hga]; simp [hgk], by dsimp only; rw [hwa]; exact hwq, by dsimp only; omega, by dsimp only; omega⟩ (by dsimp only; omega) ⟨rfl, rfl, rfl, rfl, rfl, rfl, rfl, rfl, (some_int (by omega)), trivial⟩ (fun _ hm => hm.pick [2, 3] [0, 1, 2] [0, 1, 2] rfl rfl)
  have hp : ¬ (0 < z2) := by simpa using hh
  clear hh
  refine gw_region ?_
  rw [if_neg (by simpa using hp), List.append_nil] at hga
  rw [if_neg hp, Option.toList_some] at hwa
  refine mv_ rfl (lk_ sc78 2 rfl rfl rfl (mv_ rfl ?_))
  refine wl_ov (ov_index (j := i) es78 rfl rfl (by omega)) rfl ?_
  refine fd_ fo181_0 rfl rfl ?_
  refine wl_ov (ov_elem1 (k := 0) (v := .string x0) sc9 rfl (fun _ hm => (hm.fact 2 rfl).1) hxl rfl rfl) rfl ?_
  refine wl_buildSlice (e := 9) (cs := [.string x0]) rfl (by kernel_rfl) rfl fun g13 => ?_
  refine wl_append (news := [.string x0]) 1 0 ap83 rfl rfl rfl rfl rfl rfl rfl (by omega) (by unfold maxLen; omega) rfl rfl fun u2 hu2 => ?_
  rw [show ((List.range i).filterMap (lfF l GE)).flatMap sgEnc ++ ([.string x0] : List Value) = ((List.range (i + 1)).filterMap (lfF l GE)).flatMap sgEnc from by rw [hwa]; simp [sgEnc], show ((GE.take i).filter fun g => decide (0 < g.unit)).flatMap gvEnc = ((GE.take (i + 1)).filter fun g => decide (0 < g.unit)).flatMap gvEnc from by rw [hga]]
  refine sg_ rfl (wl_nil (nx_blk_nrm (nx_then (gw_region (ad_ rfl rfl (mv_ rfl (wl_nil ?_)))))))
  exact nx_round (i + 1, k, q + 1, v1, u2) ⟨by dsimp only; omega, by dsimp only; rw [hga]; exact hgk, by dsimp only; rw [hwa]; simp [hwq], by dsimp only; omega, by dsimp only; omega⟩ (by dsimp only; omega) ⟨rfl, rfl, rfl, rfl, rfl, rfl, rfl, rfl, (some_int (by omega)), trivial⟩ (fun _ hm => hm.pick [2, 3] [0, 1, 2] [0, 1, 2] rfl rfl)
 have hi8 : ¬ (((i : Nat) : Int) < ((n : Nat) : Int)) := by simpa using hh
 clear hh
 refine gw_exit ?_
 refine nx_then_exit (nx_then_exit ?_)
 refine nx_blk_here ?_
 refine nx_then (sr_ ?_)
 have hallG : GE.take i = GE := List.take_of_length_le (by omega)
 have hin8 : i = n := by omega
 rw [hallG] at hgk ⊢
 rw [hin8] at hwq
 rw [show List.range i = List.range n from by rw [hin8]]
 refine wl_look (R := ∃ A cc, v1 = .slice A k cc) (fun wx hm => own_slice (hm.ownI 0 rfl)) ?_
 rintro ⟨Ag, cg, rfl⟩
 refine wl_look (R := ∃ A cc, v2 = .slice A q cc) (fun wx hm => own_slice (hm.ownI 1 rfl)) ?_
 rintro ⟨Al, cw, rfl⟩
 refine mv_ rfl (mv_ rfl (sg_ rfl (sg_ rfl (sg_ rfl (nn_ ?_)))))
 refine gw_ret ?_
 refine nx_ret3 rfl rfl rfl rfl fun wx hm => ?_
 exact ⟨Ag, k, cg, Al, q, cw, rfl, SlT.ofOwn gv_len (hm.ownI 0 rfl) hgk, SlT.ofOwn sg_len (hm.ownI 1 rfl) hwq, by omega, by omega, hm.g⟩
end Go.Proofs.YtpikhokaclpbhaaGreatDoor
namespace Go.Proofs.YtpikhokaclpbhaaGreatDoor
open Go.RowKit
theorem choices_any (cs : List Cs) (A0 : Option Addr) (n0 c0 : Nat) (sl : List Sk) (A1 : Option Addr) (n1 c1 : Nat) (had : List Bk) (giv : List Gv) (H G : Option Addr) (gn hc gc : Nat) (x0 x1 : ByteArray) (x2 x3 x4 x5 : Int) (w : World) (hcs : SlT csEnc 2 145 w A0 n0 cs) (hco : ∀ x ∈ cs, CsOk x) (hn0 : n0 ≤ 30) (hcl : Closed cs) (hlo : loopB cs cs.length = false) (hs : SlT skEnc 2 237 w A1 n1 sl) (hso : ∀ x ∈ sl, SkOk x) (hn1 : n1 ≤ 1000) (hmany : ∀ k, manyV sl k ≤ 100) (hh : SlT bkEnc 6 181 w H gn had) (hg : SlT gvEnc 3 91 w G gn giv) (hgn : gn ≤ 1000) (hhad : ∀ b ∈ had, b.fr < b.to_) (hb : x2 < x3) :
  Calls Tryz.prog 136 #[.slice A0 n0 c0, .slice A1 n1 c1, .slice H gn hc, .slice G gn gc, .agg #[.string x0, .string x1, .int .i64 x2, .int .i64 x3, .int .i64 x4, .int .i64 x5]] w (fun e w' => ∃ (A8 : Option Addr) (k c8 : Nat), e = .returned (.slice A8 k c8) ∧ w'.ownsRow w.heap.size 91 3 (.slice A8 k c8) k ((chF had giv (⟨x0, x1, x2, x3, x4, x5⟩ : Bk) (cdB cs sl (⟨x0, x1, x2, x3, x4, x5⟩ : Bk))).flatMap gvEnc) ∧ (chF had giv (⟨x0, x1, x2, x3, x4, x5⟩ : Bk) (cdB cs sl (⟨x0, x1, x2, x3, x4, x5⟩ : Bk))).length = k ∧ k ≤ 3100 ∧ w.grownBy w' none) := by
 refine gw_enter ⟨81, w, none, []⟩ Tryz.func136 rfl Tryz.ntmps136 rfl (mem0 (X := [SlOld csEnc 2 145 w.heap.size none A0 n0 cs, SlOld skEnc 2 237 w.heap.size none A1 n1 sl, SlOld bkEnc 6 181 w.heap.size none H gn had, SlOld gvEnc 3 91 w.heap.size none G gn giv]) (allF_cons hcs.old (allF_cons hs.old (allF_cons hh.old (allF_cons hg.old allF_nil)))) (allL_cons SlOld.lasts (allL_cons SlOld.lasts (allL_cons SlOld.lasts (allL_cons SlOld.lasts allL_nil))))) ?_
 refine sr_ ?_
 have hlen0 := hcs.len
 have hlenh := hh.len
 have hleng := hg.len
 obtain ⟨KS, hKS⟩ : ∃ z, z = clsF cs (⟨x0, x1, x2, x3, x4, x5⟩ : Bk) := ⟨_, rfl⟩
 have hks : ([.string x1] : List Value) ++ (pathN cs (n0 + 1) x1).flatMap sgEnc = KS.flatMap sgEnc := by
  rw [hKS]
  show _ = (x1 :: pathN cs cs.length x1).flatMap sgEnc
  rw [← path_same hcl hlo, hlen0]; rfl
 have hkl : KS.length = 1 + (pathN cs (n0 + 1) x1).length := by
  rw [hKS]
  show (x1 :: pathN cs cs.length x1).length = _
  rw [← path_same hcl hlo, hlen0, List.length_cons]; omega
 have hkl2 : KS.length ≤ 31 := by
  rw [hKS]
  show (x1 :: pathN cs cs.length x1).length ≤ 31
  have := pathN_len cs cs.length x1
  rw [List.length_cons]; omega
 obtain ⟨T, hT⟩ : ∃ z, z = chF had giv (⟨x0, x1, x2, x3, x4, x5⟩ : Bk) (candsF sl KS) := ⟨_, rfl⟩
 have hTT : chF had giv (⟨x0, x1, x2, x3, x4, x5⟩ : Bk) (cdB cs sl (⟨x0, x1, x2, x3, x4, x5⟩ : Bk)) = T := by rw [hT, hKS]; rfl
 rw [hTT]
 refine wl_box rfl rfl rfl fun g1 => ?_
 refine sg_ rfl (nn_ (sr_ (sg_ rfl (nn_ (gw_seq ?_)))))
 refine gw_cut (γ := Option Addr × Nat × Nat) (I := (fun g => KS.length = g.2.1)) (S' := (fun g => [(1, .slice A1 n1 c1), (2, .slice H gn hc), (3, .slice G gn gc), (9, .pointer (some ⟨g1, 0, none⟩)), (10, .slice none 0 0), (11, .slice none 0 0), (25, .slice g.1 g.2.1 g.2.2), (26, .int .i64 ((g.2.1 : Nat) : Int)), (27, .int .i64 0)])) (K' := (fun g => fun _ => True)) (L' := (fun g => [(g1, 181, [.string x0, .string x1, .int .i64 x2, .int .i64 x3, .int .i64 x4, .int .i64 x5])])) (O' := (fun g => [⟨.slice g.1 g.2.1 g.2.2, 9, 1, g.2.1, KS.flatMap sgEnc⟩])) (X' := (fun g => [SlOld csEnc 2 145 w.heap.size none A0 n0 cs, SlOld skEnc 2 237 w.heap.size none A1 n1 sl, SlOld bkEnc 6 181 w.heap.size none H gn had, SlOld gvEnc 3 91 w.heap.size none G gn giv])) ?_ ?_
 ·refine gd (fun wz => Blk wz g1 181 [.string x0, .string x1, .int .i64 x2, .int .i64 x3, .int .i64 x4, .int .i64 x5] ∧ (SlOld csEnc 2 145 w.heap.size none A0 n0 cs) wz ∧ (SlOld skEnc 2 237 w.heap.size none A1 n1 sl) wz ∧ (SlOld bkEnc 6 181 w.heap.size none H gn had) wz ∧ (SlOld gvEnc 3 91 w.heap.size none G gn giv) wz ∧ True) mixed (fun _ hm => ⟨hm.bl 0, hm.fa 0, hm.fa 1, hm.fa 2, hm.fa 3, trivial⟩) fun z => ?_
  refine wt 0 10 1 rfl z (ov_field fo181_1 rfl rfl) ?_
  refine wt 1 10 3 rfl z (ov_load sc9 rfl (fun _ hm => hm.1) rfl) ?_
  refine wt 3 10 11 rfl z (ov_move rfl) ?_
  refine wt 4 10 27 rfl z (ov_field fo181_1 rfl rfl) ?_
  refine wt 5 10 59 rfl z (ov_load sc9 rfl (fun _ hm => hm.1) rfl) ?_
  refine wt 9 10 571 rfl z (ov_move rfl) ?_
  refine wa_all [2, 6] (by kernel_rfl) rfl ⟨⟨_, rfl, ?_⟩, ⟨_, rfl, ?_⟩, trivial⟩
  ·refine wl_buildSlice (e := 9) (cs := [.string x1]) rfl (by kernel_rfl) rfl fun g2 => ?_
   refine wl_nil ?_
   refine nw 10 575 (fun _ hm => ⟨hm.bl 1, hm.fa 0, hm.fa 1, hm.fa 2, hm.fa 3, trivial⟩) fun z => ?_
   refine wa1 6 rfl ?_
   refine wl_callgo (γ := Option Addr × Nat × Nat) (val := (fun g => .slice g.1 g.2.1 g.2.2)) (φ := (fun g => (pathN cs (n0 + 1) x1).length = g.2.1)) (fun g => ⟨.slice g.1 g.2.1 g.2.2, 9, 1, g.2.1, (pathN cs (n0 + 1) x1).flatMap sgEnc⟩) rfl cb171 rfl rfl (fun wx hm => (ups_any cs A0 n0 c0 x1 wx (hm.fact 0 rfl).1 hco (by omega)).mono fun _ _ ⟨A2, n2, c2, he, ho, hl2, hg⟩ => ⟨(A2, n2, c2), he, hl2, ho, hg⟩) ?_
   rintro ⟨A2, n2, c2⟩ hpl
   dsimp only at hpl ⊢
   refine wl_nil ?_
   refine nw 10 639 (fun _ hm => ⟨hm.bl 1, hm.fa 0, hm.fa 1, hm.fa 2, hm.fa 3, trivial⟩) fun z => ?_
   refine wa1 7 rfl ?_
   refine wl_toOwn (sz := 1) (n := 1) 0 [1] rfl rfl rfl (by unfold maxLen; omega) ?_
   refine wl_appendO 0 1 ap83 rfl rfl rfl rfl (flat_one sgEnc sg_one _) (by omega) (by unfold maxLen; omega) rfl rfl fun v2 hv => ?_
   rw [hks]
   refine wl_look (R := ∃ A cc, v2 = .slice A (1 + n2) cc) (fun wx hm => own_slice (hm.ownI 0 rfl)) ?_
   rintro ⟨A5, c5, rfl⟩
   refine wl_nil ?_
   refine nw 10 767 (fun _ hm => ⟨hm.bl 0, hm.fa 0, hm.fa 1, hm.fa 2, hm.fa 3, trivial⟩) fun z => ?_
   refine wt 8 10 1023 rfl z (ov_len es83 rfl) ?_
   refine wa_done (by kernel_rfl) ?_
   exact nx_meet (A5, 1 + n2, c5) (by rw [hkl, hpl]) ⟨rfl, rfl, rfl, rfl, rfl, rfl, rfl, rfl, rfl, trivial⟩ (fun _ hm => hm.pick [0] [0] [0, 1, 2, 3] rfl rfl)
  refine wl_callgo (γ := Option Addr × Nat × Nat) (val := (fun g => .slice g.1 g.2.1 g.2.2)) (φ := (fun g => (pathN cs (n0 + 1) x1).length = g.2.1)) (fun g => ⟨.slice g.1 g.2.1 g.2.2, 9, 1, g.2.1, (pathN cs (n0 + 1) x1).flatMap sgEnc⟩) rfl cb171 rfl rfl (fun wx hm => (ups_any cs A0 n0 c0 x1 wx (hm.fact 0 rfl).1 hco (by omega)).mono fun _ _ ⟨A2, n2, c2, he, ho, hl2, hg⟩ => ⟨(A2, n2, c2), he, hl2, ho, hg⟩) ?_
  rintro ⟨A2, n2, c2⟩ hpl
  dsimp only at hpl ⊢
  refine wl_nil ?_
  refine nw 10 635 (fun _ hm => ⟨hm.bl 0, hm.fa 0, hm.fa 1, hm.fa 2, hm.fa 3, trivial⟩) fun z => ?_
  refine wa1 2 rfl ?_
  refine wl_buildSlice (e := 9) (cs := [.string x1]) rfl (by kernel_rfl) rfl fun g3 => ?_
  refine wl_nil ?_
  refine nw 10 639 (fun _ hm => ⟨hm.bl 1, hm.fa 0, hm.fa 1, hm.fa 2, hm.fa 3, trivial⟩) fun z => ?_
  refine wa1 7 rfl ?_
  refine wl_toOwn (sz := 1) (n := 1) 0 [1] rfl rfl rfl (by unfold maxLen; omega) ?_
  refine wl_appendO 0 1 ap83 rfl rfl rfl rfl (flat_one sgEnc sg_one _) (by omega) (by unfold maxLen; omega) rfl rfl fun v2 hv => ?_
  rw [hks]
  refine wl_look (R := ∃ A cc, v2 = .slice A (1 + n2) cc) (fun wx hm => own_slice (hm.ownI 0 rfl)) ?_
  rintro ⟨A5, c5, rfl⟩
  refine wl_nil ?_
  refine nw 10 767 (fun _ hm => ⟨hm.bl 0, hm.fa 0, hm.fa 1, hm.fa 2, hm.fa 3, trivial⟩) fun z => ?_
  refine wt 8 10 1023 rfl z (ov_len es83 rfl) ?_
  refine wa_done (by kernel_rfl) ?_
  exact nx_meet (A5, 1 + n2, c5) (by rw [hkl, hpl]) ⟨rfl, rfl, rfl, rfl, rfl, rfl, rfl, rfl, rfl, trivial⟩ (fun _ hm => hm.pick [0] [0] [0, 1, 2, 3] rfl rfl)
 rintro ⟨A7, n7, c7⟩ hinv
 replace hinv : KS.length = n7 := hinv
 dsimp only
 refine gw_block ?_
 have hn7 : KS.length = n7 := hinv
 refine gw_nilOwn 91 3 ?_
 refine gw_loop (γ := Nat × Nat × Value × List Gv) (fun g => g.1 ≤ n7 ∧ g.2.2.2.length = g.2.1 ∧ g.2.1 ≤ 100 * g.1 ∧ g.2.2.2 ++ chF had giv (⟨x0, x1, x2, x3, x4, x5⟩ : Bk) (candsF sl (KS.drop g.1)) = T) (fun g => [(1, .slice A1 n1 c1), (2, .slice H gn hc), (3, .slice G gn gc), (9, .pointer (some ⟨g1, 0, none⟩)), (10, .slice none 0 0), (11, g.2.2.1), (25, .slice A7 n7 c7), (26, .int .i64 ((n7 : Nat) : Int)), (27, .int .i64 ((g.1 : Nat) : Int))]) (fun g => fun _ => True) (fun g => [(g1, 181, [.string x0, .string x1, .int .i64 x2, .int .i64 x3, .int .i64 x4, .int .i64 x5])]) (fun g => [⟨.slice A7 n7 c7, 9, 1, n7, KS.flatMap sgEnc⟩, ⟨g.2.2.1, 91, 3, g.2.1, g.2.2.2.flatMap gvEnc⟩]) (fun g => [SlOld csEnc 2 145 w.heap.size none A0 n0 cs, SlOld skEnc 2 237 w.heap.size none A1 n1 sl, SlOld bkEnc 6 181 w.heap.size none H gn had, SlOld gvEnc 3 91 w.heap.size none G gn giv]) (fun g => n7 - g.1) (0, 0, .slice none 0 0, []) ⟨Nat.zero_le _, rfl, Nat.zero_le _, hT.symm⟩ ⟨rfl, rfl, rfl, rfl, rfl, rfl, rfl, rfl, rfl, trivial⟩ (fun _ hm => hm.pick [0] [1, 0] [0, 1, 2, 3] rfl rfl) ?_
 rintro ⟨i, k, v, acc⟩ hinv
 replace hinv : i ≤ n7 ∧ acc.length = k ∧ k ≤ 100 * i ∧ acc ++ chF had giv (⟨x0, x1, x2, x3, x4, x5⟩ : Bk) (candsF sl (KS.drop i)) = T := hinv
 dsimp only
 refine sr_ ?_
 obtain ⟨hi0, hk, hki, hT1⟩ := hinv
 refine wl_ov (ov_lss rfl rfl) rfl (nn_ (gw_seq ?_))
 refine gw_cond rfl (fun hh => ?_) (fun hh => ?_)
 ·have hi : ((i : Nat) : Int) < ((n7 : Nat) : Int) := by simpa using hh
  clear hh
  refine gw_skip (nx_then (gw_seq (gw_block (sr_ ?_))))
  refine wl_look (R := ∃ g, A7 = some ⟨g, 0, none⟩) (fun wx hm => own_addr (hm.ownI 0 rfl) (by omega)) ?_
  rintro ⟨g7, rfl⟩
  obtain ⟨cl, hx⟩ : ∃ x, KS[i]? = some x := ⟨_, List.getElem?_eq_getElem (by omega)⟩
  refine wl_ov (ov_index (j := i) es83 rfl rfl (by omega)) rfl ?_
  refine wl_ov (ov_elem1 (k := 0) (v := .string cl) sc9 rfl (fun _ hm => (SlT.ofOwn sg_len (hm.ownI 0 rfl) hn7)) hx rfl rfl) rfl ?_
  refine sg_ rfl (nn_ (sr_ (sg_ rfl (nn_ (gw_block ?_)))))
  have hT2 : acc ++ chF had giv (⟨x0, x1, x2, x3, x4, x5⟩ : Bk) (unitsF sl cl 0) ++ chF had giv (⟨x0, x1, x2, x3, x4, x5⟩ : Bk) (candsF sl (KS.drop (i + 1))) = T := by rw [← hT1, candsF_at hx, chF_app, List.append_assoc]
  refine gw_loop (γ := Nat × Nat × Value × List Gv) (fun gg => gg.1 ≤ 100 ∧ gg.2.2.2.length = gg.2.1 ∧ gg.2.1 ≤ 100 * i + gg.1 ∧ gg.2.2.2 ++ chF had giv (⟨x0, x1, x2, x3, x4, x5⟩ : Bk) (unitsF sl cl gg.1) ++ chF had giv (⟨x0, x1, x2, x3, x4, x5⟩ : Bk) (candsF sl (KS.drop (i + 1))) = T) (fun gg => [(1, .slice A1 n1 c1), (2, .slice H gn hc), (3, .slice G gn gc), (9, .pointer (some ⟨g1, 0, none⟩)), (10, .slice none 0 0), (11, gg.2.2.1), (13, .string cl), (14, .int .i64 ((gg.1 + 1 : Nat) : Int)), (25, .slice (some ⟨g7, 0, none⟩) n7 c7), (26, .int .i64 ((n7 : Nat) : Int)), (27, .int .i64 ((i : Nat) : Int))]) (fun gg => fun _ => True) (fun gg => [(g1, 181, [.string x0, .string x1, .int .i64 x2, .int .i64 x3, .int .i64 x4, .int .i64 x5])]) (fun gg => [⟨.slice (some ⟨g7, 0, none⟩) n7 c7, 9, 1, n7, KS.flatMap sgEnc⟩, ⟨gg.2.2.1, 91, 3, gg.2.1, gg.2.2.2.flatMap gvEnc⟩]) (fun gg => [SlOld csEnc 2 145 w.heap.size none A0 n0 cs, SlOld skEnc 2 237 w.heap.size none A1 n1 sl, SlOld bkEnc 6 181 w.heap.size none H gn had, SlOld gvEnc 3 91 w.heap.size none G gn giv]) (fun gg => 100 - gg.1) (0, k, v, acc) ⟨Nat.zero_le _, hk, by dsimp only; omega, hT2⟩ ⟨rfl, rfl, rfl, rfl, rfl, rfl, rfl, (some_int (by omega)), rfl, rfl, rfl, trivial⟩ (fun _ hm => hm.pick [0] [0, 1] [0, 1, 2, 3] rfl rfl) ?_
  rintro ⟨u, k1, v1, ac1⟩ hinv
  replace hinv : u ≤ 100 ∧ ac1.length = k1 ∧ k1 ≤ 100 * i + u ∧ ac1 ++ chF had giv (⟨x0, x1, x2, x3, x4, x5⟩ : Bk) (unitsF sl cl u) ++ chF had giv (⟨x0, x1, x2, x3, x4, x5⟩ : Bk) (candsF sl (KS.drop (i + 1))) = T := hinv
  dsimp only
  refine gw_seq (sr_ ?_)
  obtain ⟨hu0, hk1, hku, hT3⟩ := hinv
  have hmb := hmany cl
  refine mv_ rfl (mv_ rfl (mv_ rfl ?_))
  refine wl_callv rfl cb208 rfl rfl (fun wx hm => (manyOf_any sl A1 n1 c1 cl wx (hm.fact 1 rfl).1 hso (by omega))) ?_
  refine wl_ov (ov_leq rfl rfl) rfl (nn_ ?_)
  refine gw_cond rfl (fun hh => ?_) (fun hh => ?_)
  ·have hu : ((u + 1 : Nat) : Int) ≤ manyV sl cl := by simpa using hh
   clear hh
   refine gw_skip (nx_then (gw_seq (gw_block (sr_ (sg_ rfl (nn_ (gw_seq (sr_ (mv_ rfl (wl_ov (ov_len es82 rfl) rfl ?_))))))))))
   refine mv_ rfl (nn_ (gw_block ?_))
   refine gw_loop (γ := Nat) (fun (j : Nat) => j ≤ gn) (fun (j : Nat) => [(1, .slice A1 n1 c1), (2, .slice H gn hc), (3, .slice G gn gc), (9, .pointer (some ⟨g1, 0, none⟩)), (10, .slice none 0 0), (11, v1), (13, .string cl), (14, .int .i64 ((u + 1 : Nat) : Int)), (15, .bool (((had.zip giv).take j).any (takP (⟨x0, x1, x2, x3, x4, x5⟩ : Bk) cl ((u + 1 : Nat) : Int)))), (25, .slice (some ⟨g7, 0, none⟩) n7 c7), (26, .int .i64 ((n7 : Nat) : Int)), (27, .int .i64 ((i : Nat) : Int)), (38, .slice G gn gc), (39, .int .i64 ((gn : Nat) : Int)), (40, .int .i64 ((j : Nat) : Int))]) (fun (j : Nat) => fun _ => True) (fun (j : Nat) => [(g1, 181, [.string x0, .string x1, .int .i64 x2, .int .i64 x3, .int .i64 x4, .int .i64 x5])]) (fun (j : Nat) => [⟨.slice (some ⟨g7, 0, none⟩) n7 c7, 9, 1, n7, KS.flatMap sgEnc⟩, ⟨v1, 91, 3, k1, ac1.flatMap gvEnc⟩]) (fun (j : Nat) => [SlOld csEnc 2 145 w.heap.size none A0 n0 cs, SlOld skEnc 2 237 w.heap.size none A1 n1 sl, SlOld bkEnc 6 181 w.heap.size none H gn had, SlOld gvEnc 3 91 w.heap.size none G gn giv]) (fun (j : Nat) => gn - j) 0 (Nat.zero_le _) ⟨rfl, rfl, rfl, rfl, rfl, rfl, rfl, rfl, (congrArg (fun z => some (Value.bool z)) (by rw [List.take_zero]; rfl)), rfl, rfl, rfl, rfl, rfl, rfl, trivial⟩ (fun _ hm => hm.pick [0] [0, 1] [0, 1, 2, 3] rfl rfl) ?_
   intro j hinv
   replace hinv : j ≤ gn := hinv
   refine sr_ (wl_ov (ov_lss rfl rfl) rfl (nn_ (gw_seq ?_)))
   refine gw_cond rfl (fun hh => ?_) (fun hh => ?_)
   ·have hj : ((j : Nat) : Int) < ((gn : Nat) : Int) := by simpa using hh
    clear hh
    refine gw_skip (nx_then (gw_seq (gw_block (sr_ ?_))))
    obtain ⟨bh, oh, hA, _, _⟩ := hh.get (by omega)
    subst hA
    obtain ⟨y, hy⟩ : ∃ x, had[j]? = some x := ⟨_, List.getElem?_eq_getElem (by omega)⟩
    obtain ⟨y0, y1, y2, y3, y4, y5⟩ := y
    obtain ⟨bg, og, hA, _, _⟩ := hg.get (by omega)
    subst hA
    obtain ⟨z, hz⟩ : ∃ x, giv[j]? = some x := ⟨_, List.getElem?_eq_getElem (by omega)⟩
    obtain ⟨z0, z1, z2⟩ := z
    have htm := hhad _ (List.mem_of_getElem? hy)
    dsimp only at htm
    have hat := takP_at (b := (⟨x0, x1, x2, x3, x4, x5⟩ : Bk)) (k := cl) (u := ((u + 1 : Nat) : Int)) hy hz
    dsimp only at hat
    refine mv_ rfl ?_
    refine wl_ov (ov_index (j := j) es82 rfl rfl (by omega)) rfl ?_
    refine wl_ov (ov_elem (vs := [.string z0, .string z1, .int .i64 z2]) rz91 rfl (fun _ hm => (hm.fact 3 rfl).1) hz rfl rfl) rfl ?_
    refine wl_alloc zc91 rfl fun g4 => ?_
    refine sg_ rfl ?_
    refine wl_stores (cs' := [.string z0, .string z1, .int .i64 z2]) 0 rz91 rfl rfl rfl rfl rfl rfl rfl rfl ?_
    refine nn_ ?_
    refine gd (fun wz => Blk wz g4 91 [.string z0, .string z1, .int .i64 z2] ∧ Blk wz g1 181 [.string x0, .string x1, .int .i64 x2, .int .i64 x3, .int .i64 x4, .int .i64 x5] ∧ (SlOld csEnc 2 145 w.heap.size none A0 n0 cs) wz ∧ (SlOld skEnc 2 237 w.heap.size none A1 n1 sl) wz ∧ (SlOld bkEnc 6 181 w.heap.size none (some ⟨bh, oh, none⟩) gn had) wz ∧ (SlOld gvEnc 3 91 w.heap.size none (some ⟨bg, og, none⟩) gn giv) wz ∧ True) mixed (fun _ hm => ⟨hm.bl 0, hm.bl 1, hm.fa 0, hm.fa 1, hm.fa 2, hm.fa 3, trivial⟩) fun z => ?_
    refine wt 0 24 1 rfl z (ov_move rfl) ?_
    refine wt 1 24 3 rfl z (ov_move rfl) ?_
    rcases Bool.eq_false_or_eq_true (((had.zip giv).take j).any (takP (⟨x0, x1, x2, x3, x4, x5⟩ : Bk) cl ((u + 1 : Nat) : Int))) with hb5 | hb5
    ·refine wa_set 46 rfl (congrArg Value.bool hb5) ?_
     refine wtf 2 24 7 rfl rfl rfl z ?_
     refine wtf 3 24 15 rfl rfl rfl z ?_
     refine wtf 4 24 31 rfl rfl rfl z ?_
     refine wtf 5 24 63 rfl rfl rfl z ?_
     refine wtf 6 24 127 rfl rfl rfl z ?_
     refine wtu 7 24 255 rfl rfl rfl z ?_
     refine wtu 8 24 511 rfl rfl rfl z ?_
     refine wtu 9 24 1023 rfl rfl rfl z ?_
     refine wtu 10 24 2047 rfl rfl rfl z ?_
     refine wtf 11 24 4095 rfl rfl rfl z ?_
     refine wtf 12 24 8191 rfl rfl rfl z ?_
     refine wtu 13 24 16383 rfl rfl rfl z ?_
     refine wtu 14 24 32767 rfl rfl rfl z ?_
     refine wtu 15 24 65535 rfl rfl rfl z ?_
     refine wtu 16 24 131071 rfl rfl rfl z ?_
     refine wtu 17 24 262143 rfl rfl rfl z ?_
     refine wtu 18 24 524287 rfl rfl rfl z ?_
     refine wtu 19 24 1048575 rfl rfl rfl z ?_
     refine wtu 20 24 2097151 rfl rfl rfl z ?_
     refine wtf 21 24 4194303 rfl rfl rfl z ?_
     refine wt 22 24 8388607 rfl z (ov_pick_t rfl rfl) ?_
     refine wt 23 24 16777215 rfl z (ov_assign rfl) ?_
     refine wa_done (by kernel_rfl) ?_
     refine nx_blk_nrm (nx_then (gw_region (ad_ rfl rfl (mv_ rfl (wl_nil ?_)))))
     exact nx_round (j + 1) (by omega) (by omega) ⟨rfl, rfl, rfl, rfl, rfl, rfl, rfl, rfl, (congrArg (fun z => some (Value.bool z)) (by have h9 := hat; rw [hb5] at h9; exact h9.symm)), rfl, rfl, rfl, rfl, rfl, (some_int (by omega)), trivial⟩ (fun _ hm => hm.pick [1] [0, 1] [0, 1, 2, 3] rfl rfl)
    refine wa_set 46 rfl (congrArg Value.bool hb5) ?_
    refine wto 2 24 7 rfl rfl rfl z (ov_field fo91_1 rfl rfl) ?_
    refine wto 3 24 15 rfl rfl rfl z (ov_load sc9 rfl (fun _ hm => hm.1) rfl) ?_
    refine wto 4 24 31 rfl rfl rfl z (ov_move rfl) ?_
    refine wto 5 24 63 rfl rfl rfl z (ov_seql rfl rfl) ?_
    refine wto 6 24 127 rfl rfl rfl z (ov_move rfl) ?_
    rcases Bool.eq_false_or_eq_true (z1.toList == cl.toList) with hb6 | hb6
    ·refine wa_set 51 rfl (congrArg Value.bool hb6) ?_
     refine wto 7 24 255 rfl rfl rfl z (ov_field fo91_2 rfl rfl) ?_
     refine wto 8 24 511 rfl rfl rfl z (ov_load sc3 rfl (fun _ hm => hm.1) rfl) ?_
     refine wto 9 24 1023 rfl rfl rfl z (ov_move rfl) ?_
     refine wto 10 24 2047 rfl rfl rfl z (ov_eql rfl rfl) ?_
     refine wto 11 24 4095 rfl rfl rfl z (ov_pick_t rfl rfl) ?_
     refine wto 12 24 8191 rfl rfl rfl z (ov_move rfl) ?_
     rcases Bool.eq_false_or_eq_true (decide (z2 = ((u + 1 : Nat) : Int))) with hb7 | hb7
     ·refine wa_set 57 rfl (congrArg Value.bool hb7) ?_
      refine wto 13 24 16383 rfl rfl rfl z (ov_move rfl) ?_
      refine wto 14 24 32767 rfl rfl rfl z (ov_move rfl) ?_
      refine wto 15 24 65535 rfl rfl rfl z (ov_index (j := j) es78 rfl rfl (by omega)) ?_
      refine wto 16 24 131071 rfl rfl rfl z (ov_field fo181_2 rfl rfl) ?_
      refine wto 17 24 262143 rfl rfl rfl z (ov_elemN (k := 2) (vs := [.int .i64 y2, .int .i64 y3]) rz62 rfl (fun _ hm => (hm.2.2.2.2.1).1) hy rfl rfl rfl) ?_
      refine wto 18 24 524287 rfl rfl rfl z (ov_field fo181_2 rfl rfl) ?_
      refine wto 19 24 1048575 rfl rfl rfl z (ov_loads rz62 rfl (fun _ hm => hm.2.1) rfl rfl) ?_
      refine wa1 20 rfl ?_
      refine wl_guard_on rfl rfl rfl ?_
      refine wl_callv rfl cb209 rfl rfl (fun wx hm => (rmeet_any y2 y3 x2 x3 wx (by omega) (by omega))) ?_
      refine wl_nil ?_
      refine nw 24 2097151 (fun _ hm => ⟨hm.bl 0, hm.bl 1, hm.fa 0, hm.fa 1, hm.fa 2, hm.fa 3, trivial⟩) fun z => ?_
      refine wto 21 24 4194303 rfl rfl rfl z (ov_pick_t rfl rfl) ?_
      refine wt 22 24 8388607 rfl z (ov_pick_f rfl rfl) ?_
      refine wt 23 24 16777215 rfl z (ov_assign rfl) ?_
      refine wa_done (by kernel_rfl) ?_
      refine nx_blk_nrm (nx_then (gw_region (ad_ rfl rfl (mv_ rfl (wl_nil ?_)))))
      exact nx_round (j + 1) (by omega) (by omega) ⟨rfl, rfl, rfl, rfl, rfl, rfl, rfl, rfl, (congrArg (fun z => some (Value.bool z)) (by have h9 := hat; rw [hb5, hb6, hb7] at h9; exact h9.symm)), rfl, rfl, rfl, rfl, rfl, (some_int (by omega)), trivial⟩ (fun _ hm => hm.pick [1] [0, 1] [0, 1, 2, 3] rfl rfl)
     refine wa_set 57 rfl (congrArg Value.bool hb7) ?_
     refine wtf 13 24 16383 rfl rfl rfl z ?_
     refine wtf 14 24 32767 rfl rfl rfl z ?_
     refine wtf 15 24 65535 rfl rfl rfl z ?_
     refine wtf 16 24 131071 rfl rfl rfl z ?_
     refine wtf 17 24 262143 rfl rfl rfl z ?_
     refine wtf 18 24 524287 rfl rfl rfl z ?_
     refine wtf 19 24 1048575 rfl rfl rfl z ?_
     refine wtf 20 24 2097151 rfl rfl rfl z ?_
     refine wto 21 24 4194303 rfl rfl rfl z (ov_pick_f rfl rfl) ?_
     refine wt 22 24 8388607 rfl z (ov_pick_f rfl rfl) ?_
     refine wt 23 24 16777215 rfl z (ov_assign rfl) ?_
     refine wa_done (by kernel_rfl) ?_
     refine nx_blk_nrm (nx_then (gw_region (ad_ rfl rfl (mv_ rfl (wl_nil ?_)))))
     exact nx_round (j + 1) (by omega) (by omega) ⟨rfl, rfl, rfl, rfl, rfl, rfl, rfl, rfl, (congrArg (fun z => some (Value.bool z)) (by have h9 := hat; rw [hb5, hb6, hb7] at h9; exact h9.symm)), rfl, rfl, rfl, rfl, rfl, (some_int (by omega)), trivial⟩ (fun _ hm => hm.pick [1] [0, 1] [0, 1, 2, 3] rfl rfl)
    refine wa_set 51 rfl (congrArg Value.bool hb6) ?_
    refine wtf 7 24 255 rfl rfl rfl z ?_
    refine wtf 8 24 511 rfl rfl rfl z ?_
    refine wtf 9 24 1023 rfl rfl rfl z ?_
    refine wtf 10 24 2047 rfl rfl rfl z ?_
    refine wto 11 24 4095 rfl rfl rfl z (ov_pick_f rfl rfl) ?_
    refine wto 12 24 8191 rfl rfl rfl z (ov_move rfl) ?_
    refine wtf 13 24 16383 rfl rfl rfl z ?_
    refine wtf 14 24 32767 rfl rfl rfl z ?_
    refine wtf 15 24 65535 rfl rfl rfl z ?_
    refine wtf 16 24 131071 rfl rfl rfl z ?_
    refine wtf 17 24 262143 rfl rfl rfl z ?_
    refine wtf 18 24 524287 rfl rfl rfl z ?_
    refine wtf 19 24 1048575 rfl rfl rfl z ?_
    refine wtf 20 24 2097151 rfl rfl rfl z ?_
    refine wto 21 24 4194303 rfl rfl rfl z (ov_pick_f rfl rfl) ?_
    refine wt 22 24 8388607 rfl z (ov_pick_f rfl rfl) ?_
    refine wt 23 24 16777215 rfl z (ov_assign rfl) ?_
    refine wa_done (by kernel_rfl) ?_
    refine nx_blk_nrm (nx_then (gw_region (ad_ rfl rfl (mv_ rfl (wl_nil ?_)))))
    exact nx_round (j + 1) (by omega) (by omega) ⟨rfl, rfl, rfl, rfl, rfl, rfl, rfl, rfl, (congrArg (fun z => some (Value.bool z)) (by have h9 := hat; rw [hb5, hb6] at h9; exact h9.symm)), rfl, rfl, rfl, rfl, rfl, (some_int (by omega)), trivial⟩ (fun _ hm => hm.pick [1] [0, 1] [0, 1, 2, 3] rfl rfl)
   have hj : ¬ (((j : Nat) : Int) < ((gn : Nat) : Int)) := by simpa using hh
   clear hh
   refine gw_exit ?_
   refine nx_then_exit (nx_then_exit ?_)
   refine nx_blk_here ?_
   refine nx_then (sr_ ?_)
   have hall : (had.zip giv).take j = (had.zip giv) := List.take_of_length_le (by rw [List.length_zip]; omega)
   rw [hall]
   refine mv_ rfl (wl_ov (ov_un_not rfl) rfl (nn_ ?_))
   refine gw_cond rfl (fun hh => ?_) (fun hh => ?_)
   ·have htk : ((had.zip giv).any (takP (⟨x0, x1, x2, x3, x4, x5⟩ : Bk) cl ((u + 1 : Nat) : Int))) = false := by simpa using hh
    clear hh
    refine gw_region (mv_ rfl (fd_ fo181_0 rfl rfl (lk_ sc9 0 rfl rfl rfl (mv_ rfl (mv_ rfl ?_)))))
    refine wl_ov (ov_build (cs := [.string x0, .string cl, .int .i64 ((u + 1 : Nat) : Int)]) rfl (by kernel_rfl)) rfl ?_
    refine wl_buildSlice (e := 91) (cs := [.string x0, .string cl, .int .i64 ((u + 1 : Nat) : Int)]) rfl (by kernel_rfl) rfl fun g8 => ?_
    refine wl_append (news := [.string x0, .string cl, .int .i64 ((u + 1 : Nat) : Int)]) 1 0 ap82 rfl rfl rfl rfl rfl rfl rfl (by omega) (by unfold maxLen; omega) rfl rfl fun v2 hv2 => ?_
    rw [show ac1.flatMap gvEnc ++ ([.string x0, .string cl, .int .i64 ((u + 1 : Nat) : Int)] : List Value) = (ac1 ++ [(⟨x0, cl, ((u + 1 : Nat) : Int)⟩ : Gv)]).flatMap gvEnc from by simp [gvEnc]]
    refine sg_ rfl (wl_nil (nx_blk_nrm (nx_then (gw_region (mv_ rfl (ad_ rfl rfl (sg_ rfl (wl_nil ?_))))))))
    have htk2 : takenR had giv (⟨x0, x1, x2, x3, x4, x5⟩ : Bk) (cl, ((u + 1 : Nat) : Int)) = false := htk
    exact nx_round (u + 1, k1 + 1, v2, ac1 ++ [(⟨x0, cl, ((u + 1 : Nat) : Int)⟩ : Gv)]) ⟨by dsimp only; omega, by simp [hk1], by dsimp only; omega, by rw [← hT3, unitsF_more hu, chF_no htk2]; simp⟩ (by dsimp only; omega) ⟨rfl, rfl, rfl, rfl, rfl, rfl, rfl, (some_int (by omega)), rfl, rfl, rfl, trivial⟩ (fun _ hm => hm.pick [1] [0, 1] [0, 1, 2, 3] rfl rfl)
   have htk : ((had.zip giv).any (takP (⟨x0, x1, x2, x3, x4, x5⟩ : Bk) cl ((u + 1 : Nat) : Int))) = true := by simpa using hh
   clear hh
   refine gw_skip (nx_blk_nrm (nx_then (gw_region (mv_ rfl (ad_ rfl rfl (sg_ rfl (wl_nil ?_)))))))
   have htk2 : takenR had giv (⟨x0, x1, x2, x3, x4, x5⟩ : Bk) (cl, ((u + 1 : Nat) : Int)) = true := htk
   exact nx_round (u + 1, k1, v1, ac1) ⟨by dsimp only; omega, hk1, by dsimp only; omega, by rw [← hT3, unitsF_more hu, chF_yes htk2]⟩ (by dsimp only; omega) ⟨rfl, rfl, rfl, rfl, rfl, rfl, rfl, (some_int (by omega)), rfl, rfl, rfl, trivial⟩ (fun _ hm => hm.pick [0] [0, 1] [0, 1, 2, 3] rfl rfl)
  have hu : ¬ (((u + 1 : Nat) : Int) ≤ manyV sl cl) := by simpa using hh
  clear hh
  refine gw_exit ?_
  refine nx_then_exit (nx_then_exit ?_)
  refine nx_blk_here ?_
  refine nx_blk_nrm (nx_then (gw_region (ad_ rfl rfl (mv_ rfl (wl_nil ?_)))))
  exact nx_round (i + 1, k1, v1, ac1) ⟨by dsimp only; omega, hk1, by dsimp only; omega, by rw [← hT3, unitsF_end hu]; simp [chF]⟩ (by dsimp only; omega) ⟨rfl, rfl, rfl, rfl, rfl, rfl, rfl, rfl, (some_int (by omega)), trivial⟩ (fun _ hm => hm.pick [0] [0, 1] [0, 1, 2, 3] rfl rfl)
 have hi : ¬ (((i : Nat) : Int) < ((n7 : Nat) : Int)) := by simpa using hh
 clear hh
 refine gw_exit ?_
 refine nx_then_exit (nx_then_exit ?_)
 refine nx_blk_here ?_
 refine nx_then (sr_ ?_)
 refine wl_look (R := ∃ A cc, v = .slice A k cc) (fun wx hm => own_slice (hm.ownI 1 rfl)) ?_
 rintro ⟨A8, c8, rfl⟩
 refine mv_ rfl (sg_ rfl (nn_ ?_))
 refine gw_ret ?_
 have hfin : acc = T := by rw [← hT1, candsF_end (by omega)]; simp [chF]
 rw [← hfin]
 refine nx_ret1 rfl rfl fun wx hm => ?_
 exact ⟨A8, k, c8, rfl, (hm.ownI 1 rfl), hk, by omega, hm.g⟩
end Go.Proofs.YtpikhokaclpbhaaGreatDoor
namespace Go.Proofs.YtpikhokaclpbhaaGreatDoor
open Go.RowKit
def bsLt (x y : ByteArray) : Bool := Go.Op.bytesLess x.toList y.toList
theorem bsLt_bl (x y : ByteArray) : bsLt x y = true ↔ blR x y := Iff.rfl
theorem b_ne_selfO (a : ByteArray) : (!(a.toList == a.toList)) = false := by simp
theorem nanO (a : ByteArray) (w : World) : Calls Tryz.prog 188 #[.string a] w (fun e w' => e = .returned (.bool false) ∧ w.grownBy w' none) := by
 refine gw_enter ⟨6, w, none, []⟩ Tryz.func188 rfl Tryz.ntmps188 rfl (mem0 (X := []) allF_nil allL_nil) ?_
 refine sr_ (sg_ rfl (nn_ (sr_ (mv_ rfl (mv_ rfl (wl_ov (ov_sneq rfl rfl) rfl ?_))))))
 refine wl_set 5 (v' := .bool false) rfl (congrArg Value.bool (b_ne_selfO a)) ?_
 refine sg_ rfl (nn_ ?_)
 refine gw_ret ?_
 refine nx_ret1 rfl rfl fun wx hm => ?_
 exact ⟨rfl, hm.g⟩
theorem lessO (a b : ByteArray) (w : World) : Calls Tryz.prog 272 #[.string a, .string b] w (fun e w' => e = .returned (.bool (bsLt a b)) ∧ w.grownBy w' none) := by
 refine gw_enter ⟨17, w, none, []⟩ Tryz.func272 rfl Tryz.ntmps272 rfl (mem0 (X := []) allF_nil allL_nil) ?_
 refine sr_ (sg_ rfl (nn_ (sr_ (mv_ rfl ?_))))
 refine wl_callv rfl cb188 rfl rfl (fun wx hm => (nanO _ wx)) ?_
 refine mv_ rfl (goff rfl rfl rfl (goff rfl rfl rfl (goff rfl rfl rfl (pf_ rfl rfl (mv_ rfl (wl_guard_on rfl rfl rfl (mv_ rfl (wl_guard_on rfl rfl rfl (mv_ rfl (wl_guard_on rfl rfl rfl ?_))))))))))
 refine wl_ov (ov_slss rfl rfl) rfl ?_
 refine pf_ rfl rfl (sg_ rfl (nn_ ?_))
 refine gw_ret ?_
 refine nx_ret1 rfl rfl fun wx hm => ?_
 exact ⟨rfl, hm.g⟩
theorem ins_so  (l0 : List ByteArray) (br n cap base : Nat) (w : World) (h : w.ownsRow base 9 1 (.slice (some ⟨br, 0, none⟩) n cap) n (l0.flatMap sgEnc)) (hl0 : l0.length = n) (hn : n ≤ 1000000)  :
  Calls Tryz.prog 266 #[.slice (some ⟨br, 0, none⟩) n cap, .int .i64 0, .int .i64 ((n : Nat) : Int)] w (fun e w' => e = .returned (.tuple #[]) ∧ w'.ownsRow base 9 1 (.slice (some ⟨br, 0, none⟩) n cap) n ((isort (bsLt) l0).flatMap sgEnc) ∧ w.grownBy w' (some br)) := by
 obtain ⟨R, hR⟩ : ∃ z, z = isort (bsLt) l0 := ⟨_, rfl⟩
 rw [← hR]
 refine gw_enter ⟨49, w, (some br), []⟩ Tryz.func266 rfl Tryz.ntmps266 rfl (memR (X := []) h allF_nil allL_nil) ?_
 refine sr_ (mv_ rfl (ad_ rfl rfl ?_))
 refine wl_set 9 (v' := .int .i64 1) rfl rfl ?_
 refine sg_ rfl (nn_ (gw_block ?_))
 refine gw_loop (γ := Nat × List ByteArray) (fun gg => (1 ≤ gg.1 ∧ gg.1 ≤ n + 1) ∧ gg.2.length = n ∧ isortF (bsLt) (n - gg.1) gg.1 gg.2 = R) (fun gg => [(0, .slice (some ⟨br, 0, none⟩) n cap), (1, .int .i64 0), (2, .int .i64 ((n : Nat) : Int)), (6, .int .i64 ((gg.1 : Nat) : Int))]) (fun gg => RowK base 9 1 n cap br ((gg.2).flatMap sgEnc)) (fun gg => []) (fun gg => []) (fun gg => []) (fun gg => n + 1 - gg.1) (1, l0) ⟨⟨Nat.le_refl _, by omega⟩, hl0, by rw [hR]; unfold isort; rw [hl0]⟩ ⟨rfl, rfl, rfl, (some_int (by omega)), trivial⟩ (fun _ hm => hm.pick [] [] [] rfl rfl) ?_
 rintro ⟨i, l⟩ hinv
 replace hinv : (1 ≤ i ∧ i ≤ n + 1) ∧ l.length = n ∧ isortF (bsLt) (n - i) i l = R := hinv
 dsimp only
 refine gw_seq (sr_ ?_)
 obtain ⟨⟨hi1, hi2⟩, hl1, hR1⟩ := hinv
 refine mv_ rfl (mv_ rfl (wl_ov (ov_lss rfl rfl) rfl (nn_ ?_)))
 refine gw_cond rfl (fun hh => ?_) (fun hh => ?_)
 ·have hi : ((i : Nat) : Int) < ((n : Nat) : Int) := by simpa using hh
  clear hh
  refine gw_skip (nx_then (gw_seq (gw_block (sr_ ?_))))
  have hRi : isortF (bsLt) (n - (i + 1)) (i + 1) (sink (bsLt) i l) = R := by rw [← hR1, show n - i = (n - (i + 1)) + 1 by omega]; rfl
  obtain ⟨S, hS⟩ : ∃ z, z = sink (bsLt) i l := ⟨_, rfl⟩
  rw [← hS] at hRi
  have hSl : S.length = n := by rw [hS, sink_len]; exact hl1
  refine mv_ rfl (sg_ rfl (nn_ (gw_block ?_)))
  refine gw_loop (γ := Nat × List ByteArray) (fun gg => (gg.1 ≤ i) ∧ gg.2.length = n ∧ sink (bsLt) gg.1 gg.2 = S) (fun gg => [(0, .slice (some ⟨br, 0, none⟩) n cap), (1, .int .i64 0), (2, .int .i64 ((n : Nat) : Int)), (6, .int .i64 ((i : Nat) : Int)), (7, .int .i64 ((gg.1 : Nat) : Int))]) (fun gg => RowK base 9 1 n cap br ((gg.2).flatMap sgEnc)) (fun gg => []) (fun gg => []) (fun gg => []) (fun gg => gg.1) (i, l) ⟨Nat.le_refl _, hl1, hS.symm⟩ ⟨rfl, rfl, rfl, rfl, rfl, trivial⟩ (fun _ hm => hm.pick [] [] [] rfl rfl) ?_
  rintro ⟨jj, m⟩ hinv
  replace hinv : (jj ≤ i) ∧ m.length = n ∧ sink (bsLt) jj m = S := hinv
  dsimp only
  refine gw_seq (gw_seq ?_)
  obtain ⟨hj1, hm1, hS1⟩ := hinv
  rcases jj with _ | j
  ·refine gd (fun wz => True) mixed (fun _ _ => trivial) fun z => ?_
   refine wt 0 15 1 rfl z (ov_move rfl) ?_
   refine wa_set 16 (v' := .int .i64 0) rfl rfl ?_
   refine wt 1 15 3 rfl z (ov_move rfl) ?_
   refine wt 2 15 7 rfl z (ov_gtr rfl rfl) ?_
   refine wa_set 18 (v' := .bool false) rfl (congrArg Value.bool (by decide)) ?_
   refine wt 3 15 15 rfl z (ov_move rfl) ?_
   refine wtf 4 15 31 rfl rfl rfl z ?_
   refine wtf 5 15 63 rfl rfl rfl z ?_
   refine wtf 6 15 127 rfl rfl rfl z ?_
   refine wtf 7 15 255 rfl rfl rfl z ?_
   refine wtf 8 15 511 rfl rfl rfl z ?_
   refine wtf 9 15 1023 rfl rfl rfl z ?_
   refine wtf 10 15 2047 rfl rfl rfl z ?_
   refine wtf 11 15 4095 rfl rfl rfl z ?_
   refine wtf 12 15 8191 rfl rfl rfl z ?_
   refine wtf 13 15 16383 rfl rfl rfl z ?_
   refine wt 14 15 32767 rfl z (ov_pick_f rfl rfl) ?_
   refine wa_done (by kernel_rfl) ?_
   refine nx_then (cf_ rfl ?_)
   refine gw_exit ?_
   refine nx_then_exit (nx_then_exit ?_)
   refine nx_blk_here ?_
   refine nx_blk_nrm (nx_then (gw_region (mv_ rfl (ad_ rfl rfl (sg_ rfl (wl_nil ?_))))))
   have hm2 : m = S := hS1
   exact nx_round (i + 1, m) ⟨⟨by dsimp only; omega, by dsimp only; omega⟩, by rw [hm2]; exact hSl, by rw [hm2]; exact hRi⟩ (by dsimp only; omega) ⟨rfl, rfl, rfl, (some_int (by omega)), trivial⟩ (fun _ hm => hm.pick [] [] [] rfl rfl)
  have hj2 : j + 1 < n := by omega
  obtain ⟨x0, hx⟩ : ∃ x, m[j + 1]? = some x := ⟨_, List.getElem?_eq_getElem (by omega)⟩
  obtain ⟨y0, hy⟩ : ∃ x, m[j]? = some x := ⟨_, List.getElem?_eq_getElem (by omega)⟩
  refine gd (fun wz => (RowK base 9 1 n cap br ((m).flatMap sgEnc)) wz ∧ True) mixed (fun _ hm => ⟨hm.k, trivial⟩) fun z => ?_
  refine wt 0 15 1 rfl z (ov_move rfl) ?_
  refine wt 1 15 3 rfl z (ov_move rfl) ?_
  refine wt 2 15 7 rfl z (ov_gtr rfl rfl) ?_
  refine wa_set 18 (v' := .bool true) rfl (congrArg Value.bool (decide_eq_true (by omega))) ?_
  refine wt 3 15 15 rfl z (ov_move rfl) ?_
  refine wto 4 15 31 rfl rfl rfl z (ov_move rfl) ?_
  refine wto 5 15 63 rfl rfl rfl z (ov_move rfl) ?_
  refine wto 6 15 127 rfl rfl rfl z (ov_index (j := (j + 1)) es83 rfl rfl (by omega)) ?_
  refine wto 7 15 255 rfl rfl rfl z (ov_elem1 (k := 0) (v := .string x0) sc9 rfl (fun _ hm => (RowK.get (hm.1) sg_len hm1)) hx rfl rfl) ?_
  refine wto 8 15 511 rfl rfl rfl z (ov_move rfl) ?_
  refine wto 9 15 1023 rfl rfl rfl z (ov_move rfl) ?_
  refine wto 10 15 2047 rfl rfl rfl z (ov_sub rfl rfl (by omega) (by omega)) ?_
  refine wa_set 26 (v' := .int .i64 ((j : Nat) : Int)) rfl (congrArg (Value.int .i64) (by omega)) ?_
  refine wto 11 15 4095 rfl rfl rfl z (ov_index (j := j) es83 rfl rfl (by omega)) ?_
  refine wto 12 15 8191 rfl rfl rfl z (ov_elem1 (k := 0) (v := .string y0) sc9 rfl (fun _ hm => (RowK.get (hm.1) sg_len hm1)) hy rfl rfl) ?_
  refine wa1 13 rfl ?_
  refine wl_guard_on rfl rfl rfl ?_
  refine wl_callv rfl cb272 rfl rfl (fun wx hm => (lessO x0 y0 wx)) ?_
  refine wl_nil ?_
  refine nw 15 16383 (fun _ hm => ⟨hm.k, trivial⟩) fun z => ?_
  refine wt 14 15 32767 rfl z (ov_pick_t rfl rfl) ?_
  refine wa_done (by kernel_rfl) ?_
  refine nx_then ?_
  refine gw_cond rfl (fun hh => ?_) (fun hh => ?_)
  ·have hlt : (bsLt x0 y0) = true := by simpa using hh
   clear hh
   refine gw_skip (nx_then (gw_seq (gw_block ?_)))
   have hlt2 : (bsLt) x0 y0 = true := hlt
   have hS2 := (sink_yes hx hy hlt2).symm.trans hS1
   refine gd (fun wz => True) mixed (fun _ _ => trivial) fun z => ?_
   refine wt 0 18 1 rfl z (ov_move rfl) ?_
   refine wt 1 18 3 rfl z (ov_move rfl) ?_
   refine wt 2 18 7 rfl z (ov_move rfl) ?_
   refine wt 3 18 15 rfl z (ov_move rfl) ?_
   refine wt 4 18 31 rfl z (ov_sub rfl rfl (by omega) (by omega)) ?_
   refine wa_set 37 (v' := .int .i64 ((j : Nat) : Int)) rfl (congrArg (Value.int .i64) (by omega)) ?_
   refine wt 5 18 63 rfl z (ov_move rfl) ?_
   refine wt 6 18 127 rfl z (ov_move rfl) ?_
   refine wt 7 18 255 rfl z (ov_sub rfl rfl (by omega) (by omega)) ?_
   refine wa_set 40 (v' := .int .i64 ((j : Nat) : Int)) rfl (congrArg (Value.int .i64) (by omega)) ?_
   refine wt 8 18 511 rfl z (ov_index (j := j) es83 rfl rfl (by omega)) ?_
   refine wt 10 18 1535 rfl z (ov_move rfl) ?_
   refine wt 11 18 3583 rfl z (ov_move rfl) ?_
   refine wt 12 18 7679 rfl z (ov_index (j := (j + 1)) es83 rfl rfl (by omega)) ?_
   refine wa_all [9, 13] (by kernel_rfl) rfl ⟨⟨_, rfl, ?_⟩, ⟨_, rfl, ?_⟩, trivial⟩
   ·refine wl_ov (ov_elem1 (k := 0) (v := .string y0) sc9 rfl (fun _ hm => (RowK.get hm.k sg_len hm1)) hy rfl rfl) rfl ?_
    refine wl_nil ?_
    refine nw 18 8191 (fun _ _ => trivial) fun z => ?_
    refine wa1 13 rfl ?_
    refine wl_ov (ov_elem1 (k := 0) (v := .string x0) sc9 rfl (fun _ hm => (RowK.get hm.k sg_len hm1)) hx rfl rfl) rfl ?_
    refine wl_nil ?_
    refine nw 18 16383 (fun _ _ => trivial) fun z => ?_
    refine wt 14 18 32767 rfl z (ov_index (j := (j + 1)) es83 rfl rfl (by omega)) ?_
    refine wa1 15 rfl ?_
    refine wl_storeRow (l := m) (j := j + 1) (r := 0) (el := x0) (el' := y0) rfl sc9 rfl rfl rfl sg_len rfl hx hm1 (by decide) rfl rfl ?_
    refine wl_nil ?_
    refine nw 18 65535 (fun _ _ => trivial) fun z => ?_
    refine wt 16 18 131071 rfl z (ov_index (j := j) es83 rfl rfl (by omega)) ?_
    refine wa1 17 rfl ?_
    refine wl_storeRow (l := m.set (j + 1) y0) (j := j) (r := 0) (el := y0) (el' := x0) rfl sc9 rfl rfl rfl sg_len rfl (by rw [List.getElem?_set_ne (by omega)]; exact hy) (by rw [List.length_set]; exact hm1) (by decide) rfl rfl ?_
    refine wl_nil ?_
    refine nw 18 262143 (fun _ _ => trivial) fun z => ?_
    refine wa_done (by kernel_rfl) ?_
    refine nx_blk_nrm (nx_then (gw_region (mv_ rfl ?_)))
    refine wl_ov (ov_sub rfl rfl (by omega) (by omega)) rfl ?_
    refine wl_set 32 (v' := .int .i64 ((j : Nat) : Int)) rfl (congrArg (Value.int .i64) (by omega)) ?_
    refine sg_ rfl (wl_nil ?_)
    exact nx_round (j, (m.set (j + 1) y0).set j x0) ⟨by dsimp only; omega, by simp [hm1], hS2⟩ (by dsimp only; omega) ⟨rfl, rfl, rfl, rfl, (some_int (by omega)), trivial⟩ (fun _ hm => hm.pick [] [] [] rfl rfl)
   refine wl_ov (ov_elem1 (k := 0) (v := .string x0) sc9 rfl (fun _ hm => (RowK.get hm.k sg_len hm1)) hx rfl rfl) rfl ?_
   refine wl_nil ?_
   refine nw 18 15871 (fun _ _ => trivial) fun z => ?_
   refine wa1 9 rfl ?_
   refine wl_ov (ov_elem1 (k := 0) (v := .string y0) sc9 rfl (fun _ hm => (RowK.get hm.k sg_len hm1)) hy rfl rfl) rfl ?_
   refine wl_nil ?_
   refine nw 18 16383 (fun _ _ => trivial) fun z => ?_
   refine wt 14 18 32767 rfl z (ov_index (j := (j + 1)) es83 rfl rfl (by omega)) ?_
   refine wa1 15 rfl ?_
   refine wl_storeRow (l := m) (j := j + 1) (r := 0) (el := x0) (el' := y0) rfl sc9 rfl rfl rfl sg_len rfl hx hm1 (by decide) rfl rfl ?_
   refine wl_nil ?_
   refine nw 18 65535 (fun _ _ => trivial) fun z => ?_
   refine wt 16 18 131071 rfl z (ov_index (j := j) es83 rfl rfl (by omega)) ?_
   refine wa1 17 rfl ?_
   refine wl_storeRow (l := m.set (j + 1) y0) (j := j) (r := 0) (el := y0) (el' := x0) rfl sc9 rfl rfl rfl sg_len rfl (by rw [List.getElem?_set_ne (by omega)]; exact hy) (by rw [List.length_set]; exact hm1) (by decide) rfl rfl ?_
   refine wl_nil ?_
   refine nw 18 262143 (fun _ _ => trivial) fun z => ?_
   refine wa_done (by kernel_rfl) ?_
   refine nx_blk_nrm (nx_then (gw_region (mv_ rfl ?_)))
   refine wl_ov (ov_sub rfl rfl (by omega) (by omega)) rfl ?_
   refine wl_set 32 (v' := .int .i64 ((j : Nat) : Int)) rfl (congrArg (Value.int .i64) (by omega)) ?_
   refine sg_ rfl (wl_nil ?_)
   exact nx_round (j, (m.set (j + 1) y0).set j x0) ⟨by dsimp only; omega, by simp [hm1], hS2⟩ (by dsimp only; omega) ⟨rfl, rfl, rfl, rfl, (some_int (by omega)), trivial⟩ (fun _ hm => hm.pick [] [] [] rfl rfl)
  have hlt : (bsLt x0 y0) = false := by simpa using hh
  clear hh
  refine gw_exit ?_
  refine nx_then_exit (nx_then_exit ?_)
  refine nx_blk_here ?_
  refine nx_blk_nrm (nx_then (gw_region ?_))
  have hlt2 : (bsLt) x0 y0 = false := hlt
  have hS2 := (sink_no hx hy hlt2).symm.trans hS1
  refine mv_ rfl (ad_ rfl rfl (sg_ rfl (wl_nil ?_)))
  have hm2 : m = S := hS2
  exact nx_round (i + 1, m) ⟨⟨by dsimp only; omega, by dsimp only; omega⟩, by rw [hm2]; exact hSl, by rw [hm2]; exact hRi⟩ (by dsimp only; omega) ⟨rfl, rfl, rfl, (some_int (by omega)), trivial⟩ (fun _ hm => hm.pick [] [] [] rfl rfl)
 have hi : ¬ (((i : Nat) : Int) < ((n : Nat) : Int)) := by simpa using hh
 clear hh
 refine gw_exit ?_
 refine nx_then_exit (nx_then_exit ?_)
 refine nx_blk_here ?_
 obtain rfl : l = R := by rw [← hR1, show n - i = 0 by omega]; rfl
 refine nx_ret0 rfl fun wx hm => ?_
 exact ⟨rfl, fin_row hm.k hm.g⟩
theorem pdq_so  (l0 : List ByteArray) (br n cap base : Nat) (lim : Int) (w : World) (h : w.ownsRow base 9 1 (.slice (some ⟨br, 0, none⟩) n cap) n (l0.flatMap sgEnc)) (hl0 : l0.length = n) (hn : n ≤ 12)  :
  Calls Tryz.prog 213 #[.slice (some ⟨br, 0, none⟩) n cap, .int .i64 0, .int .i64 ((n : Nat) : Int), .int .i64 lim] w (fun e w' => e = .returned (.tuple #[]) ∧ w'.ownsRow base 9 1 (.slice (some ⟨br, 0, none⟩) n cap) n ((isort (bsLt) l0).flatMap sgEnc) ∧ w.grownBy w' (some br)) := by
 refine gw_enter ⟨134, w, (some br), []⟩ Tryz.func213 rfl Tryz.ntmps213 rfl (memR (X := []) h allF_nil allL_nil) ?_
 refine sr_ (sg_ rfl (nn_ (sr_ (sg_ rfl (nn_ (gw_block ?_))))))
 refine gw_rounds 1 ?_
 refine gr_next ?_
 refine gw_block (sr_ (mv_ rfl (mv_ rfl ?_)))
 refine wl_ov (ov_sub rfl rfl (by omega) (by omega)) rfl ?_
 refine sg_ rfl (nn_ (gw_seq (sr_ (mv_ rfl (wl_ov (ov_leq rfl rfl) rfl ?_)))))
 refine wl_set 23 (v' := .bool true) rfl (congrArg Value.bool (decide_eq_true (by omega))) ?_
 refine nn_ (ct_ rfl (sr_ (mv_ rfl (mv_ rfl (mv_ rfl ?_)))))
 refine wl_callK rfl rfl rfl cb266 rfl rfl (fun wx hm => (ins_so  l0 br n cap base wx hm.k hl0 (by omega) )) ?_
 refine nn_ ?_
 refine gw_ret ?_
 refine nx_then_ret (nx_blk_ret (nx_then_ret (nx_blk_ret ?_)))
 refine nx_ret0' rfl fun wx hm => ?_
 exact ⟨rfl, fin_row hm.k hm.g⟩
theorem sort_so  (l0 : List ByteArray) (br n cap base : Nat) (w : World) (h : w.ownsRow base 9 1 (.slice (some ⟨br, 0, none⟩) n cap) n (l0.flatMap sgEnc)) (hl0 : l0.length = n) (hn : n ≤ 12)  :
  Calls Tryz.prog 140 #[.slice (some ⟨br, 0, none⟩) n cap] w (fun e w' => e = .returned (.tuple #[]) ∧ w'.ownsRow base 9 1 (.slice (some ⟨br, 0, none⟩) n cap) n ((isort (bsLt) l0).flatMap sgEnc) ∧ w.grownBy w' (some br)) := by
 refine gw_enter ⟨11, w, (some br), []⟩ Tryz.func140 rfl Tryz.ntmps140 rfl (memR (X := []) h allF_nil allL_nil) ?_
 refine sr_ (mv_ rfl (wl_ov (ov_len es83 rfl) rfl (sg_ rfl (nn_ (gw_region (mv_ rfl (mv_ rfl (mv_ rfl ?_))))))))
 refine wl_ov (ov_u64 (a := n) (by kernel_rfl) (by kernel_rfl) rfl (by omega)) rfl ?_
 refine wl_callx (γ := Int) (val := (fun g => .int .i64 g)) (φ := (fun g => True)) (Y := (fun g => fun _ => True)) rfl cb211 rfl rfl (fun wx hm => (bitsLen_any n wx (by omega)).mono fun _ _ ⟨v, he, hg⟩ => ⟨v, he, trivial, hg, trivial⟩) (fun _ => Lasts2.true_) ?_
 rintro lim hphi
 clear hphi
 refine wl_callK rfl rfl rfl cb213 rfl rfl (fun wx hm => (pdq_so  l0 br n cap base _ wx hm.k hl0 hn )) ?_
 refine wl_nil ?_
 refine nx_ret0 rfl fun wx hm => ?_
 exact ⟨rfl, fin_row hm.k hm.g⟩
theorem ins0_so  (A : Option Addr) (cap : Nat)  (w : World) : Calls Tryz.prog 266 #[.slice A 0 cap, .int .i64 0, .int .i64 0] w (fun e w' => e = .returned (.tuple #[]) ∧ w.grownBy w' none) := by
 refine gw_enter ⟨49, w, none, []⟩ Tryz.func266 rfl Tryz.ntmps266 rfl (mem0 (X := []) allF_nil allL_nil) ?_
 refine sr_ (mv_ rfl (ad_ rfl rfl ?_))
 refine wl_set 9 (v' := .int .i64 1) rfl rfl ?_
 refine sg_ rfl (nn_ (gw_block ?_))
 refine gw_rounds 1 ?_
 refine gr_next ?_
 refine gw_seq (sr_ (mv_ rfl (mv_ rfl (wl_ov (ov_lss rfl rfl) rfl ?_))))
 refine wl_set 12 (v' := .bool false) rfl (congrArg Value.bool (by decide)) ?_
 refine nn_ (cf_ rfl ?_)
 refine gw_exit ?_
 refine nx_then_exit (nx_then_exit ?_)
 refine nx_blk_here ?_
 refine nx_ret0 rfl fun wx hm => ?_
 exact ⟨rfl, hm.g⟩
theorem pdq0_so  (A : Option Addr) (cap : Nat) (lim : Int) (w : World) : Calls Tryz.prog 213 #[.slice A 0 cap, .int .i64 0, .int .i64 0, .int .i64 lim] w (fun e w' => e = .returned (.tuple #[]) ∧ w.grownBy w' none) := by
 refine gw_enter ⟨134, w, none, []⟩ Tryz.func213 rfl Tryz.ntmps213 rfl (mem0 (X := []) allF_nil allL_nil) ?_
 refine sr_ (sg_ rfl (nn_ (sr_ (sg_ rfl (nn_ (gw_block ?_))))))
 refine gw_rounds 1 ?_
 refine gr_next ?_
 refine gw_block (sr_ (mv_ rfl (mv_ rfl ?_)))
 refine wl_ov (ov_sub rfl rfl (by omega) (by omega)) rfl ?_
 refine wl_set 21 (v' := .int .i64 0) rfl rfl ?_
 refine sg_ rfl (nn_ (gw_seq (sr_ (mv_ rfl (wl_ov (ov_leq rfl rfl) rfl ?_)))))
 refine wl_set 23 (v' := .bool true) rfl (congrArg Value.bool (by decide)) ?_
 refine nn_ (ct_ rfl (sr_ (mv_ rfl (mv_ rfl (mv_ rfl ?_)))))
 refine wl_callv rfl cb266 rfl rfl (fun wx hm => (ins0_so  A cap  wx)) ?_
 refine nn_ ?_
 refine gw_ret ?_
 refine nx_then_ret (nx_blk_ret (nx_then_ret (nx_blk_ret ?_)))
 refine nx_ret0' rfl fun wx hm => ?_
 exact ⟨rfl, hm.g⟩
theorem sort0_so  (A : Option Addr) (cap : Nat)  (w : World) : Calls Tryz.prog 140 #[.slice A 0 cap] w (fun e w' => e = .returned (.tuple #[]) ∧ w.grownBy w' none) := by
 refine gw_enter ⟨11, w, none, []⟩ Tryz.func140 rfl Tryz.ntmps140 rfl (mem0 (X := []) allF_nil allL_nil) ?_
 refine sr_ (mv_ rfl (wl_ov (ov_len es83 rfl) rfl ?_))
 refine wl_set 4 (v' := .int .i64 0) rfl rfl ?_
 refine sg_ rfl (nn_ (gw_region (mv_ rfl (mv_ rfl (mv_ rfl ?_)))))
 refine wl_ov (ov_u64 (a := 0) (by kernel_rfl) (by kernel_rfl) rfl (by omega)) rfl ?_
 refine wl_callx (γ := Int) (val := (fun g => .int .i64 g)) (φ := (fun g => True)) (Y := (fun g => fun _ => True)) rfl cb211 rfl rfl (fun wx hm => (by have h := bitsLen_any 0 wx (by omega); exact h.mono fun _ _ ⟨v, he, hg⟩ => ⟨v, he, trivial, hg, trivial⟩)) (fun _ => Lasts2.true_) ?_
 rintro lim hphi
 clear hphi
 refine wl_callv rfl cb213 rfl rfl (fun wx hm => (pdq0_so  A cap _ wx)) ?_
 refine wl_nil ?_
 refine nx_ret0 rfl fun wx hm => ?_
 exact ⟨rfl, hm.g⟩
end Go.Proofs.YtpikhokaclpbhaaGreatDoor
namespace Go.Proofs.YtpikhokaclpbhaaGreatDoor
open Go.RowKit
theorem booking_info : ∃ i z, Tryz.prog.info? 181 = some i ∧ i.zero = some z ∧ i.size = 6 ∧ i.bytes = 64 ∧ z.cells.size = 6 := info_parts (by kernel_rfl)
set_option maxRecDepth 100000 in
set_option maxHeartbeats 1000000 in
theorem cloneBks_pos (l : List Bk) (A : Option Addr) (n c : Nat) (w : World) (hl : SlT bkEnc 6 181 w A n l) (hn0 : 0 < n) (hn : n ≤ 1000000) :
    Calls Tryz.prog 132 #[.slice A n c] w (fun e w' => ∃ A' c', e = .returned (.slice A' n c') ∧ w'.ownsRow w.heap.size 181 6 (.slice A' n c') n (l.flatMap bkEnc) ∧ w.grownBy w' none) := by
  obtain ⟨b, off, rfl, hbl, hfl⟩ := hl.flat bk_len hn0
  have hlen := hl.len
  obtain ⟨i0, z0, hi, hz, hsz, hby, hzs⟩ := booking_info
  have hnews : ∀ (o : Obj) j u, (l.flatMap bkEnc)[j]? = some u → (w.alloc o).cell? ((⟨b, off, none⟩ : Addr).add j) = some u := fun o j u hj =>
    (World.cell?_of_block (Below.heap_alloc w o _ (by unfold Addr.add; split <;> exact hbl))).trans (hfl j u hj)
  have hone := flat_one bkEnc bk_one l
  have hll := flat_len bkEnc 6 bk_len l
  rw [hlen] at hll
  clear hfl hl
  have Hnews := Lib.hid hnews
  clear hnews
  have he : ∀ w : World, (binOp .eql 78 (.slice (some ⟨b, off, none⟩) n c) (.slice none 0 0)).run Tryz.prog w = .ok (.bool false) w := fun _ => rfl
  go_enter Tryz.func132, Tryz.ntmps132
  go_wp2_with (at_builtin; refine wpList_append_own_at _ rfl _ _ 78 rfl w.heap.size 181 i0 z0 6 64 Tryz.underlying78 hi hz hsz hby hzs (by decide) (.slice (some ⟨w.heap.size, 0, none⟩) 0 0) 0 [] rfl ⟨rfl, .inr ⟨w.heap.size, 0, #[], rfl, Nat.le_refl _, heap_alloc_new w _, Nat.le_refl _, by decide, rfl, rfl⟩⟩ ⟨b, off, none⟩ n c (l.flatMap bkEnc) rfl hll (Hnews.out _) hone (by unfold maxLen; omega) (by omega) (by simp) ?_; intro v' w' hown hgrow hnil hat)
  rw [Nat.zero_add, List.nil_append] at hown
  have hown2 := hown
  obtain ⟨_, ho⟩ := hown2
  rcases ho with ⟨_, h0⟩ | ⟨g, cap, cur, rfl, hg, _⟩
  · omega
  · go_ret
    exact ⟨some ⟨g, 0, none⟩, cap, rfl, hown, grow_own (grow_alloc (World.grownBy.refl _ _) _) hgrow (fun k h => by cases h; exact Nat.le_refl _)⟩
set_option maxRecDepth 100000 in
set_option maxHeartbeats 1000000 in
theorem cloneBks_empty (a : Addr) (c : Nat) (w : World) :
    Calls Tryz.prog 132 #[.slice (some a) 0 c] w (fun e w' => ∃ A' c', e = .returned (.slice A' 0 c') ∧ w'.ownsRow w.heap.size 181 6 (.slice A' 0 c') 0 [] ∧ w.grownBy w' none) := by
  obtain ⟨i0, z0, hi, hz, hsz, hby, hzs⟩ := booking_info
  have he : ∀ w : World, (binOp .eql 78 (.slice (some a) 0 c) (.slice none 0 0)).run Tryz.prog w = .ok (.bool false) w := fun _ => rfl
  go_enter Tryz.func132, Tryz.ntmps132
  go_wp2_with (at_builtin; refine wpList_append_own_at _ rfl _ _ 78 rfl w.heap.size 181 i0 z0 6 64 Tryz.underlying78 hi hz hsz hby hzs (by decide) (.slice (some ⟨w.heap.size, 0, none⟩) 0 0) 0 [] rfl ⟨rfl, .inr ⟨w.heap.size, 0, #[], rfl, Nat.le_refl _, heap_alloc_new w _, Nat.le_refl _, by decide, rfl, rfl⟩⟩ a 0 c [] rfl rfl (fun j u hj => by simp at hj) (fun v hv => by cases hv) (by unfold maxLen; omega) (by omega) (by simp) ?_; intro v' w' hown hgrow hnil hat)
  rw [Nat.zero_add, List.nil_append] at hown
  have hown2 := hown
  obtain ⟨_, ho⟩ := hown2
  rcases ho with ⟨rfl, _⟩ | ⟨g, cap, cur, rfl, hg, _⟩
  · go_ret
    exact ⟨none, 0, rfl, hown, grow_own (grow_alloc (World.grownBy.refl _ _) _) hgrow (fun k h => by cases h; exact Nat.le_refl _)⟩
  · go_ret
    exact ⟨some ⟨g, 0, none⟩, cap, rfl, hown, grow_own (grow_alloc (World.grownBy.refl _ _) _) hgrow (fun k h => by cases h; exact Nat.le_refl _)⟩
set_option maxRecDepth 100000 in
set_option maxHeartbeats 400000 in
theorem cloneBks_nil (c : Nat) (w : World) : Calls Tryz.prog 132 #[.slice none 0 c] w (fun e w' => e = .returned (.slice none 0 0) ∧ w = w') := by
  have he : ∀ w : World, (binOp .eql 78 (.slice none 0 c) (.slice none 0 0)).run Tryz.prog w = .ok (.bool true) w := fun _ => rfl
  go_enter Tryz.func132, Tryz.ntmps132
  go_wp2_with fail
  go_ret
  exact ⟨rfl, rfl⟩
theorem cloneBks_any (l : List Bk) (A : Option Addr) (n c : Nat) (w : World) (hl : SlT bkEnc 6 181 w A n l) (hn : n ≤ 1000000) :
    Calls Tryz.prog 132 #[.slice A n c] w (fun e w' => ∃ A' c', e = .returned (.slice A' n c') ∧ w'.ownsRow w.heap.size 181 6 (.slice A' n c') n (l.flatMap bkEnc) ∧ w.grownBy w' none) := by
  by_cases h0 : n = 0
  · subst h0
    have hl0 : l = [] := List.length_eq_zero_iff.1 hl.len
    subst hl0
    cases A with
    | none => exact (cloneBks_nil c w).mono fun e w' ⟨he, hw⟩ => ⟨none, 0, he, ⟨rfl, .inl ⟨rfl, rfl⟩⟩, hw ▸ World.grownBy.refl _ _⟩
    | some a => exact cloneBks_empty a c w
  · exact cloneBks_pos l A n c w hl (by omega) hn
end Go.Proofs.YtpikhokaclpbhaaGreatDoor
