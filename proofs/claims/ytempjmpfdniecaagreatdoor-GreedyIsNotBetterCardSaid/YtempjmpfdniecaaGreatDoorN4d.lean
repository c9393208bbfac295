/- Several texts as one: Asz Bea Beb Shx Nm Txt Bu Rdr Bec Bed Bee Bef -/
import Derived.Test.YtempjmpfdniecaaGreatDoorN4c
import Derived.Test.YtempjmpfdniecaaGreatDoorN4a
import Derived.Test.YtempjmpfdniecaaGreatDoorN4b
import Derived.Test.YtempjmpfdniecaaGreatDoorProg
import Derived.Ground.NamesProg
import Derived.Shelf.Strings.Cut
import Derived.Shelf.Strings.Split
import Derived.Shelf.Strings.Prefix
import Derived.Shelf.Strings.OnBuilder
import Derived.Shelf.Strings.Builder1
import Derived.Shelf.Strconv.Itoa3
import Derived.Shelf.Strconv.AtoiAll
import Derived.Shelf.Strconv.ErrVarAll
import Derived.Lib.ItoaNum
import Derived.Lib.AtoiAll
import Derived.Lib.Strings
set_option maxRecDepth 100000
set_option maxHeartbeats 4000000
namespace Go.Proofs.YtempjmpfdniecaaGreatDoor
open Go.RowKit
structure ChS where
  A : Option Addr
  n : Nat
  c : Nat
  l : List (CdW ByteArray)
def cdEnc (k : CdW ByteArray) : List Value := [.string k.1, .int .i64 (k.2.1 : Int), .int .i64 (k.2.2 : Int)]
theorem cd_len (k : CdW ByteArray) : (cdEnc k).length = 3 := rfl
def csnEnc (x : ChS) : List Value := [.slice x.A x.n x.c]
theorem csn_len (x : ChS) : (csnEnc x).length = 1 := rfl
def Chs (T : TypeId) (cx : List ChS) (w : World) : Prop := ∀ x ∈ cx, SlT cdEnc 3 T w x.A x.n x.l
theorem Chs.lasts {N : Nat} {row : Option Nat} {Tt : List TypeId} {T : TypeId} {cx : List ChS} (hT : Tt.contains T = true) : Lasts2 N row Tt (Chs T cx) := lasts_all fun _ _ => SlT.lasts2 hT
theorem Chs.grow {T : TypeId} {cx : List ChS} {w w' : World} (h : Chs T cx w) (hg : w.grownBy w' none) : Chs T cx w' := fun x hx => (h x hx).grow0 hg
def ownC (T : TypeId) (x : ChS) : Own := ⟨.slice x.A x.n x.c, T, 3, x.n, x.l.flatMap cdEnc⟩
def famC (T : TypeId) (cx : List ChS) : List Own := cx.map (ownC T)
section
variable {c : Cx} {K : World → Prop} {L : List (Nat × TypeId × List Value)} {O O' F : List Own} {X : List (World → Prop)} {w : World}
theorem Mem.permO (h : Mem c K L O X w) (hp : O.Perm O') : Mem c K L O' X w := ⟨h.g, h.k, h.b, h.nd, fun r hr => h.o r (hp.mem_iff.2 hr), fun r hr => h.od r (hp.mem_iff.2 hr), (hp.pairwise_iff (fun hr g hg e => hr g e hg)).1 h.oo, h.x, h.kk, h.l, h.rs⟩
theorem Mem.pickT (h : Mem c K L (O ++ F) X w) (ls os xs : List Nat) (hl : allNe ls = true) (ho : allNe os = true) : Mem c K (pickI L ls) (pickI O os ++ F) (pickI X xs) w := by
  have h1 := (h.pickL ls hl).pickX xs
  have hs : ∀ x ∈ pickI O os ++ F, x ∈ O ++ F := fun x hx => by
    rcases List.mem_append.1 hx with hx | hx
    · obtain ⟨i, _, hi⟩ := pickI_mem hx
      exact List.mem_append_left _ (List.mem_of_getElem? hi)
    · exact List.mem_append_right _ hx
  refine ⟨h1.g, h1.k, h1.b, h1.nd, fun r hr => h1.o r (hs r hr), fun r hr => h1.od r (hs r hr), ?_, h1.x, h1.kk, h1.l, h1.rs⟩
  obtain ⟨p1, p2, p3⟩ := List.pairwise_append.1 h1.oo
  refine List.pairwise_append.2 ⟨pickI_pair (fun _ _ hr g hg e => hr g e hg) p1 ho, p2, fun x hx y hy => ?_⟩
  obtain ⟨i, _, hi⟩ := pickI_mem hx
  exact p3 x (List.mem_of_getElem? hi) y hy
/-- A row comes into the family. -/
theorem Mem.famSnoc {T : TypeId} {cx : List ChS} {x : ChS} {o : Own} (h : Mem c K L ([ownC T x, o] ++ famC T cx) X w) : Mem c K L ([o] ++ famC T (cx ++ [x])) X w := by
  refine h.permO ?_
  unfold famC
  rw [List.map_append]
  show (ownC T x :: ([o] ++ cx.map (ownC T))).Perm ([o] ++ (cx.map (ownC T) ++ [ownC T x]))
  rw [← List.append_assoc]
  exact (List.perm_append_singleton _ _).symm
theorem Mem.famChs {T : TypeId} {cx : List ChS} (h : Mem c K L (O ++ famC T cx) X w) (hl : ∀ x ∈ cx, x.l.length = x.n) : Chs T cx w := fun x hx => SlT.ofOwn cd_len (h.o _ (List.mem_append_right _ (List.mem_map.2 ⟨x, hx, rfl⟩))) (hl x hx)
end
theorem way_get {many : ByteArray → Nat} : ∀ (ks : List ByteArray) (i j : Nat) (x : ByteArray), ks[j]? = some x → (wayC many i ks)[j]? = some (x, i + j, many x)
  | [], _, _, _, h => by cases h
  | c :: r, i, 0, x, h => by
    cases h; rfl
  | c :: r, i, j + 1, x, h => by
    unfold wayC
    rw [List.getElem?_cons_succ, way_get r (i + 1) j x (by simpa using h), show i + 1 + j = i + (j + 1) by omega]
theorem way_len {many : ByteArray → Nat} : ∀ (ks : List ByteArray) (i : Nat), (wayC many i ks).length = ks.length
  | [], _ => rfl
  | c :: r, i => by unfold wayC; rw [List.length_cons, List.length_cons, way_len r]
/-- The choices among the first classes of a way. -/
def chT (sl : List Sk) (ks : List ByteArray) (j : Nat) : List (CdW ByteArray) := ((wayC (capB sl) 0 ks).take j).filter fun k => decide (0 < k.2.2)
theorem chT_at {sl : List Sk} {ks : List ByteArray} {j : Nat} {x : ByteArray} (h : ks[j]? = some x) : chT sl ks (j + 1) = chT sl ks j ++ (if 0 < capB sl x then [(x, j, capB sl x)] else []) := by
  unfold chT
  rw [gfilt_at (way_get (many := capB sl) ks 0 j x h), Nat.zero_add]
  dsimp only
  by_cases h0 : 0 < capB sl x
  · rw [if_pos h0, if_pos (by simpa using h0)]
  · rw [if_neg h0, if_neg (by simpa using h0)]
theorem chT_end {sl : List Sk} {ks : List ByteArray} {j : Nat} (h : ks.length ≤ j) : chT sl ks j = chC (capB sl) ks := by
  unfold chT chC
  rw [List.take_of_length_le (by rw [way_len]; exact h)]
theorem chT_len (sl : List Sk) (ks : List ByteArray) (j : Nat) : (chT sl ks j).length ≤ ks.length := by
  unfold chT
  have h1 := List.length_filter_le (fun k : CdW ByteArray => decide (0 < k.2.2)) ((wayC (capB sl) 0 ks).take j)
  rw [List.length_take, way_len] at h1
  omega
def lenN (css : List (List (CdW ByteArray))) (j : Nat) : Nat := (css.getD j []).length
def coLt (css : List (List (CdW ByteArray))) (a b : Int) : Bool := decide (cmpI (lenN css a.toNat : Int) (lenN css b.toNat : Int) < 0)
def coLtN (css : List (List (CdW ByteArray))) (a b : Nat) : Bool := decide (cmpI (lenN css a : Int) (lenN css b : Int) < 0)
def ordN (css : List (List (CdW ByteArray))) (n : Nat) : List Nat := isort (coLtN css) (List.range n)
theorem ordN_eq (css : List (List (CdW ByteArray))) (n : Nat) : isort (coLt css) ((List.range n).map fun k => ((k : Nat) : Int)) = (ordN css n).map fun k => ((k : Nat) : Int) := isort_mapF (fun x y => by unfold coLt coLtN; rw [Int.toNat_natCast, Int.toNat_natCast]) _
theorem ordN_perm (css : List (List (CdW ByteArray))) (n : Nat) : (ordN css n).Perm (List.range n) := isort_perm _ _
def itB (cs : List Cs) (sl : List Sk) (l : List Bk) (j : Nat) : ItW ByteArray := (wnB (bkAt l j), chB cs sl (bkAt l j))
theorem it_range (cs : List Cs) (sl : List Sk) (l : List Bk) : (List.range l.length).map (itB cs sl l) = (l.map wnB).zip (l.map (chB cs sl)) := by
  have h := congrArg (List.map (fun b => (wnB b, chB cs sl b))) (range_bk l)
  rw [List.map_map] at h
  rw [List.zip_map']
  exact h
theorem it_perm {cs : List Cs} {sl : List Sk} {l : List Bk} {o : List Nat} (h : o.Perm (List.range l.length)) : (o.map (itB cs sl l)).Perm ((l.map wnB).zip (l.map (chB cs sl))) := by
  rw [← it_range]
  exact h.map _
/-- The bookings that have classes. -/
def clAt (cl : List ByteArray) (j : Nat) : ByteArray := (cl[j]?).getD ⟨#[]⟩
def plB (l : List Bk) (cl : List ByteArray) (o : List Nat) : List (ByteArray × Wn) := o.map fun j => (clAt cl j, wnB (bkAt l j))
theorem plB_set {l : List Bk} {cl : List ByteArray} {o : List Nat} {i : Nat} {x : ByteArray} (h : i ∉ o) : plB l (cl.set i x) o = plB l cl o := by
  unfold plB clAt
  refine List.map_congr_left fun j hj => ?_
  rw [List.getElem?_set_ne (show i ≠ j from fun e => h (by rw [e]; exact hj))]
theorem nodup_take {o : List Nat} (hn : o.Nodup) {k i : Nat} (h : o[k]? = some i) : i ∉ o.take k := fun hin => by
  obtain ⟨q, hq⟩ := List.getElem?_of_mem hin
  rw [List.getElem?_take] at hq
  split at hq
  · have h1 := (List.getElem?_eq_some_iff.1 hq).1
    have h2 := (List.getElem?_eq_some_iff.1 h).1
    exact absurd (((List.getElem?_eq_some_iff.1 hq).2).trans ((List.getElem?_eq_some_iff.1 h).2).symm) (List.pairwise_iff_getElem.1 hn q k h1 h2 (by omega))
  · cases hq
theorem plB_snoc {l : List Bk} {cl : List ByteArray} {o : List Nat} {k i : Nat} {x : ByteArray} (h : o[k]? = some i) (hn : o.Nodup) (hi : i < cl.length) : plB l (cl.set i x) (o.take (k + 1)) = plB l cl (o.take k) ++ [(x, wnB (bkAt l i))] := by
  rw [List.take_add_one, h, Option.toList_some]
  have e := plB_set (l := l) (cl := cl) (x := x) (nodup_take hn h)
  unfold plB at e ⊢
  rw [List.map_append, e, List.map_cons, List.map_nil]
  congr 3
  unfold clAt
  rw [List.getElem?_set_self hi]; rfl
def nEnc (k : Nat) : List Value := [.int .i64 (k : Int)]
theorem n_len (k : Nat) : (nEnc k).length = 1 := rfl
theorem n_flat (l : List Nat) : (l.map fun k => ((k : Nat) : Int)).flatMap iEnc = l.flatMap nEnc := by
  rw [List.flatMap_map]; rfl
theorem tl_dec (a b : ByteArray) : (a.toList == b.toList) = decide (a = b) := by
  rw [Bool.eq_iff_iff, beq_iff_eq, decide_eq_true_eq]
  exact ⟨ba_ext, fun h => by rw [h]⟩
theorem clAt_get {cl : List ByteArray} {j : Nat} {x : ByteArray} (h : cl[j]? = some x) : clAt cl j = x := by unfold clAt; rw [h]; rfl
theorem bkAt_get {l : List Bk} {j : Nat} {x : Bk} (h : l[j]? = some x) : bkAt l j = x := by unfold bkAt; rw [h]; rfl
theorem timC_at {l : List Bk} {cl : List ByteArray} {o : List Nat} {k j : Nat} {x : Wn} {c : ByteArray} (h : o[k]? = some j) : timC (plB l cl (o.take (k + 1))) x c = timC (plB l cl (o.take k)) x c ++ (if (decide (clAt cl j = c) && mtW (wnB (bkAt l j)) x) = true then [wnB (bkAt l j)] else []) := by
  unfold timC plB
  rw [List.take_add_one, h, Option.toList_some, List.map_append, List.filter_append, List.map_append]
  congr 1
  rw [List.map_cons, List.map_nil, List.filter_cons]
  dsimp only
  split <;> rfl
theorem timC_ok {l : List Bk} {cl : List ByteArray} {o : List Nat} {x : Wn} {c : ByteArray} (ht : BkTim l) (ho : ∀ j ∈ o, j < l.length) : TimOk (timC (plB l cl o) x c) := fun t h => by
  unfold timC plB at h
  obtain ⟨p, h1, rfl⟩ := List.mem_map.1 h
  obtain ⟨j, h2, rfl⟩ := List.mem_map.1 (List.mem_filter.1 h1).1
  obtain ⟨b, hb⟩ : ∃ b, l[j]? = some b := ⟨_, List.getElem?_eq_getElem (ho j h2)⟩
  dsimp only
  rw [bkAt_get hb]
  exact ht b (List.mem_of_getElem? hb)
theorem timC_len (l : List Bk) (cl : List ByteArray) (o : List Nat) (x : Wn) (c : ByteArray) : (timC (plB l cl o) x c).length ≤ o.length := by
  unfold timC plB
  rw [List.length_map]
  have := List.length_filter_le (fun p : ByteArray × Wn => decide (p.1 = c) && mtW p.2 x) (o.map fun j => (clAt cl j, wnB (bkAt l j)))
  rwa [List.length_map] at this
theorem restI_W {items : List (ItW ByteArray)} : restI items = restW (items.map Prod.snd) := by
  induction items with
  | nil => rfl
  | cons it r ih => unfold restI restW; rw [List.map_cons, ih]
theorem restW_at {css : List (List (CdW ByteArray))} {n : Nat} {cs : List (CdW ByteArray)} (h : css[n]? = some cs) : restW (css.drop n) = headW cs + restW (css.drop (n + 1)) := by
  obtain ⟨hi, rfl⟩ := List.getElem?_eq_some_iff.1 h
  rw [List.drop_eq_getElem_cons hi, restW]
theorem restW_le {M : Nat} : ∀ {css : List (List (CdW ByteArray))}, (∀ cs ∈ css, ∀ k ∈ cs, k.2.1 ≤ M) → restW css ≤ css.length * M
  | [], _ => Nat.zero_le _
  | cs :: r, h => by
    have ih := restW_le (css := r) fun c hc => h c (List.mem_cons_of_mem _ hc)
    have h0 : headW cs ≤ M := by
      unfold headW
      cases cs with
      | nil => exact Nat.zero_le _
      | cons k t => exact h _ (List.mem_cons_self ..) k (List.mem_cons_self ..)
    rw [restW, List.length_cons, Nat.add_mul]
    omega
def restR (css : List (List (CdW ByteArray))) (j n : Nat) : Int := if j ≤ n then ((restW (css.drop n) : Nat) : Int) else 0
def restL (css : List (List (CdW ByteArray))) (j : Nat) : List Int := (List.range (css.length + 1)).map (restR css j)
theorem restL_len (css : List (List (CdW ByteArray))) (j : Nat) : (restL css j).length = css.length + 1 := by unfold restL; simp
theorem restL_at {css : List (List (CdW ByteArray))} {j n : Nat} (h : n ≤ css.length) : (restL css j)[n]? = some (restR css j n) := by
  unfold restL
  rw [List.getElem?_map, List.getElem?_range (by omega)]; rfl
theorem restL_zero (css : List (List (CdW ByteArray))) : restL css css.length = List.replicate (css.length + 1) 0 := by
  refine List.ext_getElem? fun n => ?_
  unfold restL
  rw [List.getElem?_map, List.getElem?_replicate]
  by_cases h : n < css.length + 1
  · rw [List.getElem?_range h, if_pos h, Option.map_some]
    congr 1
    unfold restR
    split
    · rw [List.drop_eq_nil_of_le (by assumption)]; rfl
    · rfl
  · rw [if_neg h, List.getElem?_eq_none (by simpa using h)]; rfl
theorem restL_set {css : List (List (CdW ByteArray))} {j : Nat} (hj : j < css.length) : (restL css (j + 1)).set j ((restW (css.drop j) : Nat) : Int) = restL css j := by
  refine List.ext_getElem? fun n => ?_
  by_cases e : j = n
  · subst e
    rw [List.getElem?_set_self (by rw [restL_len]; omega), restL_at (by omega)]
    unfold restR
    rw [if_pos (Nat.le_refl _)]
  · rw [List.getElem?_set_ne e]
    rcases Nat.lt_or_ge css.length n with h | h
    · rw [List.getElem?_eq_none (by rw [restL_len]; omega), List.getElem?_eq_none (by rw [restL_len]; omega)]
    · rw [restL_at h, restL_at h]
      unfold restR
      by_cases h1 : j ≤ n
      · rw [if_pos h1, if_pos (by omega)]
      · rw [if_neg h1, if_neg (by omega)]
section
variable {F : List (ByteArray × Wn) → Wn → CdW ByteArray → Bool} {items r : List (ItW ByteArray)} {pl : List (ByteArray × Wn)} {used : Nat} {best : Option Nat}
theorem bb_stop (h : stopW best (used + restI items) = true) : bbW F items pl used best = best := by
  unfold bbW; rw [if_pos h]
theorem bb_end (h : stopW best (used + restI ([] : List (ItW ByteArray))) = false) : bbW F [] pl used best = some used := by
  unfold bbW; rw [if_neg (by rw [h]; decide)]
/-- One choice. -/
def bbS (F : List (ByteArray × Wn) → Wn → CdW ByteArray → Bool) (r : List (ItW ByteArray)) (pl : List (ByteArray × Wn)) (x : Wn) (used : Nat) (best : Option Nat) (k : CdW ByteArray) : Option Nat := if F pl x k = true then bbW F r (pl ++ [(k.1, x)]) (used + k.2.1) best else best
theorem bb_at {it : ItW ByteArray} (h : stopW best (used + restI (it :: r)) = false) : bbW F (it :: r) pl used best = it.2.foldl (bbS F r pl it.1 used) best := by
  unfold bbW; rw [if_neg (by rw [h]; decide)]; rfl
end
theorem foldl_at {α β : Type} {f : β → α → β} {l : List α} {j : Nat} {x : α} {b : β} (h : l[j]? = some x) : (l.drop j).foldl f b = (l.drop (j + 1)).foldl f (f b x) := by
  obtain ⟨hj, rfl⟩ := List.getElem?_eq_some_iff.1 h
  rw [List.drop_eq_getElem_cons hj, List.foldl_cons]
theorem foldl_end {α β : Type} {f : β → α → β} {l : List α} {j : Nat} {b : β} (h : l.length ≤ j) : (l.drop j).foldl f b = b := by
  rw [List.drop_eq_nil_of_le h]; rfl
def bestI : Option Nat → Int
  | none => -1
  | some n => (n : Int)
theorem stopW_iff {b : Option Nat} {n : Nat} : (decide (0 ≤ bestI b) && decide (bestI b ≤ (n : Int))) = stopW b n := by
  cases b with
  | none => rfl
  | some m =>
    show (decide (0 ≤ (m : Int)) && decide ((m : Int) ≤ (n : Int))) = decide (m ≤ n)
    rw [Bool.eq_iff_iff]
    simp only [Bool.and_eq_true, decide_eq_true_eq]
    omega
theorem plB_take {l : List Bk} {a b : List ByteArray} {o : List Nat} {k : Nat} (h : plB l a (o.take (k + 1)) = plB l b (o.take (k + 1))) : plB l a (o.take k) = plB l b (o.take k) := by
  have h2 := congrArg (List.take k) h
  unfold plB at h2 ⊢
  rw [← List.map_take, ← List.map_take, List.take_take, Nat.min_eq_left (Nat.le_succ k)] at h2
  exact h2
theorem cx_at {cs : List Cs} {sl : List Sk} {l : List Bk} {cx : List ChS} (h : cx.map ChS.l = l.map (chB cs sl)) {i : Nat} {x : ChS} (hx : cx[i]? = some x) : x.l = chB cs sl (bkAt l i) := by
  have h2 := congrArg (fun z => z[i]?) h
  rw [List.getElem?_map, List.getElem?_map, hx] at h2
  cases hb : l[i]? with
  | none => rw [hb] at h2; cases h2
  | some b =>
    rw [hb] at h2
    rw [bkAt_get hb]
    exact Option.some.inj h2
theorem drop_map_at {cs : List Cs} {sl : List Sk} {l : List Bk} {od : List Nat} {k i : Nat} (h : od[k]? = some i) : (od.drop k).map (itB cs sl l) = itB cs sl l i :: (od.drop (k + 1)).map (itB cs sl l) := by
  obtain ⟨hk, rfl⟩ := List.getElem?_eq_some_iff.1 h
  rw [List.drop_eq_getElem_cons hk, List.map_cons]
theorem nd_set {l : List Bk} {cl : List ByteArray} {od : List Nat} {k i : Nat} {x : ByteArray} (hn : od.Nodup) (h : od[k]? = some i) : plB l (cl.set i x) (od.take k) = plB l cl (od.take k) := plB_set (nodup_take hn h)
def RwOk (cl : List ByteArray) (un : List Int) (st : List (ByteArray × Nat)) : Prop := cl.take st.length = st.map Prod.fst ∧ un.take st.length = st.map fun p => ((p.2 : Nat) : Int)
theorem RwOk.nil (cl : List ByteArray) (un : List Int) : RwOk cl un [] := ⟨rfl, rfl⟩
theorem RwOk.at {cl : List ByteArray} {un : List Int} {st : List (ByteArray × Nat)} (h : RwOk cl un st) {k : Nat} {p : ByteArray × Nat} (hk : st[k]? = some p) : cl[k]? = some p.1 ∧ un[k]? = some ((p.2 : Nat) : Int) := by
  have hlt := (List.getElem?_eq_some_iff.1 hk).1
  have h1 := congrArg (fun z => z[k]?) h.1
  have h2 := congrArg (fun z => z[k]?) h.2
  rw [List.getElem?_take_of_lt hlt, List.getElem?_map, hk] at h1 h2
  exact ⟨h1, h2⟩
theorem RwOk.set {cl : List ByteArray} {un : List Int} {st : List (ByteArray × Nat)} (h : RwOk cl un st) {i : Nat} (hi : st.length ≤ i) (x : ByteArray) (y : Int) : RwOk (cl.set i x) (un.set i y) st := by
  unfold RwOk
  rw [List.take_set_of_le hi, List.take_set_of_le hi]
  exact h
theorem RwOk.snoc {cl : List ByteArray} {un : List Int} {st : List (ByteArray × Nat)} (h : RwOk cl un st) {x : ByteArray} {u : Nat} (h1 : st.length < cl.length) (h2 : st.length < un.length) : RwOk (cl.set st.length x) (un.set st.length ((u : Nat) : Int)) (st ++ [(x, u)]) := by
  have h3 := h.set (Nat.le_refl _) x ((u : Nat) : Int)
  unfold RwOk at h3 ⊢
  rw [List.length_append, List.length_singleton, List.take_add_one, List.take_add_one, h3.1, h3.2, List.getElem?_set_self h1, List.getElem?_set_self h2, List.map_append, List.map_append]
  exact ⟨rfl, rfl⟩
theorem RwOk.all {cl : List ByteArray} {un : List Int} {st : List (ByteArray × Nat)} (h : RwOk cl un st) (h1 : cl.length = st.length) (h2 : un.length = st.length) : cl = st.map Prod.fst ∧ un = st.map fun p => ((p.2 : Nat) : Int) := by
  have e1 := h.1
  have e2 := h.2
  rw [List.take_of_length_le (by omega)] at e1 e2
  exact ⟨e1, e2⟩
theorem pl_st {l : List Bk} {cl : List ByteArray} {un : List Int} {st : List (ByteArray × Nat)} (h : RwOk cl un st) (hl : st.length ≤ l.length) : plB l cl (List.range st.length) = (st.zip (l.map wnB)).map fun p => (p.1.1, p.2) := by
  refine List.ext_getElem? fun k => ?_
  unfold plB
  rw [List.getElem?_map, List.getElem?_map]
  rcases Nat.lt_or_ge k st.length with hk | hk
  · obtain ⟨p, hp⟩ : ∃ p, st[k]? = some p := ⟨_, List.getElem?_eq_getElem hk⟩
    obtain ⟨b, hb⟩ : ∃ b, l[k]? = some b := ⟨_, List.getElem?_eq_getElem (by omega)⟩
    rw [List.getElem?_range hk, zip_at hp (show (l.map wnB)[k]? = some (wnB b) by rw [List.getElem?_map, hb]; rfl)]
    unfold clAt bkAt
    rw [Option.map_some, (h.at hp).1, hb]; rfl
  · rw [List.getElem?_eq_none (by simpa using hk), List.getElem?_eq_none (by rw [List.length_zip]; omega)]; rfl
section
variable {st : List (ByteArray × Nat)} {c : ByteArray}
theorem hig_at {k : Nat} {p : ByteArray × Nat} (h : st[k]? = some p) : higW (st.take (k + 1)) c = if p.1 = c then max (higW (st.take k) c) p.2 else higW (st.take k) c := by
  obtain ⟨p1, p2⟩ := p
  rw [List.take_add_one, h, Option.toList_some, hig_snoc]
theorem hig_le {M : Nat} (h : ∀ p ∈ st, p.2 ≤ M) : higW st c ≤ M := by
  have hf : ∀ (s : List (ByteArray × Nat)) (a : Nat), a ≤ M → (∀ p ∈ s, p.2 ≤ M) → s.foldl (fun h p => if p.1 = c then max h p.2 else h) a ≤ M := by
    intro s
    induction s with
    | nil => exact fun a ha _ => ha
    | cons p s ih =>
      intro a ha hs
      rw [List.foldl_cons]
      refine ih _ ?_ fun q hq => hs q (List.mem_cons_of_mem _ hq)
      have := hs p (List.mem_cons_self ..)
      split <;> omega
  exact hf st 0 (Nat.zero_le _) h
def tkQ (x : Wn) (c : ByteArray) (u : Nat) (p : (ByteArray × Nat) × Wn) : Bool := decide (p.1 = (c, u)) && mtW p.2 x
theorem tkn_Q {ws : List Wn} {x : Wn} {u : Nat} : tknW ws st x c u = (st.zip ws).any (tkQ x c u) := rfl
theorem tkn_at {ws : List Wn} {x : Wn} {u k : Nat} {p : ByteArray × Nat} {v : Wn} (h1 : st[k]? = some p) (h2 : ws[k]? = some v) : ((st.zip ws).take (k + 1)).any (tkQ x c u) = (((st.zip ws).take k).any (tkQ x c u) || (decide (p.1 = c) && decide (p.2 = u) && mtW v x)) := by
  rw [any_take1 (zip_at h1 h2)]
  congr 1
  unfold tkQ
  obtain ⟨p1, p2⟩ := p
  rw [Bool.eq_iff_iff]
  simp only [Bool.and_eq_true, decide_eq_true_eq, Prod.mk.injEq]
theorem tkn_yes {ws : List Wn} {x : Wn} {u k : Nat} (h : ((st.zip ws).take k).any (tkQ x c u) = true) : tknW ws st x c u = true := by
  rw [tkn_Q]
  obtain ⟨p, hp, hq⟩ := List.any_eq_true.1 h
  exact List.any_eq_true.2 ⟨p, List.mem_of_mem_take hp, hq⟩
theorem tkn_all {ws : List Wn} {x : Wn} {u k : Nat} (hk : st.length ≤ k) : ((st.zip ws).take k).any (tkQ x c u) = tknW ws st x c u := by
  rw [List.take_of_length_le (by rw [List.length_zip]; omega)]; rfl
end
/-- A search through numbers from u on. -/
def fsU {β : Type} (g : Nat → Option β) (u m : Nat) : Option β := (List.range' u (m + 1 - u)).findSome? g
theorem fsU_at {β : Type} {g : Nat → Option β} {u m : Nat} (h : u ≤ m) : fsU g u m = match g u with
    | some o => some o
    | none => fsU g (u + 1) m := by
  unfold fsU
  rw [show m + 1 - u = (m - u) + 1 by omega, List.range'_succ, List.findSome?_cons, show m + 1 - (u + 1) = m - u by omega]
  cases g u <;> rfl
theorem fsU_end {β : Type} {g : Nat → Option β} {u m : Nat} (h : m < u) : fsU g u m = none := by
  unfold fsU
  rw [show m + 1 - u = 0 by omega]; rfl
theorem fs_at {α β : Type} {g : α → Option β} {l : List α} {j : Nat} {x : α} (h : l[j]? = some x) : (l.drop j).findSome? g = match g x with
    | some o => some o
    | none => (l.drop (j + 1)).findSome? g := by
  obtain ⟨hj, rfl⟩ := List.getElem?_eq_some_iff.1 h
  rw [List.drop_eq_getElem_cons hj, List.findSome?_cons]
  cases g l[j] <;> rfl
theorem fs_end {α β : Type} {g : α → Option β} {l : List α} {j : Nat} (h : l.length ≤ j) : (l.drop j).findSome? g = none := by
  rw [List.drop_eq_nil_of_le h]; rfl
section
variable {ws : List Wn} {F : List (ByteArray × Nat) → Wn → CdW ByteArray → Bool} {cs : List (CdW ByteArray)} {r : List (List (CdW ByteArray))} {st : List (ByteArray × Nat)} {left : Nat}
/-- One vehicle, one choice of the program's search. -/
def unU (ws : List Wn) (F : List (ByteArray × Nat) → Wn → CdW ByteArray → Bool) (r : List (List (CdW ByteArray))) (st : List (ByteArray × Nat)) (x : Wn) (left : Nat) (k : CdW ByteArray) (u : Nat) : Option (List (ByteArray × Nat)) := if tknW ws st x k.1 u = true then none else unitsW ws F r (st ++ [(k.1, u)]) (left - k.2.1)
def unC (ws : List Wn) (F : List (ByteArray × Nat) → Wn → CdW ByteArray → Bool) (r : List (List (CdW ByteArray))) (st : List (ByteArray × Nat)) (x : Wn) (left : Nat) (k : CdW ByteArray) : Option (List (ByteArray × Nat)) := if left < k.2.1 + restW r then none else if F st x k = false then none else fsU (unU ws F r st x left k) 1 (min (higW st k.1 + 1) k.2.2)
theorem un_short (h : left < restW (cs :: r)) : unitsW ws F (cs :: r) st left = none := by
  unfold unitsW; rw [if_pos h]
theorem un_at {x : Wn} (hx : ws.getD st.length (0, 0) = x) (h : ¬ left < restW (cs :: r)) : unitsW ws F (cs :: r) st left = cs.findSome? (unC ws F r st x left) := by
  unfold unitsW
  rw [if_neg h, hx]
  refine fs_congr fun k _ => ?_
  unfold unC fsU
  rw [Nat.add_sub_cancel]; rfl
end
theorem RwOk.pre {cl : List ByteArray} {un : List Int} {st : List (ByteArray × Nat)} {p : ByteArray × Nat} (h : RwOk cl un (st ++ [p])) : RwOk cl un st := by
  obtain ⟨h1, h2⟩ := h
  have e1 := congrArg (List.take st.length) h1
  have e2 := congrArg (List.take st.length) h2
  rw [List.length_append, List.length_singleton, List.take_take, Nat.min_eq_left (Nat.le_succ _), List.map_append, List.take_left' (by simp)] at e1 e2
  exact ⟨e1, e2⟩
def unD (cs : List Cs) (sl : List Sk) (l : List Bk) (ss : List (ByteArray × Nat)) (left : Nat) : Option (List (ByteArray × Nat)) := unitsW (l.map wnB) (roomU (l.map wnB)) ((l.drop ss.length).map (chB cs sl)) ss left
def restB (cs : List Cs) (sl : List Sk) (l : List Bk) (k : Nat) : Nat := restW ((l.drop k).map (chB cs sl))
def unE (cs : List Cs) (sl : List Sk) (l : List Bk) (ss : List (ByteArray × Nat)) (x : Wn) (left : Nat) (k : CdW ByteArray) : Option (List (ByteArray × Nat)) := unC (l.map wnB) (roomU (l.map wnB)) ((l.drop (ss.length + 1)).map (chB cs sl)) ss x left k
def unF (cs : List Cs) (sl : List Sk) (l : List Bk) (ss : List (ByteArray × Nat)) (x : Wn) (left : Nat) (k : CdW ByteArray) (u : Nat) : Option (List (ByteArray × Nat)) := unU (l.map wnB) (roomU (l.map wnB)) ((l.drop (ss.length + 1)).map (chB cs sl)) ss x left k u
section
variable {cs : List Cs} {sl : List Sk} {l : List Bk} {ss : List (ByteArray × Nat)} {left : Nat} {b : Bk} {x : Wn} {k : CdW ByteArray}
theorem unD_end (h : l.length ≤ ss.length) : unD cs sl l ss left = some ss := by
  unfold unD
  rw [List.drop_eq_nil_of_le h]; rfl
theorem un_drop (h : l[ss.length]? = some b) : (l.drop ss.length).map (chB cs sl) = chB cs sl b :: (l.drop (ss.length + 1)).map (chB cs sl) := by
  obtain ⟨hi, rfl⟩ := List.getElem?_eq_some_iff.1 h
  rw [List.drop_eq_getElem_cons hi, List.map_cons]
theorem unD_short (h : l[ss.length]? = some b) (h2 : left < restB cs sl l ss.length) : unD cs sl l ss left = none := by
  unfold restB at h2
  unfold unD
  rw [un_drop h] at h2 ⊢
  exact un_short h2
theorem unD_at (h : l[ss.length]? = some b) (h2 : ¬ left < restB cs sl l ss.length) : unD cs sl l ss left = (chB cs sl b).findSome? (unE cs sl l ss (wnB b) left) := by
  unfold restB at h2
  unfold unD
  rw [un_drop h] at h2 ⊢
  exact un_at (by rw [List.getD_eq_getElem?_getD, List.getElem?_map, h]; rfl) h2
theorem unE_big (h : left < k.2.1 + restB cs sl l (ss.length + 1)) : unE cs sl l ss x left k = none := if_pos h
theorem unE_no (h : ¬ left < k.2.1 + restB cs sl l (ss.length + 1)) (hr : roomU (l.map wnB) ss x k = false) : unE cs sl l ss x left k = none := by
  unfold restB at h
  unfold unE unC
  rw [if_neg h, if_pos hr]
theorem unE_go (h : ¬ left < k.2.1 + restB cs sl l (ss.length + 1)) (hr : roomU (l.map wnB) ss x k = true) : unE cs sl l ss x left k = fsU (unF cs sl l ss x left k) 1 (min (higW ss k.1 + 1) k.2.2) := by
  unfold restB at h
  unfold unE unC
  rw [if_neg h, if_neg (by rw [hr]; decide)]; rfl
theorem unF_tk {u : Nat} (h : tknW (l.map wnB) ss x k.1 u = true) : unF cs sl l ss x left k u = none := if_pos h
theorem unF_go {u : Nat} (h : tknW (l.map wnB) ss x k.1 u = false) : unF cs sl l ss x left k u = unD cs sl l (ss ++ [(k.1, u)]) (left - k.2.1) := by
  unfold unF unU unD
  rw [if_neg (by rw [h]; decide), List.length_append, List.length_singleton]
end
end Go.Proofs.YtempjmpfdniecaaGreatDoor
namespace Go.Proofs.YtempjmpfdniecaaGreatDoor
open Go.RowKit
theorem Mem.gainA {c : Cx} {K : World → Prop} {L : List (Nat × TypeId × List Value)} {O : List Own} {X : List (World → Prop)} {w w' : World} {g : Nat} {T : TypeId} {cs : List Value} (h : Mem c K L O X w) (hgr : w.grownBy w' none) (hN : w.heap.size ≤ g) (hb : Blk w' g T cs) : Mem c K ((g, T, cs) :: L) O X w' := by
  have h2 := h.grow hgr
  refine ⟨h2.g, h2.k, fun x hx => ?_, List.Pairwise.cons (fun y hy e => by have h3 := (h.b y hy).2.lt; have e2 : g = y.1 := e; omega) h.nd, h2.o, fun r hr x hx => ?_, h.oo, h2.x, h.kk, h.l, h.rs⟩
  · rcases List.mem_cons.1 hx with rfl | hx
    · exact ⟨Nat.le_trans h.g.size hN, hb⟩
    · exact h2.b x hx
  · rcases List.mem_cons.1 hx with rfl | hx
    · intro e
      have := ((h.o r hr).lt g e).2
      omega
    · exact h.od r hr x hx
theorem BlkX.lasts {N : Nat} {row : Option Nat} {Tt : List TypeId} {g : Nat} {T : TypeId} {cs : List Value} (hT : Tt.contains T = true) : Lasts2 N row Tt (fun w => Blk w g T cs) := ⟨fun _ _ h hx => hx.grown h (by simp), fun w _ r T2 c h1 h2 _ h4 hx => hx.grown h4 (fun e => by
  have e2 : g = r := Option.some.inj e
  subst e2
  unfold Blk at hx
  rw [h1] at hx
  injection hx with hx
  injection hx with _ hx _
  exact h2 (by rw [hx]; simpa using hT))⟩
section
variable {P : Program} {c : Cx} {ops : Array Oper} {Q : Exit → Act → World → Prop} {rest : List Oper} {S : List (Nat × Value)} {K : World → Prop} {L : List (Nat × TypeId × List Value)} {O : List Own} {X : List (World → Prop)} {d : Nat} {ty : TypeId} {pos : String} {aft : Array Edge} {ty2 : TypeId} {pos2 : String} {aft2 : Array Edge}
/-- A copy of a struct in a new block. -/
theorem wl_allocs {t : TypeId} {y : Operand} {n : Nat} {cs vs cs' : List Value} (hz : zeroCs P t = some cs) (hd : Nat.ble (d + 1) c.n = true) (hs : rowSz P t = some n) (hy : ∀ g, rd ((d, .pointer (some ⟨g, 0, none⟩)) :: S) y = some (.agg vs.toArray)) (hx : ∀ g, rd ((d, .pointer (some ⟨g, 0, none⟩)) :: S) (.tmp d) = some (.pointer (some ⟨g, 0, none⟩))) (h1 : vs.all (·.oneCell') = true) (hn : vs.length = n) (ho : Nat.ble (0 + n) cs.length = true) (hcs : splice cs 0 vs = cs')
    (h : ∀ g, WL P c ops Q rest ((d, .pointer (some ⟨g, 0, none⟩)) :: S) K ((g, t, cs') :: L) O X) : WL P c ops Q (⟨some d, .alloc t, ty, pos, aft, none⟩ :: ⟨none, .store t (.tmp d) y, ty2, pos2, aft2, none⟩ :: rest) S K L O X := by
  intro a w ha hm
  refine wpList_plain rfl fun K' hK => ?_
  unfold zeroCs at hz
  cases hi : P.info? t with
  | none => simp [hi] at hz
  | some inf =>
    cases hzz : inf.zero with
    | none => simp [hi, hzz] at hz
    | some z =>
      simp only [hi, hzz, Option.bind_some, Option.map_some, Option.some.injEq] at hz
      unfold Oper.wp
      have : (execOp a.eval ⟨some d, .alloc t, ty, pos, aft, none⟩).run P w = .ok (.value (.pointer (some ⟨w.heap.size, 0, none⟩))) (w.alloc (.cells cs.toArray t)) := by
        subst hz
        simp [execOp, Instr.alloc, zeroValue, typeInfo, hi, hzz, newVar, newRow]
      rw [this]
      refine hK _ _ ?_
      have ha2 := ha.put hd (.pointer (some ⟨w.heap.size, 0, none⟩))
      have hb := Blk.at_ w rfl t cs
      obtain ⟨dd, hu, hr, hi⟩ := run_row hs
      subst hcs
      refine wpList_store_blk rfl t (.tmp d) y rfl w.heap.size 0 t cs vs hb (ha2.eval (hx _)) (ha2.eval (hy _)) n hi hn (Nat.le_of_ble_eq_true ho) (by simpa using h1) fun w' hb' hg => ?_
      exact h _ _ _ ⟨ha2.size, ha2.val, ha2.df⟩ (hm.gainA (grow_own (grow_alloc (World.grownBy.refl w none) _) hg (fun k e => by cases e; exact Nat.le_refl _)) (Nat.le_refl _) hb')
theorem wl_buildSlice0 {t e : TypeId} {sz : Nat} (ht : P.underlying t = some (.slice e)) (hi : (P.info? e).map (fun i => i.size) = some sz) (hd : Nat.ble (d + 1) c.n = true)
    (h : ∀ g, WL P c ops Q rest ((d, .slice (some ⟨g, 0, none⟩) 0 0) :: S) K ((g, e, []) :: L) O X) : WL P c ops Q (⟨some d, .buildSlice t 0 #[], ty, pos, aft, none⟩ :: rest) S K L O X := by
  intro a w ha hm
  refine wpList_plain rfl fun K' hK => ?_
  unfold Oper.wp
  have : (execOp a.eval ⟨some d, .buildSlice t 0 #[], ty, pos, aft, none⟩).run P w = .ok (.value (.slice (some ⟨w.heap.size, 0, none⟩) 0 0)) (w.alloc (.cells #[] e)) := by
    cases hz : P.info? e with
    | none => rw [hz] at hi; cases hi
    | some inf =>
      simp [execOp, Instr.buildSlice, run_underlying ht, sizeOf, typeInfo, hz, newRow, Instr.fill]
      exact congrArg (fun z => w.alloc (Obj.cells z e)) (Array.eq_empty_of_size_eq_zero (by simp))
  rw [this]
  exact hK _ _ (h _ _ _ (ha.put hd _) (hm.new e []))
end
theorem fits_any (l : List Bk) (A : Option Addr) (nb cb : Nat) (Ao : Option Addr) (co : Nat) (od : List Nat) (Ac : Option Addr) (cc : Nat) (cl : List ByteArray) (CV UV RV : Value) (bs : Int) (g k i : Nat) (c : ByteArray) (st mm : Nat) (w : World) (hb : Blk w g 266 [.slice A nb cb, CV, .slice Ao nb co, .slice Ac nb cc, UV, RV, .int .i64 bs]) (hl : SlT bkEnc 6 92 w A nb l) (ho : SlT nEnc 1 3 w Ao nb od) (hc : SlT sgEnc 1 9 w Ac nb cl) (hk : k ≤ nb) (hi : i < nb) (hn : nb ≤ 1000) (hco : nb ≤ co) (hord : ∀ j ∈ od, j < nb) (htm : BkTim l) :
  Calls Tryz.prog 282 #[.pointer (some ⟨g, 0, none⟩), .int .i64 ((k : Nat) : Int), .int .i64 ((i : Nat) : Int), .agg #[.string c, .int .i64 ((st : Nat) : Int), .int .i64 ((mm : Nat) : Int)]] w (fun e w' => e = .returned (.bool (roomF (plB l cl (od.take k)) (wnB (bkAt l i)) (c, st, mm))) ∧ w.grownBy w' none) := by
 refine gw_enter ⟨84, w, none, []⟩ Tryz.func282 rfl Tryz.ntmps282 rfl (mem0 (X := [BlkOld w.heap.size none g 266 [.slice A nb cb, CV, .slice Ao nb co, .slice Ac nb cc, UV, RV, .int .i64 bs], SlOld bkEnc 6 92 w.heap.size none A nb l, SlOld nEnc 1 3 w.heap.size none Ao nb od, SlOld sgEnc 1 9 w.heap.size none Ac nb cl]) (allF_cons hb.old (allF_cons hl.old (allF_cons ho.old (allF_cons hc.old allF_nil)))) (allL_cons BlkOld.lasts (allL_cons SlOld.lasts (allL_cons SlOld.lasts (allL_cons SlOld.lasts allL_nil))))) ?_
 refine sr_ ?_
 have hlen := hl.len
 have hlen2 := ho.len
 have hlen3 := hc.len
 obtain ⟨b, off, hA, _, _⟩ := hl.get (by omega)
 subst hA
 obtain ⟨bo, oo, hA, _, _⟩ := ho.get (by omega)
 subst hA
 obtain ⟨bc, oc, hA, _, _⟩ := hc.get (by omega)
 subst hA
 obtain ⟨x, hx⟩ : ∃ x, l[i]? = some x := ⟨_, List.getElem?_eq_getElem (by omega)⟩
 obtain ⟨x0, x1, x2, x3, x4, x5⟩ := x
 have hbi : bkAt l i = ⟨x0, x1, x2, x3, x4, x5⟩ := bkAt_get hx
 have hwi : wnB (bkAt l i) = (x2, x3) := by rw [hbi]; rfl
 rw [hwi]
 refine wl_box rfl rfl rfl fun g1 => ?_
 refine sg_ rfl (nn_ (sr_ ?_))
 refine wl_buildSlice0 (e := 27) (sz := 2) (by kernel_rfl) (by kernel_rfl) rfl fun g2 => ?_
 refine sg_ rfl (nn_ (gw_seq (sr_ (mv_ rfl (wl_ov (ov_nilcheck rfl) rfl (fd_ fo266_2 rfl rfl ?_))))))
 refine wl_ov (ov_load (v := .slice (some ⟨bo, oo, none⟩) nb co) sc22 rfl (fun _ hm => (hm.fact 0 rfl).2) rfl) rfl ?_
 refine mv_ rfl ?_
 refine wl_ov (ov_sliceHi (hi := k) es22 rfl rfl rfl (by omega)) rfl ?_
 refine wl_ov (ov_len es22 rfl) rfl (mv_ rfl (nn_ (gw_block ?_)))
 refine gw_toOwn (sz := 2) (n := 0) 0 [1] rfl rfl rfl (by unfold maxLen; omega) ?_
 refine gw_loop (γ := Nat × Nat × Value) (fun (gq : Nat × Nat × Value) => gq.1 ≤ k ∧ (timC (plB l cl (od.take gq.1)) (x2, x3) c).length = gq.2.1) (fun (gq : Nat × Nat × Value) => [(0, .pointer (some ⟨g, 0, none⟩)), (2, .int .i64 ((i : Nat) : Int)), (7, .pointer (some ⟨g1, 0, none⟩)), (8, .bool false), (9, gq.2.2), (20, .slice (some ⟨bo, oo, none⟩) k co), (21, .int .i64 ((k : Nat) : Int)), (22, .int .i64 ((gq.1 : Nat) : Int))]) (fun (gq : Nat × Nat × Value) => fun _ => True) (fun (gq : Nat × Nat × Value) => [(g1, 268, [.string c, .int .i64 ((st : Nat) : Int), .int .i64 ((mm : Nat) : Int)])]) (fun (gq : Nat × Nat × Value) => [⟨gq.2.2, 27, 2, gq.2.1, (timC (plB l cl (od.take gq.1)) (x2, x3) c).flatMap wEnc⟩]) (fun (gq : Nat × Nat × Value) => [BlkOld w.heap.size none g 266 [.slice (some ⟨b, off, none⟩) nb cb, CV, .slice (some ⟨bo, oo, none⟩) nb co, .slice (some ⟨bc, oc, none⟩) nb cc, UV, RV, .int .i64 bs], SlOld bkEnc 6 92 w.heap.size none (some ⟨b, off, none⟩) nb l, SlOld nEnc 1 3 w.heap.size none (some ⟨bo, oo, none⟩) nb od, SlOld sgEnc 1 9 w.heap.size none (some ⟨bc, oc, none⟩) nb cl]) (fun (gq : Nat × Nat × Value) => k - gq.1) (0, 0, .slice (some ⟨g2, 0, none⟩) 0 0) ⟨Nat.zero_le _, rfl⟩ ⟨rfl, rfl, rfl, rfl, rfl, rfl, rfl, rfl, trivial⟩ (fun _ hm => hm.pick [0] [0] [0, 1, 2, 3] rfl rfl) ?_
 rintro ⟨j, q, v⟩ hinv
 replace hinv : j ≤ k ∧ (timC (plB l cl (od.take j)) (x2, x3) c).length = q := hinv
 dsimp only
 refine sr_ ?_
 obtain ⟨hj0, hq⟩ := hinv
 refine wl_ov (ov_lss rfl rfl) rfl (nn_ (gw_seq ?_))
 refine gw_cond rfl (fun hh => ?_) (fun hh => ?_)
 ·have hj : ((j : Nat) : Int) < ((k : Nat) : Int) := by simpa using hh
  clear hh
  refine gw_skip (nx_then (gw_seq (gw_block (sr_ ?_))))
  obtain ⟨o, hoj⟩ : ∃ x, od[j]? = some x := ⟨_, List.getElem?_eq_getElem (by omega)⟩
  have hob := hord o (List.mem_of_getElem? hoj)
  have hat := timC_at (l := l) (cl := cl) (x := (x2, x3)) (c := c) hoj
  have hql := timC_len l cl (od.take j) (x2, x3) c
  rw [List.length_take] at hql
  obtain ⟨y, hy⟩ : ∃ x, l[o]? = some x := ⟨_, List.getElem?_eq_getElem (by omega)⟩
  obtain ⟨y0, y1, y2, y3, y4, y5⟩ := y
  obtain ⟨ck, hck⟩ : ∃ x, cl[o]? = some x := ⟨_, List.getElem?_eq_getElem (by omega)⟩
  rw [clAt_get hck, bkAt_get hy] at hat
  refine wl_ov (ov_index (j := j) es22 rfl rfl (by omega)) rfl ?_
  refine wl_ov (ov_elem1 (k := 0) (v := .int .i64 ((o : Nat) : Int)) sc3 rfl (fun _ hm => (hm.fact 2 rfl).1) hoj rfl rfl) rfl ?_
  refine sg_ rfl (nn_ (gw_seq ?_))
  refine gd (fun wz => Blk wz g1 268 [.string c, .int .i64 ((st : Nat) : Int), .int .i64 ((mm : Nat) : Int)] ∧ (BlkOld w.heap.size none g 266 [.slice (some ⟨b, off, none⟩) nb cb, CV, .slice (some ⟨bo, oo, none⟩) nb co, .slice (some ⟨bc, oc, none⟩) nb cc, UV, RV, .int .i64 bs]) wz ∧ (SlOld bkEnc 6 92 w.heap.size none (some ⟨b, off, none⟩) nb l) wz ∧ (SlOld nEnc 1 3 w.heap.size none (some ⟨bo, oo, none⟩) nb od) wz ∧ (SlOld sgEnc 1 9 w.heap.size none (some ⟨bc, oc, none⟩) nb cl) wz ∧ True) mixed (fun _ hm => ⟨hm.bl 0, hm.fa 0, hm.fa 1, hm.fa 2, hm.fa 3, trivial⟩) fun z => ?_
  refine wt 0 29 1 rfl z (ov_move rfl) ?_
  refine wt 1 29 3 rfl z (ov_nilcheck rfl) ?_
  refine wt 2 29 7 rfl z (ov_field fo266_3 rfl rfl) ?_
  refine wt 3 29 15 rfl z (ov_load (v := .slice (some ⟨bc, oc, none⟩) nb cc) sc103 rfl (fun _ hm => (hm.2.1).2) rfl) ?_
  refine wt 4 29 31 rfl z (ov_move rfl) ?_
  refine wt 5 29 63 rfl z (ov_index (j := o) es103 rfl rfl (by omega)) ?_
  refine wt 6 29 127 rfl z (ov_elem1 (k := 0) (v := .string ck) sc9 rfl (fun _ hm => (hm.2.2.2.2.1).1) hck rfl rfl) ?_
  refine wt 7 29 255 rfl z (ov_field fo268_0 rfl rfl) ?_
  refine wt 8 29 511 rfl z (ov_load sc9 rfl (fun _ hm => hm.1) rfl) ?_
  refine wt 9 29 1023 rfl z (ov_seql rfl rfl) ?_
  refine wt 10 29 2047 rfl z (ov_move rfl) ?_
  rcases Bool.eq_false_or_eq_true (ck.toList == c.toList) with hb3 | hb3
  ·refine wa_set 36 rfl (congrArg Value.bool hb3) ?_
   refine wto 11 29 4095 rfl rfl rfl z (ov_move rfl) ?_
   refine wto 12 29 8191 rfl rfl rfl z (ov_nilcheck rfl) ?_
   refine wto 13 29 16383 rfl rfl rfl z (ov_field fo266_0 rfl rfl) ?_
   refine wto 14 29 32767 rfl rfl rfl z (ov_load (v := .slice (some ⟨b, off, none⟩) nb cb) sc76 rfl (fun _ hm => (hm.2.1).2) rfl) ?_
   refine wto 15 29 65535 rfl rfl rfl z (ov_move rfl) ?_
   refine wto 16 29 131071 rfl rfl rfl z (ov_index (j := o) es76 rfl rfl (by omega)) ?_
   refine wto 17 29 262143 rfl rfl rfl z (ov_field fo92_2 rfl rfl) ?_
   refine wto 18 29 524287 rfl rfl rfl z (ov_elemN (k := 2) (vs := [.int .i64 y2, .int .i64 y3]) rz27 rfl (fun _ hm => (hm.2.2.1).1) hy rfl rfl rfl) ?_
   refine wto 19 29 1048575 rfl rfl rfl z (ov_move rfl) ?_
   refine wto 20 29 2097151 rfl rfl rfl z (ov_nilcheck rfl) ?_
   refine wto 21 29 4194303 rfl rfl rfl z (ov_field fo266_0 rfl rfl) ?_
   refine wto 22 29 8388607 rfl rfl rfl z (ov_load (v := .slice (some ⟨b, off, none⟩) nb cb) sc76 rfl (fun _ hm => (hm.2.1).2) rfl) ?_
   refine wto 23 29 16777215 rfl rfl rfl z (ov_move rfl) ?_
   refine wto 24 29 33554431 rfl rfl rfl z (ov_index (j := i) es76 rfl rfl (by omega)) ?_
   refine wto 25 29 67108863 rfl rfl rfl z (ov_field fo92_2 rfl rfl) ?_
   refine wto 26 29 134217727 rfl rfl rfl z (ov_elemN (k := 2) (vs := [.int .i64 x2, .int .i64 x3]) rz27 rfl (fun _ hm => (hm.2.2.1).1) hx rfl rfl rfl) ?_
   refine wa1 27 rfl ?_
   refine wl_guard_on rfl rfl rfl ?_
   refine wl_callv rfl cb161 rfl rfl (fun wx hm => (meet_any y2 y3 x2 x3 wx)) ?_
   refine wl_nil ?_
   refine nw 29 268435455 (fun _ hm => ⟨hm.bl 0, hm.fa 0, hm.fa 1, hm.fa 2, hm.fa 3, trivial⟩) fun z => ?_
   refine wt 28 29 536870911 rfl z (ov_pick_t rfl rfl) ?_
   refine wa_done (by kernel_rfl) ?_
   refine nx_then ?_
   refine gw_cond rfl (fun hh => ?_) (fun hh => ?_)
   ·have hm4 : (meetW y2 y3 x2 x3) = true := by simpa using hh
    clear hh
    refine gw_region (mv_ rfl (mv_ rfl (wl_ov (ov_nilcheck rfl) rfl (fd_ fo266_0 rfl rfl ?_))))
    refine wl_ov (ov_load (v := .slice (some ⟨b, off, none⟩) nb cb) sc76 rfl (fun _ hm => (hm.fact 0 rfl).2) rfl) rfl ?_
    refine mv_ rfl ?_
    refine wl_ov (ov_index (j := o) es76 rfl rfl (by omega)) rfl ?_
    refine fd_ fo92_2 rfl rfl ?_
    refine wl_ov (ov_elemN (k := 2) (vs := [.int .i64 y2, .int .i64 y3]) rz27 rfl (fun _ hm => (hm.fact 1 rfl).1) hy rfl rfl rfl) rfl ?_
    refine wl_buildSlice (e := 27) (cs := [.int .i64 y2, .int .i64 y3]) rfl (by kernel_rfl) rfl fun g5 => ?_
    rw [show (decide (ck = c) && mtW (wnB ⟨y0, y1, y2, y3, y4, y5⟩) (x2, x3)) = true from by rw [← tl_dec, hb3, Bool.true_and]; exact hm4, if_pos rfl] at hat
    refine wl_append (news := [.int .i64 y2, .int .i64 y3]) 0 0 ap341 rfl rfl rfl rfl rfl rfl rfl (by omega) (by unfold maxLen; omega) rfl rfl fun v2 hv2 => ?_
    rw [show (timC (plB l cl (od.take j)) (x2, x3) c).flatMap wEnc ++ ([.int .i64 y2, .int .i64 y3] : List Value) = (timC (plB l cl (od.take (j + 1))) (x2, x3) c).flatMap wEnc from by rw [hat]; simp [wEnc, wnB]]
    refine sg_ rfl (wl_nil (nx_blk_nrm (nx_then (gw_region (ad_ rfl rfl (mv_ rfl (wl_nil ?_)))))))
    exact nx_round (j + 1, q + 1, v2) ⟨by dsimp only; omega, by dsimp only; rw [hat, List.length_append, hq]; rfl⟩ (by dsimp only; omega) ⟨rfl, rfl, rfl, rfl, rfl, rfl, rfl, (some_int (by omega)), trivial⟩ (fun _ hm => hm.pick [1] [0] [0, 1, 2, 3] rfl rfl)
   have hm4 : (meetW y2 y3 x2 x3) = false := by simpa using hh
   clear hh
   refine gw_skip (nx_blk_nrm (nx_then (gw_region (ad_ rfl rfl (mv_ rfl (wl_nil ?_))))))
   rw [show (decide (ck = c) && mtW (wnB ⟨y0, y1, y2, y3, y4, y5⟩) (x2, x3)) = false from by rw [← tl_dec, hb3, Bool.true_and]; exact hm4, if_neg (by decide), List.append_nil] at hat
   rw [show (timC (plB l cl (od.take j)) (x2, x3) c) = (timC (plB l cl (od.take (j + 1))) (x2, x3) c) from hat.symm]
   exact nx_round (j + 1, q, v) ⟨by dsimp only; omega, by dsimp only; rw [hat]; exact hq⟩ (by dsimp only; omega) ⟨rfl, rfl, rfl, rfl, rfl, rfl, rfl, (some_int (by omega)), trivial⟩ (fun _ hm => hm.pick [0] [0] [0, 1, 2, 3] rfl rfl)
  refine wa_set 36 rfl (congrArg Value.bool hb3) ?_
  refine wtf 11 29 4095 rfl rfl rfl z ?_
  refine wtf 12 29 8191 rfl rfl rfl z ?_
  refine wtf 13 29 16383 rfl rfl rfl z ?_
  refine wtf 14 29 32767 rfl rfl rfl z ?_
  refine wtf 15 29 65535 rfl rfl rfl z ?_
  refine wtf 16 29 131071 rfl rfl rfl z ?_
  refine wtf 17 29 262143 rfl rfl rfl z ?_
  refine wtf 18 29 524287 rfl rfl rfl z ?_
  refine wtf 19 29 1048575 rfl rfl rfl z ?_
  refine wtf 20 29 2097151 rfl rfl rfl z ?_
  refine wtf 21 29 4194303 rfl rfl rfl z ?_
  refine wtf 22 29 8388607 rfl rfl rfl z ?_
  refine wtf 23 29 16777215 rfl rfl rfl z ?_
  refine wtf 24 29 33554431 rfl rfl rfl z ?_
  refine wtf 25 29 67108863 rfl rfl rfl z ?_
  refine wtf 26 29 134217727 rfl rfl rfl z ?_
  refine wtf 27 29 268435455 rfl rfl rfl z ?_
  refine wt 28 29 536870911 rfl z (ov_pick_f rfl rfl) ?_
  refine wa_done (by kernel_rfl) ?_
  refine nx_then (cf_ rfl (gw_skip (nx_blk_nrm (nx_then (gw_region (ad_ rfl rfl (mv_ rfl (wl_nil ?_))))))))
  rw [show (decide (ck = c) && mtW (wnB ⟨y0, y1, y2, y3, y4, y5⟩) (x2, x3)) = false from by rw [← tl_dec, hb3, Bool.false_and], if_neg (by decide), List.append_nil] at hat
  rw [show (timC (plB l cl (od.take j)) (x2, x3) c) = (timC (plB l cl (od.take (j + 1))) (x2, x3) c) from hat.symm]
  exact nx_round (j + 1, q, v) ⟨by dsimp only; omega, by dsimp only; rw [hat]; exact hq⟩ (by dsimp only; omega) ⟨rfl, rfl, rfl, rfl, rfl, rfl, rfl, (some_int (by omega)), trivial⟩ (fun _ hm => hm.pick [0] [0] [0, 1, 2, 3] rfl rfl)
 have hj : ¬ (((j : Nat) : Int) < ((k : Nat) : Int)) := by simpa using hh
 clear hh
 refine gw_exit ?_
 refine nx_then_exit (nx_then_exit ?_)
 refine nx_blk_here ?_
 refine nx_then (sr_ ?_)
 obtain rfl : j = k := by omega
 refine wl_look (R := ∃ A cc, v = .slice A q cc) (fun wx hm => own_slice (hm.ownI 0 rfl)) ?_
 rintro ⟨At, ct, rfl⟩
 refine mv_ rfl (mv_ rfl (wl_ov (ov_nilcheck rfl) rfl (fd_ fo266_0 rfl rfl ?_)))
 refine wl_ov (ov_load (v := .slice (some ⟨b, off, none⟩) nb cb) sc76 rfl (fun _ hm => (hm.fact 0 rfl).2) rfl) rfl ?_
 refine mv_ rfl ?_
 refine wl_ov (ov_index (j := i) es76 rfl rfl (by omega)) rfl ?_
 refine fd_ fo92_2 rfl rfl ?_
 refine wl_ov (ov_elemN (k := 2) (vs := [.int .i64 x2, .int .i64 x3]) rz27 rfl (fun _ hm => (hm.fact 1 rfl).1) hx rfl rfl rfl) rfl ?_
 have hql := timC_len l cl (od.take j) (x2, x3) c
 rw [List.length_take] at hql
 obtain ⟨BT, hBT⟩ : ∃ z, z = busyT (timC (plB l cl (od.take j)) (x2, x3) c) x2 x3 := ⟨_, rfl⟩
 refine wl_callv (v := .tuple #[.int .i64 BT.1, .int .i64 BT.2]) rfl cb320 rfl rfl (fun wx hm => (by rw [hBT]; exact busiest_any (timC (plB l cl (od.take j)) (x2, x3) c) At q ct x2 x3 wx (SlT.ofOwn w_len (hm.ownI 0 rfl) hq) (timC_ok htm (fun y hy => by rw [hlen]; exact hord y (List.mem_of_mem_take hy))) (by omega) (by have h5 := htm _ (List.mem_of_getElem? hx); dsimp only at h5; omega))) ?_
 refine mv_ rfl (wl_ov (ov_extract rfl rfl) rfl (wl_ov (ov_extract rfl rfl) rfl (sg_ rfl (sg_ rfl (nn_ (sr_ (mv_ rfl (fd_ fo268_2 rfl rfl (lk_ sc3 0 rfl rfl rfl (wl_ov (ov_lss rfl rfl) rfl (sg_ rfl ?_)))))))))))
 refine nn_ ?_
 refine gw_ret ?_
 refine nx_ret1 rfl rfl fun wx hm => ?_
 exact ⟨by rw [hBT]; rfl, hm.g⟩
theorem taken_any (l : List Bk) (A : Option Addr) (nb cb : Nat) (Ac : Option Addr) (cc : Nat) (cl : List ByteArray) (Au : Option Addr) (cu : Nat) (un : List Int) (CV OV RV : Value) (bs : Int) (g i u : Nat) (c : ByteArray) (s : List (ByteArray × Nat)) (w : World) (hb : Blk w g 266 [.slice A nb cb, CV, OV, .slice Ac nb cc, .slice Au nb cu, RV, .int .i64 bs]) (hl : SlT bkEnc 6 92 w A nb l) (hc : SlT sgEnc 1 9 w Ac nb cl) (hu : SlT iEnc 1 3 w Au nb un) (hst : RwOk cl un s) (hsi : s.length = i) (hi : i < nb) (hn : nb ≤ 1000) :
  Calls Tryz.prog 283 #[.pointer (some ⟨g, 0, none⟩), .int .i64 ((i : Nat) : Int), .string c, .int .i64 ((u : Nat) : Int)] w (fun e w' => e = .returned (.bool (tknW (l.map wnB) s (wnB (bkAt l i)) c u)) ∧ w.grownBy w' none) := by
 refine gw_enter ⟨54, w, none, []⟩ Tryz.func283 rfl Tryz.ntmps283 rfl (mem0 (X := [BlkOld w.heap.size none g 266 [.slice A nb cb, CV, OV, .slice Ac nb cc, .slice Au nb cu, RV, .int .i64 bs], SlOld bkEnc 6 92 w.heap.size none A nb l, SlOld sgEnc 1 9 w.heap.size none Ac nb cl, SlOld iEnc 1 3 w.heap.size none Au nb un]) (allF_cons hb.old (allF_cons hl.old (allF_cons hc.old (allF_cons hu.old allF_nil)))) (allL_cons BlkOld.lasts (allL_cons SlOld.lasts (allL_cons SlOld.lasts (allL_cons SlOld.lasts allL_nil))))) ?_
 refine sr_ ?_
 have hlen := hl.len
 have hlen2 := hu.len
 have hlen3 := hc.len
 obtain ⟨b, off, hA, _, _⟩ := hl.get (by omega)
 subst hA
 obtain ⟨bu, ou, hA, _, _⟩ := hu.get (by omega)
 subst hA
 obtain ⟨bc, oc, hA, _, _⟩ := hc.get (by omega)
 subst hA
 obtain ⟨x, hx⟩ : ∃ x, l[i]? = some x := ⟨_, List.getElem?_eq_getElem (by omega)⟩
 obtain ⟨x0, x1, x2, x3, x4, x5⟩ := x
 have hwi : wnB (bkAt l i) = (x2, x3) := by rw [bkAt_get hx]; rfl
 rw [hwi]
 refine sg_ rfl (nn_ (gw_seq (sr_ (mv_ rfl (mv_ rfl (nn_ (gw_block ?_)))))))
 refine gw_loop (γ := Nat) (fun (j : Nat) => j ≤ i ∧ ((s.zip (l.map wnB)).take j).any (tkQ (x2, x3) c u) = false) (fun (j : Nat) => [(0, .pointer (some ⟨g, 0, none⟩)), (1, .int .i64 ((i : Nat) : Int)), (2, .string c), (3, .int .i64 ((u : Nat) : Int)), (10, .int .i64 ((i : Nat) : Int)), (11, .int .i64 ((j : Nat) : Int))]) (fun (j : Nat) => fun _ => True) (fun (j : Nat) => []) (fun (j : Nat) => []) (fun (j : Nat) => [BlkOld w.heap.size none g 266 [.slice (some ⟨b, off, none⟩) nb cb, CV, OV, .slice (some ⟨bc, oc, none⟩) nb cc, .slice (some ⟨bu, ou, none⟩) nb cu, RV, .int .i64 bs], SlOld bkEnc 6 92 w.heap.size none (some ⟨b, off, none⟩) nb l, SlOld sgEnc 1 9 w.heap.size none (some ⟨bc, oc, none⟩) nb cl, SlOld iEnc 1 3 w.heap.size none (some ⟨bu, ou, none⟩) nb un]) (fun (j : Nat) => i - j) 0 ⟨Nat.zero_le _, rfl⟩ ⟨rfl, rfl, rfl, rfl, rfl, rfl, trivial⟩ (fun _ hm => hm.pick [] [] [0, 1, 2, 3] rfl rfl) ?_
 intro j hinv
 replace hinv : j ≤ i ∧ ((s.zip (l.map wnB)).take j).any (tkQ (x2, x3) c u) = false := hinv
 refine sr_ ?_
 obtain ⟨hj0, hno⟩ := hinv
 refine wl_ov (ov_lss rfl rfl) rfl (nn_ (gw_seq ?_))
 refine gw_cond rfl (fun hh => ?_) (fun hh => ?_)
 ·have hj : ((j : Nat) : Int) < ((i : Nat) : Int) := by simpa using hh
  clear hh
  refine gw_skip (nx_then (gw_seq (gw_block (sr_ ?_))))
  obtain ⟨p, hp⟩ : ∃ x, s[j]? = some x := ⟨_, List.getElem?_eq_getElem (by omega)⟩
  obtain ⟨hcp, hup⟩ := hst.at hp
  obtain ⟨y, hy⟩ : ∃ x, l[j]? = some x := ⟨_, List.getElem?_eq_getElem (by omega)⟩
  obtain ⟨y0, y1, y2, y3, y4, y5⟩ := y
  have hat := tkn_at (x := (x2, x3)) (c := c) (u := u) hp (show (l.map wnB)[j]? = some (y2, y3) by rw [List.getElem?_map, hy]; rfl)
  obtain ⟨p1, p2⟩ := p
  dsimp only at hcp hup hat
  rw [hno, Bool.false_or] at hat
  refine mv_ rfl (sg_ rfl (nn_ (gw_seq ?_)))
  refine gd (fun wz => (BlkOld w.heap.size none g 266 [.slice (some ⟨b, off, none⟩) nb cb, CV, OV, .slice (some ⟨bc, oc, none⟩) nb cc, .slice (some ⟨bu, ou, none⟩) nb cu, RV, .int .i64 bs]) wz ∧ (SlOld bkEnc 6 92 w.heap.size none (some ⟨b, off, none⟩) nb l) wz ∧ (SlOld sgEnc 1 9 w.heap.size none (some ⟨bc, oc, none⟩) nb cl) wz ∧ (SlOld iEnc 1 3 w.heap.size none (some ⟨bu, ou, none⟩) nb un) wz ∧ True) mixed (fun _ hm => ⟨hm.fa 0, hm.fa 1, hm.fa 2, hm.fa 3, trivial⟩) fun z => ?_
  refine wt 0 39 1 rfl z (ov_move rfl) ?_
  refine wt 1 39 3 rfl z (ov_nilcheck rfl) ?_
  refine wt 2 39 7 rfl z (ov_field fo266_3 rfl rfl) ?_
  refine wt 3 39 15 rfl z (ov_load (v := .slice (some ⟨bc, oc, none⟩) nb cc) sc103 rfl (fun _ hm => (hm.1).2) rfl) ?_
  refine wt 4 39 31 rfl z (ov_move rfl) ?_
  refine wt 5 39 63 rfl z (ov_index (j := j) es103 rfl rfl (by omega)) ?_
  refine wt 6 39 127 rfl z (ov_elem1 (k := 0) (v := .string p1) sc9 rfl (fun _ hm => (hm.2.2.1).1) hcp rfl rfl) ?_
  refine wt 7 39 255 rfl z (ov_move rfl) ?_
  refine wt 8 39 511 rfl z (ov_seql rfl rfl) ?_
  refine wt 9 39 1023 rfl z (ov_move rfl) ?_
  rcases Bool.eq_false_or_eq_true (p1.toList == c.toList) with hb1 | hb1
  ·refine wa_set 23 rfl (congrArg Value.bool hb1) ?_
   refine wto 10 39 2047 rfl rfl rfl z (ov_move rfl) ?_
   refine wto 11 39 4095 rfl rfl rfl z (ov_nilcheck rfl) ?_
   refine wto 12 39 8191 rfl rfl rfl z (ov_field fo266_4 rfl rfl) ?_
   refine wto 13 39 16383 rfl rfl rfl z (ov_load (v := .slice (some ⟨bu, ou, none⟩) nb cu) sc22 rfl (fun _ hm => (hm.1).2) rfl) ?_
   refine wto 14 39 32767 rfl rfl rfl z (ov_move rfl) ?_
   refine wto 15 39 65535 rfl rfl rfl z (ov_index (j := j) es22 rfl rfl (by omega)) ?_
   refine wto 16 39 131071 rfl rfl rfl z (ov_elem1 (k := 0) (v := .int .i64 ((p2 : Nat) : Int)) sc3 rfl (fun _ hm => (hm.2.2.2.1).1) hup rfl rfl) ?_
   refine wto 17 39 262143 rfl rfl rfl z (ov_move rfl) ?_
   refine wto 18 39 524287 rfl rfl rfl z (ov_eql rfl rfl) ?_
   refine wt 19 39 1048575 rfl z (ov_pick_t rfl rfl) ?_
   refine wt 20 39 2097151 rfl z (ov_move rfl) ?_
   rcases Bool.eq_false_or_eq_true (decide (((p2 : Nat) : Int) = ((u : Nat) : Int))) with hb2 | hb2
   ·refine wa_set 34 rfl (congrArg Value.bool hb2) ?_
    refine wto 21 39 4194303 rfl rfl rfl z (ov_move rfl) ?_
    refine wto 22 39 8388607 rfl rfl rfl z (ov_nilcheck rfl) ?_
    refine wto 23 39 16777215 rfl rfl rfl z (ov_field fo266_0 rfl rfl) ?_
    refine wto 24 39 33554431 rfl rfl rfl z (ov_load (v := .slice (some ⟨b, off, none⟩) nb cb) sc76 rfl (fun _ hm => (hm.1).2) rfl) ?_
    refine wto 25 39 67108863 rfl rfl rfl z (ov_move rfl) ?_
    refine wto 26 39 134217727 rfl rfl rfl z (ov_index (j := j) es76 rfl rfl (by omega)) ?_
    refine wto 27 39 268435455 rfl rfl rfl z (ov_field fo92_2 rfl rfl) ?_
    refine wto 28 39 536870911 rfl rfl rfl z (ov_elemN (k := 2) (vs := [.int .i64 y2, .int .i64 y3]) rz27 rfl (fun _ hm => (hm.2.1).1) hy rfl rfl rfl) ?_
    refine wto 29 39 1073741823 rfl rfl rfl z (ov_move rfl) ?_
    refine wto 30 39 2147483647 rfl rfl rfl z (ov_nilcheck rfl) ?_
    refine wto 31 39 4294967295 rfl rfl rfl z (ov_field fo266_0 rfl rfl) ?_
    refine wto 32 39 8589934591 rfl rfl rfl z (ov_load (v := .slice (some ⟨b, off, none⟩) nb cb) sc76 rfl (fun _ hm => (hm.1).2) rfl) ?_
    refine wto 33 39 17179869183 rfl rfl rfl z (ov_move rfl) ?_
    refine wto 34 39 34359738367 rfl rfl rfl z (ov_index (j := i) es76 rfl rfl (by omega)) ?_
    refine wto 35 39 68719476735 rfl rfl rfl z (ov_field fo92_2 rfl rfl) ?_
    refine wto 36 39 137438953471 rfl rfl rfl z (ov_elemN (k := 2) (vs := [.int .i64 x2, .int .i64 x3]) rz27 rfl (fun _ hm => (hm.2.1).1) hx rfl rfl rfl) ?_
    refine wa1 37 rfl ?_
    refine wl_guard_on rfl rfl rfl ?_
    refine wl_callv rfl cb161 rfl rfl (fun wx hm => (meet_any y2 y3 x2 x3 wx)) ?_
    refine wl_nil ?_
    refine nw 39 274877906943 (fun _ hm => ⟨hm.fa 0, hm.fa 1, hm.fa 2, hm.fa 3, trivial⟩) fun z => ?_
    refine wt 38 39 549755813887 rfl z (ov_pick_t rfl rfl) ?_
    refine wa_done (by kernel_rfl) ?_
    refine nx_then ?_
    refine gw_cond rfl (fun hh => ?_) (fun hh => ?_)
    ·have hm3 : (meetW y2 y3 x2 x3) = true := by simpa using hh
     clear hh
     refine sr_ (sg_ rfl (nn_ ?_))
     refine gw_ret ?_
     refine nx_blk_ret (nx_then_ret (nx_then_ret (nx_blk_ret (nx_then_ret ?_))))
     have hA : (decide (p1 = c) && decide (p2 = u) && mtW (y2, y3) (x2, x3)) = true := by rw [← tl_dec, hb1, show decide (p2 = u) = decide (((p2 : Nat) : Int) = ((u : Nat) : Int)) from by rw [decide_eq_decide]; omega, hb2, Bool.and_true, Bool.true_and]; exact hm3
     rw [hA] at hat
     refine nx_ret1 rfl rfl fun wx hm => ?_
     exact ⟨by rw [tkn_yes hat], hm.g⟩
    have hm3 : (meetW y2 y3 x2 x3) = false := by simpa using hh
    clear hh
    refine gw_skip (nx_blk_nrm (nx_then (gw_region (ad_ rfl rfl (mv_ rfl (wl_nil ?_))))))
    have hA : (decide (p1 = c) && decide (p2 = u) && mtW (y2, y3) (x2, x3)) = false := by rw [← tl_dec, hb1, show decide (p2 = u) = decide (((p2 : Nat) : Int) = ((u : Nat) : Int)) from by rw [decide_eq_decide]; omega, hb2, Bool.and_true, Bool.true_and]; exact hm3
    rw [hA] at hat
    exact nx_round (j + 1) ⟨by omega, hat⟩ (by omega) ⟨rfl, rfl, rfl, rfl, rfl, (some_int (by omega)), trivial⟩ (fun _ hm => hm.pick [] [] [0, 1, 2, 3] rfl rfl)
   refine wa_set 34 rfl (congrArg Value.bool hb2) ?_
   refine wtf 21 39 4194303 rfl rfl rfl z ?_
   refine wtf 22 39 8388607 rfl rfl rfl z ?_
   refine wtf 23 39 16777215 rfl rfl rfl z ?_
   refine wtf 24 39 33554431 rfl rfl rfl z ?_
   refine wtf 25 39 67108863 rfl rfl rfl z ?_
   refine wtf 26 39 134217727 rfl rfl rfl z ?_
   refine wtf 27 39 268435455 rfl rfl rfl z ?_
   refine wtf 28 39 536870911 rfl rfl rfl z ?_
   refine wtf 29 39 1073741823 rfl rfl rfl z ?_
   refine wtf 30 39 2147483647 rfl rfl rfl z ?_
   refine wtf 31 39 4294967295 rfl rfl rfl z ?_
   refine wtf 32 39 8589934591 rfl rfl rfl z ?_
   refine wtf 33 39 17179869183 rfl rfl rfl z ?_
   refine wtf 34 39 34359738367 rfl rfl rfl z ?_
   refine wtf 35 39 68719476735 rfl rfl rfl z ?_
   refine wtf 36 39 137438953471 rfl rfl rfl z ?_
   refine wtf 37 39 274877906943 rfl rfl rfl z ?_
   refine wt 38 39 549755813887 rfl z (ov_pick_f rfl rfl) ?_
   refine wa_done (by kernel_rfl) ?_
   refine nx_then (cf_ rfl (gw_skip (nx_blk_nrm (nx_then (gw_region (ad_ rfl rfl (mv_ rfl (wl_nil ?_))))))))
   have hA : (decide (p1 = c) && decide (p2 = u) && mtW (y2, y3) (x2, x3)) = false := by rw [← tl_dec, hb1, show decide (p2 = u) = decide (((p2 : Nat) : Int) = ((u : Nat) : Int)) from by rw [decide_eq_decide]; omega, hb2, Bool.and_false, Bool.false_and]
   rw [hA] at hat
   exact nx_round (j + 1) ⟨by omega, hat⟩ (by omega) ⟨rfl, rfl, rfl, rfl, rfl, (some_int (by omega)), trivial⟩ (fun _ hm => hm.pick [] [] [0, 1, 2, 3] rfl rfl)
  refine wa_set 23 rfl (congrArg Value.bool hb1) ?_
  refine wtf 10 39 2047 rfl rfl rfl z ?_
  refine wtf 11 39 4095 rfl rfl rfl z ?_
  refine wtf 12 39 8191 rfl rfl rfl z ?_
  refine wtf 13 39 16383 rfl rfl rfl z ?_
  refine wtf 14 39 32767 rfl rfl rfl z ?_
  refine wtf 15 39 65535 rfl rfl rfl z ?_
  refine wtf 16 39 131071 rfl rfl rfl z ?_
  refine wtf 17 39 262143 rfl rfl rfl z ?_
  refine wtf 18 39 524287 rfl rfl rfl z ?_
  refine wt 19 39 1048575 rfl z (ov_pick_f rfl rfl) ?_
  refine wt 20 39 2097151 rfl z (ov_move rfl) ?_
  refine wtf 21 39 4194303 rfl rfl rfl z ?_
  refine wtf 22 39 8388607 rfl rfl rfl z ?_
  refine wtf 23 39 16777215 rfl rfl rfl z ?_
  refine wtf 24 39 33554431 rfl rfl rfl z ?_
  refine wtf 25 39 67108863 rfl rfl rfl z ?_
  refine wtf 26 39 134217727 rfl rfl rfl z ?_
  refine wtf 27 39 268435455 rfl rfl rfl z ?_
  refine wtf 28 39 536870911 rfl rfl rfl z ?_
  refine wtf 29 39 1073741823 rfl rfl rfl z ?_
  refine wtf 30 39 2147483647 rfl rfl rfl z ?_
  refine wtf 31 39 4294967295 rfl rfl rfl z ?_
  refine wtf 32 39 8589934591 rfl rfl rfl z ?_
  refine wtf 33 39 17179869183 rfl rfl rfl z ?_
  refine wtf 34 39 34359738367 rfl rfl rfl z ?_
  refine wtf 35 39 68719476735 rfl rfl rfl z ?_
  refine wtf 36 39 137438953471 rfl rfl rfl z ?_
  refine wtf 37 39 274877906943 rfl rfl rfl z ?_
  refine wt 38 39 549755813887 rfl z (ov_pick_f rfl rfl) ?_
  refine wa_done (by kernel_rfl) ?_
  refine nx_then (cf_ rfl (gw_skip (nx_blk_nrm (nx_then (gw_region (ad_ rfl rfl (mv_ rfl (wl_nil ?_))))))))
  have hA : (decide (p1 = c) && decide (p2 = u) && mtW (y2, y3) (x2, x3)) = false := by rw [← tl_dec, hb1, Bool.false_and, Bool.false_and]
  rw [hA] at hat
  exact nx_round (j + 1) ⟨by omega, hat⟩ (by omega) ⟨rfl, rfl, rfl, rfl, rfl, (some_int (by omega)), trivial⟩ (fun _ hm => hm.pick [] [] [0, 1, 2, 3] rfl rfl)
 have hj : ¬ (((j : Nat) : Int) < ((i : Nat) : Int)) := by simpa using hh
 clear hh
 refine gw_exit ?_
 refine nx_then_exit (nx_then_exit ?_)
 refine nx_blk_here ?_
 refine nx_then (sr_ (sg_ rfl (nn_ ?_)))
 refine gw_ret ?_
 refine nx_ret1 rfl rfl fun wx hm => ?_
 exact ⟨by rw [tkn_all (by omega)] at hno; rw [hno], hm.g⟩
end Go.Proofs.YtempjmpfdniecaaGreatDoor
namespace Go.Proofs.YtempjmpfdniecaaGreatDoor
open Go.RowKit
theorem choicesP_any (cs : List Cs) (A0 : Option Addr) (n0 c0 : Nat) (sl : List Sk) (A1 : Option Addr) (n1 c1 : Nat) (l : List Bk) (A : Option Addr) (n c : Nat) (w : World) (hcs : SlT csEnc 2 158 w A0 n0 cs) (hco : ∀ x ∈ cs, CsOk x) (hn0 : n0 ≤ 1000) (hs : SlT skEnc 2 211 w A1 n1 sl) (hso : ∀ x ∈ sl, SkOk x) (hn1 : n1 ≤ 1000) (hl : SlT bkEnc 6 92 w A n l) (hn : n ≤ 1000) (hkeys : ∀ b ∈ l, keysE cs [b.cls] = 0) :
  Calls Tryz.prog 220 #[.slice A0 n0 c0, .slice A1 n1 c1, .slice A n c] w (fun e w' => ∃ (A9 : Option Addr) (c9 : Nat) (cx : List ChS), e = .returned (.slice A9 n c9) ∧ SlT csnEnc 1 269 w' A9 n cx ∧ Chs 268 cx w' ∧ cx.map ChS.l = l.map (chB cs sl) ∧ w.grownBy w' none) := by
 refine gw_enter ⟨59, w, none, []⟩ Tryz.func220 rfl Tryz.ntmps220 rfl (mem0 (X := [SlOld csEnc 2 158 w.heap.size none A0 n0 cs, SlOld skEnc 2 211 w.heap.size none A1 n1 sl, SlOld bkEnc 6 92 w.heap.size none A n l]) (allF_cons hcs.old (allF_cons hs.old (allF_cons hl.old allF_nil))) (allL_cons SlOld.lasts (allL_cons SlOld.lasts (allL_cons SlOld.lasts allL_nil)))) ?_
 refine sr_ ?_
 have hlen := hl.len
 have hlen0 := hcs.len
 refine sg_ rfl (nn_ (sr_ (sg_ rfl (nn_ (gw_seq (sr_ (mv_ rfl (wl_ov (ov_len es76 rfl) rfl (mv_ rfl ?_)))))))))
 refine nn_ (gw_block ?_)
 refine gw_nilOwn 269 1 ?_
 refine gw_loop (γ := Nat × Value × List ChS) (fun g => g.1 ≤ n ∧ g.2.2.map ChS.l = (l.take g.1).map (chB cs sl) ∧ ∀ x ∈ g.2.2, x.l.length = x.n) (fun g => [(0, .slice A0 n0 c0), (1, .slice A1 n1 c1), (6, .slice none 0 0), (7, g.2.1), (16, .slice A n c), (17, .int .i64 ((n : Nat) : Int)), (18, .int .i64 ((g.1 : Nat) : Int))]) (fun g => fun _ => True) (fun g => []) (fun g => (([⟨g.2.1, 269, 1, g.1, g.2.2.flatMap csnEnc⟩] : List Own) ++ famC 268 g.2.2)) (fun g => [SlOld csEnc 2 158 w.heap.size none A0 n0 cs, SlOld skEnc 2 211 w.heap.size none A1 n1 sl, SlOld bkEnc 6 92 w.heap.size none A n l]) (fun g => n - g.1) (0, .slice none 0 0, []) ⟨Nat.zero_le _, rfl, fun _ h => by cases h⟩ ⟨rfl, rfl, rfl, rfl, rfl, rfl, rfl, trivial⟩ (fun _ hm => hm.pick [] [0] [0, 1, 2] rfl rfl) ?_
 rintro ⟨i, v, cx⟩ hinv
 replace hinv : i ≤ n ∧ cx.map ChS.l = (l.take i).map (chB cs sl) ∧ ∀ x ∈ cx, x.l.length = x.n := hinv
 dsimp only
 refine sr_ ?_
 obtain ⟨hi0, hcx, hcn⟩ := hinv
 refine wl_ov (ov_lss rfl rfl) rfl (nn_ (gw_seq ?_))
 refine gw_cond rfl (fun hh => ?_) (fun hh => ?_)
 ·have hi : ((i : Nat) : Int) < ((n : Nat) : Int) := by simpa using hh
  clear hh
  refine gw_skip (nx_then (gw_seq (gw_block (sr_ ?_))))
  obtain ⟨b, off, hA, _, _⟩ := hl.get (by omega)
  subst hA
  obtain ⟨x, hx⟩ : ∃ x, l[i]? = some x := ⟨_, List.getElem?_eq_getElem (by omega)⟩
  obtain ⟨x0, x1, x2, x3, x4, x5⟩ := x
  have hkey := hkeys _ (List.mem_of_getElem? hx)
  dsimp only at hkey
  obtain ⟨KS, hKS⟩ : ∃ z, z = clsF cs (⟨x0, x1, x2, x3, x4, x5⟩ : Bk) := ⟨_, rfl⟩
  have hks : ([.string x1] : List Value) ++ (pathN cs n0 x1).flatMap sgEnc = KS.flatMap sgEnc := by
   rw [hKS]
   show _ = (x1 :: pathN cs cs.length x1).flatMap sgEnc
   rw [hlen0]; rfl
  have hkl : KS.length = 1 + (pathN cs n0 x1).length := by
   rw [hKS]
   show (x1 :: pathN cs cs.length x1).length = _
   rw [hlen0, List.length_cons]; omega
  have hpn := pathN_len cs n0 x1
  refine wl_ov (ov_index (j := i) es76 rfl rfl (by omega)) rfl ?_
  refine wl_ov (ov_elem (vs := [.string x0, .string x1, .int .i64 x2, .int .i64 x3, .int .i64 x4, .int .i64 x5]) rz92 rfl (fun _ hm => (hm.fact 2 rfl).1) hx rfl rfl) rfl ?_
  refine wl_alloc zc92 rfl fun g1 => ?_
  refine wl_stores (cs' := [.string x0, .string x1, .int .i64 x2, .int .i64 x3, .int .i64 x4, .int .i64 x5]) 0 rz92 rfl rfl rfl rfl rfl rfl rfl rfl ?_
  refine nn_ (sr_ (mv_ rfl (fd_ fo92_1 rfl rfl (lk_ sc9 0 rfl rfl rfl ?_))))
  refine wl_callgo (γ := Option Addr × Nat × Nat) (val := (fun g => .tuple #[.slice g.1 g.2.1 g.2.2, .int .i64 0])) (φ := (fun g => (pathN cs n0 x1).length = g.2.1)) (fun g => ⟨.slice g.1 g.2.1 g.2.2, 9, 1, g.2.1, (pathN cs n0 x1).flatMap sgEnc⟩) rfl cb157 rfl rfl (fun wx hm => (above_right cs A0 n0 c0 x1 wx (hm.fact 0 rfl).1 hco (by omega) hkey).mono fun _ _ ⟨A2, n2, c2, he, ho, hl2, hg⟩ => ⟨(A2, n2, c2), he, hl2, ho, hg⟩) ?_
  rintro ⟨A2, n2, c2⟩ hpl
  dsimp only at hpl ⊢
  refine mv_ rfl (wl_ov (ov_extract rfl rfl) rfl (wl_ov (ov_extract rfl rfl) rfl (sg_ rfl (sg_ rfl (nn_ (sr_ (sg_ rfl (nn_ (gw_seq (gw_seq ?_))))))))))
  refine gw_region (fd_ fo92_1 rfl rfl (lk_ sc9 0 rfl rfl rfl ?_))
  refine wl_buildSlice (e := 9) (cs := [.string x1]) rfl (by kernel_rfl) rfl fun g2 => ?_
  refine mv_ rfl ?_
  refine wl_toOwn (sz := 1) (n := 1) 0 [1] rfl rfl rfl (by unfold maxLen; omega) ?_
  refine wl_appendO 0 1 ap103 rfl rfl rfl rfl (flat_one sgEnc sg_one _) (by omega) (by unfold maxLen; omega) rfl rfl fun v2 hv => ?_
  rw [hks]
  refine wl_look (R := ∃ A cc, v2 = .slice A (1 + n2) cc) (fun wx hm => own_slice (hm.ownI 0 rfl)) ?_
  rintro ⟨A5, c5, rfl⟩
  have hKl : KS.length = 1 + n2 := by omega
  refine wl_nilOwn 268 3 ?_
  refine wl_ov (ov_len es103 rfl) rfl (mv_ rfl (nn_ (gw_block ?_)))
  refine gw_loop (γ := Nat × Nat × Value) (fun gg => gg.1 ≤ 1 + n2 ∧ (chT sl KS gg.1).length = gg.2.1) (fun gg => [(0, .slice A0 n0 c0), (1, .slice A1 n1 c1), (6, .slice none 0 0), (7, v), (12, gg.2.2), (16, .slice (some ⟨b, off, none⟩) n c), (17, .int .i64 ((n : Nat) : Int)), (18, .int .i64 ((i : Nat) : Int)), (33, .slice A5 (1 + n2) c5), (34, .int .i64 ((1 + n2 : Nat) : Int)), (35, .int .i64 ((gg.1 : Nat) : Int))]) (fun gg => fun _ => True) (fun gg => [(g1, 92, [.string x0, .string x1, .int .i64 x2, .int .i64 x3, .int .i64 x4, .int .i64 x5])]) (fun gg => (([⟨gg.2.2, 268, 3, gg.2.1, (chT sl KS gg.1).flatMap cdEnc⟩, ⟨.slice A5 (1 + n2) c5, 9, 1, 1 + n2, KS.flatMap sgEnc⟩, ⟨v, 269, 1, i, cx.flatMap csnEnc⟩] : List Own) ++ famC 268 cx)) (fun gg => [SlOld csEnc 2 158 w.heap.size none A0 n0 cs, SlOld skEnc 2 211 w.heap.size none A1 n1 sl, SlOld bkEnc 6 92 w.heap.size none (some ⟨b, off, none⟩) n l]) (fun gg => 1 + n2 - gg.1) (0, 0, .slice none 0 0) ⟨Nat.zero_le _, rfl⟩ ⟨rfl, rfl, rfl, rfl, rfl, rfl, rfl, rfl, rfl, rfl, rfl, trivial⟩ (fun _ hm => Mem.pickT (O := [⟨.slice none 0 0, 268, 3, 0, []⟩, ⟨.slice A5 (1 + n2) c5, 9, 1, 1 + n2, KS.flatMap sgEnc⟩, ⟨.slice A2 n2 c2, 9, 1, n2, (pathN cs n0 x1).flatMap sgEnc⟩, ⟨v, 269, 1, i, cx.flatMap csnEnc⟩]) (F := famC 268 cx) hm [0] [0, 1, 3] [0, 1, 2] rfl rfl) ?_
  rintro ⟨j, q, vc⟩ hinv
  replace hinv : j ≤ 1 + n2 ∧ (chT sl KS j).length = q := hinv
  dsimp only
  refine sr_ ?_
  obtain ⟨hj0, hq⟩ := hinv
  refine wl_ov (ov_lss rfl rfl) rfl (nn_ (gw_seq ?_))
  refine gw_cond rfl (fun hh => ?_) (fun hh => ?_)
  ·have hj : ((j : Nat) : Int) < ((1 + n2 : Nat) : Int) := by simpa using hh
   clear hh
   refine gw_skip (nx_then (gw_seq (gw_block (sr_ ?_))))
   refine wl_look (R := ∃ g, A5 = some ⟨g, 0, none⟩) (fun wx hm => own_addr (hm.ownI 1 rfl) (by omega)) ?_
   rintro ⟨gk7, rfl⟩
   obtain ⟨ck, hck⟩ : ∃ x, KS[j]? = some x := ⟨_, List.getElem?_eq_getElem (by omega)⟩
   have hat := chT_at (sl := sl) hck
   have hcl := chT_len sl KS j
   refine mv_ rfl ?_
   refine wl_ov (ov_index (j := j) es103 rfl rfl (by omega)) rfl ?_
   refine wl_ov (ov_elem1 (k := 0) (v := .string ck) sc9 rfl (fun _ hm => (SlT.ofOwn sg_len (hm.ownI 1 rfl) hKl)) hck rfl rfl) rfl ?_
   refine sg_ rfl (sg_ rfl (nn_ (sr_ (mv_ rfl (mv_ rfl ?_)))))
   refine wl_callv rfl cb158 rfl rfl (fun wx hm => (many_any sl A1 n1 c1 ck wx (hm.fact 1 rfl).1 hso (by omega))) ?_
   refine sg_ rfl (nn_ (sr_ (mv_ rfl ?_)))
   refine wl_ov (ov_gtr rfl rfl) rfl ?_
   refine nn_ ?_
   refine gw_cond rfl (fun hh => ?_) (fun hh => ?_)
   ·have hm0 : 0 < manyV sl ck := by simpa using hh
    clear hh
    refine gw_region ?_
    have hcap : manyV sl ck = ((capB sl ck : Nat) : Int) := by unfold capB; omega
    rw [if_pos (show 0 < capB sl ck by omega)] at hat
    refine wl_set 15 (v' := .int .i64 ((capB sl ck : Nat) : Int)) rfl (congrArg (Value.int .i64) hcap) ?_
    refine mv_ rfl (mv_ rfl (mv_ rfl (mv_ rfl ?_)))
    refine wl_ov (ov_build (cs := [.string ck, .int .i64 ((j : Nat) : Int), .int .i64 ((capB sl ck : Nat) : Int)]) rfl (by kernel_rfl)) rfl ?_
    refine wl_buildSlice (e := 268) (cs := [.string ck, .int .i64 ((j : Nat) : Int), .int .i64 ((capB sl ck : Nat) : Int)]) rfl (by kernel_rfl) rfl fun g3 => ?_
    refine wl_append (news := [.string ck, .int .i64 ((j : Nat) : Int), .int .i64 ((capB sl ck : Nat) : Int)]) 0 0 ap269 rfl rfl rfl rfl rfl rfl rfl (by omega) (by unfold maxLen; omega) rfl rfl fun v3 hv3 => ?_
    rw [show (chT sl KS j).flatMap cdEnc ++ ([.string ck, .int .i64 ((j : Nat) : Int), .int .i64 ((capB sl ck : Nat) : Int)] : List Value) = (chT sl KS (j + 1)).flatMap cdEnc from by rw [hat]; simp [cdEnc]]
    refine sg_ rfl (wl_nil (nx_blk_nrm (nx_then (gw_region (ad_ rfl rfl (mv_ rfl (wl_nil ?_)))))))
    exact nx_round (j + 1, q + 1, v3) ⟨by dsimp only; omega, by dsimp only; rw [hat, List.length_append, hq]; rfl⟩ (by dsimp only; omega) ⟨rfl, rfl, rfl, rfl, rfl, rfl, rfl, rfl, rfl, rfl, (some_int (by omega)), trivial⟩ (fun _ hm => Mem.pickT (O := [⟨v3, 268, 3, q + 1, (chT sl KS (j + 1)).flatMap cdEnc⟩, ⟨.slice (some ⟨gk7, 0, none⟩) (1 + n2) c5, 9, 1, 1 + n2, KS.flatMap sgEnc⟩, ⟨v, 269, 1, i, cx.flatMap csnEnc⟩]) (F := famC 268 cx) hm [1] [0, 1, 2] [0, 1, 2] rfl rfl)
   have hm0 : ¬ (0 < manyV sl ck) := by simpa using hh
   clear hh
   refine gw_skip (nx_blk_nrm (nx_then (gw_region ?_)))
   rw [if_neg (show ¬ 0 < capB sl ck by unfold capB; omega), List.append_nil] at hat
   rw [show chT sl KS j = chT sl KS (j + 1) from hat.symm]
   refine ad_ rfl rfl (mv_ rfl (wl_nil ?_))
   exact nx_round (j + 1, q, vc) ⟨by dsimp only; omega, by dsimp only; rw [hat]; exact hq⟩ (by dsimp only; omega) ⟨rfl, rfl, rfl, rfl, rfl, rfl, rfl, rfl, rfl, rfl, (some_int (by omega)), trivial⟩ (fun _ hm => Mem.pickT (O := [⟨vc, 268, 3, q, (chT sl KS (j + 1)).flatMap cdEnc⟩, ⟨.slice (some ⟨gk7, 0, none⟩) (1 + n2) c5, 9, 1, 1 + n2, KS.flatMap sgEnc⟩, ⟨v, 269, 1, i, cx.flatMap csnEnc⟩]) (F := famC 268 cx) hm [0] [0, 1, 2] [0, 1, 2] rfl rfl)
  have hj : ¬ (((j : Nat) : Int) < ((1 + n2 : Nat) : Int)) := by simpa using hh
  clear hh
  refine gw_exit ?_
  refine nx_then_exit (nx_then_exit ?_)
  refine nx_blk_here ?_
  refine nx_then (gw_region ?_)
  have hall : chT sl KS j = chB cs sl (⟨x0, x1, x2, x3, x4, x5⟩ : Bk) := by rw [chT_end (by omega), hKS]; rfl
  rw [hall] at hq ⊢
  refine wl_look (R := ∃ A cc, vc = .slice A q cc) (fun wx hm => own_slice (hm.ownI 0 rfl)) ?_
  rintro ⟨Ac, cc, rfl⟩
  refine mv_ rfl (mv_ rfl ?_)
  refine wl_buildSlice (e := 269) (cs := [.slice Ac q cc]) rfl (by kernel_rfl) rfl fun g4 => ?_
  refine wl_append (news := [.slice Ac q cc]) 2 0 ap263 rfl rfl rfl rfl rfl rfl rfl (by omega) (by unfold maxLen; omega) rfl rfl fun v4 hv4 => ?_
  rw [show cx.flatMap csnEnc ++ ([.slice Ac q cc] : List Value) = (cx ++ [(⟨Ac, q, cc, chB cs sl (⟨x0, x1, x2, x3, x4, x5⟩ : Bk)⟩ : ChS)]).flatMap csnEnc from by simp [csnEnc]]
  refine sg_ rfl (wl_nil (nx_blk_nrm (nx_then (gw_region (ad_ rfl rfl (mv_ rfl (wl_nil ?_)))))))
  exact nx_round (i + 1, v4, cx ++ [(⟨Ac, q, cc, chB cs sl (⟨x0, x1, x2, x3, x4, x5⟩ : Bk)⟩ : ChS)]) ⟨by dsimp only; omega, by dsimp only; rw [List.map_append, hcx, List.take_add_one, hx, Option.toList_some, List.map_append]; rfl, fun y hy => by
   rcases List.mem_append.1 hy with hy | hy
   ·exact hcn y hy
   rw [List.mem_singleton.1 hy]; exact hq⟩ (by dsimp only; omega) ⟨rfl, rfl, rfl, rfl, rfl, rfl, (some_int (by omega)), trivial⟩ (fun _ hm => (Mem.pickT (O := [⟨.slice Ac q cc, 268, 3, q, (chB cs sl (⟨x0, x1, x2, x3, x4, x5⟩ : Bk)).flatMap cdEnc⟩, ⟨.slice A5 (1 + n2) c5, 9, 1, 1 + n2, KS.flatMap sgEnc⟩, ⟨v4, 269, 1, i + 1, (cx ++ [(⟨Ac, q, cc, chB cs sl (⟨x0, x1, x2, x3, x4, x5⟩ : Bk)⟩ : ChS)]).flatMap csnEnc⟩]) (F := famC 268 cx) hm [] [0, 2] [0, 1, 2] rfl rfl).famSnoc)
 have hi : ¬ (((i : Nat) : Int) < ((n : Nat) : Int)) := by simpa using hh
 clear hh
 refine gw_exit ?_
 refine nx_then_exit (nx_then_exit ?_)
 refine nx_blk_here ?_
 refine nx_then (sr_ ?_)
 have hin : i = n := by omega
 subst hin
 rw [List.take_of_length_le (by omega)] at hcx
 have hcl : cx.length = i := by have h := congrArg List.length hcx; rw [List.length_map, List.length_map] at h; omega
 refine wl_look (R := ∃ A cc, v = .slice A i cc) (fun wx hm => own_slice (hm.ownI 0 rfl)) ?_
 rintro ⟨Au, cu, rfl⟩
 refine mv_ rfl (sg_ rfl (nn_ ?_))
 refine gw_ret ?_
 refine nx_ret1 rfl rfl fun wx hm => ?_
 exact ⟨Au, cu, cx, rfl, SlT.ofOwn csn_len (hm.ownI 0 rfl) hcl, Mem.famChs (O := [⟨.slice Au i cu, 269, 1, i, cx.flatMap csnEnc⟩]) hm hcn, hcx, hm.g⟩
end Go.Proofs.YtempjmpfdniecaaGreatDoor
namespace Go.Proofs.YtempjmpfdniecaaGreatDoor
open Go.RowKit
def gPow : Nat := 3
def gMax : Nat := 0
def gSyn : Nat := 1
def gRan : Nat := 2
/-- The package variables that numbers and texts are read and written with. -/
def TxtW (w : World) : Prop :=
  (∃ T f, w.heap[gPow]? = some (.cells (Lib.pow10Tab.map fun z => Value.int .u64 z).toArray T f)) ∧
  (∃ cs T f m, w.heap[gMax]? = some (.cells cs T f) ∧ cs[0]? = some (.int .i64 m)) ∧
  (∃ T f tp p, w.heap[gSyn]? = some (.cells #[.iface tp p] T f)) ∧
  (∃ T f tp p, w.heap[gRan]? = some (.cells #[.iface tp p] T f))
def isG (k : Nat) : Prop := k = gPow ∨ k = gMax ∨ k = gSyn ∨ k = gRan
theorem TxtW.lt {w : World} (h : TxtW w) {k : Nat} (hk : isG k) : k < w.heap.size := by
  obtain ⟨⟨_, _, h1⟩, ⟨_, _, _, _, h2, _⟩, ⟨_, _, _, _, h3⟩, ⟨_, _, _, _, h4⟩⟩ := h
  rcases hk with rfl | rfl | rfl | rfl
  · exact (Array.getElem?_eq_some_iff.1 h1).1
  · exact (Array.getElem?_eq_some_iff.1 h2).1
  · exact (Array.getElem?_eq_some_iff.1 h3).1
  · exact (Array.getElem?_eq_some_iff.1 h4).1
theorem TxtW.same {w w' : World} (h : TxtW w) (hk : ∀ k, isG k → w'.heap[k]? = w.heap[k]?) : TxtW w' := by
  obtain ⟨⟨T1, f1, h1⟩, ⟨cs, T2, f2, m, h2, h2b⟩, ⟨T3, f3, t3, p3, h3⟩, ⟨T4, f4, t4, p4, h4⟩⟩ := h
  exact ⟨⟨T1, f1, (hk _ (.inl rfl)).trans h1⟩, ⟨cs, T2, f2, m, (hk _ (.inr (.inl rfl))).trans h2, h2b⟩, ⟨T3, f3, t3, p3, (hk _ (.inr (.inr (.inl rfl)))).trans h3⟩, ⟨T4, f4, t4, p4, (hk _ (.inr (.inr (.inr rfl)))).trans h4⟩⟩
/-- .. and they are old: nothing that is made, and no row that turns, is one of them. -/
def TxtO (N : Nat) (row : Option Nat) (w : World) : Prop := TxtW w ∧ ∀ k, isG k → k < N ∧ row ≠ some k
theorem TxtW.old {w : World} (h : TxtW w) : TxtO w.heap.size none w := ⟨h, fun _ hk => ⟨h.lt hk, fun e => by cases e⟩⟩
theorem TxtO.lasts {N : Nat} {row : Option Nat} {Tt : List TypeId} : Lasts2 N row Tt (TxtO N row) :=
  ⟨fun _ _ hg h => ⟨h.1.same fun k hk => hg.block k (h.1.lt hk) (fun e => by cases e), h.2⟩,
   fun w w' r T c _ _ h3 hg h => ⟨h.1.same fun k hk => hg.block k (h.1.lt hk) (fun e => by
      have e2 : k = r := by injection e
      subst e2
      have := h.2 k hk
      rcases h3 with h3 | h3
      · omega
      · exact this.2 h3), h.2⟩⟩
theorem TxtW.max {w : World} (h : TxtW w) : ∃ m, w.cell? ⟨gMax, 0, none⟩ = some (.int .i64 m) := by
  obtain ⟨_, ⟨cs, T2, f2, m, h2, h2b⟩, _⟩ := h
  exact ⟨m, by simp [World.cell?, h2, h2b]⟩
end Go.Proofs.YtempjmpfdniecaaGreatDoor
namespace Go.Proofs.YtempjmpfdniecaaGreatDoor
open Go.RowKit
/-- A fact on old blocks alone. -/
def OldF (N : Nat) (A : World → Prop) : Prop := ∀ w w', Below N w w' → A w → A w'
section
variable {c : Cx} {K : World → Prop} {L : List (Nat × TypeId × List Value)} {O : List Own} {X X' : List (World → Prop)} {w w' : World} {T e : TypeId} {b : Nat} {p v : Value} {bs : List Value}
theorem Mem.gB (hm : Mem c K L O X w) (hb : Below c.w0.heap.size w w') : c.w0.grownBy w' c.row :=
  ⟨hb.os.trans hm.g.os, hb.tape.trans hm.g.tape, hb.output.trans hm.g.output, Nat.le_trans hm.g.size hb.size, fun k hk hne => (hb.block k hk).trans (hm.g.block k hk hne)⟩
theorem Mem.built (hm : Mem c K L O X w) (h : Lib.BuilderAt T e c.w0.heap.size b p bs w') (hb : Below c.w0.heap.size w w') (hX : ∀ A ∈ X', OldF c.w0.heap.size A ∧ A ∈ X) :
    ∃ v, Mem c (fun _ => True) [(b, T, [p, v])] [⟨v, e, 1, bs.length, bs⟩] X' w' := by
  obtain ⟨hN, v, hh, ho, hne⟩ := h
  refine ⟨v, hm.gB hb, trivial, fun x hx => ?_, List.pairwise_singleton _ _, fun r hr => ?_, fun r hr x hx => ?_, List.pairwise_singleton _ _, fun A hA => (hX A hA).1 _ _ hb (hm.x A (hX A hA).2), Keeps.true_, fun A hA => hm.l A (hX A hA).2, hm.rs⟩
  · rw [List.mem_singleton.1 hx]; exact ⟨hN, hh⟩
  · rw [List.mem_singleton.1 hr]; exact ho
  · rw [List.mem_singleton.1 hr, List.mem_singleton.1 hx]; exact hne
end
end Go.Proofs.YtempjmpfdniecaaGreatDoor
namespace Go.Proofs.YtempjmpfdniecaaGreatDoor
open Go.RowKit
section
variable {K : World → Prop} {L : List (Nat × TypeId × List Value)} {O : List Own} {X X' : List (World → Prop)} {w w' w0 : World} {n n' : Nat} {row : Option Nat} {Tt : List TypeId}
theorem Mem.cx (h : Mem ⟨n, w0, row, Tt⟩ K L O X w) : Mem ⟨n', w0, row, Tt⟩ K L O X w := ⟨h.g, h.k, h.b, h.nd, h.o, h.od, h.oo, h.x, h.kk, h.l, h.rs⟩
end
section
variable {c : Cx} {K : World → Prop} {L : List (Nat × TypeId × List Value)} {O : List Own} {X X' : List (World → Prop)} {w w' : World}
/-- A call has turned a block that is known, the only one, and handed a row of its own out through it. -/
theorem Mem.handed {g : Nat} {T e : TypeId} {sz m : Nat} {v u : Value} {xs : List Value} (hm : Mem c (fun _ => True) [(g, T, [u])] O X w) (hg : w.grownBy w' (some g)) (hb : Blk w' g T [v]) (ho : w'.ownsRow w.heap.size e sz v m xs)
    (hX : ∀ A ∈ X', (∀ w w', c.w0.heap.size ≤ g → w.grownBy w' (some g) → A w → A w') ∧ A ∈ X) : Mem c (fun _ => True) [(g, T, [v])] [⟨v, e, sz, m, xs⟩] X' w' := by
  have h1 := hm.b _ (List.mem_singleton.2 rfl)
  have hlt : g < w.heap.size := h1.2.lt
  have hN : c.w0.heap.size ≤ w.heap.size := hm.g.size
  have hne : v.ownBlock ≠ some g := fun e => by
    have := ho.lt g e
    omega
  refine ⟨⟨hg.os.trans hm.g.os, hg.tape.trans hm.g.tape, hg.output.trans hm.g.output, Nat.le_trans hm.g.size hg.size, fun k hk hne => ?_⟩, trivial, fun x hx => ?_, List.pairwise_singleton _ _, fun r hr => ?_, fun r hr x hx => ?_, List.pairwise_singleton _ _, fun A hA => (hX A hA).1 _ _ h1.1 hg (hm.x A (hX A hA).2), Keeps.true_, fun A hA => hm.l A (hX A hA).2, hm.rs⟩
  · exact (hg.block k (Nat.lt_of_lt_of_le hk hm.g.size) (fun e => by
      have e2 : k = g := by injection e
      have := h1.1
      omega)).trans (hm.g.block k hk hne)
  · rw [List.mem_singleton.1 hx]; exact ⟨h1.1, hb⟩
  · rw [List.mem_singleton.1 hr]
    refine ⟨ho.1, ?_⟩
    rcases ho.2 with h | ⟨g', cap, cur, h2, h3, h4⟩
    · exact .inl h
    · exact .inr ⟨g', cap, cur, h2, Nat.le_trans hN h3, h4⟩
  · rw [List.mem_singleton.1 hr, List.mem_singleton.1 hx]; exact hne
end
theorem TxtO.far {N g : Nat} {row : Option Nat} : ∀ w w' : World, N ≤ g → w.grownBy w' (some g) → TxtO N row w → TxtO N row w' := fun _ _ hN hg h =>
  ⟨h.1.same fun k hk => hg.block k (h.1.lt hk) (fun e => by
    have e2 : k = g := by injection e
    have := (h.2 k hk).1
    omega), h.2⟩
end Go.Proofs.YtempjmpfdniecaaGreatDoor
namespace Go.Proofs.YtempjmpfdniecaaGreatDoor
open Go.RowKit
/-- What classesFrom does, from a place of the order on. -/
def CfSpec (w0 : World) (l : List Bk) (A : Option Addr) (nb cb : Nat) (cs : List Cs) (sl : List Sk) (A9 : Option Addr) (c9 : Nat) (cx : List ChS) (od : List Nat) (Ao : Option Addr) (co : Nat) (re : List Int) (g g7 gc gr : Nat) (k : Nat) : Prop := ∀ (used : Nat) (best : Option Nat) (cl : List ByteArray) (w : World), cl.length = nb → used ≤ 1000 * k → Mem ⟨0, w0, none, [269, 268]⟩ (fun _ => True) [(g, 266, [.slice A nb cb, .slice A9 nb c9, .slice Ao nb co, .slice (some ⟨gc, 0, none⟩) nb nb, .slice none 0 0, .slice (some ⟨gr, 0, none⟩) (nb + 1) (nb + 1), .int .i64 (bestI best)]), (g7, 262, [.pointer (some ⟨g, 0, none⟩)])] [⟨.slice (some ⟨gc, 0, none⟩) nb nb, 9, 1, nb, (cl).flatMap sgEnc⟩, ⟨.slice Ao nb co, 3, 1, nb, od.flatMap nEnc⟩, ⟨.slice (some ⟨gr, 0, none⟩) (nb + 1) (nb + 1), 3, 1, nb + 1, re.flatMap iEnc⟩] [SlOld bkEnc 6 92 w0.heap.size none A nb l, fun wy => SlT csnEnc 1 269 wy A9 nb cx, fun wy => Chs 268 cx wy] w →
    Calls Tryz.prog 228 #[.pointer (some ⟨g, 0, none⟩), .int .i64 ((k : Nat) : Int), .int .i64 ((used : Nat) : Int)] w (fun e w' => ∃ cl' : List ByteArray, e = .returned (.tuple #[]) ∧ cl'.length = nb ∧ plB l cl' (od.take k) = plB l cl (od.take k) ∧ Mem ⟨0, w0, none, [269, 268]⟩ (fun _ => True) [(g, 266, [.slice A nb cb, .slice A9 nb c9, .slice Ao nb co, .slice (some ⟨gc, 0, none⟩) nb nb, .slice none 0 0, .slice (some ⟨gr, 0, none⟩) (nb + 1) (nb + 1), .int .i64 (bestI (bbW roomF ((od.drop (k)).map (itB cs sl l)) (plB l cl (od.take (k))) (used) (best)))]), (g7, 262, [.pointer (some ⟨g, 0, none⟩)])] [⟨.slice (some ⟨gc, 0, none⟩) nb nb, 9, 1, nb, (cl').flatMap sgEnc⟩, ⟨.slice Ao nb co, 3, 1, nb, od.flatMap nEnc⟩, ⟨.slice (some ⟨gr, 0, none⟩) (nb + 1) (nb + 1), 3, 1, nb + 1, re.flatMap iEnc⟩] [SlOld bkEnc 6 92 w0.heap.size none A nb l, fun wy => SlT csnEnc 1 269 wy A9 nb cx, fun wy => Chs 268 cx wy] w')
theorem cf_step (w0 : World) (l : List Bk) (A : Option Addr) (nb cb : Nat) (cs : List Cs) (sl : List Sk) (A9 : Option Addr) (c9 : Nat) (cx : List ChS) (od : List Nat) (Ao : Option Addr) (co : Nat) (re : List Int) (g g7 gc gr : Nat) (k : Nat) (ih : k < nb → CfSpec w0 l A nb cb cs sl A9 c9 cx od Ao co re g g7 gc gr (k + 1)) (hk : k ≤ nb) (hn : nb ≤ 1000) (hco : nb ≤ co) (hol : od.length = nb) (hrl : re.length = nb + 1) (hord : ∀ j ∈ od, j < nb) (hnd : od.Nodup) (htm : BkTim l) (hcx : cx.map ChS.l = l.map (chB cs sl)) (hstp : ∀ b ∈ l, ∀ q ∈ chB cs sl b, q.2.1 ≤ 1000) (hchl : ∀ b ∈ l, (chB cs sl b).length ≤ 1000) (hrest : ∀ k, restI ((od.drop k).map (itB cs sl l)) ≤ 1000000) (hre : ∀ k, k ≤ nb → re[k]? = some ((restI ((od.drop k).map (itB cs sl l)) : Nat) : Int)) : CfSpec w0 l A nb cb cs sl A9 c9 cx od Ao co re g g7 gc gr k := by
 intro used best cl w hcl hused hm
 refine gw_enter ⟨88, w0, none, [269, 268]⟩ Tryz.func228 rfl Tryz.ntmps228 rfl hm.cx ?_
 refine gw_seq ?_
 obtain ⟨BB, hBB⟩ : ∃ z, z = bbW roomF ((od.drop (k)).map (itB cs sl l)) (plB l cl (od.take (k))) (used) (best) := ⟨_, rfl⟩
 obtain ⟨rk, hrk⟩ : ∃ z, z = restI ((od.drop k).map (itB cs sl l)) := ⟨_, rfl⟩
 have hrb := hrest k
 rw [← hrk] at hrb
 have hrg := hre k hk
 rw [← hrk] at hrg
 rw [← hBB]
 refine gw_cut (γ := Bool) (I := (fun (sb : Bool) => sb = stopW best (used + rk))) (S' := (fun (sb : Bool) => [(0, .pointer (some ⟨g, 0, none⟩)), (1, .int .i64 ((k : Nat) : Int)), (2, .int .i64 ((used : Nat) : Int)), (29, .bool sb)])) (K' := (fun (sb : Bool) => fun _ => True)) (L' := (fun (sb : Bool) => [(g, 266, [.slice A nb cb, .slice A9 nb c9, .slice Ao nb co, .slice (some ⟨gc, 0, none⟩) nb nb, .slice none 0 0, .slice (some ⟨gr, 0, none⟩) (nb + 1) (nb + 1), .int .i64 (bestI best)]), (g7, 262, [.pointer (some ⟨g, 0, none⟩)])])) (O' := (fun (sb : Bool) => [⟨.slice (some ⟨gc, 0, none⟩) nb nb, 9, 1, nb, (cl).flatMap sgEnc⟩, ⟨.slice Ao nb co, 3, 1, nb, od.flatMap nEnc⟩, ⟨.slice (some ⟨gr, 0, none⟩) (nb + 1) (nb + 1), 3, 1, nb + 1, re.flatMap iEnc⟩])) (X' := (fun (sb : Bool) => [SlOld bkEnc 6 92 w0.heap.size none A nb l, fun wy => SlT csnEnc 1 269 wy A9 nb cx, fun wy => Chs 268 cx wy])) ?_ ?_
 ·refine gd (fun wz => Blk wz g 266 [.slice A nb cb, .slice A9 nb c9, .slice Ao nb co, .slice (some ⟨gc, 0, none⟩) nb nb, .slice none 0 0, .slice (some ⟨gr, 0, none⟩) (nb + 1) (nb + 1), .int .i64 (bestI best)] ∧ Blk wz g7 262 [.pointer (some ⟨g, 0, none⟩)] ∧ (SlOld bkEnc 6 92 w0.heap.size none A nb l) wz ∧ (fun wy => SlT csnEnc 1 269 wy A9 nb cx) wz ∧ (fun wy => Chs 268 cx wy) wz ∧ wz.ownsRow w0.heap.size 9 1 (.slice (some ⟨gc, 0, none⟩) nb nb) nb ((cl).flatMap sgEnc) ∧ wz.ownsRow w0.heap.size 3 1 (.slice Ao nb co) nb (od.flatMap nEnc) ∧ wz.ownsRow w0.heap.size 3 1 (.slice (some ⟨gr, 0, none⟩) (nb + 1) (nb + 1)) (nb + 1) (re.flatMap iEnc) ∧ True) mixed (fun _ hm => ⟨hm.bl 0, hm.bl 1, hm.fa 0, hm.fa 1, hm.fa 2, hm.ownI 0 rfl, hm.ownI 1 rfl, hm.ownI 2 rfl, trivial⟩) fun z => ?_
  refine wt 0 21 1 rfl z (ov_move rfl) ?_
  refine wt 1 21 3 rfl z (ov_nilcheck rfl) ?_
  refine wt 2 21 7 rfl z (ov_field fo266_6 rfl rfl) ?_
  refine wt 3 21 15 rfl z (ov_load sc3 rfl (fun _ hm => hm.1) rfl) ?_
  refine wt 4 21 31 rfl z (ov_geq rfl rfl) ?_
  refine wt 5 21 63 rfl z (ov_move rfl) ?_
  rcases Bool.eq_false_or_eq_true (decide (0 ≤ bestI best)) with h1 | h1
  ·refine wa_set 14 rfl (congrArg Value.bool h1) ?_
   refine wto 6 21 127 rfl rfl rfl z (ov_move rfl) ?_
   refine wto 7 21 255 rfl rfl rfl z (ov_move rfl) ?_
   refine wto 8 21 511 rfl rfl rfl z (ov_nilcheck rfl) ?_
   refine wto 9 21 1023 rfl rfl rfl z (ov_field fo266_5 rfl rfl) ?_
   refine wto 10 21 2047 rfl rfl rfl z (ov_load sc22 rfl (fun _ hm => hm.1) rfl) ?_
   refine wto 11 21 4095 rfl rfl rfl z (ov_move rfl) ?_
   refine wto 12 21 8191 rfl rfl rfl z (ov_index (j := k) es22 rfl rfl (by omega)) ?_
   refine wto 13 21 16383 rfl rfl rfl z (ov_elem1 (k := 0) (v := .int .i64 ((rk : Nat) : Int)) sc3 rfl (fun _ hm => (SlT.ofOwn i_len (hm.2.2.2.2.2.2.2.1) hrl)) hrg rfl rfl) ?_
   refine wto 14 21 32767 rfl rfl rfl z (ov_add rfl rfl (by omega) (by omega)) ?_
   refine wto 15 21 65535 rfl rfl rfl z (ov_move rfl) ?_
   refine wto 16 21 131071 rfl rfl rfl z (ov_nilcheck rfl) ?_
   refine wto 17 21 262143 rfl rfl rfl z (ov_field fo266_6 rfl rfl) ?_
   refine wto 18 21 524287 rfl rfl rfl z (ov_load sc3 rfl (fun _ hm => hm.1) rfl) ?_
   refine wto 19 21 1048575 rfl rfl rfl z (ov_geq rfl rfl) ?_
   refine wt 20 21 2097151 rfl z (ov_pick_t rfl rfl) ?_
   refine wa_done (by kernel_rfl) ?_
   exact nx_meet (decide (bestI best ≤ ((used : Nat) : Int) + ((rk : Nat) : Int))) (by rw [← stopW_iff, h1]; first | rfl | (rw [Bool.true_and, decide_eq_decide]; omega)) ⟨rfl, rfl, rfl, rfl, trivial⟩ (fun _ hm => hm.pick [0, 1] [0, 1, 2] [0, 1, 2] rfl rfl)
  refine wa_set 14 rfl (congrArg Value.bool h1) ?_
  refine wtf 6 21 127 rfl rfl rfl z ?_
  refine wtf 7 21 255 rfl rfl rfl z ?_
  refine wtf 8 21 511 rfl rfl rfl z ?_
  refine wtf 9 21 1023 rfl rfl rfl z ?_
  refine wtf 10 21 2047 rfl rfl rfl z ?_
  refine wtf 11 21 4095 rfl rfl rfl z ?_
  refine wtf 12 21 8191 rfl rfl rfl z ?_
  refine wtf 13 21 16383 rfl rfl rfl z ?_
  refine wtf 14 21 32767 rfl rfl rfl z ?_
  refine wtf 15 21 65535 rfl rfl rfl z ?_
  refine wtf 16 21 131071 rfl rfl rfl z ?_
  refine wtf 17 21 262143 rfl rfl rfl z ?_
  refine wtf 18 21 524287 rfl rfl rfl z ?_
  refine wtf 19 21 1048575 rfl rfl rfl z ?_
  refine wt 20 21 2097151 rfl z (ov_pick_f rfl rfl) ?_
  refine wa_done (by kernel_rfl) ?_
  exact nx_meet false (by rw [← stopW_iff, h1]; first | rfl | (rw [Bool.true_and, decide_eq_decide]; omega)) ⟨rfl, rfl, rfl, rfl, trivial⟩ (fun _ hm => hm.pick [0, 1] [0, 1, 2] [0, 1, 2] rfl rfl)
 intro sb hinv
 replace hinv : sb = stopW best (used + rk) := hinv
 have hst0 : sb = stopW best (used + rk) := hinv
 refine gw_cond rfl (fun hh => ?_) (fun hh => ?_)
 ·have hsb : sb = true := by simpa using hh
  clear hh
  refine gw_ret ?_
  refine nx_then_ret ?_
  have hst : stopW best (used + rk) = true := hst0.symm.trans hsb
  rw [show BB = best from by rw [hBB]; exact bb_stop (by rw [← hrk]; exact hst)]
  refine nx_ret0' rfl fun wx hm => ?_
  exact ⟨cl, rfl, hcl, rfl, (hm.pick [0, 1] [0, 1, 2] [0, 1, 2] rfl rfl).cx⟩
 have hsb : sb = false := by simpa using hh
 clear hh
 refine gw_skip (nx_then (gw_seq (sr_ ?_)))
 have hst : stopW best (used + rk) = false := hst0.symm.trans hsb
 refine mv_ rfl (mv_ rfl (wl_ov (ov_nilcheck rfl) rfl (fd_ fo266_2 rfl rfl (lk_ sc22 0 rfl rfl rfl (wl_ov (ov_len es22 rfl) rfl (wl_ov (ov_eql rfl rfl) rfl (nn_ ?_)))))))
 refine gw_cond rfl (fun hh => ?_) (fun hh => ?_)
 ·have hkn : ((k : Nat) : Int) = ((nb : Nat) : Int) := by simpa using hh
  clear hh
  refine sr_ (mv_ rfl (mv_ rfl (wl_ov (ov_nilcheck rfl) rfl (fd_ fo266_6 rfl rfl ?_))))
  refine wl_store 0 sc3 rfl rfl rfl rfl rfl rfl ?_
  refine nn_ ?_
  refine gw_ret ?_
  refine nx_then_ret ?_
  have hk2 : nb ≤ k := by omega
  rw [show BB = some used from by rw [hBB]; rw [List.drop_eq_nil_of_le (by omega)]; exact bb_end (by rw [List.drop_eq_nil_of_le (by omega)] at hrk; rw [show restI ([] : List (ItW ByteArray)) = rk from hrk.symm]; exact hst)]
  refine nx_ret0' rfl fun wx hm => ?_
  exact ⟨cl, rfl, hcl, rfl, (hm.pick [0, 1] [0, 1, 2] [0, 1, 2] rfl rfl).cx⟩
 have hkn : ¬ (((k : Nat) : Int) = ((nb : Nat) : Int)) := by simpa using hh
 clear hh
 refine gw_skip (nx_then (sr_ ?_))
 have hk2 : k < nb := by omega
 obtain ⟨i, hi⟩ : ∃ x, od[k]? = some x := ⟨_, List.getElem?_eq_getElem (by omega)⟩
 have hib := hord i (List.mem_of_getElem? hi)
 have hdm := drop_map_at (cs := cs) (sl := sl) (l := l) hi
 obtain ⟨PL, hPL⟩ : ∃ z, z = plB l cl (od.take k) := ⟨_, rfl⟩
 rw [← hPL] at hBB ⊢
 rw [hdm] at hrk hBB
 rw [bb_at (by rw [← hrk]; exact hst)] at hBB
 have hl0 := (hm.fact 0 rfl : SlOld bkEnc 6 92 w0.heap.size none A nb l w).1
 have hlen := hl0.len
 have hch9 : SlT csnEnc 1 269 w A9 nb cx := hm.fact 1 rfl
 have hchs : Chs 268 cx w := hm.fact 2 rfl
 have hcl9 := hch9.len
 refine wl_look (R := ∃ g, Ao = some ⟨g, 0, none⟩) (fun wx hm => own_addr (hm.ownI 1 rfl) (by omega)) ?_
 rintro ⟨go, rfl⟩
 obtain ⟨b9, o9, hA, _, _⟩ := hch9.get (by omega)
 subst hA
 obtain ⟨x9, hx9⟩ : ∃ x, cx[i]? = some x := ⟨_, List.getElem?_eq_getElem (by omega)⟩
 have hx9l := cx_at hcx hx9
 have hx9m := List.mem_of_getElem? hx9
 have hs9 := hchs x9 hx9m
 obtain ⟨Ai, ni, ci, li⟩ := x9
 dsimp only at hx9l hs9
 have hni := hs9.len
 obtain ⟨b0, hb0⟩ : ∃ x, l[i]? = some x := ⟨_, List.getElem?_eq_getElem (by omega)⟩
 have hni1 : ni ≤ 1000 := by have h8 := hchl b0 (List.mem_of_getElem? hb0); rw [← bkAt_get hb0, ← hx9l] at h8; omega
 have hstl : ∀ q ∈ li, q.2.1 ≤ 1000 := by rw [hx9l, bkAt_get hb0]; exact hstp b0 (List.mem_of_getElem? hb0)
 obtain ⟨xw, hxw⟩ : ∃ z, z = wnB (bkAt l i) := ⟨_, rfl⟩
 obtain ⟨RS, hRS⟩ : ∃ z, z = (od.drop (k + 1)).map (itB cs sl l) := ⟨_, rfl⟩
 replace hBB : BB = li.foldl (bbS roomF RS PL xw used) best := by rw [hBB, hxw, hRS, hx9l]; rfl
 refine mv_ rfl (wl_ov (ov_nilcheck rfl) rfl (fd_ fo266_2 rfl rfl (lk_ sc22 0 rfl rfl rfl (mv_ rfl ?_))))
 refine wl_ov (ov_index (j := k) es22 rfl rfl (by omega)) rfl ?_
 refine wl_ov (ov_elem1 (k := 0) (v := .int .i64 ((i : Nat) : Int)) sc3 rfl (fun _ hm => (SlT.ofOwn n_len (hm.ownI 1 rfl) hol)) hi rfl rfl) rfl ?_
 refine sg_ rfl (nn_ (sr_ (mv_ rfl (wl_ov (ov_nilcheck rfl) rfl (fd_ fo266_1 rfl rfl (lk_ sc263 0 rfl rfl rfl (mv_ rfl ?_)))))))
 refine wl_ov (ov_index (j := i) es263 rfl rfl (by omega)) rfl ?_
 refine wl_ov (ov_elem1 (k := 0) (v := .slice Ai ni ci) sc269 rfl (fun _ hm => (hm.fact 1 rfl)) hx9 rfl rfl) rfl ?_
 refine wl_ov (ov_len es269 rfl) rfl (mv_ rfl (nn_ (gw_block ?_)))
 refine gw_loop (γ := Nat × Option Nat × List ByteArray) (fun (gq : Nat × Option Nat × List ByteArray) => gq.1 ≤ ni ∧ gq.2.2.length = nb ∧ plB l gq.2.2 (od.take k) = PL ∧ BB = (li.drop gq.1).foldl (bbS roomF RS PL xw used) gq.2.1) (fun (gq : Nat × Option Nat × List ByteArray) => [(0, .pointer (some ⟨g, 0, none⟩)), (1, .int .i64 ((k : Nat) : Int)), (2, .int .i64 ((used : Nat) : Int)), (6, .int .i64 ((i : Nat) : Int)), (54, .slice Ai ni ci), (55, .int .i64 ((ni : Nat) : Int)), (56, .int .i64 ((gq.1 : Nat) : Int))]) (fun (gq : Nat × Option Nat × List ByteArray) => fun _ => True) (fun (gq : Nat × Option Nat × List ByteArray) => [(g, 266, [.slice A nb cb, .slice (some ⟨b9, o9, none⟩) nb c9, .slice (some ⟨go, 0, none⟩) nb co, .slice (some ⟨gc, 0, none⟩) nb nb, .slice none 0 0, .slice (some ⟨gr, 0, none⟩) (nb + 1) (nb + 1), .int .i64 (bestI gq.2.1)]), (g7, 262, [.pointer (some ⟨g, 0, none⟩)])]) (fun (gq : Nat × Option Nat × List ByteArray) => [⟨.slice (some ⟨gc, 0, none⟩) nb nb, 9, 1, nb, (gq.2.2).flatMap sgEnc⟩, ⟨.slice (some ⟨go, 0, none⟩) nb co, 3, 1, nb, od.flatMap nEnc⟩, ⟨.slice (some ⟨gr, 0, none⟩) (nb + 1) (nb + 1), 3, 1, nb + 1, re.flatMap iEnc⟩]) (fun (gq : Nat × Option Nat × List ByteArray) => [SlOld bkEnc 6 92 w0.heap.size none A nb l, fun wy => SlT csnEnc 1 269 wy (some ⟨b9, o9, none⟩) nb cx, fun wy => Chs 268 cx wy]) (fun (gq : Nat × Option Nat × List ByteArray) => ni - gq.1) (0, best, cl) ⟨Nat.zero_le _, hcl, hPL.symm, hBB⟩ ⟨rfl, rfl, rfl, rfl, rfl, rfl, rfl, trivial⟩ (fun _ hm => hm.pick [0, 1] [0, 1, 2] [0, 1, 2] rfl rfl) ?_
 rintro ⟨j, bj, ce⟩ hinv
 replace hinv : j ≤ ni ∧ ce.length = nb ∧ plB l ce (od.take k) = PL ∧ BB = (li.drop j).foldl (bbS roomF RS PL xw used) bj := hinv
 dsimp only
 refine sr_ ?_
 obtain ⟨hj0, hce, hpl, hBj⟩ := hinv
 refine wl_ov (ov_lss rfl rfl) rfl (nn_ (gw_seq ?_))
 refine gw_cond rfl (fun hh => ?_) (fun hh => ?_)
 ·have hj : ((j : Nat) : Int) < ((ni : Nat) : Int) := by simpa using hh
  clear hh
  refine gw_skip (nx_then (gw_seq (gw_block (sr_ ?_))))
  obtain ⟨bi, oi, hA, _, _⟩ := hs9.get (by omega)
  subst hA
  obtain ⟨q, hq⟩ : ∃ x, li[j]? = some x := ⟨_, List.getElem?_eq_getElem (by omega)⟩
  have hqs := hstl q (List.mem_of_getElem? hq)
  rw [foldl_at hq] at hBj
  obtain ⟨c, st, mm⟩ := q
  dsimp only at hqs
  obtain ⟨RF, hRF⟩ : ∃ z, z = roomF PL xw (c, st, mm) := ⟨_, rfl⟩
  refine wl_ov (ov_index (j := j) es269 rfl rfl (by omega)) rfl ?_
  refine wl_ov (ov_elem (vs := [.string c, .int .i64 ((st : Nat) : Int), .int .i64 ((mm : Nat) : Int)]) rz268 rfl (fun _ hm => ((hm.fact 2 rfl) _ hx9m)) hq rfl rfl) rfl ?_
  refine wl_allocs (vs := [.string c, .int .i64 ((st : Nat) : Int), .int .i64 ((mm : Nat) : Int)]) (cs' := [.string c, .int .i64 ((st : Nat) : Int), .int .i64 ((mm : Nat) : Int)]) zc268 rfl rz268 (fun _ => rfl) (fun _ => rfl) rfl rfl rfl rfl fun g1 => ?_
  refine nn_ (sr_ (mv_ rfl (mv_ rfl (mv_ rfl ?_))))
  refine wl_ov (ov_loads rz268 rfl (fun _ hm => hm.blkI 0 rfl) rfl rfl) rfl ?_
  refine wl_callv (v := .bool RF) rfl cb282 rfl rfl (fun wx hm => (by rw [hRF, ← hpl, hxw]; exact fits_any l A nb cb (some ⟨go, 0, none⟩) co od (some ⟨gc, 0, none⟩) nb ce _ _ _ _ g k i c st mm wx (hm.blkI 1 rfl) (hm.fact 0 rfl).1 (SlT.ofOwn n_len (hm.ownI 1 rfl) hol) (SlT.ofOwn sg_len (hm.ownI 0 rfl) hce) hk hib hn hco hord htm)) ?_
  refine nn_ ?_
  refine gw_cond rfl (fun hh => ?_) (fun hh => ?_)
  ·have hrf : RF = true := by simpa using hh
   clear hh
   refine gw_seq ?_
   have hbs : bbS roomF RS PL xw used bj (c, st, mm) = bbW roomF RS (PL ++ [(c, xw)]) (used + st) bj := if_pos (hRF.symm.trans hrf)
   rw [hbs] at hBj
   obtain ⟨c0, hc0⟩ : ∃ x, ce[i]? = some x := ⟨_, List.getElem?_eq_getElem (by omega)⟩
   have hps := plB_snoc (l := l) (x := c) hi hnd (by omega : i < ce.length)
   rw [hpl, ← hxw] at hps
   refine gd (fun wz => Blk wz g1 268 [.string c, .int .i64 ((st : Nat) : Int), .int .i64 ((mm : Nat) : Int)] ∧ Blk wz g 266 [.slice A nb cb, .slice (some ⟨b9, o9, none⟩) nb c9, .slice (some ⟨go, 0, none⟩) nb co, .slice (some ⟨gc, 0, none⟩) nb nb, .slice none 0 0, .slice (some ⟨gr, 0, none⟩) (nb + 1) (nb + 1), .int .i64 (bestI bj)] ∧ Blk wz g7 262 [.pointer (some ⟨g, 0, none⟩)] ∧ (SlOld bkEnc 6 92 w0.heap.size none A nb l) wz ∧ (fun wy => SlT csnEnc 1 269 wy (some ⟨b9, o9, none⟩) nb cx) wz ∧ (fun wy => Chs 268 cx wy) wz ∧ True) mixed (fun _ hm => ⟨hm.bl 0, hm.bl 1, hm.bl 2, hm.fa 0, hm.fa 1, hm.fa 2, trivial⟩) fun z => ?_
   refine wt 0 9 1 rfl z (ov_move rfl) ?_
   refine wt 1 9 3 rfl z (ov_nilcheck rfl) ?_
   refine wt 2 9 7 rfl z (ov_field fo266_3 rfl rfl) ?_
   refine wt 3 9 15 rfl z (ov_load sc103 rfl (fun _ hm => hm.2.1) rfl) ?_
   refine wt 4 9 31 rfl z (ov_move rfl) ?_
   refine wt 5 9 63 rfl z (ov_field fo268_0 rfl rfl) ?_
   refine wt 6 9 127 rfl z (ov_load sc9 rfl (fun _ hm => hm.1) rfl) ?_
   refine wt 7 9 255 rfl z (ov_index (j := i) es103 rfl rfl (by omega)) ?_
   refine wa1 8 rfl ?_
   refine wl_storeE (l := ce) (j := i) (r := 0) (el := c0) (el' := c) 0 sc9 rfl rfl rfl rfl sg_len rfl hc0 hce (show 0 < 1 by decide) rfl rfl ?_
   refine wl_nil ?_
   refine nw 9 511 (fun _ hm => ⟨hm.bl 0, hm.bl 1, hm.bl 2, hm.fa 0, hm.fa 1, hm.fa 2, trivial⟩) fun z => ?_
   refine wa_done (by kernel_rfl) ?_
   refine nx_then (sr_ (mv_ rfl (mv_ rfl (ad_ rfl rfl ?_))))
   refine wl_set 75 (v' := .int .i64 ((k + 1 : Nat) : Int)) rfl (congrArg (Value.int .i64) (by omega)) ?_
   refine mv_ rfl (fd_ fo268_1 rfl rfl (lk_ sc3 0 rfl rfl rfl (ad_ rfl rfl ?_)))
   refine wl_set 79 (v' := .int .i64 ((used + st : Nat) : Int)) rfl (congrArg (Value.int .i64) (by omega)) ?_
   refine wl_callG (γ := List ByteArray) (val := fun _ => .tuple #[]) (φ := fun c2 => c2.length = nb ∧ plB l c2 (od.take (k + 1)) = plB l (ce.set i c) (od.take (k + 1))) (K' := fun _ => fun _ => True) (L' := fun _ => [(g, 266, [.slice A nb cb, .slice (some ⟨b9, o9, none⟩) nb c9, .slice (some ⟨go, 0, none⟩) nb co, .slice (some ⟨gc, 0, none⟩) nb nb, .slice none 0 0, .slice (some ⟨gr, 0, none⟩) (nb + 1) (nb + 1), .int .i64 (bestI (bbW roomF RS (PL ++ [(c, xw)]) (used + st) bj))]), (g7, 262, [.pointer (some ⟨g, 0, none⟩)])]) (O' := fun c2 => [⟨.slice (some ⟨gc, 0, none⟩) nb nb, 9, 1, nb, (c2).flatMap sgEnc⟩, ⟨.slice (some ⟨go, 0, none⟩) nb co, 3, 1, nb, od.flatMap nEnc⟩, ⟨.slice (some ⟨gr, 0, none⟩) (nb + 1) (nb + 1), 3, 1, nb + 1, re.flatMap iEnc⟩]) (X' := fun _ => [SlOld bkEnc 6 92 w0.heap.size none A nb l, fun wy => SlT csnEnc 1 269 wy (some ⟨b9, o9, none⟩) nb cx, fun wy => Chs 268 cx wy]) rfl cb228 rfl rfl (fun wx hm => by
    have h := ih hk2 (used + st) bj (ce.set i c) wx (by rw [List.length_set]; exact hce) (by omega) ((hm.pick [1, 2] [0, 1, 2] [0, 1, 2] rfl rfl).cx)
    rw [hps, ← hRS] at h
    exact h.mono fun _ _ ⟨c2, he, h1, h2, hm2⟩ => ⟨c2, he, ⟨h1, by rw [h2, hps]⟩, hm2.cx⟩) ?_
   rintro c2 ⟨hc2, hpl2⟩
   obtain ⟨c3, hc3⟩ : ∃ x, c2[i]? = some x := ⟨_, List.getElem?_eq_getElem (by omega)⟩
   have hpl3 := plB_take hpl2
   rw [nd_set hnd hi, hpl] at hpl3
   refine nn_ (gw_region (mv_ rfl (wl_ov (ov_nilcheck rfl) rfl (fd_ fo266_3 rfl rfl (lk_ sc103 0 rfl rfl rfl (mv_ rfl ?_))))))
   refine wl_ov (ov_index (j := i) es103 rfl rfl (by omega)) rfl ?_
   refine wl_storeE (l := c2) (j := i) (r := 0) (el := c3) (el' := ⟨#[]⟩) 0 sc9 rfl rfl rfl rfl sg_len rfl hc3 hc2 (show 0 < 1 by decide) rfl rfl ?_
   refine wl_nil (nx_blk_nrm (nx_then (gw_region (ad_ rfl rfl (mv_ rfl (wl_nil ?_))))))
   exact nx_round (j + 1, bbW roomF RS (PL ++ [(c, xw)]) (used + st) bj, c2.set i ⟨#[]⟩) ⟨by dsimp only; omega, by dsimp only; rw [List.length_set]; exact hc2, by dsimp only; rw [nd_set hnd hi]; exact hpl3, hBj⟩ (by dsimp only; omega) ⟨rfl, rfl, rfl, rfl, rfl, rfl, (some_int (by omega)), trivial⟩ (fun _ hm => hm.pick [0, 1] [0, 1, 2] [0, 1, 2] rfl rfl)
  have hrf : RF = false := by simpa using hh
  clear hh
  refine gw_skip (nx_blk_nrm (nx_then (gw_region ?_)))
  have hbs : bbS roomF RS PL xw used bj (c, st, mm) = bj := if_neg (by rw [← hRF, hrf]; decide)
  rw [hbs] at hBj
  refine ad_ rfl rfl (mv_ rfl (wl_nil ?_))
  exact nx_round (j + 1, bj, ce) ⟨by dsimp only; omega, hce, hpl, hBj⟩ (by dsimp only; omega) ⟨rfl, rfl, rfl, rfl, rfl, rfl, (some_int (by omega)), trivial⟩ (fun _ hm => hm.pick [1, 2] [0, 1, 2] [0, 1, 2] rfl rfl)
 have hj : ¬ (((j : Nat) : Int) < ((ni : Nat) : Int)) := by simpa using hh
 clear hh
 refine gw_exit ?_
 refine nx_then_exit (nx_then_exit ?_)
 refine nx_blk_here ?_
 rw [foldl_end (by omega)] at hBj
 rw [hBj]
 refine nx_ret0 rfl fun wx hm => ?_
 exact ⟨ce, rfl, hce, hpl, (hm.pick [0, 1] [0, 1, 2] [0, 1, 2] rfl rfl).cx⟩
theorem cf_all (w0 : World) (l : List Bk) (A : Option Addr) (nb cb : Nat) (cs : List Cs) (sl : List Sk) (A9 : Option Addr) (c9 : Nat) (cx : List ChS) (od : List Nat) (Ao : Option Addr) (co : Nat) (re : List Int) (g g7 gc gr : Nat) (hn : nb ≤ 1000) (hco : nb ≤ co) (hol : od.length = nb) (hrl : re.length = nb + 1) (hord : ∀ j ∈ od, j < nb) (hnd : od.Nodup) (htm : BkTim l) (hcx : cx.map ChS.l = l.map (chB cs sl)) (hstp : ∀ b ∈ l, ∀ q ∈ chB cs sl b, q.2.1 ≤ 1000) (hchl : ∀ b ∈ l, (chB cs sl b).length ≤ 1000) (hrest : ∀ k, restI ((od.drop k).map (itB cs sl l)) ≤ 1000000) (hre : ∀ k, k ≤ nb → re[k]? = some ((restI ((od.drop k).map (itB cs sl l)) : Nat) : Int)) : ∀ (d k : Nat), k + d = nb → CfSpec w0 l A nb cb cs sl A9 c9 cx od Ao co re g g7 gc gr k
  | 0, k, h => cf_step w0 l A nb cb cs sl A9 c9 cx od Ao co re g g7 gc gr k (fun h2 => absurd h2 (by omega)) (by omega) hn hco hol hrl hord hnd htm hcx hstp hchl hrest hre
  | d + 1, k, h => cf_step w0 l A nb cb cs sl A9 c9 cx od Ao co re g g7 gc gr k (fun _ => cf_all w0 l A nb cb cs sl A9 c9 cx od Ao co re g g7 gc gr hn hco hol hrl hord hnd htm hcx hstp hchl hrest hre d (k + 1) (by omega)) (by omega) hn hco hol hrl hord hnd htm hcx hstp hchl hrest hre
end Go.Proofs.YtempjmpfdniecaaGreatDoor
namespace Go.Proofs.YtempjmpfdniecaaGreatDoor
open Go.RowKit
theorem SlT.farT {α : Type} {enc : α → List Value} {k : Nat} {T : TypeId} {N : Nat} {A : Option Addr} {n : Nat} {l : List α} {w : World} (h : SlT enc k T w A n l) {e : TypeId} {sz br m cap n' : Nat} {xs : List Value} (ho : w.ownsRow N e sz (.slice (some ⟨br, 0, none⟩) m cap) n' xs) (hT : T ≠ e) : SlOld enc k T w.heap.size (some br) A n l w := ⟨h, fun b off e1 hn => by
  obtain ⟨b2, off2, cells, fz, e2, hh, _⟩ := h.at_ hn
  rw [e1] at e2; cases e2
  refine ⟨(Array.getElem?_eq_some_iff.1 hh).1, fun e3 => ?_⟩
  cases e3
  rcases ho.2 with ⟨h2, _⟩ | ⟨g', cap', cur, hv, hbase, hh2, _⟩
  · cases h2
  · injection hv with hA _ _
    injection hA with hA
    injection hA with hA _ _
    subst hA
    rw [hh] at hh2
    injection hh2 with hh2
    injection hh2 with _ hh2 _
    exact hT hh2⟩
theorem lenN_at {css : List (List (CdW ByteArray))} {cx : List ChS} (h : cx.map ChS.l = css) (hn : ∀ x ∈ cx, x.l.length = x.n) {i : Nat} {x : ChS} (hx : cx[i]? = some x) : ((x.n : Nat) : Int) = (lenN css i : Int) := by
  unfold lenN
  rw [← h, List.getD_eq_getElem?_getD, List.getElem?_map, hx]
  show _ = ((x.l.length : Nat) : Int)
  rw [hn x (List.mem_of_getElem? hx)]
theorem coI_any (cx : List ChS) (css : List (List (CdW ByteArray))) (A9 : Option Addr) (nb c9 g7 g : Nat) (q0 q2 q3 q4 q5 q6 : Value) (i j : Nat) (w : World) (hch : SlT csnEnc 1 269 w A9 nb cx) (hp : Blk w g7 262 [.pointer (some ⟨g, 0, none⟩)]) (hb : Blk w g 266 [q0, .slice A9 nb c9, q2, q3, q4, q5, q6]) (hcx : cx.map ChS.l = css) (hcn : ∀ x ∈ cx, x.l.length = x.n) (hi : i < nb) (hj : j < nb) :
  Calls Tryz.prog 227 #[.int .i64 ((i : Nat) : Int), .int .i64 ((j : Nat) : Int), .pointer (some ⟨g7, 0, none⟩)] w (fun e w' => e = .returned (.int .i64 (cmpI (lenN css i : Int) (lenN css j : Int))) ∧ w.grownBy w' none) := by
 refine gw_enter ⟨23, w, none, []⟩ Tryz.func227 rfl Tryz.ntmps227 rfl (mem0 (X := [SlOld csnEnc 1 269 w.heap.size none A9 nb cx, BlkOld w.heap.size none g7 262 [.pointer (some ⟨g, 0, none⟩)], BlkOld w.heap.size none g 266 [q0, .slice A9 nb c9, q2, q3, q4, q5, q6]]) (allF_cons hch.old (allF_cons hp.old (allF_cons hb.old allF_nil))) (allL_cons SlOld.lasts (allL_cons BlkOld.lasts (allL_cons BlkOld.lasts allL_nil)))) ?_
 refine sr_ ?_
 have hlen := hch.len
 obtain ⟨b9, o9, hA, _, _⟩ := hch.get (by omega)
 subst hA
 obtain ⟨x, hx⟩ : ∃ x, cx[i]? = some x := ⟨_, List.getElem?_eq_getElem (by omega)⟩
 obtain ⟨y, hy⟩ : ∃ x, cx[j]? = some x := ⟨_, List.getElem?_eq_getElem (by omega)⟩
 have ex := lenN_at hcx hcn hx
 have ey := lenN_at hcx hcn hy
 obtain ⟨xa, xn, xc, xl⟩ := x
 obtain ⟨ya, yn, yc, yl⟩ := y
 dsimp only at ex ey
 rw [← ex, ← ey]
 refine sg_ rfl (nn_ (gw_seq ?_))
 refine gd (fun wz => (SlOld csnEnc 1 269 w.heap.size none (some ⟨b9, o9, none⟩) nb cx) wz ∧ (BlkOld w.heap.size none g7 262 [.pointer (some ⟨g, 0, none⟩)]) wz ∧ (BlkOld w.heap.size none g 266 [q0, .slice (some ⟨b9, o9, none⟩) nb c9, q2, q3, q4, q5, q6]) wz ∧ True) mixed (fun _ hm => ⟨hm.fa 0, hm.fa 1, hm.fa 2, trivial⟩) fun z => ?_
 refine wt 0 18 1 rfl z (ov_load (v := .pointer (some ⟨g, 0, none⟩)) sc262 rfl (fun _ hm => (hm.2.1).2) rfl) ?_
 refine wt 1 18 3 rfl z (ov_nilcheck rfl) ?_
 refine wt 2 18 7 rfl z (ov_field fo266_1 rfl rfl) ?_
 refine wt 3 18 15 rfl z (ov_load (v := .slice (some ⟨b9, o9, none⟩) nb c9) sc263 rfl (fun _ hm => (hm.2.2.1).2) rfl) ?_
 refine wt 4 18 31 rfl z (ov_move rfl) ?_
 refine wt 5 18 63 rfl z (ov_index (j := i) es263 rfl rfl (by omega)) ?_
 refine wt 6 18 127 rfl z (ov_elem1 (k := 0) (v := .slice xa xn xc) sc269 rfl (fun _ hm => (hm.1).1) hx rfl rfl) ?_
 refine wt 7 18 255 rfl z (ov_len es269 rfl) ?_
 refine wt 8 18 511 rfl z (ov_load (v := .pointer (some ⟨g, 0, none⟩)) sc262 rfl (fun _ hm => (hm.2.1).2) rfl) ?_
 refine wt 9 18 1023 rfl z (ov_nilcheck rfl) ?_
 refine wt 10 18 2047 rfl z (ov_field fo266_1 rfl rfl) ?_
 refine wt 11 18 4095 rfl z (ov_load (v := .slice (some ⟨b9, o9, none⟩) nb c9) sc263 rfl (fun _ hm => (hm.2.2.1).2) rfl) ?_
 refine wt 12 18 8191 rfl z (ov_move rfl) ?_
 refine wt 13 18 16383 rfl z (ov_index (j := j) es263 rfl rfl (by omega)) ?_
 refine wt 14 18 32767 rfl z (ov_elem1 (k := 0) (v := .slice ya yn yc) sc269 rfl (fun _ hm => (hm.1).1) hy rfl rfl) ?_
 refine wt 15 18 65535 rfl z (ov_len es269 rfl) ?_
 refine wa1 16 rfl ?_
 refine wl_callv rfl cb83 rfl rfl (fun wx hm => (cmp_int _ _ wx)) ?_
 refine wl_nil ?_
 refine nw 18 131071 (fun _ hm => ⟨hm.fa 0, hm.fa 1, hm.fa 2, trivial⟩) fun z => ?_
 refine wt 17 18 262143 rfl z (ov_assign rfl) ?_
 refine wa_done (by kernel_rfl) ?_
 refine nx_then ?_
 refine gw_ret ?_
 refine nx_ret1 rfl rfl fun wx hm => ?_
 exact ⟨rfl, hm.g⟩
theorem coJ_any (cx : List ChS) (css : List (List (CdW ByteArray))) (A9 : Option Addr) (nb c9 g7 g : Nat) (q0 q2 q3 q4 q5 q6 : Value) (x y : Int) (w : World) (hch : SlT csnEnc 1 269 w A9 nb cx) (hp : Blk w g7 262 [.pointer (some ⟨g, 0, none⟩)]) (hb : Blk w g 266 [q0, .slice A9 nb c9, q2, q3, q4, q5, q6]) (hcx : cx.map ChS.l = css) (hcn : ∀ x ∈ cx, x.l.length = x.n) (hx : 0 ≤ x ∧ x < (nb : Int)) (hy : 0 ≤ y ∧ y < (nb : Int)) :
    Calls Tryz.prog 227 #[.int .i64 x, .int .i64 y, .pointer (some ⟨g7, 0, none⟩)] w (fun e w' => e = .returned (.int .i64 (cmpI (lenN css x.toNat : Int) (lenN css y.toNat : Int))) ∧ w.grownBy w' none) := by
  obtain ⟨i, rfl⟩ := Int.eq_ofNat_of_zero_le hx.1
  obtain ⟨j, rfl⟩ := Int.eq_ofNat_of_zero_le hy.1
  exact coI_any cx css A9 nb c9 g7 g q0 q2 q3 q4 q5 q6 i j w hch hp hb hcx hcn (by omega) (by omega)
theorem ins_co (cx : List ChS) (css : List (List (CdW ByteArray))) (A9 : Option Addr) (nb c9 g7 g : Nat) (q0 q2 q3 q4 q5 q6 : Value) (l0 : List Int) (br n cap base : Nat) (w : World) (h : w.ownsRow base 3 1 (.slice (some ⟨br, 0, none⟩) n cap) n (l0.flatMap iEnc)) (hl0 : l0.length = n) (hn : n ≤ 1000000) (hch : SlOld csnEnc 1 269 w.heap.size (some br) A9 nb cx w) (hp : BlkOld w.heap.size (some br) g7 262 [.pointer (some ⟨g, 0, none⟩)] w) (hb : BlkOld w.heap.size (some br) g 266 [q0, .slice A9 nb c9, q2, q3, q4, q5, q6] w) (hcx : cx.map ChS.l = css) (hcn : ∀ x ∈ cx, x.l.length = x.n) (hall : ∀ z ∈ l0, 0 ≤ z ∧ z < (nb : Int)) :
  Calls Tryz.prog 296 #[.slice (some ⟨br, 0, none⟩) n cap, .int .i64 0, .int .i64 ((n : Nat) : Int), .func (.func 227) #[] #[.pointer (some ⟨g7, 0, none⟩)]] w (fun e w' => e = .returned (.tuple #[]) ∧ w'.ownsRow base 3 1 (.slice (some ⟨br, 0, none⟩) n cap) n ((isort (coLt css) l0).flatMap iEnc) ∧ w.grownBy w' (some br)) := by
 obtain ⟨R, hR⟩ : ∃ z, z = isort (coLt css) l0 := ⟨_, rfl⟩
 rw [← hR]
 refine gw_enter ⟨53, w, (some br), []⟩ Tryz.func296 rfl Tryz.ntmps296 rfl (memR (X := [SlOld csnEnc 1 269 w.heap.size (some br) A9 nb cx, BlkOld w.heap.size (some br) g7 262 [.pointer (some ⟨g, 0, none⟩)], BlkOld w.heap.size (some br) g 266 [q0, .slice A9 nb c9, q2, q3, q4, q5, q6]]) h (allF_cons hch (allF_cons hp (allF_cons hb allF_nil))) (allL_cons SlOld.lasts (allL_cons BlkOld.lasts (allL_cons BlkOld.lasts allL_nil)))) ?_
 refine sr_ (mv_ rfl (ad_ rfl rfl ?_))
 refine wl_set 11 (v' := .int .i64 1) rfl rfl ?_
 refine sg_ rfl (nn_ (gw_block ?_))
 refine gw_loop (γ := Nat × List Int) (fun gg => (1 ≤ gg.1 ∧ gg.1 ≤ n + 1) ∧ gg.2.length = n ∧ isortF (coLt css) (n - gg.1) gg.1 gg.2 = R) (fun gg => [(0, .slice (some ⟨br, 0, none⟩) n cap), (1, .int .i64 0), (2, .int .i64 ((n : Nat) : Int)), (3, .func (.func 227) #[] #[.pointer (some ⟨g7, 0, none⟩)]), (8, .int .i64 ((gg.1 : Nat) : Int))]) (fun gg => RowK base 3 1 n cap br ((gg.2).flatMap iEnc)) (fun gg => []) (fun gg => []) (fun gg => [SlOld csnEnc 1 269 w.heap.size (some br) A9 nb cx, BlkOld w.heap.size (some br) g7 262 [.pointer (some ⟨g, 0, none⟩)], BlkOld w.heap.size (some br) g 266 [q0, .slice A9 nb c9, q2, q3, q4, q5, q6]]) (fun gg => n + 1 - gg.1) (1, l0) ⟨⟨Nat.le_refl _, by omega⟩, hl0, by rw [hR]; unfold isort; rw [hl0]⟩ ⟨rfl, rfl, rfl, rfl, (some_int (by omega)), trivial⟩ (fun _ hm => hm.pick [] [] [0, 1, 2] rfl rfl) ?_
 rintro ⟨i, l⟩ hinv
 replace hinv : (1 ≤ i ∧ i ≤ n + 1) ∧ l.length = n ∧ isortF (coLt css) (n - i) i l = R := hinv
 dsimp only
 refine gw_seq (sr_ ?_)
 obtain ⟨⟨hi1, hi2⟩, hl1, hR1⟩ := hinv
 refine mv_ rfl (mv_ rfl (wl_ov (ov_lss rfl rfl) rfl (nn_ ?_)))
 refine gw_cond rfl (fun hh => ?_) (fun hh => ?_)
 ·have hi : ((i : Nat) : Int) < ((n : Nat) : Int) := by simpa using hh
  clear hh
  refine gw_skip (nx_then (gw_seq (gw_block (sr_ ?_))))
  have hRi : isortF (coLt css) (n - (i + 1)) (i + 1) (sink (coLt css) i l) = R := by rw [← hR1, show n - i = (n - (i + 1)) + 1 by omega]; rfl
  obtain ⟨S, hS⟩ : ∃ z, z = sink (coLt css) i l := ⟨_, rfl⟩
  rw [← hS] at hRi
  have hSl : S.length = n := by rw [hS, sink_len]; exact hl1
  refine mv_ rfl (sg_ rfl (nn_ (gw_block ?_)))
  refine gw_loop (γ := Nat × List Int) (fun gg => (gg.1 ≤ i) ∧ gg.2.length = n ∧ sink (coLt css) gg.1 gg.2 = S) (fun gg => [(0, .slice (some ⟨br, 0, none⟩) n cap), (1, .int .i64 0), (2, .int .i64 ((n : Nat) : Int)), (3, .func (.func 227) #[] #[.pointer (some ⟨g7, 0, none⟩)]), (8, .int .i64 ((i : Nat) : Int)), (9, .int .i64 ((gg.1 : Nat) : Int))]) (fun gg => RowK base 3 1 n cap br ((gg.2).flatMap iEnc)) (fun gg => []) (fun gg => []) (fun gg => [SlOld csnEnc 1 269 w.heap.size (some br) A9 nb cx, BlkOld w.heap.size (some br) g7 262 [.pointer (some ⟨g, 0, none⟩)], BlkOld w.heap.size (some br) g 266 [q0, .slice A9 nb c9, q2, q3, q4, q5, q6]]) (fun gg => gg.1) (i, l) ⟨Nat.le_refl _, hl1, hS.symm⟩ ⟨rfl, rfl, rfl, rfl, rfl, rfl, trivial⟩ (fun _ hm => hm.pick [] [] [0, 1, 2] rfl rfl) ?_
  rintro ⟨jj, m⟩ hinv
  replace hinv : (jj ≤ i) ∧ m.length = n ∧ sink (coLt css) jj m = S := hinv
  dsimp only
  refine gw_seq (gw_seq ?_)
  obtain ⟨hj1, hm1, hS1⟩ := hinv
  rcases jj with _ | j
  ·refine gd (fun wz => (SlOld csnEnc 1 269 w.heap.size (some br) A9 nb cx) wz ∧ (BlkOld w.heap.size (some br) g7 262 [.pointer (some ⟨g, 0, none⟩)]) wz ∧ (BlkOld w.heap.size (some br) g 266 [q0, .slice A9 nb c9, q2, q3, q4, q5, q6]) wz ∧ True) mixed (fun _ hm => ⟨hm.fa 0, hm.fa 1, hm.fa 2, trivial⟩) fun z => ?_
   refine wt 0 17 1 rfl z (ov_move rfl) ?_
   refine wa_set 18 (v' := .int .i64 0) rfl rfl ?_
   refine wt 1 17 3 rfl z (ov_move rfl) ?_
   refine wt 2 17 7 rfl z (ov_gtr rfl rfl) ?_
   refine wa_set 20 (v' := .bool false) rfl (congrArg Value.bool (by decide)) ?_
   refine wt 3 17 15 rfl z (ov_move rfl) ?_
   refine wtf 4 17 31 rfl rfl rfl z ?_
   refine wtf 5 17 63 rfl rfl rfl z ?_
   refine wtf 6 17 127 rfl rfl rfl z ?_
   refine wtf 7 17 255 rfl rfl rfl z ?_
   refine wtf 8 17 511 rfl rfl rfl z ?_
   refine wtf 9 17 1023 rfl rfl rfl z ?_
   refine wtf 10 17 2047 rfl rfl rfl z ?_
   refine wtf 11 17 4095 rfl rfl rfl z ?_
   refine wtf 12 17 8191 rfl rfl rfl z ?_
   refine wtf 13 17 16383 rfl rfl rfl z ?_
   refine wtf 14 17 32767 rfl rfl rfl z ?_
   refine wtf 15 17 65535 rfl rfl rfl z ?_
   refine wt 16 17 131071 rfl z (ov_pick_f rfl rfl) ?_
   refine wa_done (by kernel_rfl) ?_
   refine nx_then (cf_ rfl ?_)
   refine gw_exit ?_
   refine nx_then_exit (nx_then_exit ?_)
   refine nx_blk_here ?_
   refine nx_blk_nrm (nx_then (gw_region (mv_ rfl (ad_ rfl rfl (sg_ rfl (wl_nil ?_))))))
   have hm2 : m = S := hS1
   exact nx_round (i + 1, m) ⟨⟨by dsimp only; omega, by dsimp only; omega⟩, by rw [hm2]; exact hSl, by rw [hm2]; exact hRi⟩ (by dsimp only; omega) ⟨rfl, rfl, rfl, rfl, (some_int (by omega)), trivial⟩ (fun _ hm => hm.pick [] [] [0, 1, 2] rfl rfl)
  have hj2 : j + 1 < n := by omega
  have hin : ∀ z ∈ m, z ∈ l0 := fun z hz => mem_in hR hRi hS1 hz
  obtain ⟨x0, hx⟩ : ∃ x, m[j + 1]? = some x := ⟨_, List.getElem?_eq_getElem (by omega)⟩
  obtain ⟨y0, hy⟩ : ∃ x, m[j]? = some x := ⟨_, List.getElem?_eq_getElem (by omega)⟩
  refine gd (fun wz => (SlOld csnEnc 1 269 w.heap.size (some br) A9 nb cx) wz ∧ (BlkOld w.heap.size (some br) g7 262 [.pointer (some ⟨g, 0, none⟩)]) wz ∧ (BlkOld w.heap.size (some br) g 266 [q0, .slice A9 nb c9, q2, q3, q4, q5, q6]) wz ∧ (RowK base 3 1 n cap br ((m).flatMap iEnc)) wz ∧ True) mixed (fun _ hm => ⟨hm.fa 0, hm.fa 1, hm.fa 2, hm.k, trivial⟩) fun z => ?_
  refine wt 0 17 1 rfl z (ov_move rfl) ?_
  refine wt 1 17 3 rfl z (ov_move rfl) ?_
  refine wt 2 17 7 rfl z (ov_gtr rfl rfl) ?_
  refine wa_set 20 (v' := .bool true) rfl (congrArg Value.bool (decide_eq_true (by omega))) ?_
  refine wt 3 17 15 rfl z (ov_move rfl) ?_
  refine wto 4 17 31 rfl rfl rfl z (ov_move rfl) ?_
  refine wto 5 17 63 rfl rfl rfl z (ov_move rfl) ?_
  refine wto 6 17 127 rfl rfl rfl z (ov_move rfl) ?_
  refine wto 7 17 255 rfl rfl rfl z (ov_index (j := (j + 1)) es22 rfl rfl (by omega)) ?_
  refine wto 8 17 511 rfl rfl rfl z (ov_elem1 (k := 0) (v := .int .i64 x0) sc3 rfl (fun _ hm => (RowK.get (hm.2.2.2.1) iE_len hm1)) hx rfl rfl) ?_
  refine wto 9 17 1023 rfl rfl rfl z (ov_move rfl) ?_
  refine wto 10 17 2047 rfl rfl rfl z (ov_move rfl) ?_
  refine wto 11 17 4095 rfl rfl rfl z (ov_sub rfl rfl (by omega) (by omega)) ?_
  refine wa_set 29 (v' := .int .i64 ((j : Nat) : Int)) rfl (congrArg (Value.int .i64) (by omega)) ?_
  refine wto 12 17 8191 rfl rfl rfl z (ov_index (j := j) es22 rfl rfl (by omega)) ?_
  refine wto 13 17 16383 rfl rfl rfl z (ov_elem1 (k := 0) (v := .int .i64 y0) sc3 rfl (fun _ hm => (RowK.get (hm.2.2.2.1) iE_len hm1)) hy rfl rfl) ?_
  refine wa1 14 rfl ?_
  refine wl_guard_on rfl rfl rfl ?_
  refine wl_callv rfl cb227 rfl rfl (fun wx hm => (coJ_any cx css A9 nb c9 g7 g q0 q2 q3 q4 q5 q6 x0 y0 wx (hm.fact 0 rfl).1 (hm.fact 1 rfl).2 (hm.fact 2 rfl).2 hcx hcn (hall _ (hin _ (List.mem_of_getElem? hx))) (hall _ (hin _ (List.mem_of_getElem? hy))))) ?_
  refine wl_nil ?_
  refine nw 17 32767 (fun _ hm => ⟨hm.fa 0, hm.fa 1, hm.fa 2, hm.k, trivial⟩) fun z => ?_
  refine wto 15 17 65535 rfl rfl rfl z (ov_lss rfl rfl) ?_
  refine wt 16 17 131071 rfl z (ov_pick_t rfl rfl) ?_
  refine wa_done (by kernel_rfl) ?_
  refine nx_then ?_
  refine gw_cond rfl (fun hh => ?_) (fun hh => ?_)
  ·have hlt : cmpI (lenN css x0.toNat : Int) (lenN css y0.toNat : Int) < 0 := by simpa using hh
   clear hh
   refine gw_skip (nx_then (gw_seq (gw_block ?_)))
   have hlt2 : (coLt css) x0 y0 = true := decide_eq_true (show cmpI (lenN css x0.toNat : Int) (lenN css y0.toNat : Int) < 0 from hlt)
   have hS2 := (sink_yes hx hy hlt2).symm.trans hS1
   refine gd (fun wz => (SlOld csnEnc 1 269 w.heap.size (some br) A9 nb cx) wz ∧ (BlkOld w.heap.size (some br) g7 262 [.pointer (some ⟨g, 0, none⟩)]) wz ∧ (BlkOld w.heap.size (some br) g 266 [q0, .slice A9 nb c9, q2, q3, q4, q5, q6]) wz ∧ True) mixed (fun _ hm => ⟨hm.fa 0, hm.fa 1, hm.fa 2, trivial⟩) fun z => ?_
   refine wt 0 18 1 rfl z (ov_move rfl) ?_
   refine wt 1 18 3 rfl z (ov_move rfl) ?_
   refine wt 2 18 7 rfl z (ov_move rfl) ?_
   refine wt 3 18 15 rfl z (ov_move rfl) ?_
   refine wt 4 18 31 rfl z (ov_sub rfl rfl (by omega) (by omega)) ?_
   refine wa_set 41 (v' := .int .i64 ((j : Nat) : Int)) rfl (congrArg (Value.int .i64) (by omega)) ?_
   refine wt 5 18 63 rfl z (ov_move rfl) ?_
   refine wt 6 18 127 rfl z (ov_move rfl) ?_
   refine wt 7 18 255 rfl z (ov_sub rfl rfl (by omega) (by omega)) ?_
   refine wa_set 44 (v' := .int .i64 ((j : Nat) : Int)) rfl (congrArg (Value.int .i64) (by omega)) ?_
   refine wt 8 18 511 rfl z (ov_index (j := j) es22 rfl rfl (by omega)) ?_
   refine wt 10 18 1535 rfl z (ov_move rfl) ?_
   refine wt 11 18 3583 rfl z (ov_move rfl) ?_
   refine wt 12 18 7679 rfl z (ov_index (j := (j + 1)) es22 rfl rfl (by omega)) ?_
   refine wa_all [9, 13] (by kernel_rfl) rfl ⟨⟨_, rfl, ?_⟩, ⟨_, rfl, ?_⟩, trivial⟩
   ·refine wl_ov (ov_elem1 (k := 0) (v := .int .i64 y0) sc3 rfl (fun _ hm => (RowK.get hm.k iE_len hm1)) hy rfl rfl) rfl ?_
    refine wl_nil ?_
    refine nw 18 8191 (fun _ hm => ⟨hm.fa 0, hm.fa 1, hm.fa 2, trivial⟩) fun z => ?_
    refine wa1 13 rfl ?_
    refine wl_ov (ov_elem1 (k := 0) (v := .int .i64 x0) sc3 rfl (fun _ hm => (RowK.get hm.k iE_len hm1)) hx rfl rfl) rfl ?_
    refine wl_nil ?_
    refine nw 18 16383 (fun _ hm => ⟨hm.fa 0, hm.fa 1, hm.fa 2, trivial⟩) fun z => ?_
    refine wt 14 18 32767 rfl z (ov_index (j := (j + 1)) es22 rfl rfl (by omega)) ?_
    refine wa1 15 rfl ?_
    refine wl_storeRow (l := m) (j := j + 1) (r := 0) (el := x0) (el' := y0) rfl sc3 rfl rfl rfl iE_len rfl hx hm1 (by decide) rfl rfl ?_
    refine wl_nil ?_
    refine nw 18 65535 (fun _ hm => ⟨hm.fa 0, hm.fa 1, hm.fa 2, trivial⟩) fun z => ?_
    refine wt 16 18 131071 rfl z (ov_index (j := j) es22 rfl rfl (by omega)) ?_
    refine wa1 17 rfl ?_
    refine wl_storeRow (l := m.set (j + 1) y0) (j := j) (r := 0) (el := y0) (el' := x0) rfl sc3 rfl rfl rfl iE_len rfl (by rw [List.getElem?_set_ne (by omega)]; exact hy) (by rw [List.length_set]; exact hm1) (by decide) rfl rfl ?_
    refine wl_nil ?_
    refine nw 18 262143 (fun _ hm => ⟨hm.fa 0, hm.fa 1, hm.fa 2, trivial⟩) fun z => ?_
    refine wa_done (by kernel_rfl) ?_
    refine nx_blk_nrm (nx_then (gw_region (mv_ rfl ?_)))
    refine wl_ov (ov_sub rfl rfl (by omega) (by omega)) rfl ?_
    refine wl_set 36 (v' := .int .i64 ((j : Nat) : Int)) rfl (congrArg (Value.int .i64) (by omega)) ?_
    refine sg_ rfl (wl_nil ?_)
    exact nx_round (j, (m.set (j + 1) y0).set j x0) ⟨by dsimp only; omega, by simp [hm1], hS2⟩ (by dsimp only; omega) ⟨rfl, rfl, rfl, rfl, rfl, (some_int (by omega)), trivial⟩ (fun _ hm => hm.pick [] [] [0, 1, 2] rfl rfl)
   refine wl_ov (ov_elem1 (k := 0) (v := .int .i64 x0) sc3 rfl (fun _ hm => (RowK.get hm.k iE_len hm1)) hx rfl rfl) rfl ?_
   refine wl_nil ?_
   refine nw 18 15871 (fun _ hm => ⟨hm.fa 0, hm.fa 1, hm.fa 2, trivial⟩) fun z => ?_
   refine wa1 9 rfl ?_
   refine wl_ov (ov_elem1 (k := 0) (v := .int .i64 y0) sc3 rfl (fun _ hm => (RowK.get hm.k iE_len hm1)) hy rfl rfl) rfl ?_
   refine wl_nil ?_
   refine nw 18 16383 (fun _ hm => ⟨hm.fa 0, hm.fa 1, hm.fa 2, trivial⟩) fun z => ?_
   refine wt 14 18 32767 rfl z (ov_index (j := (j + 1)) es22 rfl rfl (by omega)) ?_
   refine wa1 15 rfl ?_
   refine wl_storeRow (l := m) (j := j + 1) (r := 0) (el := x0) (el' := y0) rfl sc3 rfl rfl rfl iE_len rfl hx hm1 (by decide) rfl rfl ?_
   refine wl_nil ?_
   refine nw 18 65535 (fun _ hm => ⟨hm.fa 0, hm.fa 1, hm.fa 2, trivial⟩) fun z => ?_
   refine wt 16 18 131071 rfl z (ov_index (j := j) es22 rfl rfl (by omega)) ?_
   refine wa1 17 rfl ?_
   refine wl_storeRow (l := m.set (j + 1) y0) (j := j) (r := 0) (el := y0) (el' := x0) rfl sc3 rfl rfl rfl iE_len rfl (by rw [List.getElem?_set_ne (by omega)]; exact hy) (by rw [List.length_set]; exact hm1) (by decide) rfl rfl ?_
   refine wl_nil ?_
   refine nw 18 262143 (fun _ hm => ⟨hm.fa 0, hm.fa 1, hm.fa 2, trivial⟩) fun z => ?_
   refine wa_done (by kernel_rfl) ?_
   refine nx_blk_nrm (nx_then (gw_region (mv_ rfl ?_)))
   refine wl_ov (ov_sub rfl rfl (by omega) (by omega)) rfl ?_
   refine wl_set 36 (v' := .int .i64 ((j : Nat) : Int)) rfl (congrArg (Value.int .i64) (by omega)) ?_
   refine sg_ rfl (wl_nil ?_)
   exact nx_round (j, (m.set (j + 1) y0).set j x0) ⟨by dsimp only; omega, by simp [hm1], hS2⟩ (by dsimp only; omega) ⟨rfl, rfl, rfl, rfl, rfl, (some_int (by omega)), trivial⟩ (fun _ hm => hm.pick [] [] [0, 1, 2] rfl rfl)
  have hlt : ¬ (cmpI (lenN css x0.toNat : Int) (lenN css y0.toNat : Int) < 0) := by simpa using hh
  clear hh
  refine gw_exit ?_
  refine nx_then_exit (nx_then_exit ?_)
  refine nx_blk_here ?_
  refine nx_blk_nrm (nx_then (gw_region ?_))
  have hlt2 : (coLt css) x0 y0 = false := decide_eq_false (show ¬ cmpI (lenN css x0.toNat : Int) (lenN css y0.toNat : Int) < 0 from hlt)
  have hS2 := (sink_no hx hy hlt2).symm.trans hS1
  refine mv_ rfl (ad_ rfl rfl (sg_ rfl (wl_nil ?_)))
  have hm2 : m = S := hS2
  exact nx_round (i + 1, m) ⟨⟨by dsimp only; omega, by dsimp only; omega⟩, by rw [hm2]; exact hSl, by rw [hm2]; exact hRi⟩ (by dsimp only; omega) ⟨rfl, rfl, rfl, rfl, (some_int (by omega)), trivial⟩ (fun _ hm => hm.pick [] [] [0, 1, 2] rfl rfl)
 have hi : ¬ (((i : Nat) : Int) < ((n : Nat) : Int)) := by simpa using hh
 clear hh
 refine gw_exit ?_
 refine nx_then_exit (nx_then_exit ?_)
 refine nx_blk_here ?_
 obtain rfl : l = R := by rw [← hR1, show n - i = 0 by omega]; rfl
 refine nx_ret0 rfl fun wx hm => ?_
 exact ⟨rfl, fin_row hm.k hm.g⟩
theorem stb_co (cx : List ChS) (css : List (List (CdW ByteArray))) (A9 : Option Addr) (nb c9 g7 g : Nat) (q0 q2 q3 q4 q5 q6 : Value) (l0 : List Int) (br n cap base : Nat) (w : World) (h : w.ownsRow base 3 1 (.slice (some ⟨br, 0, none⟩) n cap) n (l0.flatMap iEnc)) (hl0 : l0.length = n) (hn : n ≤ 19) (hch : SlOld csnEnc 1 269 w.heap.size (some br) A9 nb cx w) (hp : BlkOld w.heap.size (some br) g7 262 [.pointer (some ⟨g, 0, none⟩)] w) (hb : BlkOld w.heap.size (some br) g 266 [q0, .slice A9 nb c9, q2, q3, q4, q5, q6] w) (hcx : cx.map ChS.l = css) (hcn : ∀ x ∈ cx, x.l.length = x.n) (hall : ∀ z ∈ l0, 0 ≤ z ∧ z < (nb : Int)) :
  Calls Tryz.prog 237 #[.slice (some ⟨br, 0, none⟩) n cap, .int .i64 ((n : Nat) : Int), .func (.func 227) #[] #[.pointer (some ⟨g7, 0, none⟩)]] w (fun e w' => e = .returned (.tuple #[]) ∧ w'.ownsRow base 3 1 (.slice (some ⟨br, 0, none⟩) n cap) n ((isort (coLt css) l0).flatMap iEnc) ∧ w.grownBy w' (some br)) := by
 refine gw_enter ⟨63, w, (some br), []⟩ Tryz.func237 rfl Tryz.ntmps237 rfl (memR (X := [SlOld csnEnc 1 269 w.heap.size (some br) A9 nb cx, BlkOld w.heap.size (some br) g7 262 [.pointer (some ⟨g, 0, none⟩)], BlkOld w.heap.size (some br) g 266 [q0, .slice A9 nb c9, q2, q3, q4, q5, q6]]) h (allF_cons hch (allF_cons hp (allF_cons hb allF_nil))) (allL_cons SlOld.lasts (allL_cons BlkOld.lasts (allL_cons BlkOld.lasts allL_nil)))) ?_
 refine sr_ (sg_ rfl (nn_ (sr_ (mv_ rfl (sg_ rfl (sg_ rfl (nn_ (gw_seq (gw_block ?_)))))))))
 refine gw_rounds 1 ?_
 refine gr_next ?_
 refine gw_seq (sr_ (mv_ rfl (mv_ rfl (wl_ov (ov_leq rfl rfl) rfl ?_))))
 refine wl_set 13 (v' := .bool false) rfl (congrArg Value.bool (decide_eq_false (by omega))) ?_
 refine nn_ (cf_ rfl ?_)
 refine gw_exit ?_
 refine nx_then_exit (nx_then_exit ?_)
 refine nx_blk_here ?_
 refine nx_then (sr_ (mv_ rfl (mv_ rfl (mv_ rfl (mv_ rfl ?_)))))
 refine wl_callK rfl rfl rfl cb296 rfl rfl (fun wx hm => (ins_co cx css A9 nb c9 g7 g q0 q2 q3 q4 q5 q6 l0 br n cap base wx hm.k hl0 (by omega) (hm.fact 0 rfl).again (hm.fact 1 rfl).again2 (hm.fact 2 rfl).again2 hcx hcn hall)) ?_
 refine nn_ (gw_block ?_)
 refine gw_rounds 1 ?_
 refine gr_next ?_
 refine gw_seq (sr_ (mv_ rfl (mv_ rfl (wl_ov (ov_lss rfl rfl) rfl ?_))))
 refine wl_set 30 (v' := .bool false) rfl (congrArg Value.bool (decide_eq_false (by omega))) ?_
 refine nn_ (cf_ rfl ?_)
 refine gw_exit ?_
 refine nx_then_exit (nx_then_exit ?_)
 refine nx_blk_here ?_
 refine nx_ret0 rfl fun wx hm => ?_
 exact ⟨rfl, fin_row hm.k hm.g⟩
set_option maxRecDepth 100000 in
set_option maxHeartbeats 400000 in
theorem stable_co (cx : List ChS) (css : List (List (CdW ByteArray))) (A9 : Option Addr) (nb c9 g7 g : Nat) (q0 q2 q3 q4 q5 q6 : Value) (l0 : List Int) (br n cap base : Nat) (w : World) (h : w.ownsRow base 3 1 (.slice (some ⟨br, 0, none⟩) n cap) n (l0.flatMap iEnc)) (hl0 : l0.length = n) (hn : n ≤ 19) (hch : SlOld csnEnc 1 269 w.heap.size (some br) A9 nb cx w) (hp : BlkOld w.heap.size (some br) g7 262 [.pointer (some ⟨g, 0, none⟩)] w) (hb : BlkOld w.heap.size (some br) g 266 [q0, .slice A9 nb c9, q2, q3, q4, q5, q6] w) (hcx : cx.map ChS.l = css) (hcn : ∀ x ∈ cx, x.l.length = x.n) (hall : ∀ z ∈ l0, 0 ≤ z ∧ z < (nb : Int)) :
    Calls Tryz.prog 155 #[.slice (some ⟨br, 0, none⟩) n cap, .func (.func 227) #[] #[.pointer (some ⟨g7, 0, none⟩)]] w (fun e w' => e = .returned (.tuple #[]) ∧ w'.ownsRow base 3 1 (.slice (some ⟨br, 0, none⟩) n cap) n ((isort (coLt css) l0).flatMap iEnc) ∧ w.grownBy w' (some br)) := by
  refine gw_enter ⟨9, w, (some br), []⟩ Tryz.func155 rfl Tryz.ntmps155 rfl (memR (X := [SlOld csnEnc 1 269 w.heap.size (some br) A9 nb cx, BlkOld w.heap.size (some br) g7 262 [.pointer (some ⟨g, 0, none⟩)], BlkOld w.heap.size (some br) g 266 [q0, .slice A9 nb c9, q2, q3, q4, q5, q6]]) h (allF_cons hch (allF_cons hp (allF_cons hb allF_nil))) (allL_cons SlOld.lasts (allL_cons BlkOld.lasts (allL_cons BlkOld.lasts allL_nil)))) ?_
  refine gw_region ?_
  refine wl_ov (ov_move rfl) rfl ?_
  refine wl_ov (ov_move rfl) rfl ?_
  refine wl_ov (ov_len es22 rfl) rfl ?_
  refine wl_ov (ov_move rfl) rfl ?_
  refine wl_callK rfl rfl rfl cb237 rfl rfl (fun wx hm => (stb_co cx css A9 nb c9 g7 g q0 q2 q3 q4 q5 q6 l0 br n cap base wx hm.k hl0 (by omega) (hm.fact 0 rfl).again (hm.fact 1 rfl).again2 (hm.fact 2 rfl).again2 hcx hcn hall)) ?_
  refine wl_nil ?_
  refine nx_ret0 rfl fun wx hm => ?_
  exact ⟨rfl, fin_row hm.k hm.g⟩
theorem ins0_co (A : Option Addr) (cap g7 : Nat) (w : World) : Calls Tryz.prog 296 #[.slice A 0 cap, .int .i64 0, .int .i64 0, .func (.func 227) #[] #[.pointer (some ⟨g7, 0, none⟩)]] w (fun e w' => e = .returned (.tuple #[]) ∧ w.grownBy w' none) := by
 refine gw_enter ⟨53, w, none, []⟩ Tryz.func296 rfl Tryz.ntmps296 rfl (mem0 (X := []) allF_nil allL_nil) ?_
 refine sr_ (mv_ rfl (ad_ rfl rfl ?_))
 refine wl_set 11 (v' := .int .i64 1) rfl rfl ?_
 refine sg_ rfl (nn_ (gw_block ?_))
 refine gw_rounds 1 ?_
 refine gr_next ?_
 refine gw_seq (sr_ (mv_ rfl (mv_ rfl (wl_ov (ov_lss rfl rfl) rfl ?_))))
 refine wl_set 14 (v' := .bool false) rfl (congrArg Value.bool (by decide)) ?_
 refine nn_ (cf_ rfl ?_)
 refine gw_exit ?_
 refine nx_then_exit (nx_then_exit ?_)
 refine nx_blk_here ?_
 refine nx_ret0 rfl fun wx hm => ?_
 exact ⟨rfl, hm.g⟩
theorem stb0_co (A : Option Addr) (cap g7 : Nat) (w : World) : Calls Tryz.prog 237 #[.slice A 0 cap, .int .i64 0, .func (.func 227) #[] #[.pointer (some ⟨g7, 0, none⟩)]] w (fun e w' => e = .returned (.tuple #[]) ∧ w.grownBy w' none) := by
 refine gw_enter ⟨63, w, none, []⟩ Tryz.func237 rfl Tryz.ntmps237 rfl (mem0 (X := []) allF_nil allL_nil) ?_
 refine sr_ (sg_ rfl (nn_ (sr_ (mv_ rfl (sg_ rfl (sg_ rfl (nn_ (gw_seq (gw_block ?_)))))))))
 refine gw_rounds 1 ?_
 refine gr_next ?_
 refine gw_seq (sr_ (mv_ rfl (mv_ rfl (wl_ov (ov_leq rfl rfl) rfl ?_))))
 refine wl_set 13 (v' := .bool false) rfl (congrArg Value.bool (by decide)) ?_
 refine nn_ (cf_ rfl ?_)
 refine gw_exit ?_
 refine nx_then_exit (nx_then_exit ?_)
 refine nx_blk_here ?_
 refine nx_then (sr_ (mv_ rfl (mv_ rfl (mv_ rfl (mv_ rfl ?_)))))
 refine wl_callv rfl cb296 rfl rfl (fun wx hm => (ins0_co A cap g7 wx)) ?_
 refine nn_ (gw_block ?_)
 refine gw_rounds 1 ?_
 refine gr_next ?_
 refine gw_seq (sr_ (mv_ rfl (mv_ rfl (wl_ov (ov_lss rfl rfl) rfl ?_))))
 refine wl_set 30 (v' := .bool false) rfl (congrArg Value.bool (by decide)) ?_
 refine nn_ (cf_ rfl ?_)
 refine gw_exit ?_
 refine nx_then_exit (nx_then_exit ?_)
 refine nx_blk_here ?_
 refine nx_ret0 rfl fun wx hm => ?_
 exact ⟨rfl, hm.g⟩
set_option maxRecDepth 100000 in
set_option maxHeartbeats 400000 in
theorem stable0_co (A : Option Addr) (cap g7 : Nat) (w : World) : Calls Tryz.prog 155 #[.slice A 0 cap, .func (.func 227) #[] #[.pointer (some ⟨g7, 0, none⟩)]] w (fun e w' => e = .returned (.tuple #[]) ∧ w.grownBy w' none) := by
  refine gw_enter ⟨9, w, none, []⟩ Tryz.func155 rfl Tryz.ntmps155 rfl (mem0 (X := []) allF_nil allL_nil) ?_
  refine gw_region ?_
  refine wl_ov (ov_move rfl) rfl ?_
  refine wl_ov (ov_move rfl) rfl ?_
  refine wl_ov (ov_len es22 rfl) rfl ?_
  refine wl_set 6 (v' := .int .i64 0) rfl rfl ?_
  refine wl_ov (ov_move rfl) rfl ?_
  refine wl_callv rfl cb237 rfl rfl (fun wx hm => (stb0_co A cap g7 wx)) ?_
  refine wl_nil ?_
  refine nx_ret0 rfl fun wx hm => ?_
  exact ⟨rfl, hm.g⟩
end Go.Proofs.YtempjmpfdniecaaGreatDoor
namespace Go.Proofs.YtempjmpfdniecaaGreatDoor
open Go.RowKit
/-- The least number of steps, or -1. -/
def FwOk (cs : List Cs) (sl : List Sk) (l : List Bk) (v : Int) : Prop := (v = -1 ∧ asgO cs sl l = none) ∨ ∃ (k : Nat) (o : List (ByteArray × Nat)), v = (k : Int) ∧ asgO cs sl l = some o ∧ unitsW (l.map wnB) (roomU (l.map wnB)) (l.map (chB cs sl)) [] k = some o ∧ k ≤ l.length * cs.length
theorem fw_none {cs : List Cs} {sl : List Sk} {l : List Bk} (h : asgO cs sl l = none) : FwOk cs sl l (-1) := .inl ⟨rfl, h⟩
theorem keys_ix {cs : List Cs} {l : List Bk} (h : ∀ b ∈ l, keysE cs [b.cls] = 0) : ∀ b ∈ l, 0 ≤ ixP (csP b.cls) cs 0 := fun b hb => (keys_ok (h b hb)).2 _ (List.mem_singleton.2 rfl)
theorem ch_steps {cs : List Cs} {sl : List Sk} {b : Bk} (hcl : Closed cs) (hlo : loopB cs cs.length = false) (h30 : cs.length ≤ 30) (hk : 0 ≤ ixP (csP b.cls) cs 0) : ∀ q ∈ chB cs sl b, q.2.1 ≤ 1000 := fun q hq => by
  have h1 := (ch_ok (many := capB sl) (path_nodup hcl hlo hk)).2.2.2 q hq
  have h2 := path_lenA hcl hlo hk
  omega
theorem ch_short {cs : List Cs} {sl : List Sk} {b : Bk} (hcl : Closed cs) (hlo : loopB cs cs.length = false) (h30 : cs.length ≤ 30) (hk : 0 ≤ ixP (csP b.cls) cs 0) : (chB cs sl b).length ≤ 1000 := by
  have h1 := List.length_filter_le (fun k : CdW ByteArray => decide (0 < k.2.2)) (wayC (capB sl) 0 (clsF cs b))
  rw [way_len] at h1
  have h2 : (clsF cs b).length ≤ cs.length := path_lenA hcl hlo hk
  exact Nat.le_trans h1 (by omega)
theorem fw_bb {cs : List Cs} {sl : List Sk} {l : List Bk} (hcl : Closed cs) (hlo : loopB cs cs.length = false) (hk : ∀ b ∈ l, 0 ≤ ixP (csP b.cls) cs 0) (ht : BkTim l) {od : List Nat} (hp : od.Perm (List.range l.length)) : FwOk cs sl l (bestI (bbW roomF (od.map (itB cs sl l)) [] 0 none)) := by
  rcases asg_same (sl := sl) hcl hlo hk (fun b hb => (ht b hb).2.1) (it_perm hp) with ⟨h1, h2⟩ | ⟨k, o, h1, h2, h3, h4, _⟩
  · rw [h1]; exact fw_none h2
  · rw [h1]; exact .inr ⟨k, o, rfl, h2, h3, h4⟩
def coB (cs : List Cs) (sl : List Sk) (l : List Bk) (od : List Nat) : List (List (CdW ByteArray)) := od.map fun j => chB cs sl (bkAt l j)
theorem co_it {cs : List Cs} {sl : List Sk} {l : List Bk} {od : List Nat} {k : Nat} : restI ((od.drop k).map (itB cs sl l)) = restW ((coB cs sl l od).drop k) := by
  rw [restI_W, List.map_map]
  unfold coB
  rw [← List.map_drop]; rfl
theorem co_at {cs : List Cs} {sl : List Sk} {l : List Bk} {od : List Nat} {k i : Nat} (h : od[k]? = some i) : (coB cs sl l od)[k]? = some (chB cs sl (bkAt l i)) := by
  unfold coB; rw [List.getElem?_map, h]; rfl
theorem co_le {cs : List Cs} {sl : List Sk} {l : List Bk} {od : List Nat} (hs : ∀ b ∈ l, ∀ q ∈ chB cs sl b, q.2.1 ≤ 1000) (ho : ∀ j ∈ od, j < l.length) (k : Nat) : restW ((coB cs sl l od).drop k) ≤ od.length * 1000 := by
  have h := restW_le (M := 1000) (css := (coB cs sl l od).drop k) fun c hc q hq => by
    have hm := List.mem_of_mem_drop hc
    unfold coB at hm
    obtain ⟨j, hj, rfl⟩ := List.mem_map.1 hm
    obtain ⟨b, hb⟩ : ∃ b, l[j]? = some b := ⟨_, List.getElem?_eq_getElem (ho j hj)⟩
    rw [bkAt_get hb] at hq
    exact hs b (List.mem_of_getElem? hb) q hq
  rw [List.length_drop] at h
  have e : (coB cs sl l od).length = od.length := by unfold coB; rw [List.length_map]
  rw [e] at h
  exact Nat.le_trans h (Nat.mul_le_mul_right _ (by omega))
theorem head_at {c : List (CdW ByteArray)} {k : CdW ByteArray} (h : c[0]? = some k) : headW c = k.2.1 := by
  cases c with
  | nil => cases h
  | cons x r => cases h; rfl
theorem zc262 : zeroCs Tryz.prog 262 = some [.pointer none] := by kernel_rfl
theorem fewest_any (cs : List Cs) (A0 : Option Addr) (n0 c0 : Nat) (sl : List Sk) (A1 : Option Addr) (n1 c1 : Nat) (l : List Bk) (A : Option Addr) (n c : Nat) (w : World) (hcs : SlT csEnc 2 158 w A0 n0 cs) (hco : ∀ x ∈ cs, CsOk x) (hn0 : n0 ≤ 1000) (hs : SlT skEnc 2 211 w A1 n1 sl) (hso : ∀ x ∈ sl, SkOk x) (hn1 : n1 ≤ 1000) (hl : SlT bkEnc 6 92 w A n l) (hn : n ≤ 12) (hcl : Closed cs) (hlo : loopB cs cs.length = false) (h30 : cs.length ≤ 30) (hkeys : ∀ b ∈ l, keysE cs [b.cls] = 0) (htm : BkTim l) :
  Calls Tryz.prog 134 #[.slice A0 n0 c0, .slice A1 n1 c1, .slice A n c] w (fun e w' => ∃ v, e = .returned (.int .i64 v) ∧ FwOk cs sl l v ∧ w.grownBy w' none) := by
 refine gw_enter ⟨102, w, none, [269, 268]⟩ Tryz.func134 rfl Tryz.ntmps134 rfl (mem0 (X := [SlOld csEnc 2 158 w.heap.size none A0 n0 cs, SlOld skEnc 2 211 w.heap.size none A1 n1 sl, SlOld bkEnc 6 92 w.heap.size none A n l]) (allF_cons hcs.old (allF_cons hs.old (allF_cons hl.old allF_nil))) (allL_cons SlOld.lasts (allL_cons SlOld.lasts (allL_cons SlOld.lasts allL_nil)))) ?_
 refine sr_ ?_
 have hlen := hl.len
 have hix := keys_ix hkeys
 have hstp : ∀ b ∈ l, ∀ q ∈ chB cs sl b, q.2.1 ≤ 1000 := fun b hb => ch_steps hcl hlo h30 (hix b hb)
 have hchl : ∀ b ∈ l, (chB cs sl b).length ≤ 1000 := fun b hb => ch_short hcl hlo h30 (hix b hb)
 refine sg_ rfl (nn_ ?_)
 refine gw_cut (γ := Option Addr × Nat × List ChS × Nat × Nat × Nat) (I := (fun g => g.2.2.1.map ChS.l = l.map (chB cs sl))) (S' := (fun g => [(2, .slice A n c), (6, .int .i64 0), (7, .pointer (some ⟨g.2.2.2.1, 0, none⟩))])) (K' := (fun g => fun _ => True)) (L' := (fun g => [(g.2.2.2.1, 262, [.pointer (some ⟨g.2.2.2.2.1, 0, none⟩)]), (g.2.2.2.2.1, 266, [.slice A n c, .slice g.1 n g.2.1, .slice none 0 0, .slice (some ⟨g.2.2.2.2.2, 0, none⟩) n n, .slice none 0 0, .slice none 0 0, .int .i64 (-1)])])) (O' := (fun g => [⟨.slice (some ⟨g.2.2.2.2.2, 0, none⟩) n n, 9, 1, n, (List.replicate (n) (⟨#[]⟩ : ByteArray)).flatMap sgEnc⟩])) (X' := (fun g => [SlOld csEnc 2 158 w.heap.size none A0 n0 cs, SlOld skEnc 2 211 w.heap.size none A1 n1 sl, SlOld bkEnc 6 92 w.heap.size none A n l, fun wy => SlT csnEnc 1 269 wy g.1 n g.2.2.1, fun wy => Chs 268 g.2.2.1 wy])) ?_ ?_
 ·refine gd (fun wz => (SlOld csEnc 2 158 w.heap.size none A0 n0 cs) wz ∧ (SlOld skEnc 2 211 w.heap.size none A1 n1 sl) wz ∧ (SlOld bkEnc 6 92 w.heap.size none A n l) wz ∧ True) mixed (fun _ hm => ⟨hm.fa 0, hm.fa 1, hm.fa 2, trivial⟩) fun z => ?_
  refine wt 0 12 1 rfl z (ov_move rfl) ?_
  refine wt 1 12 3 rfl z (ov_move rfl) ?_
  refine wt 2 12 7 rfl z (ov_move rfl) ?_
  refine wt 3 12 15 rfl z (ov_move rfl) ?_
  refine wt 5 12 47 rfl z (ov_move rfl) ?_
  refine wt 6 12 111 rfl z (ov_len es76 rfl) ?_
  refine wa_all [4, 7, 10] (by kernel_rfl) rfl ⟨⟨_, rfl, ?_⟩, ⟨_, rfl, ?_⟩, ⟨_, rfl, ?_⟩, trivial⟩
  ·refine wl_callx (γ := Option Addr × Nat × List ChS) (val := (fun g => .slice g.1 n g.2.1)) (φ := (fun g => g.2.2.map ChS.l = l.map (chB cs sl))) (Y := (fun g => fun wy => SlT csnEnc 1 269 wy g.1 n g.2.2 ∧ Chs 268 g.2.2 wy)) rfl cb220 rfl rfl (fun wx hm => (choicesP_any cs A0 n0 c0 sl A1 n1 c1 l A n c wx (hm.fact 0 rfl).1 hco (by omega) (hm.fact 1 rfl).1 hso (by omega) (hm.fact 2 rfl).1 (by omega) hkeys).mono fun _ _ ⟨A9, c9, cx, he, h1, h2, h3, hg⟩ => ⟨(A9, c9, cx), he, h3, hg, ⟨h1, h2⟩⟩) (fun _ => (SlT.lasts2 rfl).and_ (Chs.lasts rfl)) ?_
   rintro ⟨A9, c9, cx⟩ hcx
   dsimp only at hcx ⊢
   refine wl_nil ?_
   refine nw 12 127 (fun _ hm => ⟨hm.fa 1, hm.fa 2, hm.fa 3, trivial⟩) fun z => ?_
   refine wa_all [7, 10] (by kernel_rfl) rfl ⟨⟨_, rfl, ?_⟩, ⟨_, rfl, ?_⟩, trivial⟩
   ·refine wl_makeO (n := n) (sz := 1) (e := 9) (by_ := 16) (z := .string ⟨#[]⟩) (by kernel_rfl) (by kernel_rfl) rfl rfl (by omega) (by omega) (by omega) (by unfold maxLen; omega) (made_flat (enc := sgEnc) (x := (⟨#[]⟩ : ByteArray)) rfl rfl (by decide) (n)) rfl fun g1 => ?_
    refine wl_nil ?_
    refine nw 12 255 (fun _ hm => ⟨hm.fa 1, hm.fa 2, hm.fa 3, trivial⟩) fun z => ?_
    refine wt 8 12 511 rfl z (ov_build (cs := [.slice A n c, .slice A9 n c9, .slice none 0 0, .slice (some ⟨g1, 0, none⟩) n n, .slice none 0 0, .slice none 0 0, .int .i64 (-1)]) rfl (by kernel_rfl)) ?_
    refine wa_all [9, 10] (by kernel_rfl) rfl ⟨⟨_, rfl, ?_⟩, ⟨_, rfl, ?_⟩, trivial⟩
    ·refine wl_box rfl rfl rfl fun g2 => ?_
     refine wl_nil ?_
     refine nw 12 1023 (fun _ hm => ⟨hm.fa 1, hm.fa 2, hm.fa 3, trivial⟩) fun z => ?_
     refine wa1 10 rfl ?_
     refine wl_alloc zc262 rfl fun g3 => ?_
     refine wl_nil ?_
     refine nw 12 2047 (fun _ hm => ⟨hm.fa 1, hm.fa 2, hm.fa 3, trivial⟩) fun z => ?_
     refine wa1 11 rfl ?_
     refine wl_store 0 sc262 rfl rfl rfl rfl rfl rfl ?_
     refine wl_nil ?_
     refine nw 12 4095 (fun _ hm => ⟨hm.fa 1, hm.fa 2, hm.fa 3, trivial⟩) fun z => ?_
     refine wa_done (by kernel_rfl) ?_
     refine nx_also (Y := fun wy => SlT csnEnc 1 269 wy A9 n cx) (SlT.lasts2 rfl) (fun wx hm => (hm.fact 0 rfl).1) ?_
     refine nx_also (Y := fun wy => Chs 268 cx wy) (Chs.lasts rfl) (fun wx hm => (hm.fact 1 rfl).2) ?_
     exact nx_meet (A9, c9, cx, g3, g2, g1) hcx ⟨rfl, rfl, rfl, trivial⟩ (fun _ hm => hm.pick [0, 1] [0] [3, 4, 5, 1, 0] rfl rfl)
    refine wl_alloc zc262 rfl fun g4 => ?_
    refine wl_nil ?_
    refine nw 12 1535 (fun _ hm => ⟨hm.fa 1, hm.fa 2, hm.fa 3, trivial⟩) fun z => ?_
    refine wa1 9 rfl ?_
    refine wl_box rfl rfl rfl fun g5 => ?_
    refine wl_nil ?_
    refine nw 12 2047 (fun _ hm => ⟨hm.fa 1, hm.fa 2, hm.fa 3, trivial⟩) fun z => ?_
    refine wa1 11 rfl ?_
    refine wl_store 1 sc262 rfl rfl rfl rfl rfl rfl ?_
    refine wl_nil ?_
    refine nw 12 4095 (fun _ hm => ⟨hm.fa 1, hm.fa 2, hm.fa 3, trivial⟩) fun z => ?_
    refine wa_done (by kernel_rfl) ?_
    refine nx_also (Y := fun wy => SlT csnEnc 1 269 wy A9 n cx) (SlT.lasts2 rfl) (fun wx hm => (hm.fact 0 rfl).1) ?_
    refine nx_also (Y := fun wy => Chs 268 cx wy) (Chs.lasts rfl) (fun wx hm => (hm.fact 1 rfl).2) ?_
    exact nx_meet (A9, c9, cx, g4, g5, g1) hcx ⟨rfl, rfl, rfl, trivial⟩ (fun _ hm => hm.pick [1, 0] [0] [3, 4, 5, 1, 0] rfl rfl)
   refine wl_alloc zc262 rfl fun g6 => ?_
   refine wl_nil ?_
   refine nw 12 1151 (fun _ hm => ⟨hm.fa 1, hm.fa 2, hm.fa 3, trivial⟩) fun z => ?_
   refine wa1 7 rfl ?_
   refine wl_makeO (n := n) (sz := 1) (e := 9) (by_ := 16) (z := .string ⟨#[]⟩) (by kernel_rfl) (by kernel_rfl) rfl rfl (by omega) (by omega) (by omega) (by unfold maxLen; omega) (made_flat (enc := sgEnc) (x := (⟨#[]⟩ : ByteArray)) rfl rfl (by decide) (n)) rfl fun g7 => ?_
   refine wl_nil ?_
   refine nw 12 1279 (fun _ hm => ⟨hm.fa 1, hm.fa 2, hm.fa 3, trivial⟩) fun z => ?_
   refine wt 8 12 1535 rfl z (ov_build (cs := [.slice A n c, .slice A9 n c9, .slice none 0 0, .slice (some ⟨g7, 0, none⟩) n n, .slice none 0 0, .slice none 0 0, .int .i64 (-1)]) rfl (by kernel_rfl)) ?_
   refine wa1 9 rfl ?_
   refine wl_box rfl rfl rfl fun g8 => ?_
   refine wl_nil ?_
   refine nw 12 2047 (fun _ hm => ⟨hm.fa 1, hm.fa 2, hm.fa 3, trivial⟩) fun z => ?_
   refine wa1 11 rfl ?_
   refine wl_store 1 sc262 rfl rfl rfl rfl rfl rfl ?_
   refine wl_nil ?_
   refine nw 12 4095 (fun _ hm => ⟨hm.fa 1, hm.fa 2, hm.fa 3, trivial⟩) fun z => ?_
   refine wa_done (by kernel_rfl) ?_
   refine nx_also (Y := fun wy => SlT csnEnc 1 269 wy A9 n cx) (SlT.lasts2 rfl) (fun wx hm => (hm.fact 0 rfl).1) ?_
   refine nx_also (Y := fun wy => Chs 268 cx wy) (Chs.lasts rfl) (fun wx hm => (hm.fact 1 rfl).2) ?_
   exact nx_meet (A9, c9, cx, g6, g8, g7) hcx ⟨rfl, rfl, rfl, trivial⟩ (fun _ hm => hm.pick [1, 0] [0] [3, 4, 5, 1, 0] rfl rfl)
  ·refine wl_makeO (n := n) (sz := 1) (e := 9) (by_ := 16) (z := .string ⟨#[]⟩) (by kernel_rfl) (by kernel_rfl) rfl rfl (by omega) (by omega) (by omega) (by unfold maxLen; omega) (made_flat (enc := sgEnc) (x := (⟨#[]⟩ : ByteArray)) rfl rfl (by decide) (n)) rfl fun g9 => ?_
   refine wl_nil ?_
   refine nw 12 239 (fun _ hm => ⟨hm.fa 0, hm.fa 1, hm.fa 2, trivial⟩) fun z => ?_
   refine wa_all [4, 10] (by kernel_rfl) rfl ⟨⟨_, rfl, ?_⟩, ⟨_, rfl, ?_⟩, trivial⟩
   ·refine wl_callx (γ := Option Addr × Nat × List ChS) (val := (fun g => .slice g.1 n g.2.1)) (φ := (fun g => g.2.2.map ChS.l = l.map (chB cs sl))) (Y := (fun g => fun wy => SlT csnEnc 1 269 wy g.1 n g.2.2 ∧ Chs 268 g.2.2 wy)) rfl cb220 rfl rfl (fun wx hm => (choicesP_any cs A0 n0 c0 sl A1 n1 c1 l A n c wx (hm.fact 0 rfl).1 hco (by omega) (hm.fact 1 rfl).1 hso (by omega) (hm.fact 2 rfl).1 (by omega) hkeys).mono fun _ _ ⟨A9, c9, cx, he, h1, h2, h3, hg⟩ => ⟨(A9, c9, cx), he, h3, hg, ⟨h1, h2⟩⟩) (fun _ => (SlT.lasts2 rfl).and_ (Chs.lasts rfl)) ?_
    rintro ⟨A9, c9, cx⟩ hcx
    dsimp only at hcx ⊢
    refine wl_nil ?_
    refine nw 12 255 (fun _ hm => ⟨hm.fa 1, hm.fa 2, hm.fa 3, trivial⟩) fun z => ?_
    refine wt 8 12 511 rfl z (ov_build (cs := [.slice A n c, .slice A9 n c9, .slice none 0 0, .slice (some ⟨g9, 0, none⟩) n n, .slice none 0 0, .slice none 0 0, .int .i64 (-1)]) rfl (by kernel_rfl)) ?_
    refine wa_all [9, 10] (by kernel_rfl) rfl ⟨⟨_, rfl, ?_⟩, ⟨_, rfl, ?_⟩, trivial⟩
    ·refine wl_box rfl rfl rfl fun g10 => ?_
     refine wl_nil ?_
     refine nw 12 1023 (fun _ hm => ⟨hm.fa 1, hm.fa 2, hm.fa 3, trivial⟩) fun z => ?_
     refine wa1 10 rfl ?_
     refine wl_alloc zc262 rfl fun g11 => ?_
     refine wl_nil ?_
     refine nw 12 2047 (fun _ hm => ⟨hm.fa 1, hm.fa 2, hm.fa 3, trivial⟩) fun z => ?_
     refine wa1 11 rfl ?_
     refine wl_store 0 sc262 rfl rfl rfl rfl rfl rfl ?_
     refine wl_nil ?_
     refine nw 12 4095 (fun _ hm => ⟨hm.fa 1, hm.fa 2, hm.fa 3, trivial⟩) fun z => ?_
     refine wa_done (by kernel_rfl) ?_
     refine nx_also (Y := fun wy => SlT csnEnc 1 269 wy A9 n cx) (SlT.lasts2 rfl) (fun wx hm => (hm.fact 0 rfl).1) ?_
     refine nx_also (Y := fun wy => Chs 268 cx wy) (Chs.lasts rfl) (fun wx hm => (hm.fact 1 rfl).2) ?_
     exact nx_meet (A9, c9, cx, g11, g10, g9) hcx ⟨rfl, rfl, rfl, trivial⟩ (fun _ hm => hm.pick [0, 1] [0] [3, 4, 5, 1, 0] rfl rfl)
    refine wl_alloc zc262 rfl fun g12 => ?_
    refine wl_nil ?_
    refine nw 12 1535 (fun _ hm => ⟨hm.fa 1, hm.fa 2, hm.fa 3, trivial⟩) fun z => ?_
    refine wa1 9 rfl ?_
    refine wl_box rfl rfl rfl fun g13 => ?_
    refine wl_nil ?_
    refine nw 12 2047 (fun _ hm => ⟨hm.fa 1, hm.fa 2, hm.fa 3, trivial⟩) fun z => ?_
    refine wa1 11 rfl ?_
    refine wl_store 1 sc262 rfl rfl rfl rfl rfl rfl ?_
    refine wl_nil ?_
    refine nw 12 4095 (fun _ hm => ⟨hm.fa 1, hm.fa 2, hm.fa 3, trivial⟩) fun z => ?_
    refine wa_done (by kernel_rfl) ?_
    refine nx_also (Y := fun wy => SlT csnEnc 1 269 wy A9 n cx) (SlT.lasts2 rfl) (fun wx hm => (hm.fact 0 rfl).1) ?_
    refine nx_also (Y := fun wy => Chs 268 cx wy) (Chs.lasts rfl) (fun wx hm => (hm.fact 1 rfl).2) ?_
    exact nx_meet (A9, c9, cx, g12, g13, g9) hcx ⟨rfl, rfl, rfl, trivial⟩ (fun _ hm => hm.pick [1, 0] [0] [3, 4, 5, 1, 0] rfl rfl)
   refine wl_alloc zc262 rfl fun g14 => ?_
   refine wl_nil ?_
   refine nw 12 1263 (fun _ hm => ⟨hm.fa 0, hm.fa 1, hm.fa 2, trivial⟩) fun z => ?_
   refine wa1 4 rfl ?_
   refine wl_callx (γ := Option Addr × Nat × List ChS) (val := (fun g => .slice g.1 n g.2.1)) (φ := (fun g => g.2.2.map ChS.l = l.map (chB cs sl))) (Y := (fun g => fun wy => SlT csnEnc 1 269 wy g.1 n g.2.2 ∧ Chs 268 g.2.2 wy)) rfl cb220 rfl rfl (fun wx hm => (choicesP_any cs A0 n0 c0 sl A1 n1 c1 l A n c wx (hm.fact 0 rfl).1 hco (by omega) (hm.fact 1 rfl).1 hso (by omega) (hm.fact 2 rfl).1 (by omega) hkeys).mono fun _ _ ⟨A9, c9, cx, he, h1, h2, h3, hg⟩ => ⟨(A9, c9, cx), he, h3, hg, ⟨h1, h2⟩⟩) (fun _ => (SlT.lasts2 rfl).and_ (Chs.lasts rfl)) ?_
   rintro ⟨A9, c9, cx⟩ hcx
   dsimp only at hcx ⊢
   refine wl_nil ?_
   refine nw 12 1279 (fun _ hm => ⟨hm.fa 1, hm.fa 2, hm.fa 3, trivial⟩) fun z => ?_
   refine wt 8 12 1535 rfl z (ov_build (cs := [.slice A n c, .slice A9 n c9, .slice none 0 0, .slice (some ⟨g9, 0, none⟩) n n, .slice none 0 0, .slice none 0 0, .int .i64 (-1)]) rfl (by kernel_rfl)) ?_
   refine wa1 9 rfl ?_
   refine wl_box rfl rfl rfl fun g15 => ?_
   refine wl_nil ?_
   refine nw 12 2047 (fun _ hm => ⟨hm.fa 1, hm.fa 2, hm.fa 3, trivial⟩) fun z => ?_
   refine wa1 11 rfl ?_
   refine wl_store 1 sc262 rfl rfl rfl rfl rfl rfl ?_
   refine wl_nil ?_
   refine nw 12 4095 (fun _ hm => ⟨hm.fa 1, hm.fa 2, hm.fa 3, trivial⟩) fun z => ?_
   refine wa_done (by kernel_rfl) ?_
   refine nx_also (Y := fun wy => SlT csnEnc 1 269 wy A9 n cx) (SlT.lasts2 rfl) (fun wx hm => (hm.fact 0 rfl).1) ?_
   refine nx_also (Y := fun wy => Chs 268 cx wy) (Chs.lasts rfl) (fun wx hm => (hm.fact 1 rfl).2) ?_
   exact nx_meet (A9, c9, cx, g14, g15, g9) hcx ⟨rfl, rfl, rfl, trivial⟩ (fun _ hm => hm.pick [1, 0] [0] [3, 4, 5, 1, 0] rfl rfl)
  refine wl_alloc zc262 rfl fun g16 => ?_
  refine wl_nil ?_
  refine nw 12 1135 (fun _ hm => ⟨hm.fa 0, hm.fa 1, hm.fa 2, trivial⟩) fun z => ?_
  refine wa_all [4, 7] (by kernel_rfl) rfl ⟨⟨_, rfl, ?_⟩, ⟨_, rfl, ?_⟩, trivial⟩
  ·refine wl_callx (γ := Option Addr × Nat × List ChS) (val := (fun g => .slice g.1 n g.2.1)) (φ := (fun g => g.2.2.map ChS.l = l.map (chB cs sl))) (Y := (fun g => fun wy => SlT csnEnc 1 269 wy g.1 n g.2.2 ∧ Chs 268 g.2.2 wy)) rfl cb220 rfl rfl (fun wx hm => (choicesP_any cs A0 n0 c0 sl A1 n1 c1 l A n c wx (hm.fact 0 rfl).1 hco (by omega) (hm.fact 1 rfl).1 hso (by omega) (hm.fact 2 rfl).1 (by omega) hkeys).mono fun _ _ ⟨A9, c9, cx, he, h1, h2, h3, hg⟩ => ⟨(A9, c9, cx), he, h3, hg, ⟨h1, h2⟩⟩) (fun _ => (SlT.lasts2 rfl).and_ (Chs.lasts rfl)) ?_
   rintro ⟨A9, c9, cx⟩ hcx
   dsimp only at hcx ⊢
   refine wl_nil ?_
   refine nw 12 1151 (fun _ hm => ⟨hm.fa 1, hm.fa 2, hm.fa 3, trivial⟩) fun z => ?_
   refine wa1 7 rfl ?_
   refine wl_makeO (n := n) (sz := 1) (e := 9) (by_ := 16) (z := .string ⟨#[]⟩) (by kernel_rfl) (by kernel_rfl) rfl rfl (by omega) (by omega) (by omega) (by unfold maxLen; omega) (made_flat (enc := sgEnc) (x := (⟨#[]⟩ : ByteArray)) rfl rfl (by decide) (n)) rfl fun g17 => ?_
   refine wl_nil ?_
   refine nw 12 1279 (fun _ hm => ⟨hm.fa 1, hm.fa 2, hm.fa 3, trivial⟩) fun z => ?_
   refine wt 8 12 1535 rfl z (ov_build (cs := [.slice A n c, .slice A9 n c9, .slice none 0 0, .slice (some ⟨g17, 0, none⟩) n n, .slice none 0 0, .slice none 0 0, .int .i64 (-1)]) rfl (by kernel_rfl)) ?_
   refine wa1 9 rfl ?_
   refine wl_box rfl rfl rfl fun g18 => ?_
   refine wl_nil ?_
   refine nw 12 2047 (fun _ hm => ⟨hm.fa 1, hm.fa 2, hm.fa 3, trivial⟩) fun z => ?_
   refine wa1 11 rfl ?_
   refine wl_store 1 sc262 rfl rfl rfl rfl rfl rfl ?_
   refine wl_nil ?_
   refine nw 12 4095 (fun _ hm => ⟨hm.fa 1, hm.fa 2, hm.fa 3, trivial⟩) fun z => ?_
   refine wa_done (by kernel_rfl) ?_
   refine nx_also (Y := fun wy => SlT csnEnc 1 269 wy A9 n cx) (SlT.lasts2 rfl) (fun wx hm => (hm.fact 0 rfl).1) ?_
   refine nx_also (Y := fun wy => Chs 268 cx wy) (Chs.lasts rfl) (fun wx hm => (hm.fact 1 rfl).2) ?_
   exact nx_meet (A9, c9, cx, g16, g18, g17) hcx ⟨rfl, rfl, rfl, trivial⟩ (fun _ hm => hm.pick [1, 0] [0] [3, 4, 5, 1, 0] rfl rfl)
  refine wl_makeO (n := n) (sz := 1) (e := 9) (by_ := 16) (z := .string ⟨#[]⟩) (by kernel_rfl) (by kernel_rfl) rfl rfl (by omega) (by omega) (by omega) (by unfold maxLen; omega) (made_flat (enc := sgEnc) (x := (⟨#[]⟩ : ByteArray)) rfl rfl (by decide) (n)) rfl fun g19 => ?_
  refine wl_nil ?_
  refine nw 12 1263 (fun _ hm => ⟨hm.fa 0, hm.fa 1, hm.fa 2, trivial⟩) fun z => ?_
  refine wa1 4 rfl ?_
  refine wl_callx (γ := Option Addr × Nat × List ChS) (val := (fun g => .slice g.1 n g.2.1)) (φ := (fun g => g.2.2.map ChS.l = l.map (chB cs sl))) (Y := (fun g => fun wy => SlT csnEnc 1 269 wy g.1 n g.2.2 ∧ Chs 268 g.2.2 wy)) rfl cb220 rfl rfl (fun wx hm => (choicesP_any cs A0 n0 c0 sl A1 n1 c1 l A n c wx (hm.fact 0 rfl).1 hco (by omega) (hm.fact 1 rfl).1 hso (by omega) (hm.fact 2 rfl).1 (by omega) hkeys).mono fun _ _ ⟨A9, c9, cx, he, h1, h2, h3, hg⟩ => ⟨(A9, c9, cx), he, h3, hg, ⟨h1, h2⟩⟩) (fun _ => (SlT.lasts2 rfl).and_ (Chs.lasts rfl)) ?_
  rintro ⟨A9, c9, cx⟩ hcx
  dsimp only at hcx ⊢
  refine wl_nil ?_
  refine nw 12 1279 (fun _ hm => ⟨hm.fa 1, hm.fa 2, hm.fa 3, trivial⟩) fun z => ?_
  refine wt 8 12 1535 rfl z (ov_build (cs := [.slice A n c, .slice A9 n c9, .slice none 0 0, .slice (some ⟨g19, 0, none⟩) n n, .slice none 0 0, .slice none 0 0, .int .i64 (-1)]) rfl (by kernel_rfl)) ?_
  refine wa1 9 rfl ?_
  refine wl_box rfl rfl rfl fun g20 => ?_
  refine wl_nil ?_
  refine nw 12 2047 (fun _ hm => ⟨hm.fa 1, hm.fa 2, hm.fa 3, trivial⟩) fun z => ?_
  refine wa1 11 rfl ?_
  refine wl_store 1 sc262 rfl rfl rfl rfl rfl rfl ?_
  refine wl_nil ?_
  refine nw 12 4095 (fun _ hm => ⟨hm.fa 1, hm.fa 2, hm.fa 3, trivial⟩) fun z => ?_
  refine wa_done (by kernel_rfl) ?_
  refine nx_also (Y := fun wy => SlT csnEnc 1 269 wy A9 n cx) (SlT.lasts2 rfl) (fun wx hm => (hm.fact 0 rfl).1) ?_
  refine nx_also (Y := fun wy => Chs 268 cx wy) (Chs.lasts rfl) (fun wx hm => (hm.fact 1 rfl).2) ?_
  exact nx_meet (A9, c9, cx, g16, g20, g19) hcx ⟨rfl, rfl, rfl, trivial⟩ (fun _ hm => hm.pick [1, 0] [0] [3, 4, 5, 1, 0] rfl rfl)
 rintro ⟨A9, c9, cx, g7, gx, gc⟩ hinv
 replace hinv : cx.map ChS.l = l.map (chB cs sl) := hinv
 dsimp only
 refine gw_seq (sr_ ?_)
 have hcx : cx.map ChS.l = l.map (chB cs sl) := hinv
 have hcxl : cx.length = n := by have h := congrArg List.length hcx; rw [List.length_map, List.length_map] at h; omega
 refine wl_look (R := (∀ x ∈ cx, x.l.length = x.n) ∧ (0 < n → ∃ b9 o9, A9 = some ⟨b9, o9, none⟩) ∧ ∀ x ∈ cx, 0 < x.n → ∃ bi oi, x.A = some ⟨bi, oi, none⟩) (fun wx hm => ⟨fun x hx => ((hm.fact 4 rfl) x hx).len, fun h0 => by
  obtain ⟨b9, o9, e, _⟩ := (hm.fact 3 rfl).get h0
  exact ⟨b9, o9, e⟩, fun x hx h0 => by
  obtain ⟨b9, o9, e, _⟩ := ((hm.fact 4 rfl) x hx).get h0
  exact ⟨b9, o9, e⟩⟩) ?_
 rintro ⟨hcn, h9, hin⟩
 refine wl_nilOwn 3 1 ?_
 refine mv_ rfl (wl_ov (ov_len es76 rfl) rfl (mv_ rfl (nn_ (gw_block ?_))))
 refine gw_loop (γ := Nat × Value) (fun g => g.1 ≤ n ∧ ∀ j, j < g.1 → lenN (l.map (chB cs sl)) j ≠ 0) (fun g => [(2, .slice A n c), (7, .pointer (some ⟨g7, 0, none⟩)), (21, .int .i64 ((n : Nat) : Int)), (22, .int .i64 ((g.1 : Nat) : Int))]) (fun g => fun _ => True) (fun g => [(g7, 262, [.pointer (some ⟨gx, 0, none⟩)]), (gx, 266, [.slice A n c, .slice A9 n c9, g.2, .slice (some ⟨gc, 0, none⟩) n n, .slice none 0 0, .slice none 0 0, .int .i64 (-1)])]) (fun g => [⟨g.2, 3, 1, g.1, (List.range g.1).flatMap nEnc⟩, ⟨.slice (some ⟨gc, 0, none⟩) n n, 9, 1, n, (List.replicate (n) (⟨#[]⟩ : ByteArray)).flatMap sgEnc⟩]) (fun g => [SlOld csEnc 2 158 w.heap.size none A0 n0 cs, SlOld skEnc 2 211 w.heap.size none A1 n1 sl, SlOld bkEnc 6 92 w.heap.size none A n l, fun wy => SlT csnEnc 1 269 wy A9 n cx, fun wy => Chs 268 cx wy]) (fun g => n - g.1) (0, .slice none 0 0) ⟨Nat.zero_le _, fun j h => absurd h (Nat.not_lt_zero j)⟩ ⟨rfl, rfl, rfl, rfl, trivial⟩ (fun _ hm => hm.pick [0, 1] [0, 1] [0, 1, 2, 3, 4] rfl rfl) ?_
 rintro ⟨i, v⟩ hinv
 replace hinv : i ≤ n ∧ ∀ j, j < i → lenN (l.map (chB cs sl)) j ≠ 0 := hinv
 dsimp only
 refine sr_ ?_
 obtain ⟨hi0, hne⟩ := hinv
 refine wl_ov (ov_lss rfl rfl) rfl (nn_ (gw_seq ?_))
 refine gw_cond rfl (fun hh => ?_) (fun hh => ?_)
 ·have hi : ((i : Nat) : Int) < ((n : Nat) : Int) := by simpa using hh
  clear hh
  refine gw_skip (nx_then (gw_seq (gw_block (sr_ ?_))))
  obtain ⟨b9, o9, rfl⟩ := h9 (by omega)
  obtain ⟨x9, hx9⟩ : ∃ x, cx[i]? = some x := ⟨_, List.getElem?_eq_getElem (by omega)⟩
  have hln := lenN_at hcx hcn hx9
  have hxl := cx_at hcx hx9
  obtain ⟨Ai, ni, ci, li⟩ := x9
  dsimp only at hln hxl
  refine mv_ rfl (sg_ rfl (nn_ (gw_seq (sr_ (lk_ sc262 0 rfl rfl rfl (wl_ov (ov_nilcheck rfl) rfl (fd_ fo266_1 rfl rfl (lk_ sc263 1 rfl rfl rfl (mv_ rfl ?_)))))))))
  refine wl_ov (ov_index (j := i) es263 rfl rfl (by omega)) rfl ?_
  refine wl_ov (ov_elem1 (k := 0) (v := .slice Ai ni ci) sc269 rfl (fun _ hm => (hm.fact 3 rfl)) hx9 rfl rfl) rfl ?_
  refine wl_ov (ov_len es269 rfl) rfl (wl_ov (ov_eql rfl rfl) rfl (nn_ ?_))
  refine gw_cond rfl (fun hh => ?_) (fun hh => ?_)
  ·have hni : ((ni : Nat) : Int) = 0 := by simpa using hh
   clear hh
   refine sr_ (sg_ rfl ?_)
   refine wl_set 6 (v' := .int .i64 (-1)) rfl rfl ?_
   refine nn_ ?_
   refine gw_ret ?_
   refine nx_then_ret (nx_blk_ret (nx_then_ret (nx_then_ret (nx_blk_ret (nx_then_ret ?_)))))
   have hle : li = [] := List.length_eq_zero_iff.1 (by have := hcn _ (List.mem_of_getElem? hx9); dsimp only at this; omega)
   have hem : [] ∈ l.map (chB cs sl) := by rw [← hcx]; exact List.mem_map.2 ⟨_, List.mem_of_getElem? hx9, hle⟩
   refine nx_ret1 rfl rfl fun wx hm => ?_
   exact ⟨-1, rfl, fw_none (asg_empty hcl hlo hix (fun b hb => (htm b hb).2.1) hem), hm.g⟩
  have hni : ¬ (((ni : Nat) : Int) = 0) := by simpa using hh
  clear hh
  refine gw_skip (nx_then ?_)
  have hn0 : lenN (l.map (chB cs sl)) i ≠ 0 := by omega
  refine gd (fun wz => Blk wz g7 262 [.pointer (some ⟨gx, 0, none⟩)] ∧ (SlOld csEnc 2 158 w.heap.size none A0 n0 cs) wz ∧ (SlOld skEnc 2 211 w.heap.size none A1 n1 sl) wz ∧ (SlOld bkEnc 6 92 w.heap.size none A n l) wz ∧ (fun wy => SlT csnEnc 1 269 wy (some ⟨b9, o9, none⟩) n cx) wz ∧ (fun wy => Chs 268 cx wy) wz ∧ True) mixed (fun _ hm => ⟨hm.bl 0, hm.fa 0, hm.fa 1, hm.fa 2, hm.fa 3, hm.fa 4, trivial⟩) fun z => ?_
  refine wt 0 11 1 rfl z (ov_load sc262 rfl (fun _ hm => hm.1) rfl) ?_
  refine wt 1 11 3 rfl z (ov_load sc262 rfl (fun _ hm => hm.1) rfl) ?_
  refine wt 2 11 7 rfl z (ov_nilcheck rfl) ?_
  refine wt 3 11 15 rfl z (ov_field fo266_2 rfl rfl) ?_
  refine wt 5 11 47 rfl z (ov_move rfl) ?_
  refine wa_all [4, 6] (by kernel_rfl) rfl ⟨⟨_, rfl, ?_⟩, ⟨_, rfl, ?_⟩, trivial⟩
  ·refine lk_ sc22 1 rfl rfl rfl (wl_nil ?_)
   refine nw 11 63 (fun _ hm => ⟨hm.bl 0, hm.fa 0, hm.fa 1, hm.fa 2, hm.fa 3, hm.fa 4, trivial⟩) fun z => ?_
   refine wa1 6 rfl ?_
   refine wl_buildSlice (e := 3) (cs := [.int .i64 ((i : Nat) : Int)]) rfl (by kernel_rfl) rfl fun g21 => ?_
   refine wl_nil ?_
   refine nw 11 127 (fun _ hm => ⟨hm.bl 1, hm.fa 0, hm.fa 1, hm.fa 2, hm.fa 3, hm.fa 4, trivial⟩) fun z => ?_
   refine wa1 7 rfl ?_
   refine wl_append (news := [.int .i64 ((i : Nat) : Int)]) 0 0 ap22 rfl rfl rfl rfl rfl rfl rfl (by omega) (by unfold maxLen; omega) rfl rfl fun v2 hv2 => ?_
   rw [show (List.range i).flatMap nEnc ++ ([.int .i64 ((i : Nat) : Int)] : List Value) = (List.range (i + 1)).flatMap nEnc from by rw [List.range_succ, List.flatMap_append]; simp [nEnc]]
   refine wl_look (R := ∃ A cc, v2 = .slice A (i + 1) cc) (fun wx hm => own_slice (hm.ownI 0 rfl)) ?_
   rintro ⟨Ao, co, rfl⟩
   refine wl_nil ?_
   refine nw 11 255 (fun _ hm => ⟨hm.bl 1, hm.fa 0, hm.fa 1, hm.fa 2, hm.fa 3, hm.fa 4, trivial⟩) fun z => ?_
   refine wt 8 11 511 rfl z (ov_nilcheck rfl) ?_
   refine wt 9 11 1023 rfl z (ov_field fo266_2 rfl rfl) ?_
   refine wa1 10 rfl ?_
   refine wl_store 2 sc22 rfl rfl rfl rfl rfl rfl ?_
   refine wl_nil ?_
   refine nw 11 2047 (fun _ hm => ⟨hm.bl 1, hm.fa 0, hm.fa 1, hm.fa 2, hm.fa 3, hm.fa 4, trivial⟩) fun z => ?_
   refine wa_done (by kernel_rfl) ?_
   refine nx_blk_nrm (nx_then (gw_region (ad_ rfl rfl (mv_ rfl (wl_nil ?_)))))
   exact nx_round (i + 1, .slice Ao (i + 1) co) ⟨by dsimp only; omega, fun j hj => by
    by_cases e : j = i
    ·rw [e]; omega
    exact hne j (by dsimp only at hj; omega)⟩ (by dsimp only; omega) ⟨rfl, rfl, rfl, (some_int (by omega)), trivial⟩ (fun _ hm => hm.pick [1, 2] [0, 1] [0, 1, 2, 3, 4] rfl rfl)
  refine wl_buildSlice (e := 3) (cs := [.int .i64 ((i : Nat) : Int)]) rfl (by kernel_rfl) rfl fun g22 => ?_
  refine wl_nil ?_
  refine nw 11 111 (fun _ hm => ⟨hm.bl 1, hm.fa 0, hm.fa 1, hm.fa 2, hm.fa 3, hm.fa 4, trivial⟩) fun z => ?_
  refine wa1 4 rfl ?_
  refine lk_ sc22 2 rfl rfl rfl (wl_nil ?_)
  refine nw 11 127 (fun _ hm => ⟨hm.bl 1, hm.fa 0, hm.fa 1, hm.fa 2, hm.fa 3, hm.fa 4, trivial⟩) fun z => ?_
  refine wa1 7 rfl ?_
  refine wl_append (news := [.int .i64 ((i : Nat) : Int)]) 0 0 ap22 rfl rfl rfl rfl rfl rfl rfl (by omega) (by unfold maxLen; omega) rfl rfl fun v2 hv2 => ?_
  rw [show (List.range i).flatMap nEnc ++ ([.int .i64 ((i : Nat) : Int)] : List Value) = (List.range (i + 1)).flatMap nEnc from by rw [List.range_succ, List.flatMap_append]; simp [nEnc]]
  refine wl_look (R := ∃ A cc, v2 = .slice A (i + 1) cc) (fun wx hm => own_slice (hm.ownI 0 rfl)) ?_
  rintro ⟨Ao, co, rfl⟩
  refine wl_nil ?_
  refine nw 11 255 (fun _ hm => ⟨hm.bl 1, hm.fa 0, hm.fa 1, hm.fa 2, hm.fa 3, hm.fa 4, trivial⟩) fun z => ?_
  refine wt 8 11 511 rfl z (ov_nilcheck rfl) ?_
  refine wt 9 11 1023 rfl z (ov_field fo266_2 rfl rfl) ?_
  refine wa1 10 rfl ?_
  refine wl_store 2 sc22 rfl rfl rfl rfl rfl rfl ?_
  refine wl_nil ?_
  refine nw 11 2047 (fun _ hm => ⟨hm.bl 1, hm.fa 0, hm.fa 1, hm.fa 2, hm.fa 3, hm.fa 4, trivial⟩) fun z => ?_
  refine wa_done (by kernel_rfl) ?_
  refine nx_blk_nrm (nx_then (gw_region (ad_ rfl rfl (mv_ rfl (wl_nil ?_)))))
  exact nx_round (i + 1, .slice Ao (i + 1) co) ⟨by dsimp only; omega, fun j hj => by
   by_cases e : j = i
   ·rw [e]; omega
   exact hne j (by dsimp only at hj; omega)⟩ (by dsimp only; omega) ⟨rfl, rfl, rfl, (some_int (by omega)), trivial⟩ (fun _ hm => hm.pick [1, 2] [0, 1] [0, 1, 2, 3, 4] rfl rfl)
 have hi : ¬ (((i : Nat) : Int) < ((n : Nat) : Int)) := by simpa using hh
 clear hh
 refine gw_exit ?_
 refine nx_then_exit (nx_then_exit ?_)
 refine nx_blk_here ?_
 refine nx_then (sr_ ?_)
 have hin2 : i = n := by omega
 subst hin2
 refine wl_look (R := ∃ A cc, v = .slice A i cc) (fun wx hm => own_slice (hm.ownI 0 rfl)) ?_
 rintro ⟨Ao, co, rfl⟩
 obtain ⟨OD, hOD⟩ : ∃ z, z = ordN (l.map (chB cs sl)) i := ⟨_, rfl⟩
 have hOp : OD.Perm (List.range l.length) := by rw [hOD, hlen]; exact ordN_perm _ _
 have hOl : OD.length = i := by rw [hOp.length_eq, List.length_range]; exact hlen
 have hOm : ∀ j ∈ OD, j < i := fun j hj => by have := List.mem_range.1 (hOp.mem_iff.1 hj); omega
 have hOn : OD.Nodup := hOp.nodup_iff.2 List.nodup_range
 refine lk_ sc262 0 rfl rfl rfl (wl_ov (ov_nilcheck rfl) rfl (fd_ fo266_2 rfl rfl (lk_ sc22 1 rfl rfl rfl (wl_ov (ov_makeFunc rfl rfl) rfl ?_))))
 by_cases h0 : i = 0
 ·refine wl_callv (v := .tuple #[]) rfl cb155 rfl rfl (fun wx hm => (by subst h0; exact stable0_co Ao co g7 wx)) ?_
  rw [show (List.range i).flatMap nEnc = OD.flatMap nEnc from by rw [List.length_eq_zero_iff.1 (hOl.trans h0), h0]; rfl]
  refine nn_ (gw_seq ?_)
  refine gd (fun wz => Blk wz g7 262 [.pointer (some ⟨gx, 0, none⟩)] ∧ (SlOld csEnc 2 158 w.heap.size none A0 n0 cs) wz ∧ (SlOld skEnc 2 211 w.heap.size none A1 n1 sl) wz ∧ (SlOld bkEnc 6 92 w.heap.size none A i l) wz ∧ (fun wy => SlT csnEnc 1 269 wy A9 i cx) wz ∧ (fun wy => Chs 268 cx wy) wz ∧ True) mixed (fun _ hm => ⟨hm.bl 0, hm.fa 0, hm.fa 1, hm.fa 2, hm.fa 3, hm.fa 4, trivial⟩) fun z => ?_
  refine wt 0 8 1 rfl z (ov_load sc262 rfl (fun _ hm => hm.1) rfl) ?_
  refine wt 1 8 3 rfl z (ov_move rfl) ?_
  refine wt 2 8 7 rfl z (ov_len es76 rfl) ?_
  refine wt 3 8 15 rfl z (ov_add rfl rfl (by omega) (by omega)) ?_
  refine wa1 4 rfl ?_
  refine wl_makeO (n := (i + 1)) (sz := 1) (e := 3) (by_ := 8) (z := .int .i64 0) (by kernel_rfl) (by kernel_rfl) rfl rfl (by omega) (by omega) (by omega) (by unfold maxLen; omega) (made_flat (enc := iEnc) (x := (0 : Int)) rfl rfl (by decide) (i + 1)) rfl fun g23 => ?_
  obtain ⟨CO, hCO⟩ : ∃ z, z = coB cs sl l OD := ⟨_, rfl⟩
  have hCl : CO.length = i := by rw [hCO]; unfold coB; rw [List.length_map]; exact hOl
  rw [show (List.replicate (i + 1) (0 : Int)).flatMap iEnc = (restL CO i).flatMap iEnc from by rw [show restL CO i = List.replicate (i + 1) 0 from by have := restL_zero CO; rw [hCl] at this; exact this]]
  refine wl_nil ?_
  refine nw 8 31 (fun _ hm => ⟨hm.bl 0, hm.fa 0, hm.fa 1, hm.fa 2, hm.fa 3, hm.fa 4, trivial⟩) fun z => ?_
  refine wt 5 8 63 rfl z (ov_nilcheck rfl) ?_
  refine wt 6 8 127 rfl z (ov_field fo266_5 rfl rfl) ?_
  refine wa1 7 rfl ?_
  refine wl_store 1 sc22 rfl rfl rfl rfl rfl rfl ?_
  refine wl_nil ?_
  refine nw 8 255 (fun _ hm => ⟨hm.bl 0, hm.fa 0, hm.fa 1, hm.fa 2, hm.fa 3, hm.fa 4, trivial⟩) fun z => ?_
  refine wa_done (by kernel_rfl) ?_
  refine nx_then (gw_seq (sr_ (mv_ rfl (wl_ov (ov_len es76 rfl) rfl ?_))))
  refine wl_ov (ov_sub rfl rfl (by omega) (by omega)) rfl ?_
  refine sg_ rfl (nn_ (gw_block ?_))
  refine gw_loop (γ := Nat) (fun (j : Nat) => j ≤ i) (fun (j : Nat) => [(7, .pointer (some ⟨g7, 0, none⟩)), (9, .int .i64 (((j : Nat) : Int) - 1))]) (fun (j : Nat) => fun _ => True) (fun (j : Nat) => [(g7, 262, [.pointer (some ⟨gx, 0, none⟩)]), (gx, 266, [.slice A i c, .slice A9 i c9, .slice Ao i co, .slice (some ⟨gc, 0, none⟩) i i, .slice none 0 0, .slice (some ⟨g23, 0, none⟩) (i + 1) (i + 1), .int .i64 (-1)])]) (fun (j : Nat) => [⟨.slice (some ⟨g23, 0, none⟩) (i + 1) (i + 1), 3, 1, (i + 1), (restL CO j).flatMap iEnc⟩, ⟨.slice Ao i co, 3, 1, i, OD.flatMap nEnc⟩, ⟨.slice (some ⟨gc, 0, none⟩) i i, 9, 1, i, (List.replicate (i) (⟨#[]⟩ : ByteArray)).flatMap sgEnc⟩]) (fun (j : Nat) => [SlOld csEnc 2 158 w.heap.size none A0 n0 cs, SlOld skEnc 2 211 w.heap.size none A1 n1 sl, SlOld bkEnc 6 92 w.heap.size none A i l, fun wy => SlT csnEnc 1 269 wy A9 i cx, fun wy => Chs 268 cx wy]) (fun (j : Nat) => j) i (Nat.le_refl _) ⟨rfl, rfl, trivial⟩ (fun _ hm => hm.pick [0, 1] [0, 1, 2] [0, 1, 2, 3, 4] rfl rfl) ?_
  intro j hinv
  replace hinv : j ≤ i := hinv
  refine gw_seq (sr_ (mv_ rfl ?_))
  refine wl_ov (ov_geq rfl rfl) rfl ?_
  refine nn_ ?_
  refine gw_cond rfl (fun hh => ?_) (fun hh => ?_)
  ·have hj : 0 ≤ ((j : Nat) : Int) - 1 := by simpa using hh
   clear hh
   refine gw_skip (nx_then (gw_seq (gw_block ?_)))
   obtain ⟨k, rfl⟩ : ∃ k, j = k + 1 := ⟨j - 1, by omega⟩
   have ek : (((k + 1 : Nat) : Int) - 1) = ((k : Nat) : Int) := by omega
   have hki : k < i := by omega
   refine gw_set 9 (v' := .int .i64 ((k : Nat) : Int)) rfl (congrArg (Value.int .i64) ek) ?_
   exact absurd hki (by omega)
  have hj : ¬ (0 ≤ ((j : Nat) : Int) - 1) := by simpa using hh
  clear hh
  refine gw_exit ?_
  refine nx_then_exit (nx_then_exit ?_)
  refine nx_blk_here ?_
  refine nx_then (sr_ ?_)
  have hj0 : j = 0 := by omega
  subst hj0
  refine lk_ sc262 0 rfl rfl rfl ?_
  refine wl_callG (γ := List ByteArray) (val := fun _ => .tuple #[]) (φ := fun _ => True) (K' := fun _ => fun _ => True) (L' := fun _ => [(gx, 266, [.slice A i c, .slice A9 i c9, .slice Ao i co, .slice (some ⟨gc, 0, none⟩) i i, .slice none 0 0, .slice (some ⟨g23, 0, none⟩) (i + 1) (i + 1), .int .i64 (bestI (bbW roomF (OD.map (itB cs sl l)) [] 0 none))]), (g7, 262, [.pointer (some ⟨gx, 0, none⟩)])]) (O' := fun cl2 => [⟨.slice (some ⟨gc, 0, none⟩) i i, 9, 1, i, cl2.flatMap sgEnc⟩, ⟨.slice Ao i co, 3, 1, i, OD.flatMap nEnc⟩, ⟨.slice (some ⟨g23, 0, none⟩) (i + 1) (i + 1), 3, 1, (i + 1), (restL CO 0).flatMap iEnc⟩]) (X' := fun _ => [SlOld bkEnc 6 92 w.heap.size none A i l]) rfl cb228 rfl rfl (fun wx hm => by
   have h := cf_all w l A i c cs sl A9 c9 cx OD Ao co (restL CO 0) gx g7 gc g23 (by omega) (own_cap (hm.ownI 1 rfl)) hOl (by rw [restL_len, hCl]) hOm hOn htm hcx hstp hchl (fun k => by rw [co_it]; exact Nat.le_trans (co_le hstp (fun j hj => by rw [hlen]; exact hOm j hj) k) (by omega)) (fun k hk => by rw [co_it, ← hCO, restL_at (by omega)]; rfl) i 0 (by omega) 0 none (List.replicate (i) (⟨#[]⟩ : ByteArray)) wx (by rw [List.length_replicate]) (by omega) (hm.pick [1, 0] [2, 1, 0] [2, 3, 4] rfl rfl).cx
   exact h.mono fun _ _ ⟨cl2, he, _, _, hm2⟩ => ⟨cl2, he, trivial, (hm2.cx.pick [0, 1] [0, 1, 2] [0] rfl rfl)⟩) ?_
  rintro cl2 -
  refine nn_ (sr_ (lk_ sc262 1 rfl rfl rfl (wl_ov (ov_nilcheck rfl) rfl (fd_ fo266_6 rfl rfl (lk_ sc3 0 rfl rfl rfl (sg_ rfl (nn_ ?_)))))))
  refine gw_ret ?_
  refine nx_ret1 rfl rfl fun wx hm => ?_
  exact ⟨_, rfl, fw_bb hcl hlo hix htm hOp, hm.g⟩
 refine wl_look (R := ∃ g, Ao = some ⟨g, 0, none⟩) (fun wx hm => own_addr (hm.ownI 0 rfl) (by omega)) ?_
 rintro ⟨go, rfl⟩
 rw [show (List.range i).flatMap nEnc = ((List.range i).map fun k => ((k : Nat) : Int)).flatMap iEnc from (n_flat _).symm]
 refine wl_callr (v := .tuple #[]) (xs' := OD.flatMap nEnc) 0 rfl rfl rfl cb155 rfl rfl (fun wx hm => (by have h := stable_co cx (l.map (chB cs sl)) A9 i c9 g7 gx _ _ _ _ _ _ ((List.range i).map fun k => ((k : Nat) : Int)) go i co _ wx (hm.ownI 0 rfl) (by simp) (by omega) ((hm.fact 3 rfl).farT (hm.ownI 0 rfl) (by decide)) (hm.blkFar 0 0 rfl rfl) (hm.blkFar 1 0 rfl rfl) hcx hcn (fun z hz => by obtain ⟨q, hq, rfl⟩ := List.mem_map.1 hz; have := List.mem_range.1 hq; omega); rw [ordN_eq, ← hOD, n_flat] at h; exact h)) ?_
 refine nn_ (gw_seq ?_)
 refine gd (fun wz => Blk wz g7 262 [.pointer (some ⟨gx, 0, none⟩)] ∧ (SlOld csEnc 2 158 w.heap.size none A0 n0 cs) wz ∧ (SlOld skEnc 2 211 w.heap.size none A1 n1 sl) wz ∧ (SlOld bkEnc 6 92 w.heap.size none A i l) wz ∧ (fun wy => SlT csnEnc 1 269 wy A9 i cx) wz ∧ (fun wy => Chs 268 cx wy) wz ∧ True) mixed (fun _ hm => ⟨hm.bl 0, hm.fa 0, hm.fa 1, hm.fa 2, hm.fa 3, hm.fa 4, trivial⟩) fun z => ?_
 refine wt 0 8 1 rfl z (ov_load sc262 rfl (fun _ hm => hm.1) rfl) ?_
 refine wt 1 8 3 rfl z (ov_move rfl) ?_
 refine wt 2 8 7 rfl z (ov_len es76 rfl) ?_
 refine wt 3 8 15 rfl z (ov_add rfl rfl (by omega) (by omega)) ?_
 refine wa1 4 rfl ?_
 refine wl_makeO (n := (i + 1)) (sz := 1) (e := 3) (by_ := 8) (z := .int .i64 0) (by kernel_rfl) (by kernel_rfl) rfl rfl (by omega) (by omega) (by omega) (by unfold maxLen; omega) (made_flat (enc := iEnc) (x := (0 : Int)) rfl rfl (by decide) (i + 1)) rfl fun g24 => ?_
 obtain ⟨CO, hCO⟩ : ∃ z, z = coB cs sl l OD := ⟨_, rfl⟩
 have hCl : CO.length = i := by rw [hCO]; unfold coB; rw [List.length_map]; exact hOl
 rw [show (List.replicate (i + 1) (0 : Int)).flatMap iEnc = (restL CO i).flatMap iEnc from by rw [show restL CO i = List.replicate (i + 1) 0 from by have := restL_zero CO; rw [hCl] at this; exact this]]
 refine wl_nil ?_
 refine nw 8 31 (fun _ hm => ⟨hm.bl 0, hm.fa 0, hm.fa 1, hm.fa 2, hm.fa 3, hm.fa 4, trivial⟩) fun z => ?_
 refine wt 5 8 63 rfl z (ov_nilcheck rfl) ?_
 refine wt 6 8 127 rfl z (ov_field fo266_5 rfl rfl) ?_
 refine wa1 7 rfl ?_
 refine wl_store 1 sc22 rfl rfl rfl rfl rfl rfl ?_
 refine wl_nil ?_
 refine nw 8 255 (fun _ hm => ⟨hm.bl 0, hm.fa 0, hm.fa 1, hm.fa 2, hm.fa 3, hm.fa 4, trivial⟩) fun z => ?_
 refine wa_done (by kernel_rfl) ?_
 refine nx_then (gw_seq (sr_ (mv_ rfl (wl_ov (ov_len es76 rfl) rfl ?_))))
 refine wl_ov (ov_sub rfl rfl (by omega) (by omega)) rfl ?_
 refine sg_ rfl (nn_ (gw_block ?_))
 refine gw_loop (γ := Nat) (fun (j : Nat) => j ≤ i) (fun (j : Nat) => [(7, .pointer (some ⟨g7, 0, none⟩)), (9, .int .i64 (((j : Nat) : Int) - 1))]) (fun (j : Nat) => fun _ => True) (fun (j : Nat) => [(g7, 262, [.pointer (some ⟨gx, 0, none⟩)]), (gx, 266, [.slice A i c, .slice A9 i c9, .slice (some ⟨go, 0, none⟩) i co, .slice (some ⟨gc, 0, none⟩) i i, .slice none 0 0, .slice (some ⟨g24, 0, none⟩) (i + 1) (i + 1), .int .i64 (-1)])]) (fun (j : Nat) => [⟨.slice (some ⟨g24, 0, none⟩) (i + 1) (i + 1), 3, 1, (i + 1), (restL CO j).flatMap iEnc⟩, ⟨.slice (some ⟨go, 0, none⟩) i co, 3, 1, i, OD.flatMap nEnc⟩, ⟨.slice (some ⟨gc, 0, none⟩) i i, 9, 1, i, (List.replicate (i) (⟨#[]⟩ : ByteArray)).flatMap sgEnc⟩]) (fun (j : Nat) => [SlOld csEnc 2 158 w.heap.size none A0 n0 cs, SlOld skEnc 2 211 w.heap.size none A1 n1 sl, SlOld bkEnc 6 92 w.heap.size none A i l, fun wy => SlT csnEnc 1 269 wy A9 i cx, fun wy => Chs 268 cx wy]) (fun (j : Nat) => j) i (Nat.le_refl _) ⟨rfl, rfl, trivial⟩ (fun _ hm => hm.pick [0, 1] [0, 1, 2] [0, 1, 2, 3, 4] rfl rfl) ?_
 intro j hinv
 replace hinv : j ≤ i := hinv
 refine gw_seq (sr_ (mv_ rfl ?_))
 refine wl_ov (ov_geq rfl rfl) rfl ?_
 refine nn_ ?_
 refine gw_cond rfl (fun hh => ?_) (fun hh => ?_)
 ·have hj : 0 ≤ ((j : Nat) : Int) - 1 := by simpa using hh
  clear hh
  refine gw_skip (nx_then (gw_seq (gw_block ?_)))
  obtain ⟨k, rfl⟩ : ∃ k, j = k + 1 := ⟨j - 1, by omega⟩
  have ek : (((k + 1 : Nat) : Int) - 1) = ((k : Nat) : Int) := by omega
  have hki : k < i := by omega
  refine gw_set 9 (v' := .int .i64 ((k : Nat) : Int)) rfl (congrArg (Value.int .i64) ek) ?_
  obtain ⟨b9, o9, rfl⟩ := h9 (by omega)
  obtain ⟨q, hq⟩ : ∃ x, OD[k]? = some x := ⟨_, List.getElem?_eq_getElem (by omega)⟩
  have hqi := hOm q (List.mem_of_getElem? hq)
  obtain ⟨x9, hx9⟩ : ∃ x, cx[q]? = some x := ⟨_, List.getElem?_eq_getElem (by omega)⟩
  have hx9m := List.mem_of_getElem? hx9
  have hln := lenN_at hcx hcn hx9
  have hxl := cx_at hcx hx9
  have hlnz := hne q hqi
  obtain ⟨bi, oi, hAi⟩ := hin _ hx9m (by omega)
  obtain ⟨Ai, ni, ci, li⟩ := x9
  dsimp only at hln hxl hAi
  subst hAi
  have hlil := hcn _ hx9m
  dsimp only at hlil
  obtain ⟨e0, he0⟩ : ∃ x, li[0]? = some x := ⟨_, List.getElem?_eq_getElem (by omega)⟩
  have hco := co_at (cs := cs) (sl := sl) (l := l) hq
  rw [← hCO, ← hxl] at hco
  have hrw := restW_at hco
  rw [head_at he0] at hrw
  obtain ⟨e1, e2, e3⟩ := e0
  dsimp only at hrw
  obtain ⟨r1, hr1⟩ : ∃ z, z = restW (CO.drop (k + 1)) := ⟨_, rfl⟩
  obtain ⟨r0, hr0⟩ : ∃ z, z = restW (CO.drop k) := ⟨_, rfl⟩
  have hrb := co_le (l := l) (cs := cs) (sl := sl) hstp (fun j hj => by rw [hlen]; exact hOm j hj) k
  rw [← hCO, ← hr0] at hrb
  rw [← hr0, ← hr1] at hrw
  have hg1 : (restL CO (k + 1))[k + 1]? = some ((r1 : Nat) : Int) := by rw [restL_at (by omega), hr1]; unfold restR; rw [if_pos (Nat.le_refl _)]
  have hg0 : (restL CO (k + 1))[k]? = some (restR CO (k + 1) k) := restL_at (by omega)
  refine gd (fun wz => Blk wz g7 262 [.pointer (some ⟨gx, 0, none⟩)] ∧ Blk wz gx 266 [.slice A i c, .slice (some ⟨b9, o9, none⟩) i c9, .slice (some ⟨go, 0, none⟩) i co, .slice (some ⟨gc, 0, none⟩) i i, .slice none 0 0, .slice (some ⟨g24, 0, none⟩) (i + 1) (i + 1), .int .i64 (-1)] ∧ (SlOld csEnc 2 158 w.heap.size none A0 n0 cs) wz ∧ (SlOld skEnc 2 211 w.heap.size none A1 n1 sl) wz ∧ (SlOld bkEnc 6 92 w.heap.size none A i l) wz ∧ (fun wy => SlT csnEnc 1 269 wy (some ⟨b9, o9, none⟩) i cx) wz ∧ (fun wy => Chs 268 cx wy) wz ∧ wz.ownsRow w.heap.size 3 1 (.slice (some ⟨go, 0, none⟩) i co) i (OD.flatMap nEnc) ∧ wz.ownsRow w.heap.size 9 1 (.slice (some ⟨gc, 0, none⟩) i i) i ((List.replicate (i) (⟨#[]⟩ : ByteArray)).flatMap sgEnc) ∧ True) mixed (fun _ hm => ⟨hm.bl 0, hm.bl 1, hm.fa 0, hm.fa 1, hm.fa 2, hm.fa 3, hm.fa 4, hm.ownI 1 rfl, hm.ownI 2 rfl, trivial⟩) fun z => ?_
  refine wt 0 32 1 rfl z (ov_load sc262 rfl (fun _ hm => hm.1) rfl) ?_
  refine wt 1 32 3 rfl z (ov_nilcheck rfl) ?_
  refine wt 2 32 7 rfl z (ov_field fo266_5 rfl rfl) ?_
  refine wt 3 32 15 rfl z (ov_load sc22 rfl (fun _ hm => hm.2.1) rfl) ?_
  refine wt 4 32 31 rfl z (ov_move rfl) ?_
  refine wt 5 32 63 rfl z (ov_load sc262 rfl (fun _ hm => hm.1) rfl) ?_
  refine wt 6 32 127 rfl z (ov_nilcheck rfl) ?_
  refine wt 7 32 255 rfl z (ov_field fo266_5 rfl rfl) ?_
  refine wt 8 32 511 rfl z (ov_load sc22 rfl (fun _ hm => hm.2.1) rfl) ?_
  refine wt 9 32 1023 rfl z (ov_move rfl) ?_
  refine wt 10 32 2047 rfl z (ov_add rfl rfl (by omega) (by omega)) ?_
  refine wa_set 75 (v' := .int .i64 ((k + 1 : Nat) : Int)) rfl (congrArg (Value.int .i64) (by omega)) ?_
  refine wt 11 32 4095 rfl z (ov_index (j := k + 1) es22 rfl rfl (by omega)) ?_
  refine wt 13 32 12287 rfl z (ov_load sc262 rfl (fun _ hm => hm.1) rfl) ?_
  refine wt 14 32 28671 rfl z (ov_nilcheck rfl) ?_
  refine wt 15 32 61439 rfl z (ov_field fo266_1 rfl rfl) ?_
  refine wt 16 32 126975 rfl z (ov_load sc263 rfl (fun _ hm => hm.2.1) rfl) ?_
  refine wt 17 32 258047 rfl z (ov_load sc262 rfl (fun _ hm => hm.1) rfl) ?_
  refine wt 18 32 520191 rfl z (ov_nilcheck rfl) ?_
  refine wt 19 32 1044479 rfl z (ov_field fo266_2 rfl rfl) ?_
  refine wt 20 32 2093055 rfl z (ov_load sc22 rfl (fun _ hm => hm.2.1) rfl) ?_
  refine wt 21 32 4190207 rfl z (ov_move rfl) ?_
  refine wt 22 32 8384511 rfl z (ov_index (j := k) es22 rfl rfl (by omega)) ?_
  refine wt 23 32 16773119 rfl z (ov_elem1 (k := 0) (v := .int .i64 ((q : Nat) : Int)) sc3 rfl (fun _ hm => (SlT.ofOwn n_len (hm.2.2.2.2.2.2.2.1) hOl)) hq rfl rfl) ?_
  refine wt 24 32 33550335 rfl z (ov_index (j := q) es263 rfl rfl (by omega)) ?_
  refine wt 25 32 67104767 rfl z (ov_elem1 (k := 0) (v := .slice (some ⟨bi, oi, none⟩) ni ci) sc269 rfl (fun _ hm => (hm.2.2.2.2.2.1)) hx9 rfl rfl) ?_
  refine wt 26 32 134213631 rfl z (ov_index (j := 0) es269 rfl rfl (by omega)) ?_
  refine wt 27 32 268431359 rfl z (ov_field fo268_1 rfl rfl) ?_
  refine wt 28 32 536866815 rfl z (ov_elem1 (k := 1) (v := .int .i64 ((e2 : Nat) : Int)) sc3 rfl (fun _ hm => ((hm.2.2.2.2.2.2.1) _ hx9m)) he0 rfl rfl) ?_
  refine wa1 12 rfl ?_
  refine wl_ov (ov_elem1 (k := 0) (v := .int .i64 ((r1 : Nat) : Int)) sc3 rfl (fun _ hm => (SlT.ofOwn i_len (hm.ownI 0 rfl) (by rw [restL_len]; omega))) hg1 rfl rfl) rfl ?_
  refine wl_nil ?_
  refine nw 32 536870911 (fun _ hm => ⟨hm.bl 0, hm.bl 1, hm.fa 0, hm.fa 1, hm.fa 2, hm.fa 3, hm.fa 4, hm.ownI 1 rfl, hm.ownI 2 rfl, trivial⟩) fun z => ?_
  refine wt 29 32 1073741823 rfl z (ov_add rfl rfl (by omega) (by omega)) ?_
  refine wa_set 94 (v' := .int .i64 ((r0 : Nat) : Int)) rfl (congrArg (Value.int .i64) (by omega)) ?_
  refine wt 30 32 2147483647 rfl z (ov_index (j := k) es22 rfl rfl (by omega)) ?_
  refine wa1 31 rfl ?_
  refine wl_storeE (l := (restL CO (k + 1))) (j := k) (r := 0) (el := (restR CO (k + 1) k)) (el' := ((r0 : Nat) : Int)) 0 sc3 rfl rfl rfl rfl i_len rfl hg0 (by rw [restL_len]; omega) (show 0 < 1 by decide) rfl rfl ?_
  rw [show ((restL CO (k + 1)).set k ((r0 : Nat) : Int)).flatMap iEnc = (restL CO k).flatMap iEnc from by rw [hr0, restL_set (by omega)]]
  refine wl_nil ?_
  refine nw 32 4294967295 (fun _ hm => ⟨hm.bl 0, hm.bl 1, hm.fa 0, hm.fa 1, hm.fa 2, hm.fa 3, hm.fa 4, hm.ownI 1 rfl, hm.ownI 2 rfl, trivial⟩) fun z => ?_
  refine wa_done (by kernel_rfl) ?_
  refine nx_blk_nrm (nx_then (gw_region (mv_ rfl ?_)))
  refine wl_ov (ov_sub rfl rfl (by omega) (by omega)) rfl ?_
  refine sg_ rfl (wl_nil ?_)
  exact nx_round k (by omega) (by omega) ⟨rfl, rfl, trivial⟩ (fun _ hm => hm.pick [0, 1] [0, 1, 2] [0, 1, 2, 3, 4] rfl rfl)
 have hj : ¬ (0 ≤ ((j : Nat) : Int) - 1) := by simpa using hh
 clear hh
 refine gw_exit ?_
 refine nx_then_exit (nx_then_exit ?_)
 refine nx_blk_here ?_
 refine nx_then (sr_ ?_)
 have hj0 : j = 0 := by omega
 subst hj0
 refine lk_ sc262 0 rfl rfl rfl ?_
 refine wl_callG (γ := List ByteArray) (val := fun _ => .tuple #[]) (φ := fun _ => True) (K' := fun _ => fun _ => True) (L' := fun _ => [(gx, 266, [.slice A i c, .slice A9 i c9, .slice (some ⟨go, 0, none⟩) i co, .slice (some ⟨gc, 0, none⟩) i i, .slice none 0 0, .slice (some ⟨g24, 0, none⟩) (i + 1) (i + 1), .int .i64 (bestI (bbW roomF (OD.map (itB cs sl l)) [] 0 none))]), (g7, 262, [.pointer (some ⟨gx, 0, none⟩)])]) (O' := fun cl2 => [⟨.slice (some ⟨gc, 0, none⟩) i i, 9, 1, i, cl2.flatMap sgEnc⟩, ⟨.slice (some ⟨go, 0, none⟩) i co, 3, 1, i, OD.flatMap nEnc⟩, ⟨.slice (some ⟨g24, 0, none⟩) (i + 1) (i + 1), 3, 1, (i + 1), (restL CO 0).flatMap iEnc⟩]) (X' := fun _ => [SlOld bkEnc 6 92 w.heap.size none A i l]) rfl cb228 rfl rfl (fun wx hm => by
  have h := cf_all w l A i c cs sl A9 c9 cx OD (some ⟨go, 0, none⟩) co (restL CO 0) gx g7 gc g24 (by omega) (own_cap (hm.ownI 1 rfl)) hOl (by rw [restL_len, hCl]) hOm hOn htm hcx hstp hchl (fun k => by rw [co_it]; exact Nat.le_trans (co_le hstp (fun j hj => by rw [hlen]; exact hOm j hj) k) (by omega)) (fun k hk => by rw [co_it, ← hCO, restL_at (by omega)]; rfl) i 0 (by omega) 0 none (List.replicate (i) (⟨#[]⟩ : ByteArray)) wx (by rw [List.length_replicate]) (by omega) (hm.pick [1, 0] [2, 1, 0] [2, 3, 4] rfl rfl).cx
  exact h.mono fun _ _ ⟨cl2, he, _, _, hm2⟩ => ⟨cl2, he, trivial, (hm2.cx.pick [0, 1] [0, 1, 2] [0] rfl rfl)⟩) ?_
 rintro cl2 -
 refine nn_ (sr_ (lk_ sc262 1 rfl rfl rfl (wl_ov (ov_nilcheck rfl) rfl (fd_ fo266_6 rfl rfl (lk_ sc3 0 rfl rfl rfl (sg_ rfl (nn_ ?_)))))))
 refine gw_ret ?_
 refine nx_ret1 rfl rfl fun wx hm => ?_
 exact ⟨_, rfl, fw_bb hcl hlo hix htm hOp, hm.g⟩
end Go.Proofs.YtempjmpfdniecaaGreatDoor
namespace Go.Proofs.YtempjmpfdniecaaGreatDoor
open Go.RowKit
/-- What unitsFrom does, from a booking on. -/
def UfSpec (w0 : World) (l : List Bk) (A : Option Addr) (nb cb : Nat) (cs : List Cs) (sl : List Sk) (A9 : Option Addr) (c9 : Nat) (cx : List ChS) (Ao : Option Addr) (co : Nat) (re : List Int) (g gc gu gr : Nat) (i : Nat) : Prop := ∀ (left : Nat) (cl : List ByteArray) (un : List Int) (ss : List (ByteArray × Nat)) (Y : World → Prop) (w : World), ss.length = i → cl.length = nb → un.length = nb → RwOk cl un ss → (∀ p ∈ ss, p.2 ≤ 1000) → left ≤ 1000000 → Mem ⟨0, w0, none, [269, 268]⟩ (fun _ => True) [(g, 266, [.slice A nb cb, .slice A9 nb c9, .slice Ao nb co, .slice (some ⟨gc, 0, none⟩) nb nb, .slice (some ⟨gu, 0, none⟩) nb nb, .slice (some ⟨gr, 0, none⟩) (nb + 1) (nb + 1), .int .i64 0])] [⟨.slice (some ⟨gc, 0, none⟩) nb nb, 9, 1, nb, (cl).flatMap sgEnc⟩, ⟨.slice (some ⟨gu, 0, none⟩) nb nb, 3, 1, nb, (un).flatMap iEnc⟩, ⟨.slice Ao nb co, 3, 1, nb, (List.range nb).flatMap nEnc⟩, ⟨.slice (some ⟨gr, 0, none⟩) (nb + 1) (nb + 1), 3, 1, nb + 1, re.flatMap iEnc⟩] [SlOld bkEnc 6 92 w0.heap.size none A nb l, fun wy => SlT csnEnc 1 269 wy A9 nb cx, fun wy => Chs 268 cx wy, Y] w →
    Calls Tryz.prog 221 #[.pointer (some ⟨g, 0, none⟩), .int .i64 ((i : Nat) : Int), .int .i64 ((left : Nat) : Int)] w (fun e w' => ∃ (cl' : List ByteArray) (un' : List Int), e = .returned (.bool (unD cs sl l ss left).isSome) ∧ cl'.length = nb ∧ un'.length = nb ∧ (∀ o, unD cs sl l ss left = some o → RwOk cl' un' o) ∧ (unD cs sl l ss left = none → RwOk cl' un' ss) ∧ Mem ⟨0, w0, none, [269, 268]⟩ (fun _ => True) [(g, 266, [.slice A nb cb, .slice A9 nb c9, .slice Ao nb co, .slice (some ⟨gc, 0, none⟩) nb nb, .slice (some ⟨gu, 0, none⟩) nb nb, .slice (some ⟨gr, 0, none⟩) (nb + 1) (nb + 1), .int .i64 0])] [⟨.slice (some ⟨gc, 0, none⟩) nb nb, 9, 1, nb, (cl').flatMap sgEnc⟩, ⟨.slice (some ⟨gu, 0, none⟩) nb nb, 3, 1, nb, (un').flatMap iEnc⟩, ⟨.slice Ao nb co, 3, 1, nb, (List.range nb).flatMap nEnc⟩, ⟨.slice (some ⟨gr, 0, none⟩) (nb + 1) (nb + 1), 3, 1, nb + 1, re.flatMap iEnc⟩] [SlOld bkEnc 6 92 w0.heap.size none A nb l, fun wy => SlT csnEnc 1 269 wy A9 nb cx, fun wy => Chs 268 cx wy, Y] w')
theorem uf_step (w0 : World) (l : List Bk) (A : Option Addr) (nb cb : Nat) (cs : List Cs) (sl : List Sk) (A9 : Option Addr) (c9 : Nat) (cx : List ChS) (Ao : Option Addr) (co : Nat) (re : List Int) (g gc gu gr : Nat) (i : Nat) (ih : i < nb → UfSpec w0 l A nb cb cs sl A9 c9 cx Ao co re g gc gu gr (i + 1)) (hi : i ≤ nb) (hn : nb ≤ 1000) (hco : nb ≤ co) (hrl : re.length = nb + 1) (htm : BkTim l) (hcx : cx.map ChS.l = l.map (chB cs sl)) (hstp : ∀ b ∈ l, ∀ q ∈ chB cs sl b, q.2.1 ≤ 1000 ∧ q.2.2 ≤ 1000) (hchl : ∀ b ∈ l, (chB cs sl b).length ≤ 1000) (hrest : ∀ k, restB cs sl l k ≤ 1000000) (hre : ∀ k, k ≤ nb → re[k]? = some ((restB cs sl l k : Nat) : Int)) : UfSpec w0 l A nb cb cs sl A9 c9 cx Ao co re g gc gu gr i := by
 intro left cl un ss Y w hss hcl hun hst hsb hleft hm
 refine gw_enter ⟨136, w0, none, [269, 268]⟩ Tryz.func221 rfl Tryz.ntmps221 rfl hm.cx ?_
 refine sr_ ?_
 obtain ⟨U, hU⟩ : ∃ z, z = unD cs sl l ss left := ⟨_, rfl⟩
 have hrg := hre i hi
 obtain ⟨rk, hrk⟩ : ∃ z, z = restB cs sl l i := ⟨_, rfl⟩
 have hrb := hrest i
 rw [← hrk] at hrb hrg
 rw [← hU]
 have hl0 := (hm.fact 0 rfl : SlOld bkEnc 6 92 w0.heap.size none A nb l w).1
 have hlen := hl0.len
 have LastsY : Lasts2 w0.heap.size none [269, 268] Y := hm.l Y (List.mem_of_getElem? (i := 3) rfl)
 have hch9 : SlT csnEnc 1 269 w A9 nb cx := hm.fact 1 rfl
 have hchs : Chs 268 cx w := hm.fact 2 rfl
 have hcl9 := hch9.len
 refine sg_ rfl (nn_ (gw_seq (sr_ (mv_ rfl (mv_ rfl (wl_ov (ov_nilcheck rfl) rfl (fd_ fo266_5 rfl rfl (lk_ sc22 0 rfl rfl rfl (mv_ rfl ?_)))))))))
 refine wl_ov (ov_index (j := i) es22 rfl rfl (by omega)) rfl ?_
 refine wl_ov (ov_elem1 (k := 0) (v := .int .i64 ((rk : Nat) : Int)) sc3 rfl (fun _ hm => (SlT.ofOwn i_len (hm.ownI 3 rfl) hrl)) hrg rfl rfl) rfl ?_
 refine wl_ov (ov_lss rfl rfl) rfl (nn_ ?_)
 refine gw_cond rfl (fun hh => ?_) (fun hh => ?_)
 ·have h1 : ((left : Nat) : Int) < ((rk : Nat) : Int) := by simpa using hh
  clear hh
  refine sr_ ?_
  obtain ⟨b0, hb0⟩ : ∃ x, l[i]? = some x := ⟨_, List.getElem?_eq_getElem (by
   rcases Nat.lt_or_ge i l.length with h | h
   ·exact h
   have : rk = 0 := by rw [hrk]; unfold restB; rw [List.drop_eq_nil_of_le h]; rfl
   omega)⟩
  rw [← hss] at hb0 hrk
  have hU0 : U = none := by rw [hU]; exact unD_short hb0 (by omega)
  rw [hU0]
  refine sg_ rfl (nn_ ?_)
  refine gw_ret ?_
  refine nx_then_ret ?_
  refine nx_ret1 rfl rfl fun wx hm => ?_
  exact ⟨cl, un, rfl, hcl, hun, (fun o h => (by cases h)), fun _ => hst, (hm.pick [0] [0, 1, 2, 3] [0, 1, 2, 3] rfl rfl).cx⟩
 have h1 : ¬ (((left : Nat) : Int) < ((rk : Nat) : Int)) := by simpa using hh
 clear hh
 refine gw_skip (nx_then (gw_seq (sr_ (mv_ rfl (mv_ rfl (wl_ov (ov_nilcheck rfl) rfl (fd_ fo266_0 rfl rfl (lk_ sc76 0 rfl rfl rfl (wl_ov (ov_len es76 rfl) rfl (wl_ov (ov_eql rfl rfl) rfl (nn_ ?_)))))))))))
 refine gw_cond rfl (fun hh => ?_) (fun hh => ?_)
 ·have h2 : ((i : Nat) : Int) = ((nb : Nat) : Int) := by simpa using hh
  clear hh
  refine sr_ ?_
  have hU1 : U = some ss := by rw [hU]; exact unD_end (by omega)
  rw [hU1]
  refine sg_ rfl (nn_ ?_)
  refine gw_ret ?_
  refine nx_then_ret ?_
  refine nx_ret1 rfl rfl fun wx hm => ?_
  exact ⟨cl, un, rfl, hcl, hun, (fun o h => (by cases h; exact hst)), (fun h => (by cases h)), (hm.pick [0] [0, 1, 2, 3] [0, 1, 2, 3] rfl rfl).cx⟩
 have h2 : ¬ (((i : Nat) : Int) = ((nb : Nat) : Int)) := by simpa using hh
 clear hh
 refine gw_skip (nx_then (gw_seq (sr_ ?_)))
 have hin : i < nb := by omega
 obtain ⟨b0, hb0⟩ : ∃ x, l[i]? = some x := ⟨_, List.getElem?_eq_getElem (by omega)⟩
 have hbk := bkAt_get hb0
 have hUa : U = (chB cs sl b0).findSome? (unE cs sl l ss (wnB b0) left) := by
  rw [hU]
  exact unD_at (by rw [hss]; exact hb0) (by rw [hss, ← hrk]; omega)
 obtain ⟨r1, hr1⟩ : ∃ z, z = restB cs sl l (i + 1) := ⟨_, rfl⟩
 have hrg1 := hre (i + 1) (by omega)
 have hrb1 := hrest (i + 1)
 rw [← hr1] at hrg1 hrb1
 obtain ⟨xw, hxw⟩ : ∃ z, z = wnB b0 := ⟨_, rfl⟩
 rw [← hxw] at hUa
 refine wl_look (R := ∃ g, Ao = some ⟨g, 0, none⟩) (fun wx hm => own_addr (hm.ownI 2 rfl) (by omega)) ?_
 rintro ⟨go, rfl⟩
 obtain ⟨b9, o9, hA, _, _⟩ := hch9.get (by omega)
 subst hA
 obtain ⟨x9, hx9⟩ : ∃ x, cx[i]? = some x := ⟨_, List.getElem?_eq_getElem (by omega)⟩
 have hx9l := cx_at hcx hx9
 have hx9m := List.mem_of_getElem? hx9
 have hs9 := hchs x9 hx9m
 obtain ⟨Ai, ni, ci, li⟩ := x9
 dsimp only at hx9l hs9
 have hni := hs9.len
 rw [hbk] at hx9l
 have hni1 : ni ≤ 1000 := by have h8 := hchl b0 (List.mem_of_getElem? hb0); rw [← hx9l] at h8; omega
 have hstl : ∀ q ∈ li, q.2.1 ≤ 1000 ∧ q.2.2 ≤ 1000 := by rw [hx9l]; exact hstp b0 (List.mem_of_getElem? hb0)
 rw [← hx9l] at hUa
 refine mv_ rfl (wl_ov (ov_nilcheck rfl) rfl (fd_ fo266_1 rfl rfl (lk_ sc263 0 rfl rfl rfl (mv_ rfl ?_))))
 refine wl_ov (ov_index (j := i) es263 rfl rfl (by omega)) rfl ?_
 refine wl_ov (ov_elem1 (k := 0) (v := .slice Ai ni ci) sc269 rfl (fun _ hm => (hm.fact 1 rfl)) hx9 rfl rfl) rfl ?_
 refine wl_ov (ov_len es269 rfl) rfl (mv_ rfl (nn_ (gw_block ?_)))
 refine gw_loop (γ := Nat × List ByteArray × List Int) (fun (gq : Nat × List ByteArray × List Int) => gq.1 ≤ ni ∧ gq.2.1.length = nb ∧ gq.2.2.length = nb ∧ RwOk gq.2.1 gq.2.2 ss ∧ U = (li.drop gq.1).findSome? (unE cs sl l ss xw left)) (fun (gq : Nat × List ByteArray × List Int) => [(0, .pointer (some ⟨g, 0, none⟩)), (1, .int .i64 ((i : Nat) : Int)), (2, .int .i64 ((left : Nat) : Int)), (34, .slice Ai ni ci), (35, .int .i64 ((ni : Nat) : Int)), (36, .int .i64 ((gq.1 : Nat) : Int))]) (fun (gq : Nat × List ByteArray × List Int) => fun _ => True) (fun (gq : Nat × List ByteArray × List Int) => [(g, 266, [.slice A nb cb, .slice (some ⟨b9, o9, none⟩) nb c9, .slice (some ⟨go, 0, none⟩) nb co, .slice (some ⟨gc, 0, none⟩) nb nb, .slice (some ⟨gu, 0, none⟩) nb nb, .slice (some ⟨gr, 0, none⟩) (nb + 1) (nb + 1), .int .i64 0])]) (fun (gq : Nat × List ByteArray × List Int) => [⟨.slice (some ⟨gc, 0, none⟩) nb nb, 9, 1, nb, (gq.2.1).flatMap sgEnc⟩, ⟨.slice (some ⟨gu, 0, none⟩) nb nb, 3, 1, nb, (gq.2.2).flatMap iEnc⟩, ⟨.slice (some ⟨go, 0, none⟩) nb co, 3, 1, nb, (List.range nb).flatMap nEnc⟩, ⟨.slice (some ⟨gr, 0, none⟩) (nb + 1) (nb + 1), 3, 1, nb + 1, re.flatMap iEnc⟩]) (fun (gq : Nat × List ByteArray × List Int) => [SlOld bkEnc 6 92 w0.heap.size none A nb l, fun wy => SlT csnEnc 1 269 wy (some ⟨b9, o9, none⟩) nb cx, fun wy => Chs 268 cx wy, Y]) (fun (gq : Nat × List ByteArray × List Int) => ni - gq.1) (0, cl, un) ⟨Nat.zero_le _, hcl, hun, hst, hUa⟩ ⟨rfl, rfl, rfl, rfl, rfl, rfl, trivial⟩ (fun _ hm => hm.pick [0] [0, 1, 2, 3] [0, 1, 2, 3] rfl rfl) ?_
 rintro ⟨j, ce, ue⟩ hinv
 replace hinv : j ≤ ni ∧ ce.length = nb ∧ ue.length = nb ∧ RwOk ce ue ss ∧ U = (li.drop j).findSome? (unE cs sl l ss xw left) := hinv
 dsimp only
 refine sr_ ?_
 obtain ⟨hj0, hce, hue, hso, hUj⟩ := hinv
 refine wl_ov (ov_lss rfl rfl) rfl (nn_ (gw_seq ?_))
 refine gw_cond rfl (fun hh => ?_) (fun hh => ?_)
 ·have hj : ((j : Nat) : Int) < ((ni : Nat) : Int) := by simpa using hh
  clear hh
  refine gw_skip (nx_then (gw_seq (gw_block (sr_ ?_))))
  obtain ⟨bi, oi, hA, _, _⟩ := hs9.get (by omega)
  subst hA
  obtain ⟨q, hq⟩ : ∃ x, li[j]? = some x := ⟨_, List.getElem?_eq_getElem (by omega)⟩
  have hqs := hstl q (List.mem_of_getElem? hq)
  rw [fs_at hq] at hUj
  obtain ⟨c, sp, mm⟩ := q
  dsimp only at hqs
  obtain ⟨RF, hRF⟩ : ∃ z, z = roomU (l.map wnB) ss xw (c, sp, mm) := ⟨_, rfl⟩
  refine wl_ov (ov_index (j := j) es269 rfl rfl (by omega)) rfl ?_
  refine wl_ov (ov_elem (vs := [.string c, .int .i64 ((sp : Nat) : Int), .int .i64 ((mm : Nat) : Int)]) rz268 rfl (fun _ hm => ((hm.fact 2 rfl) _ hx9m)) hq rfl rfl) rfl ?_
  refine wl_allocs (vs := [.string c, .int .i64 ((sp : Nat) : Int), .int .i64 ((mm : Nat) : Int)]) (cs' := [.string c, .int .i64 ((sp : Nat) : Int), .int .i64 ((mm : Nat) : Int)]) zc268 rfl rz268 (fun _ => rfl) (fun _ => rfl) rfl rfl rfl rfl fun g1 => ?_
  refine nn_ (gw_seq (gw_seq ?_))
  refine gw_also (Y := fun wy => Y wy ∧ Blk wy g1 268 [.string c, .int .i64 ((sp : Nat) : Int), .int .i64 ((mm : Nat) : Int)]) (LastsY.and_ (BlkX.lasts rfl)) (fun wx hm => ⟨(hm.fact 3 rfl), hm.bl 0⟩) ?_
  refine gd (fun wz => Blk wz g1 268 [.string c, .int .i64 ((sp : Nat) : Int), .int .i64 ((mm : Nat) : Int)] ∧ Blk wz g 266 [.slice A nb cb, .slice (some ⟨b9, o9, none⟩) nb c9, .slice (some ⟨go, 0, none⟩) nb co, .slice (some ⟨gc, 0, none⟩) nb nb, .slice (some ⟨gu, 0, none⟩) nb nb, .slice (some ⟨gr, 0, none⟩) (nb + 1) (nb + 1), .int .i64 0] ∧ (fun wy => Y wy ∧ Blk wy g1 268 [.string c, .int .i64 ((sp : Nat) : Int), .int .i64 ((mm : Nat) : Int)]) wz ∧ (SlOld bkEnc 6 92 w0.heap.size none A nb l) wz ∧ (fun wy => SlT csnEnc 1 269 wy (some ⟨b9, o9, none⟩) nb cx) wz ∧ (fun wy => Chs 268 cx wy) wz ∧ (Y) wz ∧ wz.ownsRow w0.heap.size 9 1 (.slice (some ⟨gc, 0, none⟩) nb nb) nb ((ce).flatMap sgEnc) ∧ wz.ownsRow w0.heap.size 3 1 (.slice (some ⟨gu, 0, none⟩) nb nb) nb ((ue).flatMap iEnc) ∧ wz.ownsRow w0.heap.size 3 1 (.slice (some ⟨go, 0, none⟩) nb co) nb ((List.range nb).flatMap nEnc) ∧ wz.ownsRow w0.heap.size 3 1 (.slice (some ⟨gr, 0, none⟩) (nb + 1) (nb + 1)) (nb + 1) (re.flatMap iEnc) ∧ True) mixed (fun _ hm => ⟨hm.bl 0, hm.bl 1, hm.fa 0, hm.fa 1, hm.fa 2, hm.fa 3, hm.fa 4, hm.ownI 0 rfl, hm.ownI 1 rfl, hm.ownI 2 rfl, hm.ownI 3 rfl, trivial⟩) fun z => ?_
  refine wt 0 21 1 rfl z (ov_field fo268_1 rfl rfl) ?_
  refine wt 1 21 3 rfl z (ov_load (v := .int .i64 ((sp : Nat) : Int)) sc3 rfl (fun _ hm => (hm.2.2.1).2) rfl) ?_
  refine wt 2 21 7 rfl z (ov_move rfl) ?_
  refine wt 3 21 15 rfl z (ov_nilcheck rfl) ?_
  refine wt 4 21 31 rfl z (ov_field fo266_5 rfl rfl) ?_
  refine wt 5 21 63 rfl z (ov_load sc22 rfl (fun _ hm => hm.2.1) rfl) ?_
  refine wt 6 21 127 rfl z (ov_move rfl) ?_
  refine wt 7 21 255 rfl z (ov_add rfl rfl (by omega) (by omega)) ?_
  refine wa_set 47 (v' := .int .i64 ((i + 1 : Nat) : Int)) rfl (congrArg (Value.int .i64) (by omega)) ?_
  refine wt 8 21 511 rfl z (ov_index (j := i + 1) es22 rfl rfl (by omega)) ?_
  refine wt 9 21 1023 rfl z (ov_elem1 (k := 0) (v := .int .i64 ((r1 : Nat) : Int)) sc3 rfl (fun _ hm => (SlT.ofOwn i_len (hm.2.2.2.2.2.2.2.2.2.2.1) hrl)) hrg1 rfl rfl) ?_
  refine wt 10 21 2047 rfl z (ov_add rfl rfl (by omega) (by omega)) ?_
  refine wt 11 21 4095 rfl z (ov_move rfl) ?_
  refine wt 12 21 8191 rfl z (ov_gtr rfl rfl) ?_
  refine wt 13 21 16383 rfl z (ov_move rfl) ?_
  rcases Bool.eq_false_or_eq_true (decide (((left : Nat) : Int) < ((sp : Nat) : Int) + ((r1 : Nat) : Int))) with hb1 | hb1
  ·refine wa_set 53 rfl (congrArg Value.bool hb1) ?_
   replace hb1 := of_decide_eq_true hb1
   rw [unE_big (by rw [hss, ← hr1]; dsimp only; omega)] at hUj
   refine wtf 14 21 32767 rfl rfl rfl z ?_
   refine wtf 15 21 65535 rfl rfl rfl z ?_
   refine wtf 16 21 131071 rfl rfl rfl z ?_
   refine wtf 17 21 262143 rfl rfl rfl z ?_
   refine wtf 18 21 524287 rfl rfl rfl z ?_
   refine wtf 19 21 1048575 rfl rfl rfl z ?_
   refine wt 20 21 2097151 rfl z (ov_pick_t rfl rfl) ?_
   refine wa_done (by kernel_rfl) ?_
   refine nx_then (ct_ rfl ?_)
   refine gw_exit ?_
   refine nx_then_exit ?_
   refine nx_blk_here ?_
   refine nx_then (gw_region (ad_ rfl rfl (mv_ rfl (wl_nil ?_))))
   exact nx_round (j + 1, ce, ue) ⟨by dsimp only; omega, hce, hue, hso, hUj⟩ (by dsimp only; omega) ⟨rfl, rfl, rfl, rfl, rfl, (some_int (by omega)), trivial⟩ (fun _ hm => hm.pick [1] [0, 1, 2, 3] [1, 2, 3, 4] rfl rfl)
  refine wa_set 53 rfl (congrArg Value.bool hb1) ?_
  replace hb1 := of_decide_eq_false hb1
  refine wto 14 21 32767 rfl rfl rfl z (ov_move rfl) ?_
  refine wto 15 21 65535 rfl rfl rfl z (ov_move rfl) ?_
  refine wto 16 21 131071 rfl rfl rfl z (ov_move rfl) ?_
  refine wto 17 21 262143 rfl rfl rfl z (ov_loads (vs := [.string c, .int .i64 ((sp : Nat) : Int), .int .i64 ((mm : Nat) : Int)]) rz268 rfl (fun _ hm => (hm.2.2.1).2) rfl rfl) ?_
  refine wa1 18 rfl ?_
  refine wl_guard_on rfl rfl rfl ?_
  refine wl_callv (v := .bool RF) rfl cb282 rfl rfl (fun wx hm => (by rw [hRF]; have h := fits_any l A nb cb (some ⟨go, 0, none⟩) co (List.range nb) (some ⟨gc, 0, none⟩) nb ce _ _ _ _ g i i c sp mm wx (hm.blkI 1 rfl) (hm.fact 1 rfl).1 (SlT.ofOwn n_len (hm.ownI 2 rfl) (by simp)) (SlT.ofOwn sg_len (hm.ownI 0 rfl) hce) hi hin hn hco (fun j hj => List.mem_range.1 hj) htm; rw [List.take_range, Nat.min_eq_left (by omega), ← hss, pl_st hso (by omega), hss, hbk, ← hxw] at h; exact h)) ?_
  refine wl_nil ?_
  refine nw 21 524287 (fun _ hm => ⟨hm.bl 0, hm.bl 1, hm.fa 0, hm.fa 1, hm.fa 2, hm.fa 3, hm.fa 4, hm.ownI 0 rfl, hm.ownI 1 rfl, hm.ownI 2 rfl, hm.ownI 3 rfl, trivial⟩) fun z => ?_
  refine wto 19 21 1048575 rfl rfl rfl z (ov_un_not rfl) ?_
  refine wt 20 21 2097151 rfl z (ov_pick_f rfl rfl) ?_
  refine wa_done (by kernel_rfl) ?_
  refine nx_then ?_
  refine gw_cond rfl (fun hh => ?_) (fun hh => ?_)
  ·have hrf : RF = false := by simpa using hh
   clear hh
   refine gw_exit ?_
   refine nx_then_exit ?_
   refine nx_blk_here ?_
   refine nx_then (gw_region ?_)
   have hno : RF = false := by simpa using hrf
   rw [unE_no (by rw [hss, ← hr1]; dsimp only; omega) (hRF.symm.trans hno)] at hUj
   refine ad_ rfl rfl (mv_ rfl (wl_nil ?_))
   exact nx_round (j + 1, ce, ue) ⟨by dsimp only; omega, hce, hue, hso, hUj⟩ (by dsimp only; omega) ⟨rfl, rfl, rfl, rfl, rfl, (some_int (by omega)), trivial⟩ (fun _ hm => hm.pick [1] [0, 1, 2, 3] [1, 2, 3, 4] rfl rfl)
  have hrf : RF = true := by simpa using hh
  clear hh
  refine gw_skip (nx_then (sr_ ?_))
  have hyes : RF = true := by simpa using hrf
  obtain ⟨MM, hMM⟩ : ∃ z, z = min (higW ss c + 1) mm := ⟨_, rfl⟩
  obtain ⟨UC, hUC⟩ : ∃ z, z = unE cs sl l ss xw left (c, sp, mm) := ⟨_, rfl⟩
  rw [← hUC] at hUj
  have hUC1 : UC = fsU (unF cs sl l ss xw left (c, sp, mm)) 1 MM := by rw [hUC, hMM]; exact unE_go (by rw [hss, ← hr1]; dsimp only; omega) (hRF.symm.trans hyes)
  have hhb := hig_le (c := c) hsb
  refine sg_ rfl (nn_ (gw_seq (sr_ (mv_ rfl (mv_ rfl (nn_ (gw_block ?_)))))))
  refine gw_loop (γ := Nat) (fun (q : Nat) => q ≤ i) (fun (q : Nat) => [(0, .pointer (some ⟨g, 0, none⟩)), (1, .int .i64 ((i : Nat) : Int)), (2, .int .i64 ((left : Nat) : Int)), (8, .pointer (some ⟨g1, 0, none⟩)), (9, .int .i64 ((higW (ss.take q) c : Nat) : Int)), (34, .slice (some ⟨bi, oi, none⟩) ni ci), (35, .int .i64 ((ni : Nat) : Int)), (36, .int .i64 ((j : Nat) : Int)), (61, .int .i64 ((i : Nat) : Int)), (62, .int .i64 ((q : Nat) : Int))]) (fun (q : Nat) => fun _ => True) (fun (q : Nat) => [(g, 266, [.slice A nb cb, .slice (some ⟨b9, o9, none⟩) nb c9, .slice (some ⟨go, 0, none⟩) nb co, .slice (some ⟨gc, 0, none⟩) nb nb, .slice (some ⟨gu, 0, none⟩) nb nb, .slice (some ⟨gr, 0, none⟩) (nb + 1) (nb + 1), .int .i64 0])]) (fun (q : Nat) => [⟨.slice (some ⟨gc, 0, none⟩) nb nb, 9, 1, nb, (ce).flatMap sgEnc⟩, ⟨.slice (some ⟨gu, 0, none⟩) nb nb, 3, 1, nb, (ue).flatMap iEnc⟩, ⟨.slice (some ⟨go, 0, none⟩) nb co, 3, 1, nb, (List.range nb).flatMap nEnc⟩, ⟨.slice (some ⟨gr, 0, none⟩) (nb + 1) (nb + 1), 3, 1, nb + 1, re.flatMap iEnc⟩]) (fun (q : Nat) => [fun wy => Y wy ∧ Blk wy g1 268 [.string c, .int .i64 ((sp : Nat) : Int), .int .i64 ((mm : Nat) : Int)], SlOld bkEnc 6 92 w0.heap.size none A nb l, fun wy => SlT csnEnc 1 269 wy (some ⟨b9, o9, none⟩) nb cx, fun wy => Chs 268 cx wy, Y]) (fun (q : Nat) => i - q) 0 (Nat.zero_le _) ⟨rfl, rfl, rfl, rfl, rfl, rfl, rfl, rfl, rfl, rfl, trivial⟩ (fun _ hm => hm.pick [1] [0, 1, 2, 3] [0, 1, 2, 3, 4] rfl rfl) ?_
  intro q hinv
  replace hinv : q ≤ i := hinv
  refine sr_ (wl_ov (ov_lss rfl rfl) rfl (nn_ (gw_seq ?_)))
  refine gw_cond rfl (fun hh => ?_) (fun hh => ?_)
  ·have hq1 : ((q : Nat) : Int) < ((i : Nat) : Int) := by simpa using hh
   clear hh
   refine gw_skip (nx_then (gw_seq (gw_block (sr_ ?_))))
   obtain ⟨p, hp⟩ : ∃ x, ss[q]? = some x := ⟨_, List.getElem?_eq_getElem (by omega)⟩
   obtain ⟨hcp, hup⟩ := hso.at hp
   have hha := hig_at (c := c) hp
   obtain ⟨p1, p2⟩ := p
   dsimp only at hcp hup hha
   have hpb := hsb _ (List.mem_of_getElem? hp)
   have hqb := hig_le (M := 1000) (st := ss.take q) (c := c) (fun p hp => hsb p (List.mem_of_mem_take hp))
   refine mv_ rfl (sg_ rfl (nn_ (gw_seq ?_)))
   refine gd (fun wz => Blk wz g 266 [.slice A nb cb, .slice (some ⟨b9, o9, none⟩) nb c9, .slice (some ⟨go, 0, none⟩) nb co, .slice (some ⟨gc, 0, none⟩) nb nb, .slice (some ⟨gu, 0, none⟩) nb nb, .slice (some ⟨gr, 0, none⟩) (nb + 1) (nb + 1), .int .i64 0] ∧ (fun wy => Y wy ∧ Blk wy g1 268 [.string c, .int .i64 ((sp : Nat) : Int), .int .i64 ((mm : Nat) : Int)]) wz ∧ (SlOld bkEnc 6 92 w0.heap.size none A nb l) wz ∧ (fun wy => SlT csnEnc 1 269 wy (some ⟨b9, o9, none⟩) nb cx) wz ∧ (fun wy => Chs 268 cx wy) wz ∧ (Y) wz ∧ wz.ownsRow w0.heap.size 9 1 (.slice (some ⟨gc, 0, none⟩) nb nb) nb ((ce).flatMap sgEnc) ∧ wz.ownsRow w0.heap.size 3 1 (.slice (some ⟨gu, 0, none⟩) nb nb) nb ((ue).flatMap iEnc) ∧ wz.ownsRow w0.heap.size 3 1 (.slice (some ⟨go, 0, none⟩) nb co) nb ((List.range nb).flatMap nEnc) ∧ wz.ownsRow w0.heap.size 3 1 (.slice (some ⟨gr, 0, none⟩) (nb + 1) (nb + 1)) (nb + 1) (re.flatMap iEnc) ∧ True) mixed (fun _ hm => ⟨hm.bl 0, hm.fa 0, hm.fa 1, hm.fa 2, hm.fa 3, hm.fa 4, hm.ownI 0 rfl, hm.ownI 1 rfl, hm.ownI 2 rfl, hm.ownI 3 rfl, trivial⟩) fun z => ?_
   refine wt 0 10 1 rfl z (ov_move rfl) ?_
   refine wt 1 10 3 rfl z (ov_nilcheck rfl) ?_
   refine wt 2 10 7 rfl z (ov_field fo266_3 rfl rfl) ?_
   refine wt 3 10 15 rfl z (ov_load sc103 rfl (fun _ hm => hm.1) rfl) ?_
   refine wt 4 10 31 rfl z (ov_move rfl) ?_
   refine wt 5 10 63 rfl z (ov_index (j := q) es103 rfl rfl (by omega)) ?_
   refine wt 6 10 127 rfl z (ov_elem1 (k := 0) (v := .string p1) sc9 rfl (fun _ hm => (SlT.ofOwn sg_len (hm.2.2.2.2.2.2.1) hce)) hcp rfl rfl) ?_
   refine wt 7 10 255 rfl z (ov_field fo268_0 rfl rfl) ?_
   refine wt 8 10 511 rfl z (ov_load (v := .string c) sc9 rfl (fun _ hm => (hm.2.1).2) rfl) ?_
   refine wt 9 10 1023 rfl z (ov_seql rfl rfl) ?_
   refine wa_done (by kernel_rfl) ?_
   refine nx_then ?_
   refine gw_cond rfl (fun hh => ?_) (fun hh => ?_)
   ·have he : (p1.toList == c.toList) = true := by simpa using hh
    clear hh
    refine gw_region ?_
    rw [if_pos (ba_ext (by simpa using he))] at hha
    refine mv_ rfl (mv_ rfl (wl_ov (ov_nilcheck rfl) rfl (fd_ fo266_4 rfl rfl (lk_ sc22 0 rfl rfl rfl (mv_ rfl ?_)))))
    refine wl_ov (ov_index (j := q) es22 rfl rfl (by omega)) rfl ?_
    refine wl_ov (ov_elem1 (k := 0) (v := .int .i64 ((p2 : Nat) : Int)) sc3 rfl (fun _ hm => (SlT.ofOwn i_len (hm.ownI 1 rfl) hue)) hup rfl rfl) rfl ?_
    refine wl_ov (ov_max rfl rfl) rfl ?_
    refine sg_ rfl (wl_nil (nx_blk_nrm (nx_then (gw_region (ad_ rfl rfl (mv_ rfl (wl_nil ?_)))))))
    exact nx_round (q + 1) (by omega) (by omega) ⟨rfl, rfl, rfl, rfl, (congrArg (fun z => some (Value.int .i64 z)) (by rw [hha]; omega)), rfl, rfl, rfl, rfl, (some_int (by omega)), trivial⟩ (fun _ hm => hm.pick [0] [0, 1, 2, 3] [0, 1, 2, 3, 4] rfl rfl)
   have he : (p1.toList == c.toList) = false := by simpa using hh
   clear hh
   refine gw_skip (nx_blk_nrm (nx_then (gw_region ?_)))
   rw [if_neg (fun e => by rw [e] at he; simp at he)] at hha
   refine ad_ rfl rfl (mv_ rfl (wl_nil ?_))
   exact nx_round (q + 1) (by omega) (by omega) ⟨rfl, rfl, rfl, rfl, (congrArg (fun z => some (Value.int .i64 z)) (by rw [hha])), rfl, rfl, rfl, rfl, (some_int (by omega)), trivial⟩ (fun _ hm => hm.pick [0] [0, 1, 2, 3] [0, 1, 2, 3, 4] rfl rfl)
  have hq1 : ¬ (((q : Nat) : Int) < ((i : Nat) : Int)) := by simpa using hh
  clear hh
  refine gw_exit ?_
  refine nx_then_exit (nx_then_exit ?_)
  refine nx_blk_here ?_
  refine nx_then (sr_ ?_)
  have hqi : ss.take q = ss := List.take_of_length_le (by omega)
  rw [hqi]
  refine sg_ rfl (nn_ (gw_block ?_))
  refine gw_loop (γ := Nat × List ByteArray × List Int) (fun (gz : Nat × List ByteArray × List Int) => (1 ≤ gz.1 ∧ gz.1 ≤ MM + 1) ∧ gz.2.1.length = nb ∧ gz.2.2.length = nb ∧ RwOk gz.2.1 gz.2.2 ss ∧ UC = fsU (unF cs sl l ss xw left (c, sp, mm)) gz.1 MM) (fun (gz : Nat × List ByteArray × List Int) => [(0, .pointer (some ⟨g, 0, none⟩)), (1, .int .i64 ((i : Nat) : Int)), (2, .int .i64 ((left : Nat) : Int)), (8, .pointer (some ⟨g1, 0, none⟩)), (9, .int .i64 ((higW ss c : Nat) : Int)), (11, .int .i64 ((gz.1 : Nat) : Int)), (34, .slice (some ⟨bi, oi, none⟩) ni ci), (35, .int .i64 ((ni : Nat) : Int)), (36, .int .i64 ((j : Nat) : Int))]) (fun (gz : Nat × List ByteArray × List Int) => fun _ => True) (fun (gz : Nat × List ByteArray × List Int) => [(g, 266, [.slice A nb cb, .slice (some ⟨b9, o9, none⟩) nb c9, .slice (some ⟨go, 0, none⟩) nb co, .slice (some ⟨gc, 0, none⟩) nb nb, .slice (some ⟨gu, 0, none⟩) nb nb, .slice (some ⟨gr, 0, none⟩) (nb + 1) (nb + 1), .int .i64 0])]) (fun (gz : Nat × List ByteArray × List Int) => [⟨.slice (some ⟨gc, 0, none⟩) nb nb, 9, 1, nb, (gz.2.1).flatMap sgEnc⟩, ⟨.slice (some ⟨gu, 0, none⟩) nb nb, 3, 1, nb, (gz.2.2).flatMap iEnc⟩, ⟨.slice (some ⟨go, 0, none⟩) nb co, 3, 1, nb, (List.range nb).flatMap nEnc⟩, ⟨.slice (some ⟨gr, 0, none⟩) (nb + 1) (nb + 1), 3, 1, nb + 1, re.flatMap iEnc⟩]) (fun (gz : Nat × List ByteArray × List Int) => [fun wy => Y wy ∧ Blk wy g1 268 [.string c, .int .i64 ((sp : Nat) : Int), .int .i64 ((mm : Nat) : Int)], SlOld bkEnc 6 92 w0.heap.size none A nb l, fun wy => SlT csnEnc 1 269 wy (some ⟨b9, o9, none⟩) nb cx, fun wy => Chs 268 cx wy, Y]) (fun (gz : Nat × List ByteArray × List Int) => MM + 1 - gz.1) (1, ce, ue) ⟨⟨Nat.le_refl _, by dsimp only; omega⟩, hce, hue, hso, hUC1⟩ ⟨rfl, rfl, rfl, rfl, rfl, rfl, rfl, rfl, rfl, trivial⟩ (fun _ hm => hm.pick [0] [0, 1, 2, 3] [0, 1, 2, 3, 4] rfl rfl) ?_
  rintro ⟨u, c5, u5⟩ hinv
  replace hinv : (1 ≤ u ∧ u ≤ MM + 1) ∧ c5.length = nb ∧ u5.length = nb ∧ RwOk c5 u5 ss ∧ UC = fsU (unF cs sl l ss xw left (c, sp, mm)) u MM := hinv
  dsimp only
  refine gw_seq (sr_ ?_)
  obtain ⟨⟨hu1, hu2⟩, hc5, hu5, hs5, hUu⟩ := hinv
  refine mv_ rfl (mv_ rfl (ad_ rfl rfl (fd_ fo268_2 rfl rfl ?_)))
  refine wl_ov (ov_load (v := .int .i64 ((mm : Nat) : Int)) sc3 rfl (fun _ hm => (hm.fact 0 rfl).2) rfl) rfl ?_
  refine wl_ov (ov_min rfl rfl) rfl ?_
  refine wl_ov (ov_leq rfl rfl) rfl (nn_ ?_)
  refine gw_cond rfl (fun hh => ?_) (fun hh => ?_)
  ·have hum : ((u : Nat) : Int) ≤ min (((higW ss c : Nat) : Int) + 1) ((mm : Nat) : Int) := by simpa using hh
   clear hh
   refine gw_skip (nx_then (gw_seq (gw_block (gw_seq (sr_ ?_)))))
   have hum2 : u ≤ MM := by omega
   rw [fsU_at hum2] at hUu
   obtain ⟨TK, hTK⟩ : ∃ z, z = tknW (l.map wnB) ss xw c u := ⟨_, rfl⟩
   refine mv_ rfl (mv_ rfl (fd_ fo268_0 rfl rfl ?_))
   refine wl_ov (ov_load (v := .string c) sc9 rfl (fun _ hm => (hm.fact 0 rfl).2) rfl) rfl ?_
   refine mv_ rfl ?_
   refine wl_callv (v := .bool TK) rfl cb283 rfl rfl (fun wx hm => (by rw [hTK]; have h := taken_any l A nb cb (some ⟨gc, 0, none⟩) nb c5 (some ⟨gu, 0, none⟩) nb u5 _ _ _ _ g i u c ss wx (hm.blkI 0 rfl) (hm.fact 1 rfl).1 (SlT.ofOwn sg_len (hm.ownI 0 rfl) hc5) (SlT.ofOwn i_len (hm.ownI 1 rfl) hu5) hs5 hss hin hn; rw [hbk, ← hxw] at h; exact h)) ?_
   refine nn_ ?_
   refine gw_cond rfl (fun hh => ?_) (fun hh => ?_)
   ·have htk : TK = true := by simpa using hh
    clear hh
    refine gw_exit ?_
    refine nx_then_exit ?_
    refine nx_blk_here ?_
    refine nx_then (gw_region ?_)
    rw [unF_tk (hTK.symm.trans htk)] at hUu
    dsimp only at hUu
    refine mv_ rfl (ad_ rfl rfl (sg_ rfl (wl_nil ?_)))
    exact nx_round (u + 1, c5, u5) ⟨⟨by dsimp only; omega, by dsimp only; omega⟩, hc5, hu5, hs5, hUu⟩ (by dsimp only; omega) ⟨rfl, rfl, rfl, rfl, rfl, (some_int (by omega)), rfl, rfl, rfl, trivial⟩ (fun _ hm => hm.pick [0] [0, 1, 2, 3] [0, 1, 2, 3, 4] rfl rfl)
   have htk : TK = false := by simpa using hh
   clear hh
   refine gw_skip (nx_then (gw_seq ?_))
   rw [unF_go (hTK.symm.trans htk)] at hUu
   obtain ⟨V, hV⟩ : ∃ z, z = unD cs sl l (ss ++ [(c, u)]) (left - sp) := ⟨_, rfl⟩
   dsimp only at hUu
   rw [← hV] at hUu
   obtain ⟨c0, hc0⟩ : ∃ x, c5[i]? = some x := ⟨_, List.getElem?_eq_getElem (by omega)⟩
   obtain ⟨u0, hu0⟩ : ∃ x, u5[i]? = some x := ⟨_, List.getElem?_eq_getElem (by omega)⟩
   have hsn := hs5.snoc (x := c) (u := u) (by omega) (by omega)
   rw [hss] at hsn
   have hmm5 : u ≤ 1000 := by omega
   refine gd (fun wz => Blk wz g 266 [.slice A nb cb, .slice (some ⟨b9, o9, none⟩) nb c9, .slice (some ⟨go, 0, none⟩) nb co, .slice (some ⟨gc, 0, none⟩) nb nb, .slice (some ⟨gu, 0, none⟩) nb nb, .slice (some ⟨gr, 0, none⟩) (nb + 1) (nb + 1), .int .i64 0] ∧ (fun wy => Y wy ∧ Blk wy g1 268 [.string c, .int .i64 ((sp : Nat) : Int), .int .i64 ((mm : Nat) : Int)]) wz ∧ (SlOld bkEnc 6 92 w0.heap.size none A nb l) wz ∧ (fun wy => SlT csnEnc 1 269 wy (some ⟨b9, o9, none⟩) nb cx) wz ∧ (fun wy => Chs 268 cx wy) wz ∧ (Y) wz ∧ True) mixed (fun _ hm => ⟨hm.bl 0, hm.fa 0, hm.fa 1, hm.fa 2, hm.fa 3, hm.fa 4, trivial⟩) fun z => ?_
   refine wt 0 17 1 rfl z (ov_move rfl) ?_
   refine wt 1 17 3 rfl z (ov_nilcheck rfl) ?_
   refine wt 2 17 7 rfl z (ov_field fo266_3 rfl rfl) ?_
   refine wt 3 17 15 rfl z (ov_load sc103 rfl (fun _ hm => hm.1) rfl) ?_
   refine wt 4 17 31 rfl z (ov_move rfl) ?_
   refine wt 5 17 63 rfl z (ov_move rfl) ?_
   refine wt 6 17 127 rfl z (ov_nilcheck rfl) ?_
   refine wt 7 17 255 rfl z (ov_field fo266_4 rfl rfl) ?_
   refine wt 8 17 511 rfl z (ov_load sc22 rfl (fun _ hm => hm.1) rfl) ?_
   refine wt 9 17 1023 rfl z (ov_move rfl) ?_
   refine wt 10 17 2047 rfl z (ov_field fo268_0 rfl rfl) ?_
   refine wt 11 17 4095 rfl z (ov_load (v := .string c) sc9 rfl (fun _ hm => (hm.2.1).2) rfl) ?_
   refine wt 12 17 8191 rfl z (ov_move rfl) ?_
   refine wt 13 17 16383 rfl z (ov_index (j := i) es103 rfl rfl (by omega)) ?_
   refine wa1 14 rfl ?_
   refine wl_storeE (l := c5) (j := i) (r := 0) (el := c0) (el' := c) 0 sc9 rfl rfl rfl rfl sg_len rfl hc0 hc5 (show 0 < 1 by decide) rfl rfl ?_
   refine wl_nil ?_
   refine nw 17 32767 (fun _ hm => ⟨hm.bl 0, hm.fa 0, hm.fa 1, hm.fa 2, hm.fa 3, hm.fa 4, trivial⟩) fun z => ?_
   refine wt 15 17 65535 rfl z (ov_index (j := i) es22 rfl rfl (by omega)) ?_
   refine wa1 16 rfl ?_
   refine wl_storeE (l := u5) (j := i) (r := 0) (el := u0) (el' := ((u : Nat) : Int)) 1 sc3 rfl rfl rfl rfl i_len rfl hu0 hu5 (show 0 < 1 by decide) rfl rfl ?_
   refine wl_nil ?_
   refine nw 17 131071 (fun _ hm => ⟨hm.bl 0, hm.fa 0, hm.fa 1, hm.fa 2, hm.fa 3, hm.fa 4, trivial⟩) fun z => ?_
   refine wa_done (by kernel_rfl) ?_
   refine nx_then (gw_seq (sr_ (mv_ rfl (mv_ rfl (ad_ rfl rfl ?_)))))
   refine wl_set 117 (v' := .int .i64 ((i + 1 : Nat) : Int)) rfl (congrArg (Value.int .i64) (by omega)) ?_
   refine mv_ rfl (fd_ fo268_1 rfl rfl ?_)
   refine wl_ov (ov_load (v := .int .i64 ((sp : Nat) : Int)) sc3 rfl (fun _ hm => (hm.fact 0 rfl).2) rfl) rfl ?_
   refine wl_ov (ov_sub rfl rfl (by omega) (by omega)) rfl ?_
   refine wl_set 121 (v' := .int .i64 ((left - sp : Nat) : Int)) rfl (congrArg (Value.int .i64) (by omega)) ?_
   refine wl_callG (γ := List ByteArray × List Int) (val := fun _ => .bool V.isSome) (φ := fun gg => gg.1.length = nb ∧ gg.2.length = nb ∧ (∀ o, V = some o → RwOk gg.1 gg.2 o) ∧ (V = none → RwOk gg.1 gg.2 (ss ++ [(c, u)]))) (K' := fun _ => fun _ => True) (L' := fun _ => [(g, 266, [.slice A nb cb, .slice (some ⟨b9, o9, none⟩) nb c9, .slice (some ⟨go, 0, none⟩) nb co, .slice (some ⟨gc, 0, none⟩) nb nb, .slice (some ⟨gu, 0, none⟩) nb nb, .slice (some ⟨gr, 0, none⟩) (nb + 1) (nb + 1), .int .i64 0])]) (O' := fun gg => [⟨.slice (some ⟨gc, 0, none⟩) nb nb, 9, 1, nb, (gg.1).flatMap sgEnc⟩, ⟨.slice (some ⟨gu, 0, none⟩) nb nb, 3, 1, nb, (gg.2).flatMap iEnc⟩, ⟨.slice (some ⟨go, 0, none⟩) nb co, 3, 1, nb, (List.range nb).flatMap nEnc⟩, ⟨.slice (some ⟨gr, 0, none⟩) (nb + 1) (nb + 1), 3, 1, nb + 1, re.flatMap iEnc⟩]) (X' := fun _ => [SlOld bkEnc 6 92 w0.heap.size none A nb l, fun wy => SlT csnEnc 1 269 wy (some ⟨b9, o9, none⟩) nb cx, fun wy => Chs 268 cx wy, fun wy => Y wy ∧ Blk wy g1 268 [.string c, .int .i64 ((sp : Nat) : Int), .int .i64 ((mm : Nat) : Int)]]) rfl cb221 rfl rfl (fun wx hm => by
    have h := ih hin (left - sp) (c5.set i c) (u5.set i ((u : Nat) : Int)) (ss ++ [(c, u)]) (fun wy => Y wy ∧ Blk wy g1 268 [.string c, .int .i64 ((sp : Nat) : Int), .int .i64 ((mm : Nat) : Int)]) wx (by rw [List.length_append, hss]; rfl) (by rw [List.length_set]; exact hc5) (by rw [List.length_set]; exact hu5) hsn (fun p hp => by
     rcases List.mem_append.1 hp with hp | hp
     ·exact hsb p hp
     rw [List.mem_singleton.1 hp]; exact hmm5) (by omega) ((hm.pick [0] [0, 1, 2, 3] [1, 2, 3, 0] rfl rfl).cx)
    rw [← hV] at h
    exact h.mono fun _ _ ⟨c7, u7, he, h1, h2, h3, h4, hm2⟩ => ⟨(c7, u7), he, ⟨h1, h2, h3, h4⟩, hm2.cx⟩) ?_
   rintro ⟨c7, u7⟩ ⟨hc7, hu7, hvs, hvn⟩
   dsimp only at hc7 hu7 hvs hvn ⊢
   refine wl_also (Y := Y) (LastsY) (fun wx hm => (hm.fact 3 rfl).1) ?_
   refine nn_ ?_
   refine gw_cond rfl (fun hh => ?_) (fun hh => ?_)
   ·have hvv : V.isSome = true := by simpa using hh
    clear hh
    refine sr_ ?_
    obtain ⟨o, hvo⟩ := Option.isSome_iff_exists.1 hvv
    rw [hvo] at hUu
    dsimp only at hUu
    rw [hUu] at hUj
    dsimp only at hUj
    rw [hUj]
    refine sg_ rfl (nn_ ?_)
    refine gw_ret ?_
    refine nx_then_ret (nx_blk_ret (nx_then_ret (nx_then_ret (nx_blk_ret (nx_blk_ret (nx_then_ret (nx_then_ret (nx_blk_ret (nx_then_ret ?_)))))))))
    refine nx_ret1 rfl rfl fun wx hm => ?_
    exact ⟨c7, u7, rfl, hc7, hu7, (fun o2 h => (by cases h; exact hvs o hvo)), (fun h => (by cases h)), (hm.pick [0] [0, 1, 2, 3] [1, 2, 3, 0] rfl rfl).cx⟩
   have hvv : V.isSome = false := by simpa using hh
   clear hh
   refine gw_skip (nx_then ?_)
   have hvno : V = none := by simpa using hvv
   rw [hvno] at hUu
   dsimp only at hUu
   have hpre := (hvn hvno).pre
   obtain ⟨c8, hc8⟩ : ∃ x, c7[i]? = some x := ⟨_, List.getElem?_eq_getElem (by omega)⟩
   obtain ⟨u8, hu8⟩ : ∃ x, u7[i]? = some x := ⟨_, List.getElem?_eq_getElem (by omega)⟩
   refine gd (fun wz => Blk wz g 266 [.slice A nb cb, .slice (some ⟨b9, o9, none⟩) nb c9, .slice (some ⟨go, 0, none⟩) nb co, .slice (some ⟨gc, 0, none⟩) nb nb, .slice (some ⟨gu, 0, none⟩) nb nb, .slice (some ⟨gr, 0, none⟩) (nb + 1) (nb + 1), .int .i64 0] ∧ (Y) wz ∧ (SlOld bkEnc 6 92 w0.heap.size none A nb l) wz ∧ (fun wy => SlT csnEnc 1 269 wy (some ⟨b9, o9, none⟩) nb cx) wz ∧ (fun wy => Chs 268 cx wy) wz ∧ (fun wy => Y wy ∧ Blk wy g1 268 [.string c, .int .i64 ((sp : Nat) : Int), .int .i64 ((mm : Nat) : Int)]) wz ∧ True) mixed (fun _ hm => ⟨hm.bl 0, hm.fa 0, hm.fa 1, hm.fa 2, hm.fa 3, hm.fa 4, trivial⟩) fun z => ?_
   refine wt 0 14 1 rfl z (ov_move rfl) ?_
   refine wt 1 14 3 rfl z (ov_nilcheck rfl) ?_
   refine wt 2 14 7 rfl z (ov_field fo266_3 rfl rfl) ?_
   refine wt 3 14 15 rfl z (ov_load sc103 rfl (fun _ hm => hm.1) rfl) ?_
   refine wt 4 14 31 rfl z (ov_move rfl) ?_
   refine wt 5 14 63 rfl z (ov_move rfl) ?_
   refine wt 6 14 127 rfl z (ov_nilcheck rfl) ?_
   refine wt 7 14 255 rfl z (ov_field fo266_4 rfl rfl) ?_
   refine wt 8 14 511 rfl z (ov_load sc22 rfl (fun _ hm => hm.1) rfl) ?_
   refine wt 9 14 1023 rfl z (ov_move rfl) ?_
   refine wt 10 14 2047 rfl z (ov_index (j := i) es103 rfl rfl (by omega)) ?_
   refine wa1 11 rfl ?_
   refine wl_storeE (l := c7) (j := i) (r := 0) (el := c8) (el' := ⟨#[]⟩) 0 sc9 rfl rfl rfl rfl sg_len rfl hc8 hc7 (show 0 < 1 by decide) rfl rfl ?_
   refine wl_nil ?_
   refine nw 14 4095 (fun _ hm => ⟨hm.bl 0, hm.fa 0, hm.fa 1, hm.fa 2, hm.fa 3, hm.fa 4, trivial⟩) fun z => ?_
   refine wt 12 14 8191 rfl z (ov_index (j := i) es22 rfl rfl (by omega)) ?_
   refine wa1 13 rfl ?_
   refine wl_storeE (l := u7) (j := i) (r := 0) (el := u8) (el' := 0) 1 sc3 rfl rfl rfl rfl i_len rfl hu8 hu7 (show 0 < 1 by decide) rfl rfl ?_
   refine wl_nil ?_
   refine nw 14 16383 (fun _ hm => ⟨hm.bl 0, hm.fa 0, hm.fa 1, hm.fa 2, hm.fa 3, hm.fa 4, trivial⟩) fun z => ?_
   refine wa_done (by kernel_rfl) ?_
   refine nx_blk_nrm (nx_then (gw_region (mv_ rfl (ad_ rfl rfl (sg_ rfl (wl_nil ?_))))))
   exact nx_round (u + 1, c7.set i ⟨#[]⟩, u7.set i 0) ⟨⟨by dsimp only; omega, by dsimp only; omega⟩, by dsimp only; rw [List.length_set]; exact hc7, by dsimp only; rw [List.length_set]; exact hu7, hpre.set (by omega) _ _, hUu⟩ (by dsimp only; omega) ⟨rfl, rfl, rfl, rfl, rfl, (some_int (by omega)), rfl, rfl, rfl, trivial⟩ (fun _ hm => hm.pick [0] [0, 1, 2, 3] [4, 1, 2, 3, 0] rfl rfl)
  have hum : ¬ (((u : Nat) : Int) ≤ min (((higW ss c : Nat) : Int) + 1) ((mm : Nat) : Int)) := by simpa using hh
  clear hh
  refine gw_exit ?_
  refine nx_then_exit (nx_then_exit ?_)
  refine nx_blk_here ?_
  refine nx_blk_nrm (nx_then (gw_region ?_))
  rw [fsU_end (by omega)] at hUu
  rw [hUu] at hUj
  dsimp only at hUj
  refine ad_ rfl rfl (mv_ rfl (wl_nil ?_))
  exact nx_round (j + 1, c5, u5) ⟨by dsimp only; omega, hc5, hu5, hs5, hUj⟩ (by dsimp only; omega) ⟨rfl, rfl, rfl, rfl, rfl, (some_int (by omega)), trivial⟩ (fun _ hm => hm.pick [0] [0, 1, 2, 3] [1, 2, 3, 4] rfl rfl)
 have hj : ¬ (((j : Nat) : Int) < ((ni : Nat) : Int)) := by simpa using hh
 clear hh
 refine gw_exit ?_
 refine nx_then_exit (nx_then_exit ?_)
 refine nx_blk_here ?_
 refine nx_then (sr_ ?_)
 rw [fs_end (by omega)] at hUj
 rw [hUj]
 refine sg_ rfl (nn_ ?_)
 refine gw_ret ?_
 refine nx_ret1 rfl rfl fun wx hm => ?_
 exact ⟨ce, ue, rfl, hce, hue, (fun o h => (by cases h)), fun _ => hso, (hm.pick [0] [0, 1, 2, 3] [0, 1, 2, 3] rfl rfl).cx⟩
theorem uf_all (w0 : World) (l : List Bk) (A : Option Addr) (nb cb : Nat) (cs : List Cs) (sl : List Sk) (A9 : Option Addr) (c9 : Nat) (cx : List ChS) (Ao : Option Addr) (co : Nat) (re : List Int) (g gc gu gr : Nat) (hn : nb ≤ 1000) (hco : nb ≤ co) (hrl : re.length = nb + 1) (htm : BkTim l) (hcx : cx.map ChS.l = l.map (chB cs sl)) (hstp : ∀ b ∈ l, ∀ q ∈ chB cs sl b, q.2.1 ≤ 1000 ∧ q.2.2 ≤ 1000) (hchl : ∀ b ∈ l, (chB cs sl b).length ≤ 1000) (hrest : ∀ k, restB cs sl l k ≤ 1000000) (hre : ∀ k, k ≤ nb → re[k]? = some ((restB cs sl l k : Nat) : Int)) : ∀ (d i : Nat), i + d = nb → UfSpec w0 l A nb cb cs sl A9 c9 cx Ao co re g gc gu gr i
  | 0, i, h => uf_step w0 l A nb cb cs sl A9 c9 cx Ao co re g gc gu gr i (fun h2 => absurd h2 (by omega)) (by omega) hn hco hrl htm hcx hstp hchl hrest hre
  | d + 1, i, h => uf_step w0 l A nb cb cs sl A9 c9 cx Ao co re g gc gu gr i (fun _ => uf_all w0 l A nb cb cs sl A9 c9 cx Ao co re g gc gu gr hn hco hrl htm hcx hstp hchl hrest hre d (i + 1) (by omega)) (by omega) hn hco hrl htm hcx hstp hchl hrest hre
end Go.Proofs.YtempjmpfdniecaaGreatDoor
