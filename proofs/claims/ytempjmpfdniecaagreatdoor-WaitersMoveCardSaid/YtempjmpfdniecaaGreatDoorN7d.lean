/- Several texts as one: Asv Asw Asx Gl Go Gov Gow Cells Lst Mp Md Ev Yp Gox Goy Goa Asy Goz Fw Fx Fz Gf Gst Lop LopA LopB Win LopC Sq Sn Ix Sr Gg Goq Goe Asz Bea Rn Wn Az Beb Shx Nm Txt Bu Rdr Bec Bed Bee Bef Beg Gob Gcg -/
import Derived.Test.YtempjmpfdniecaaGreatDoorN7c
import Derived.Test.YtempjmpfdniecaaGreatDoorN7b
import Derived.Test.YtempjmpfdniecaaGreatDoorN7a
import Derived.Deep.LoopGhost
import Derived.Deep.DeepCutAuto
import Derived.Maps.Own
import Derived.MapKept
import Derived.StillTailTactics
import Derived.Laws.Concat
import Derived.Lib.AppendZeros
import Derived.Test.YtempjmpfdniecaaGreatDoorProg
import Derived.Ground.NamesProg
import Derived.Shelf.Strings.Cut
import Derived.Shelf.Strings.Split
import Derived.Shelf.Strings.Prefix
import Derived.Shelf.Strings.OnBuilder
import Derived.Shelf.Strings.Builder1
import Derived.Shelf.Strconv.Itoa3
import Derived.Shelf.Strconv.AtoiAll
import Derived.Shelf.Strconv.ErrVarAll
import Derived.Lib.ItoaNum
import Derived.Lib.AtoiAll
import Derived.Lib.Strings
import Derived.OneCell
set_option maxRecDepth 100000
set_option maxHeartbeats 4000000
namespace Go.Proofs.YtempjmpfdniecaaGreatDoor
section
variable {α : Type} [DecidableEq α]
/-- The vehicles of a class that are given are the first ones. -/
def CanU (st : List (α × Nat)) : Prop := ∀ c u, (c, u) ∈ st ↔ 1 ≤ u ∧ u ≤ higW st c
theorem canU_nil : CanU ([] : List (α × Nat)) := fun c u => by
  constructor
  · intro h; cases h
  · rintro ⟨h1, h2⟩
    have h3 : u ≤ 0 := h2
    omega
theorem canU_snoc {st : List (α × Nat)} (h : CanU st) {c : α} {u : Nat} (h1 : 1 ≤ u) (h2 : u ≤ higW st c + 1) : CanU (st ++ [(c, u)]) := fun c' u' => by
  rw [List.mem_append, List.mem_singleton, hig_snoc, h c' u']
  by_cases hc : c = c'
  · subst hc
    rw [if_pos rfl]
    constructor
    · rintro (h3 | h3)
      · omega
      · injection h3 with _ h4
        omega
    · rintro ⟨h3, h4⟩
      by_cases h5 : u' ≤ higW st c
      · exact .inl ⟨h3, h5⟩
      · exact .inr (by rw [show u' = u by omega])
  · rw [if_neg hc]
    constructor
    · rintro (h3 | h3)
      · exact h3
      · injection h3 with h4 _
        exact absurd h4.symm hc
    · exact fun h3 => .inl h3
/-- The document goes through what is free; of a class one vehicle that nobody has. -/
def docS {β : Type} (st : List (α × Nat)) (left : Nat) (g : α × Nat × Nat → Option β) : List (α × Nat × Nat) → List α → Option β
  | [], _ => none
  | k :: r, fr => if left < k.2.1 ∨ ((k.1, k.2.2) ∉ st ∧ k.1 ∈ fr) then docS st left g r fr else
    match g k with
    | some o => some o
    | none => docS st left g r (if (k.1, k.2.2) ∈ st then fr else k.1 :: fr)
def docN (ws : List Wn) (st : List (α × Nat)) (x : Wn) (cs : List (CdW α)) : List (α × Nat × Nat) := cs.flatMap fun k => ((List.range' 1 k.2.2).filter fun u => !tknW ws st x k.1 u).map fun u => (k.1, k.2.1, u)
theorem docS_fr {β : Type} {st : List (α × Nat)} {left : Nat} {g : α × Nat × Nat → Option β} : ∀ (b : List (α × Nat × Nat)) (fr fr' : List α), (∀ k ∈ b, (k.1 ∈ fr ↔ k.1 ∈ fr')) → docS st left g b fr = docS st left g b fr'
  | [], _, _, _ => rfl
  | k :: r, fr, fr', h => by
    have hk := h k (List.mem_cons_self ..)
    have hr : ∀ q ∈ r, (q.1 ∈ fr ↔ q.1 ∈ fr') := fun q hq => h q (List.mem_cons_of_mem _ hq)
    unfold docS
    by_cases hc : left < k.2.1 ∨ ((k.1, k.2.2) ∉ st ∧ k.1 ∈ fr)
    · rw [if_pos hc, if_pos (show left < k.2.1 ∨ ((k.1, k.2.2) ∉ st ∧ k.1 ∈ fr') by rw [← hk]; exact hc), docS_fr r fr fr' hr]
    · rw [if_neg hc, if_neg (show ¬ (left < k.2.1 ∨ ((k.1, k.2.2) ∉ st ∧ k.1 ∈ fr')) by rw [← hk]; exact hc)]
      cases g k with
      | some o => rfl
      | none =>
        dsimp only
        split
        · exact docS_fr r fr fr' hr
        · refine docS_fr r _ _ fun q hq => ?_
          rw [List.mem_cons, List.mem_cons, hr q hq]
/-- Those that somebody has are all tried. -/
theorem docS_used {β : Type} {st : List (α × Nat)} {left : Nat} {g : α × Nat × Nat → Option β} : ∀ (a b : List (α × Nat × Nat)) (fr : List α), (∀ k ∈ a, (k.1, k.2.2) ∈ st) → docS st left g (a ++ b) fr = (a.findSome? fun k => if left < k.2.1 then none else g k).or (docS st left g b fr)
  | [], _, _, _ => rfl
  | k :: a, b, fr, h => by
    have hk := h k (List.mem_cons_self ..)
    have ih := docS_used (left := left) (g := g) a b fr fun q hq => h q (List.mem_cons_of_mem _ hq)
    rw [List.cons_append, List.findSome?_cons]
    conv => lhs; unfold docS
    by_cases hl : left < k.2.1
    · rw [if_pos (.inl hl), if_pos hl, ih]
    · rw [if_neg (by rintro (h1 | h1); exact hl h1; exact h1.1 hk), if_neg hl]
      cases g k with
      | some o => rfl
      | none =>
        dsimp only
        rw [if_pos hk, ih]
/-- Of those of one class that nobody has the others are passed over. -/
theorem docS_skip {β : Type} {st : List (α × Nat)} {left : Nat} {g : α × Nat × Nat → Option β} {c : α} {s : Nat} : ∀ (a b : List (α × Nat × Nat)) (fr : List α), (∀ k ∈ a, (k.1, k.2.2) ∉ st ∧ k.1 = c ∧ k.2.1 = s) → (left < s ∨ c ∈ fr) → docS st left g (a ++ b) fr = docS st left g b fr
  | [], _, _, _, _ => rfl
  | k :: a, b, fr, h, hc => by
    obtain ⟨h1, h2, h3⟩ := h k (List.mem_cons_self ..)
    rw [List.cons_append]
    conv => lhs; unfold docS
    rw [if_pos (by rcases hc with hc | hc; exact .inl (by rw [h3]; exact hc); exact .inr ⟨h1, by rw [h2]; exact hc⟩)]
    exact docS_skip a b fr (fun q hq => h q (List.mem_cons_of_mem _ hq)) hc
theorem docS_new {β : Type} {st : List (α × Nat)} {left : Nat} {g : α × Nat × Nat → Option β} {c : α} {s : Nat} (a b : List (α × Nat × Nat)) (fr : List α) (h : ∀ k ∈ a, (k.1, k.2.2) ∉ st ∧ k.1 = c ∧ k.2.1 = s) (hc : c ∉ fr) (hb : ∀ k ∈ b, k.1 ≠ c) : docS st left g (a ++ b) fr = ((a.take 1).findSome? fun k => if left < k.2.1 then none else g k).or (docS st left g b fr) := by
  by_cases hl : left < s
  · rw [docS_skip a b fr h (.inl hl)]
    have e : ((a.take 1).findSome? fun k => if left < k.2.1 then none else g k) = none := fs_none fun k hk => by
      rw [(h k (List.mem_of_mem_take hk)).2.2, if_pos hl]
    rw [e]; rfl
  · cases a with
    | nil => rfl
    | cons k a =>
      obtain ⟨h1, h2, h3⟩ := h k (List.mem_cons_self ..)
      rw [List.cons_append]
      conv => lhs; unfold docS
      rw [if_neg (by rintro (h4 | h4); exact hl (by rw [← h3]; exact h4); exact hc (by rw [← h2]; exact h4.2)), List.take_succ_cons, List.take_zero, List.findSome?_cons, if_neg (show ¬ left < k.2.1 from by rw [h3]; exact hl)]
      cases g k with
      | some o => rfl
      | none =>
        dsimp only
        rw [if_neg h1, docS_skip a b _ (fun q hq => h q (List.mem_cons_of_mem _ hq)) (.inr (by rw [h2]; exact List.mem_cons_self ..))]
        refine docS_fr b _ _ fun q hq => ?_
        rw [List.mem_cons, h2]
        constructor
        · rintro (h5 | h5)
          · exact absurd h5 (hb q hq)
          · exact h5
        · exact fun h5 => .inr h5
theorem take1_filter {a h : Nat} {p : Nat → Bool} (ha : p a = true) : ((List.range' a (h + 1)).filter p).take 1 = [a] := by
  rw [List.range'_succ, List.filter_cons_of_pos ha, List.take_succ_cons, List.take_zero]
/-- The document's search goes through the same vehicles. -/
theorem doc_same {β : Type} {ws : List Wn} {st : List (α × Nat)} {x : Wn} {left : Nat} {g : α × Nat × Nat → Option β} (hu : CanU st) (ht : ∀ c u, tknW ws st x c u = true → (c, u) ∈ st) : ∀ (cs : List (CdW α)) (fr : List α), (cs.map fun k => k.1).Nodup → (∀ k ∈ cs, k.1 ∉ fr) → docS st left g (docN ws st x cs) fr = (nxtW ws st x cs).findSome? fun k => if left < k.2.1 then none else g k
  | [], _, _, _ => rfl
  | k :: cs, fr, hn, hf => by
    rw [List.map_cons, List.nodup_cons] at hn
    have ih := doc_same (left := left) (g := g) hu ht cs fr hn.2 fun q hq => hf q (List.mem_cons_of_mem _ hq)
    have hb : ∀ q ∈ docN ws st x cs, q.1 ≠ k.1 := fun q hq e => by
      unfold docN at hq
      rw [List.mem_flatMap] at hq
      obtain ⟨k', k1, k2⟩ := hq
      obtain ⟨u, _, rfl⟩ := List.mem_map.1 k2
      exact hn.1 (by rw [← e]; exact List.mem_map.2 ⟨k', k1, rfl⟩)
    have e1 : docN ws st x (k :: cs) = ((List.range' 1 k.2.2).filter fun u => !tknW ws st x k.1 u).map (fun u => (k.1, k.2.1, u)) ++ docN ws st x cs := by unfold docN; rw [List.flatMap_cons]
    have e2 : nxtW ws st x (k :: cs) = ((List.range' 1 (min (higW st k.1 + 1) k.2.2)).filter fun u => !tknW ws st x k.1 u).map (fun u => (k.1, k.2.1, u)) ++ nxtW ws st x cs := by unfold nxtW; rw [List.flatMap_cons]
    rw [e1, e2, List.findSome?_append, ← ih]
    have hused : ∀ n, n ≤ higW st k.1 → ∀ q ∈ ((List.range' 1 n).filter fun u => !tknW ws st x k.1 u).map (fun u => (k.1, k.2.1, u)), (q.1, q.2.2) ∈ st := fun n hn2 q hq => by
      obtain ⟨u, h1, rfl⟩ := List.mem_map.1 hq
      have h2 := List.mem_range'_1.1 (List.mem_filter.1 h1).1
      exact (hu k.1 u).2 (by omega)
    by_cases hm : k.2.2 ≤ higW st k.1
    · rw [Nat.min_eq_right (by omega), docS_used _ _ _ (hused _ hm)]
    · obtain ⟨d, hd⟩ : ∃ d, k.2.2 = higW st k.1 + (d + 1) := ⟨k.2.2 - higW st k.1 - 1, by omega⟩
      have hfree : (!tknW ws st x k.1 (1 + higW st k.1)) = true := by
        cases h5 : tknW ws st x k.1 (1 + higW st k.1) with
        | false => rfl
        | true =>
          have := (hu k.1 _).1 (ht _ _ h5)
          omega
      rw [Nat.min_eq_left (by omega), hd, show List.range' 1 (higW st k.1 + (d + 1)) = List.range' 1 (higW st k.1) ++ List.range' (1 + higW st k.1) (d + 1) from (List.range'_append_1 ..).symm, show List.range' 1 (higW st k.1 + 1) = List.range' 1 (higW st k.1) ++ List.range' (1 + higW st k.1) 1 from (List.range'_append_1 ..).symm, List.filter_append, List.filter_append, List.map_append, List.map_append, List.append_assoc, docS_used _ _ _ (hused _ (Nat.le_refl _)), List.findSome?_append]
      rw [docS_new _ _ _ (fun q hq => by
        obtain ⟨u, h1, rfl⟩ := List.mem_map.1 hq
        have h2 := List.mem_range'_1.1 (List.mem_filter.1 h1).1
        refine ⟨fun h3 => ?_, rfl, rfl⟩
        have := (hu k.1 u).1 h3
        omega) (hf k (List.mem_cons_self ..)) hb]
      rw [← List.map_take, take1_filter hfree]
      have e3 : (List.range' (1 + higW st k.1) 1).filter (fun u => !tknW ws st x k.1 u) = [1 + higW st k.1] := by
        exact List.filter_cons_of_pos (p := fun u => !tknW ws st x k.1 u) (l := []) hfree
      rw [e3, Option.or_assoc]
end
end Go.Proofs.YtempjmpfdniecaaGreatDoor
namespace Go.Proofs.YtempjmpfdniecaaGreatDoor
open Go.RowKit
section
variable {α : Type} [DecidableEq α]
theorem allT_iff' {cap : α → Nat} : ∀ (items : List (ItW α)) (pl : List (α × Wn)) (t : Nat), (∀ it ∈ items, ∀ k ∈ it.2, k.2.2 = cap k.1) → (∀ it ∈ items, it.1.1 < it.1.2) → CapC cap pl → (t ∈ allT roomF items pl ↔ DivE cap pl items t)
  | [], pl, t, _, _, hp => by
    unfold allT DivE
    rw [List.mem_singleton]
    constructor
    · rintro rfl
      exact ⟨[], rfl, (fun p hp => by cases hp), rfl, by rw [List.map_nil, List.append_nil]; exact hp⟩
    · rintro ⟨K, h1, _, h3, _⟩
      rw [List.map_eq_nil_iff] at h1
      subst h1
      exact h3
  | it :: r, pl, t, hk, hw, hp => by
    have hF : ∀ k ∈ it.2, (roomF pl it.1 k = true ↔ CapC cap (pl ++ [(k.1, it.1)])) := fun k k1 => roomF_iff pl it.1 k (hw it (List.mem_cons_self ..)) (hk it (List.mem_cons_self ..) k k1) hp
    unfold allT
    rw [List.mem_flatMap]
    constructor
    · rintro ⟨k, k1, k2⟩
      split at k2
      · rename_i hf
        obtain ⟨t', t1, rfl⟩ := List.mem_map.1 k2
        have hc := (hF k k1).1 hf
        obtain ⟨K, h1, h2, h3, h4⟩ := (allT_iff' r _ t' (fun i hi => hk i (List.mem_cons_of_mem _ hi)) (fun i hi => hw i (List.mem_cons_of_mem _ hi)) hc).1 t1
        refine ⟨(it, k) :: K, by rw [List.map_cons, h1], fun p hp => ?_, by rw [List.map_cons, List.sum_cons, h3], ?_⟩
        · rcases List.mem_cons.1 hp with rfl | hp
          · exact k1
          · exact h2 p hp
        · rw [List.append_assoc] at h4; exact h4
      · cases k2
    · rintro ⟨K, h1, h2, h3, h4⟩
      cases K with
      | nil => cases h1
      | cons p K =>
        rw [List.map_cons] at h1
        injection h1 with h5 h6
        have k1 : p.2 ∈ it.2 := by rw [← h5]; exact h2 p (List.mem_cons_self ..)
        have e : pl ++ (p :: K).map plW2 = (pl ++ [(p.2.1, it.1)]) ++ K.map plW2 := by rw [← h5]; simp [plW2]
        rw [e] at h4
        have hc := cap_mono h4
        refine ⟨p.2, k1, ?_⟩
        rw [if_pos ((hF p.2 k1).2 hc)]
        refine List.mem_map.2 ⟨(K.map fun p => p.2.2.1).sum, (allT_iff' r _ _ (fun i hi => hk i (List.mem_cons_of_mem _ hi)) (fun i hi => hw i (List.mem_cons_of_mem _ hi)) hc).2 ⟨K, h6, fun q hq => h2 q (List.mem_cons_of_mem _ hq), rfl, h4⟩, ?_⟩
        rw [h3, List.map_cons, List.sum_cons]
/-- The document's search. -/
def docF (ws : List Wn) : List (List (CdW α)) → List (α × Nat) → Nat → Option (List (α × Nat))
  | [], st, left => if left = 0 then some st else none
  | cs :: r, st, left => docS st left (fun k => docF ws r (st ++ [(k.1, k.2.2)]) (left - k.2.1)) (docN ws st (ws.getD st.length (0, 0)) cs) []
theorem tkn_mem {ws : List Wn} {st : List (α × Nat)} {x : Wn} {c : α} {u : Nat} (h : tknW ws st x c u = true) : (c, u) ∈ st := by
  unfold tknW at h
  obtain ⟨p, hp, h2⟩ := List.any_eq_true.1 h
  rw [Bool.and_eq_true, decide_eq_true_eq] at h2
  rw [← h2.1]
  exact (List.of_mem_zip hp).1
theorem nxt_can {ws : List Wn} {st : List (α × Nat)} {x : Wn} {cs : List (CdW α)} (hu : CanU st) {k : α × Nat × Nat} (h : k ∈ nxtW ws st x cs) : CanU (st ++ [(k.1, k.2.2)]) := by
  unfold nxtW at h
  rw [List.mem_flatMap] at h
  obtain ⟨k', _, k2⟩ := h
  obtain ⟨u, h1, rfl⟩ := List.mem_map.1 k2
  have h2 := List.mem_range'_1.1 (List.mem_filter.1 h1).1
  exact canU_snoc hu h2.1 (by dsimp only; omega)
theorem docF_fill {ws : List Wn} : ∀ (css : List (List (CdW α))) (st : List (α × Nat)) (left : Nat), CanU st → (∀ cs ∈ css, (cs.map fun k => k.1).Nodup) → docF ws css st left = fillW ws css st left
  | [], _, _, _, _ => rfl
  | cs :: r, st, left, hu, hn => by
    unfold docF fillW
    rw [doc_same hu (fun c u h => tkn_mem h) cs [] (hn cs (List.mem_cons_self ..)) (fun k _ h => by cases h)]
    refine fs_congr fun k hk => ?_
    rw [docF_fill r _ _ (nxt_can hu hk) fun c hc => hn c (List.mem_cons_of_mem _ hc)]
/-- The search for vehicles, for bookings whose classes have as many as cap says. -/
def okC (cap : α → Nat) (xs : List Wn) (css : List (List (CdW α))) : Prop := xs.length = css.length ∧ (∀ x ∈ xs, x.1 < x.2) ∧ (∀ cs ∈ css, ∀ k ∈ cs, k.2.2 = cap k.1) ∧ (∀ cs ∈ css, ∀ k ∈ cs, headW cs ≤ k.2.1) ∧ ∀ cs ∈ css, (cs.map fun k => k.1).Nodup
/-- The search for vehicles with as few steps as can be: the program's, over a list that may be out of bounds behind its end. -/
theorem units_go {cap : α → Nat} {xs : List Wn} (hw : ∀ x ∈ xs, x.1 < x.2) : ∀ (css : List (List (CdW α))) (P : List ((α × Wn) × Nat)) (ys : List Wn) (left : Nat), PropW cap P → xs = P.map wnW ++ ys → ys.length = css.length → (∀ cs ∈ css, ∀ k ∈ cs, k.2.2 = cap k.1) → (∀ cs ∈ css, ∀ k ∈ cs, headW cs ≤ k.2.1) → unitsW xs (roomU xs) css (P.map cuW) left = ((solsW xs css (P.map cuW)).find? fun o => decide (o.2 ≤ left)).map Prod.fst
  | [], P, _, left, _, _, _, _, _ => by
    unfold unitsW solsW
    simp
  | cs :: r, P, ys, left, hP, hx, hl, hk, hh => by
    cases ys with
    | nil => cases hl
    | cons y ys =>
      have hy : xs.getD (P.map cuW).length (0, 0) = y := by
        rw [hx, List.getD_eq_getElem?_getD, List.length_map, List.getElem?_append_right (by simp)]
        simp
      have hyw : y.1 < y.2 := hw y (by rw [hx]; simp)
      unfold unitsW
      rw [hy]
      by_cases hl2 : left < restW (cs :: r)
      · rw [if_pos hl2]
        have e : ((solsW xs (cs :: r) (P.map cuW)).find? fun o => decide (o.2 ≤ left)) = none := List.find?_eq_none.2 fun o ho => by
          have := sols_ge (cs :: r) _ hh o ho
          simp; omega
        rw [e]; rfl
      · rw [if_neg hl2]
        unfold solsW
        rw [hy, List.find?_flatMap, List.map_findSome?]
        unfold nxtW
        rw [fs_flat]
        refine fs_congr fun k hkm => ?_
        have hkc := hk cs (List.mem_cons_self ..) k hkm
        rw [fs_filter]
        by_cases h1 : left < k.2.1 + restW r
        · rw [if_pos h1]
          refine (fs_none fun u hu => ?_).symm
          split
          · simp only [Function.comp]
            rw [List.find?_map]
            have e : (solsW xs r (P.map cuW ++ [(k.1, u)])).find? ((fun o : List (α × Nat) × Nat => decide (o.2 ≤ left)) ∘ fun o => (o.1, k.2.1 + o.2)) = none := List.find?_eq_none.2 fun o ho => by
              have := sols_ge r _ (fun cs hcs => hh cs (List.mem_cons_of_mem _ hcs)) o ho
              simp; omega
            rw [e]; rfl
          · rfl
        · rw [if_neg h1]
          by_cases h2 : roomU xs (P.map cuW) y k = false
          · rw [if_pos h2]
            refine (fs_none fun u hu => ?_).symm
            rw [List.mem_range'_1] at hu
            rw [roomU_no ⟨P, hP, rfl, y :: ys, hx⟩ hyw hkc h2 u hu.1 (by omega), if_neg (by decide)]
          · rw [if_neg h2]
            refine fs_congr fun u hu => ?_
            rw [List.mem_range'_1] at hu
            cases ht : tknW xs (P.map cuW) y k.1 u with
            | true => rfl
            | false =>
              rw [if_neg (by decide), if_pos (by rfl)]
              simp only [Function.comp]
              have hP2 : PropW cap (P ++ [((k.1, y), u)]) := by
                refine ⟨fun p hp => ?_, ?_⟩
                · rcases List.mem_append.1 hp with hp | hp
                  · exact hP.1 p hp
                  · rw [List.mem_singleton.1 hp]
                    dsimp only
                    omega
                · rw [List.pairwise_append]
                  refine ⟨hP.2, List.pairwise_singleton _ _, fun p hp q hq => ?_⟩
                  rw [List.mem_singleton.1 hq]
                  intro e1 e2 e3
                  dsimp only at e1 e2 e3
                  have k7 : tknW xs (P.map cuW) y k.1 u = true := by
                    rw [hx]
                    unfold tknW
                    rw [zip_map, List.any_map, List.any_eq_true]
                    refine ⟨p, hp, ?_⟩
                    simp only [Function.comp, Bool.and_eq_true, decide_eq_true_eq]
                    refine ⟨?_, e2⟩
                    unfold cuW
                    rw [e1, e3]
                  rw [k7] at ht
                  cases ht
              have hcu : (P ++ [((k.1, y), u)]).map cuW = P.map cuW ++ [(k.1, u)] := by simp [cuW]
              have ih := units_go hw r (P ++ [((k.1, y), u)]) ys (left - k.2.1) hP2 (by rw [hx]; simp [wnW]) (by simpa using hl) (fun c hc => hk c (List.mem_cons_of_mem _ hc)) (fun c hc => hh c (List.mem_cons_of_mem _ hc))
              rw [hcu] at ih
              rw [List.find?_map, ih]
              have e : (fun o : List (α × Nat) × Nat => decide (o.2 ≤ left)) ∘ (fun o : List (α × Nat) × Nat => (o.1, k.2.1 + o.2)) = fun o : List (α × Nat) × Nat => decide (o.2 ≤ left - k.2.1) := by
                funext o
                simp only [Function.comp, decide_eq_decide]
                omega
              rw [e, Option.map_map]; rfl
/-- The program's least over any order of the bookings, its vehicles, and the document's answer. -/
theorem assign_same {cap : α → Nat} {xs : List Wn} {css : List (List (CdW α))} (h : okC cap xs css) {items : List (ItW α)} (hp : items.Perm (xs.zip css)) :
    (bbW roomF items [] 0 none = none ∧ ∀ n, docF xs css [] n = none) ∨ ∃ n o, bbW roomF items [] 0 none = some n ∧ (∀ m, m < n → docF xs css [] m = none) ∧ docF xs css [] n = some o ∧ unitsW xs (roomU xs) css [] n = some o ∧ (o, n) ∈ solsW xs css [] := by
  obtain ⟨hl, hw, hk, hh, hn⟩ := h
  have hin : ∀ it ∈ items, it.2 ∈ css ∧ it.1 ∈ xs := fun it hi => by
    have := List.of_mem_zip (hp.mem_iff.1 hi)
    exact ⟨this.2, this.1⟩
  have hdoc : ∀ m, docF xs css [] m = ((solsW xs css []).find? fun o => decide (o.2 = m)).map Prod.fst := fun m => by
    rw [docF_fill css [] m canU_nil hn, fill_find]
  have hall : ∀ t, t ∈ allT roomF items [] ↔ ∃ o, (o, t) ∈ solsW xs css [] := fun t => by
    rw [sols_div hl hw hk]
    have hF := allT_iff' (cap := cap) items [] t (fun it hi => hk _ (hin it hi).1) (fun it hi => hw _ (hin it hi).2) (fun c t => Nat.zero_le _)
    rw [hF]
    exact ⟨div_perm hp, div_perm hp.symm⟩
  have hb := bb_min (F := roomF) items [] 0 none fun it hi => hh _ (hin it hi).1
  have hz : ((allT roomF items ([] : List (α × Wn))).map fun t => 0 + t) = allT roomF items [] := by
    conv => rhs; rw [← List.map_id (allT roomF items [])]
    exact List.map_congr_left fun t _ => Nat.zero_add t
  rw [hz] at hb
  rcases minO_none (allT roomF items []) with ⟨h1, h2⟩ | ⟨n, h1, h2, h3⟩
  · refine .inl ⟨hb.trans h2, fun m => ?_⟩
    rw [hdoc, List.find?_eq_none.2 fun o ho => ?_]; rfl
    have := (hall o.2).2 ⟨o.1, ho⟩
    rw [h1] at this
    cases this
  · obtain ⟨o1, ho1⟩ := (hall n).1 h2
    have hmin : ∀ o ∈ solsW xs css [], n ≤ o.2 := fun o ho => h3 o.2 ((hall o.2).2 ⟨o.1, ho⟩)
    obtain ⟨o, ho⟩ : ∃ o, ((solsW xs css []).find? fun o => decide (o.2 = n)) = some o := by
      cases hf : (solsW xs css []).find? fun o => decide (o.2 = n) with
      | some o => exact ⟨o, rfl⟩
      | none => exact absurd (List.find?_eq_none.1 hf (o1, n) ho1) (by simp)
    have ho2 : o.2 = n := by simpa using List.find?_some ho
    refine .inr ⟨n, o.1, hb.trans h1, fun m hm => ?_, ?_, ?_, ?_⟩
    · rw [hdoc, List.find?_eq_none.2 fun o ho => ?_]; rfl
      have := hmin o ho
      simp; omega
    · rw [hdoc, ho]; rfl
    · have h5 := units_go (cap := cap) hw css [] xs n ⟨(fun p hp => by cases hp), List.Pairwise.nil⟩ rfl hl hk hh
      rw [List.map_nil, find_least hmin, ho] at h5
      exact h5
    · rw [← ho2]
      exact List.mem_of_find?_eq_some ho
end
end Go.Proofs.YtempjmpfdniecaaGreatDoor
namespace Go.Proofs.YtempjmpfdniecaaGreatDoor
section
variable {α : Type} [DecidableEq α]
/-- The classes of a way, with their steps (from i on) and numbers. -/
def wayC (many : α → Nat) : Nat → List α → List (CdW α)
  | _, [] => []
  | i, c :: r => (c, i, many c) :: wayC many (i + 1) r
/-- Those with vehicles. -/
def chC (many : α → Nat) (ks : List α) : List (CdW α) := (wayC many 0 ks).filter fun k => decide (0 < k.2.2)
omit [DecidableEq α] in
theorem way_mem {many : α → Nat} : ∀ (ks : List α) (i : Nat) (k : CdW α), k ∈ wayC many i ks → i ≤ k.2.1 ∧ k.2.1 < i + ks.length ∧ k.2.2 = many k.1
  | [], _, _, h => by cases h
  | c :: r, i, k, h => by
    unfold wayC at h
    rcases List.mem_cons.1 h with rfl | h
    · exact ⟨Nat.le_refl _, by simp, rfl⟩
    · have := way_mem r (i + 1) k h
      rw [List.length_cons]
      omega
omit [DecidableEq α] in
theorem way_keys {many : α → Nat} : ∀ (ks : List α) (i : Nat), (wayC many i ks).map (fun k => k.1) = ks
  | [], _ => rfl
  | c :: r, i => by rw [wayC, List.map_cons, way_keys r]
omit [DecidableEq α] in
theorem way_head {many : α → Nat} : ∀ (ks : List α) (i : Nat), ∀ k ∈ (wayC many i ks).filter (fun k => decide (0 < k.2.2)), headW ((wayC many i ks).filter fun k => decide (0 < k.2.2)) ≤ k.2.1
  | [], _, _, h => by cases h
  | c :: r, i, k, h => by
    unfold wayC at h ⊢
    by_cases h0 : 0 < many c
    · rw [List.filter_cons_of_pos (by simpa using h0)] at h ⊢
      show i ≤ k.2.1
      rcases List.mem_cons.1 h with rfl | h
      · exact Nat.le_refl _
      · have := way_mem r (i + 1) k (List.mem_filter.1 h).1
        omega
    · rw [List.filter_cons_of_neg (by simpa using h0)] at h ⊢
      exact way_head r (i + 1) k h
omit [DecidableEq α] in
theorem ch_ok {many : α → Nat} {ks : List α} (hn : ks.Nodup) : (∀ k ∈ chC many ks, k.2.2 = many k.1) ∧ (∀ k ∈ chC many ks, headW (chC many ks) ≤ k.2.1) ∧ ((chC many ks).map fun k => k.1).Nodup ∧ ∀ k ∈ chC many ks, k.2.1 < ks.length :=
  ⟨fun k hk => (way_mem ks 0 k (List.mem_filter.1 hk).1).2.2, way_head ks 0, by
    have h : ((chC many ks).map fun k => k.1).Sublist ((wayC many 0 ks).map fun k => k.1) := List.Sublist.map _ List.filter_sublist
    rw [way_keys] at h
    exact h.nodup hn, fun k hk => by
    have := (way_mem ks 0 k (List.mem_filter.1 hk).1).2.1
    omega⟩
/-- Classes without vehicles do not matter to the document's search. -/
theorem docN_filter {ws : List Wn} {st : List (α × Nat)} {x : Wn} : ∀ (cs : List (CdW α)), docN ws st x (cs.filter fun k => decide (0 < k.2.2)) = docN ws st x cs
  | [] => rfl
  | k :: cs => by
    have ih := docN_filter (ws := ws) (st := st) (x := x) cs
    by_cases h : 0 < k.2.2
    · rw [List.filter_cons_of_pos (by simpa using h)]
      unfold docN at ih ⊢
      rw [List.flatMap_cons, List.flatMap_cons, ih]
    · rw [List.filter_cons_of_neg (by simpa using h), ih]
      have h0 : k.2.2 = 0 := by omega
      unfold docN
      rw [List.flatMap_cons, h0]; rfl
/-- The steps of an end are bounded. -/
theorem sols_le {ws : List Wn} {M : Nat} : ∀ (css : List (List (CdW α))) (st : List (α × Nat)), (∀ cs ∈ css, ∀ k ∈ cs, k.2.1 ≤ M) → ∀ o ∈ solsW ws css st, o.2 ≤ css.length * M
  | [], st, _, o, h => by
    unfold solsW at h
    rw [List.mem_singleton.1 h]
    exact Nat.zero_le _
  | cs :: r, st, hh, o, h => by
    unfold solsW at h
    rw [List.mem_flatMap] at h
    obtain ⟨k, h1, h2⟩ := h
    obtain ⟨o', h3, rfl⟩ := List.mem_map.1 h2
    unfold nxtW at h1
    rw [List.mem_flatMap] at h1
    obtain ⟨k', k1, k2⟩ := h1
    obtain ⟨u, _, rfl⟩ := List.mem_map.1 k2
    have i1 := hh cs (List.mem_cons_self ..) k' k1
    have i2 := sols_le r _ (fun cs hcs => hh cs (List.mem_cons_of_mem _ hcs)) o' h3
    show k'.2.1 + o'.2 ≤ (r.length + 1) * M
    rw [Nat.add_mul]
    omega
end
end Go.Proofs.YtempjmpfdniecaaGreatDoor
namespace Go.Proofs.YtempjmpfdniecaaGreatDoor
open Go.RowKit
theorem SlOld.again {α : Type} {enc : α → List Value} {k : Nat} {T : TypeId} {N : Nat} {row : Option Nat} {A : Option Addr} {n : Nat} {l : List α} {w : World} (h : SlOld enc k T N row A n l w) : SlOld enc k T w.heap.size row A n l w := ⟨h.1, fun b off e hn => by
  obtain ⟨b2, off2, cells, fz, e2, hh, _⟩ := h.1.at_ hn
  rw [e] at e2; cases e2
  exact ⟨(Array.getElem?_eq_some_iff.1 hh).1, (h.2 b off e hn).2⟩⟩
theorem BlkOld.again2 {N g br : Nat} {T : TypeId} {cs : List Value} {w : World} (h : BlkOld N (some br) g T cs w) : BlkOld w.heap.size (some br) g T cs w := ⟨⟨h.2.lt, h.1.2⟩, h.2⟩
theorem iE_len (x : Int) : (iEnc x).length = 1 := rfl
end Go.Proofs.YtempjmpfdniecaaGreatDoor
namespace Go.Proofs.YtempjmpfdniecaaGreatDoor
section
variable {α β : Type}
theorem sink_map {lt : α → α → Bool} {lt' : β → β → Bool} {f : α → β} (hf : ∀ x y, lt' (f x) (f y) = lt x y) : ∀ (j : Nat) (l : List α), sink lt' j (l.map f) = (sink lt j l).map f
  | 0, l => by simp [sink]
  | j + 1, l => by
    have ih := fun m => sink_map (lt := lt) (lt' := lt') hf j m
    cases hx : l[j + 1]? with
    | none =>
      unfold sink
      simp [List.getElem?_map, hx]
    | some x =>
      cases hy : l[j]? with
      | none =>
        unfold sink
        simp [List.getElem?_map, hx, hy]
      | some y =>
        have hx' : (l.map f)[j + 1]? = some (f x) := by rw [List.getElem?_map, hx]; rfl
        have hy' : (l.map f)[j]? = some (f y) := by rw [List.getElem?_map, hy]; rfl
        cases h : lt x y with
        | true =>
          rw [sink_yes hx hy h, sink_yes hx' hy' (by rw [hf]; exact h), ← ih, List.map_set, List.map_set]
        | false =>
          rw [sink_no hx hy h, sink_no hx' hy' (by rw [hf]; exact h)]
theorem isortF_map {lt : α → α → Bool} {lt' : β → β → Bool} {f : α → β} (hf : ∀ x y, lt' (f x) (f y) = lt x y) : ∀ (k i : Nat) (l : List α), isortF lt' k i (l.map f) = (isortF lt k i l).map f
  | 0, i, l => by simp [isortF]
  | k + 1, i, l => by
    unfold isortF
    rw [sink_map hf, isortF_map hf]
/-- Sorting commutes with a map that keeps the order. -/
theorem isort_mapF {lt : α → α → Bool} {lt' : β → β → Bool} {f : α → β} (hf : ∀ x y, lt' (f x) (f y) = lt x y) (l : List α) : isort lt' (l.map f) = (isort lt l).map f := by
  unfold isort
  rw [isortF_map hf, List.length_map]
end
end Go.Proofs.YtempjmpfdniecaaGreatDoor
namespace Go.Proofs.YtempjmpfdniecaaGreatDoor
abbrev Cand := ByteArray × Int
/-- Whether a candidate is taken, by the document's two lists. -/
def takenR (had : List Bk) (giv : List Gv) (b : Bk) (c : Cand) : Bool := (had.zip giv).any fun p => p.2.cls.toList == c.1.toList && decide (p.2.unit = c.2) && meetB b p.1
end Go.Proofs.YtempjmpfdniecaaGreatDoor
namespace Go.Proofs.YtempjmpfdniecaaGreatDoor
def bkAt (l : List Bk) (i : Nat) : Bk := (l[i]?).getD ⟨⟨#[]⟩, ⟨#[]⟩, 0, 0, 0, 0⟩
end Go.Proofs.YtempjmpfdniecaaGreatDoor
namespace Go.Proofs.YtempjmpfdniecaaGreatDoor
open Go.RowKit
open Go.ChangeMaps (setBlock)
/-- The map at block g holds es. -/
def MapAt (g : Nat) (es : Array MapEntry) (ck : Nat) (w : World) : Prop := w.heap[g]? = some (.map es ck)
theorem MapAt.lasts2 {N : Nat} {row : Option Nat} {Tt : List TypeId} {g : Nat} {es : Array MapEntry} {ck : Nat} : Lasts2 N row Tt (MapAt g es ck) :=
  ⟨fun w w' h hx => (h.block g (Array.getElem?_eq_some_iff.1 hx).1 (by simp)).trans hx,
   fun w w' r T c h1 _ _ h3 hx => (h3.block g (Array.getElem?_eq_some_iff.1 hx).1 (fun e => by
     have e2 : g = r := by injection e
     subst e2
     unfold MapAt at hx
     rw [h1] at hx; cases hx)).trans hx⟩
/-- The map at block g, one of the call's own. -/
def OwnMap (N g : Nat) (es : Array MapEntry) (ck : Nat) (w : World) : Prop := N ≤ g ∧ MapAt g es ck w
theorem OwnMap.lasts2 {N M : Nat} {row : Option Nat} {Tt : List TypeId} {g : Nat} {es : Array MapEntry} {ck : Nat} : Lasts2 N row Tt (OwnMap M g es ck) :=
  ⟨fun w w' h hx => ⟨hx.1, MapAt.lasts2.gr (N := N) (row := row) (Tt := Tt) w w' h hx.2⟩, fun w w' r T c h1 h2 h3 h4 hx => ⟨hx.1, MapAt.lasts2.st w w' r T c h1 h2 h3 h4 hx.2⟩⟩
def mapTy (P : Program) (t : TypeId) : Option (TypeId × TypeId) :=
  match P.underlying t with
  | some (.map k e) => some (k, e)
  | _ => none
theorem mapTy_u {P : Program} {t k e : TypeId} (h : mapTy P t = some (k, e)) : P.underlying t = some (.map k e) := by
  unfold mapTy at h
  cases hu : P.underlying t with
  | none => simp [hu] at h
  | some dd => cases dd <;> simp [hu] at h <;> simp [h]
def strTy (P : Program) (t : TypeId) : Bool :=
  match P.underlying t with
  | some .string => true
  | _ => false
theorem strTy_u {P : Program} {t : TypeId} (h : strTy P t = true) : P.underlying t = some .string := by
  unfold strTy at h
  cases hu : P.underlying t with
  | none => simp [hu] at h
  | some dd => cases dd <;> simp [hu] at h <;> rfl
theorem grow_set {w : World} {g : Nat} {es es' : Array MapEntry} {ck ck' : Nat} (hb : w.heap[g]? = some (.map es ck)) : w.grownBy (setBlock w g (.map es' ck')) (some g) :=
  ⟨rfl, rfl, rfl, by simp [setBlock], fun i _ hi => ChangeMaps.heap_setBlock_other hb _ (fun e => hi (by rw [e]))⟩
section
variable {P : Program} {c : Cx} {ops : Array Oper} {Q : Exit → Act → World → Prop} {rest : List Oper} {S : List (Nat × Value)} {K : World → Prop} {L : List (Nat × TypeId × List Value)} {O : List Own} {X X' : List (World → Prop)} {Z : World → Prop} {nn : Nat}
variable {d : Nat} {ty : TypeId} {pos : String} {aft : Array Edge}
theorem Mem.mapped {w : World} {g : Nat} {es es' : Array MapEntry} {ck ck' : Nat} (h : Mem c K L O X w) (hg : c.w0.heap.size ≤ g) (hb : w.heap[g]? = some (.map es ck)) (hX : ∀ A ∈ X', A (setBlock w g (.map es' ck')) ∧ Lasts2 c.w0.heap.size c.row c.Tt A) : Mem c K L O X' (setBlock w g (.map es' ck')) := by
  have hgr : w.grownBy (setBlock w g (.map es' ck')) (some g) := grow_set hb
  have hne : ∀ (k : Nat) (cs : Array Value) (T : TypeId) (fz : Nat × Nat), w.heap[k]? = some (.cells cs T fz) → k ≠ g := fun k cs T fz hk e => by
    subst e
    rw [hb] at hk; cases hk
  refine ⟨grow_own h.g hgr (fun k e => by cases e; exact hg), h.kk.st _ _ _ hg hgr h.k, fun x hx => ⟨(h.b x hx).1, (h.b x hx).2.grown hgr (fun e => hne _ _ _ _ (h.b x hx).2 (Option.some.inj e))⟩, h.nd, fun s hs => ?_, h.od, h.oo, fun A hA => (hX A hA).1, h.kk, fun A hA => (hX A hA).2, h.rs⟩
  refine (h.o s hs).kept hgr ?_
  cases hv : s.v.ownBlock with
  | none => exact .inl rfl
  | some k =>
    refine .inr (fun e => ?_)
    have e2 : k = g := by injection e
    rcases (h.o s hs).2 with ⟨hn, _⟩ | ⟨g', cap, cur, hn, _, hh, _⟩
    · rw [hn] at hv; cases hv
    · rw [hn] at hv
      have e3 : g' = k := by injection hv
      exact hne _ _ _ _ hh (e3.trans e2)
theorem check_str {k : TypeId} (hk : strTy P k = true) (b : Bool) (s : ByteArray) (w : World) : (Instr.checkKey b 10000 k (.string s)).run P w = .ok () w := by
  rw [show (10000 : Nat) = 9999 + 1 from rfl]
  unfold Instr.checkKey
  simp [run_underlying (strTy_u hk)]
theorem find_str {k : TypeId} (hk : strTy P k = true) {s : ByteArray} {es : List MapEntry} {r : Option (Nat × Value)} (hf : Instr.findNow .string (.string s) es 0 = some r) (w : World) : (Instr.findKey k (.string s) es).run P w = .ok r w := by
  simp [Instr.findKey, run_underlying (strTy_u hk), hf]
end
theorem far_nil {N g : Nat} {X : List (World → Prop)} : ∀ A ∈ ([] : List (World → Prop)), (∀ w w', N ≤ g → w.grownBy w' (some g) → A w → A w') ∧ A ∈ X := fun _ h => by cases h
theorem far_cons {N g i : Nat} {X X' : List (World → Prop)} {A0 : World → Prop} (h : ∀ w w', N ≤ g → w.grownBy w' (some g) → A0 w → A0 w') (hi : X[i]? = some A0) (hr : ∀ A ∈ X', (∀ w w', N ≤ g → w.grownBy w' (some g) → A w → A w') ∧ A ∈ X) : ∀ A ∈ A0 :: X', (∀ w w', N ≤ g → w.grownBy w' (some g) → A w → A w') ∧ A ∈ X := fun A hA => by
  rcases List.mem_cons.1 hA with rfl | hA
  · exact ⟨h, List.mem_of_getElem? hi⟩
  · exact hr A hA
theorem BlkOld.far {N g b : Nat} {row : Option Nat} {T : TypeId} {cs : List Value} : ∀ w w' : World, N ≤ g → w.grownBy w' (some g) → BlkOld N row b T cs w → BlkOld N row b T cs w' := fun _ _ h1 h2 ⟨h3, h4⟩ => ⟨h3, h4.grown h2 (fun e => by
  have e2 : b = g := by injection e
  omega)⟩
end Go.Proofs.YtempjmpfdniecaaGreatDoor
namespace Go.Proofs.YtempjmpfdniecaaGreatDoor
open Go.RowKit Go.MapKept
open Go.ChangeMaps (setBlock)
theorem bytes_ext {a b : ByteArray} (h : a.toList = b.toList) : a = b := by
  rw [ByteArray.toList_eq, ByteArray.toList_eq] at h
  cases a; cases b
  simp only at h
  exact congrArg ByteArray.mk (Array.toList_inj.1 h)
theorem bytes_eqb {a b : ByteArray} : (a.toList == b.toList) = true ↔ a = b :=
  ⟨fun h => bytes_ext (by simpa using h), fun h => by subst h; simp⟩
def fPut {α : Type} (f : ByteArray → Option α) (k : ByteArray) (x : α) : ByteArray → Option α := fun j => if (j.toList == k.toList) = true then some x else f j
def fDel {α : Type} (f : ByteArray → Option α) (k : ByteArray) : ByteArray → Option α := fun j => if (j.toList == k.toList) = true then none else f j
def fNil {α : Type} : ByteArray → Option α := fun _ => none
theorem fPut_same {α : Type} (f : ByteArray → Option α) (k : ByteArray) (x : α) : fPut f k x k = some x := by unfold fPut; rw [if_pos (by simp)]
theorem fPut_other {α : Type} (f : ByteArray → Option α) {k j : ByteArray} (x : α) (h : j ≠ k) : fPut f k x j = f j := by unfold fPut; rw [if_neg (fun e => h (bytes_eqb.1 e))]
theorem fDel_same {α : Type} (f : ByteArray → Option α) (k : ByteArray) : fDel f k k = none := by unfold fDel; rw [if_pos (by simp)]
theorem fDel_other {α : Type} (f : ByteArray → Option α) {k j : ByteArray} (h : j ≠ k) : fDel f k j = f j := by unfold fDel; rw [if_neg (fun e => h (bytes_eqb.1 e))]
/-- What a map's block holds, key by key. -/
def Entries {α : Type} (enc : α → Value) (f : ByteArray → Option α) (es : Array MapEntry) (ck : Nat) : Prop :=
  Stamped es ck ∧ (∀ x ∈ es.toList, IsKey .string x.key) ∧ ∀ k v, (∃ e ∈ es.toList, e.key = .string k ∧ e.val = v) ↔ ∃ x, f k = some x ∧ v = enc x
/-- The map at block g, one of the call's own, has under each key what f says. -/
def MapF {α : Type} (enc : α → Value) (N g : Nat) (f : ByteArray → Option α) (w : World) : Prop :=
  N ≤ g ∧ ∃ es ck, w.heap[g]? = some (.map es ck) ∧ Entries enc f es ck
theorem MapF.lt {α : Type} {enc : α → Value} {N g : Nat} {f : ByteArray → Option α} {w : World} (h : MapF enc N g f w) : g < w.heap.size := by
  obtain ⟨_, es, ck, hb, _⟩ := h
  exact (Array.getElem?_eq_some_iff.1 hb).1
theorem MapF.kept {α : Type} {enc : α → Value} {N g : Nat} {f : ByteArray → Option α} {w w' : World} {row : Option Nat} (h : MapF enc N g f w) (hg : w.grownBy w' row) (hne : some g ≠ row) : MapF enc N g f w' := by
  have hlt := h.lt
  obtain ⟨h0, es, ck, hb, he⟩ := h
  exact ⟨h0, es, ck, (hg.block g hlt hne).trans hb, he⟩
theorem MapF.lasts2 {α : Type} {enc : α → Value} {N M : Nat} {row : Option Nat} {Tt : List TypeId} {g : Nat} {f : ByteArray → Option α} : Lasts2 N row Tt (MapF enc M g f) :=
  ⟨fun w w' h hx => hx.kept h (by simp),
   fun w w' r T c h1 _ _ h3 hx => hx.kept h3 (fun e => by
     have e2 : g = r := by injection e
     subst e2
     obtain ⟨_, es, ck, hb, _⟩ := hx
     rw [h1] at hb; cases hb)⟩
theorem MapF.far {α : Type} {enc : α → Value} {N M g g1 : Nat} {f : ByteArray → Option α} (hne : g1 ≠ g) : ∀ w w' : World, N ≤ g → w.grownBy w' (some g) → MapF enc M g1 f w → MapF enc M g1 f w' :=
  fun _ _ _ hg h => h.kept hg (fun e => hne (by injection e))
theorem SlOld.far {α : Type} {enc : α → List Value} {k N g : Nat} {T : TypeId} {row : Option Nat} {A : Option Addr} {n : Nat} {l : List α} : ∀ w w' : World, N ≤ g → w.grownBy w' (some g) → SlOld enc k T N row A n l w → SlOld enc k T N row A n l w' := fun w w' h1 h2 ⟨h3, h4⟩ => by
  refine ⟨⟨h3.len, fun hn => ?_⟩, h4⟩
  obtain ⟨b, off, cells, fz, e, hh, hr⟩ := h3.at_ hn
  exact ⟨b, off, cells, fz, e, (h2.block b (Array.getElem?_eq_some_iff.1 hh).1 (fun e2 => by
    have e3 : b = g := by injection e2
    obtain ⟨h5, _⟩ := h4 b off e hn
    omega)).trans hh, hr⟩
section
variable {α : Type} {enc : α → Value} {f : ByteArray → Option α} {es : Array MapEntry} {ck : Nat}
theorem Entries.nil : Entries enc fNil #[] 0 := ⟨stamped_empty 0, by simp, fun k v => by simp [fNil]⟩
/-- Where a key is, or that it is not there. -/
theorem Entries.find (h : Entries enc f es ck) (k : ByteArray) : (Instr.findNow .string (.string k) es.toList 0 = some none ∧ f k = none ∧ ∀ x ∈ es.toList, x.key ≠ .string k) ∨ ∃ j e x, Instr.findNow .string (.string k) es.toList 0 = some (some (j, e.val)) ∧ es[j]? = some e ∧ e.key = .string k ∧ f k = some x ∧ e.val = enc x := by
  have hk : IsKey .string (.string k) := trivial
  rcases findNow_spec hk es.toList 0 h.2.1 with ⟨h1, h2⟩ | ⟨j, e, h1, h2, h3⟩
  · left
    refine ⟨h1, ?_, h2⟩
    cases hf : f k with
    | none => rfl
    | some x =>
      obtain ⟨e, he, hek, _⟩ := (h.2.2 k (enc x)).2 ⟨x, hf, rfl⟩
      exact absurd hek (h2 e he)
  · right
    obtain ⟨x, hx, hv⟩ := (h.2.2 k e.val).1 ⟨e, List.mem_of_getElem? h2, h3, rfl⟩
    refine ⟨j, e, x, by simpa using h1, by simpa using h2, h3, hx, hv⟩
theorem Entries.push (h : Entries enc f es ck) {k : ByteArray} (x : α) (hn : ∀ y ∈ es.toList, y.key ≠ .string k) : Entries enc (fPut f k x) (es.push ⟨.string k, enc x, ck⟩) (ck + 1) := by
  refine ⟨stamped_push h.1 hn, fun y hy => ?_, fun j v => ?_⟩
  · simp only [Array.toList_push, List.mem_append, List.mem_singleton] at hy
    rcases hy with hy | rfl
    · exact h.2.1 y hy
    · trivial
  · simp only [Array.toList_push, List.mem_append, List.mem_singleton]
    by_cases hj : j = k
    · subst hj
      rw [fPut_same]
      constructor
      · rintro ⟨e, he | rfl, h1, h2⟩
        · exact absurd h1 (hn e he)
        · exact ⟨x, rfl, h2.symm⟩
      · rintro ⟨y, hy, rfl⟩
        cases hy
        exact ⟨_, .inr rfl, rfl, rfl⟩
    · rw [fPut_other _ _ hj, ← h.2.2 j v]
      constructor
      · rintro ⟨e, he | rfl, h1, h2⟩
        · exact ⟨e, he, h1, h2⟩
        · injection h1 with h1
          exact absurd h1.symm hj
      · rintro ⟨e, he, h1, h2⟩
        exact ⟨e, .inl he, h1, h2⟩
theorem nodup_at {es : Array MapEntry} (h : (es.toList.map (·.key)).Nodup) {i j : Nat} {a b : MapEntry} (ha : es[i]? = some a) (hb : es[j]? = some b) (hk : a.key = b.key) : i = j := by
  have h1 : (es.toList.map (·.key))[i]? = some a.key := by rw [List.getElem?_map]; simp [ha]
  have h2 : (es.toList.map (·.key))[j]? = some a.key := by rw [List.getElem?_map]; simp [hb, hk]
  obtain ⟨hi, e1⟩ := List.getElem?_eq_some_iff.1 h1
  obtain ⟨hj, e2⟩ := List.getElem?_eq_some_iff.1 h2
  have hp := List.pairwise_iff_getElem.1 h
  rcases Nat.lt_trichotomy i j with hlt | rfl | hlt
  · exact absurd (e1.trans e2.symm) (hp i j hi hj hlt)
  · rfl
  · exact absurd (e2.trans e1.symm) (hp j i hj hi hlt)
theorem mem_at {es : Array MapEntry} {e : MapEntry} (h : e ∈ es.toList) : ∃ i : Nat, es[i]? = some e := by
  obtain ⟨i, hi⟩ := List.getElem?_of_mem h
  exact ⟨i, by simpa using hi⟩
theorem Entries.modify (h : Entries enc f es ck) {k : ByteArray} (x : α) {j : Nat} {e : MapEntry} (he : es[j]? = some e) (hk : e.key = .string k) : Entries enc (fPut f k x) (es.modify j fun e => { e with key := .string k, val := enc x }) ck := by
  have hkey : ∀ e', es[j]? = some e' → ({ e' with key := .string k, val := enc x } : MapEntry).key = e'.key := fun e' he' => by rw [he] at he'; cases he'; exact hk.symm
  refine ⟨stamped_modify h.1 _ _ (fun _ _ => rfl) (fun e' _ he' => hkey e' he'), isKey_modify h.2.1 _ _ hkey, fun i v => ?_⟩
  have hat : ∀ q, (es.modify j fun e => { e with key := .string k, val := enc x })[q]? = if j = q then (es[q]?).map (fun e => { e with key := .string k, val := enc x }) else es[q]? := fun q => by rw [Array.getElem?_modify]
  have hmem : ∀ y, y ∈ (es.modify j fun e => { e with key := .string k, val := enc x }).toList ↔ ∃ q, (es.modify j fun e => { e with key := .string k, val := enc x })[q]? = some y := fun y =>
    ⟨fun hy => mem_at hy, fun ⟨q, hq⟩ => by
      have : (es.modify j fun e => { e with key := .string k, val := enc x }).toList[q]? = some y := by rw [Array.getElem?_toList]; exact hq
      exact List.mem_of_getElem? this⟩
  by_cases hi : i = k
  · subst hi
    rw [fPut_same]
    constructor
    · rintro ⟨y, hy, h1, h2⟩
      obtain ⟨q, hq⟩ := (hmem y).1 hy
      rw [hat] at hq
      split at hq
      · rename_i hjq
        subst hjq
        rw [he] at hq
        cases hq
        exact ⟨x, rfl, h2.symm⟩
      · rename_i hjq
        exact absurd (nodup_at h.1.2.2 he hq (hk.trans h1.symm)) hjq
    · rintro ⟨y, hy, rfl⟩
      cases hy
      exact ⟨{ e with key := .string i, val := enc x }, (hmem _).2 ⟨j, by rw [hat, if_pos rfl, he]; rfl⟩, rfl, rfl⟩
  · rw [fPut_other _ _ hi, ← h.2.2 i v]
    constructor
    · rintro ⟨y, hy, h1, h2⟩
      obtain ⟨q, hq⟩ := (hmem y).1 hy
      rw [hat] at hq
      split at hq
      · rename_i hjq
        subst hjq
        rw [he] at hq
        cases hq
        injection h1 with h1
        exact absurd h1.symm hi
      · exact ⟨y, List.mem_of_getElem? (i := q) (by simpa using hq), h1, h2⟩
    · rintro ⟨y, hy, h1, h2⟩
      obtain ⟨q, hq⟩ := mem_at hy
      refine ⟨y, (hmem y).2 ⟨q, ?_⟩, h1, h2⟩
      rw [hat, if_neg (fun e2 => ?_), hq]
      subst e2
      rw [he] at hq
      cases hq
      rw [hk] at h1
      injection h1 with h1
      exact hi h1.symm
theorem Entries.same (h : Entries enc f es ck) {k : ByteArray} (hn : f k = none) : Entries enc (fDel f k) es ck := by
  have e : fDel f k = f := by
    funext j
    by_cases hj : j = k
    · subst hj; rw [fDel_same, hn]
    · rw [fDel_other _ hj]
  rw [e]; exact h
end
section
variable {P : Program} {c : Cx} {ops : Array Oper} {Q : Exit → Act → World → Prop} {rest : List Oper} {S : List (Nat × Value)} {K : World → Prop} {L : List (Nat × TypeId × List Value)} {O : List Own} {X X' : List (World → Prop)} {Z : World → Prop} {nn : Nat}
variable {d : Nat} {ty : TypeId} {pos : String} {aft : Array Edge} {α : Type} {enc : α → Value} {f : ByteArray → Option α}
theorem ov_lookF {t k e : TypeId} {x y : Operand} {N g : Nat} {s : ByteArray} (z : α) (ht : mapTy P t = some (k, e)) (hk : strTy P k = true) (hzz : (P.info? e).bind (·.zero) = some (enc z)) (hx : rd S x = some (.map (some g))) (hy : rd S y = some (.string s)) (hm : ∀ w, Z w → MapF enc N g f w) :
    OV P nn S Z ⟨some d, .lookup t x y false, ty, pos, aft, none⟩ (enc ((f s).getD z)) := fun a w ha hz => by
  obtain ⟨_, es, ck, hb, he⟩ := hm w hz
  have hzero : (zeroValue e).run P w = .ok (enc z) w := by
    cases hi : P.info? e with
    | none => simp [hi] at hzz
    | some inf => simp [zeroValue, typeInfo, hi, (by simpa [hi] using hzz : inf.zero = some (enc z))]
  rcases he.find s with ⟨hf, hn, _⟩ | ⟨j, en, xv, hf, _, _, hn, hv⟩
  · simp [execOp, ha.eval hx, ha.eval hy, Instr.lookup, run_underlying (mapTy_u ht), MapKept.run_getObj_map hb, check_str hk, find_str hk hf, hzero, hn, Result.andThen]
  · simp [execOp, ha.eval hx, ha.eval hy, Instr.lookup, run_underlying (mapTy_u ht), MapKept.run_getObj_map hb, check_str hk, find_str hk hf, hn, hv, Result.andThen]
theorem wl_makeMapF {t : TypeId} (hd : Nat.ble (d + 1) c.n = true) (h : ∀ g, WL P c ops Q rest ((d, .map (some g)) :: S) K L O (MapF enc c.w0.heap.size g fNil :: X)) : WL P c ops Q (⟨some d, .makeMap t none, ty, pos, aft, none⟩ :: rest) S K L O X := by
  intro a w ha hm
  refine wpList_plain rfl fun K' hK => ?_
  unfold Oper.wp
  have : (execOp a.eval ⟨some d, .makeMap t none, ty, pos, aft, none⟩).run P w = .ok (.value (.map (some w.heap.size))) (w.alloc (.map #[] 0)) := by
    simp [execOp, Instr.makeMap]
  rw [this]
  exact hK _ _ (h _ _ _ (ha.put hd _) ((hm.grow (grow_alloc (World.grownBy.refl w none) _)).also MapF.lasts2 ⟨hm.g.size, _, _, (MapKept.heap_alloc w _).1, Entries.nil⟩))
theorem wl_mapPut {t k e : TypeId} {x y z : Operand} {g : Nat} {s : ByteArray} {v : α} (i : Nat) (ht : mapTy P t = some (k, e)) (hk : strTy P k = true) (hx : rd S x = some (.map (some g))) (hy : rd S y = some (.string s)) (hz : rd S z = some (enc v)) (hi : X[i]? = some (MapF enc c.w0.heap.size g f))
    (hX : ∀ A ∈ X', (∀ w w', c.w0.heap.size ≤ g → w.grownBy w' (some g) → A w → A w') ∧ A ∈ X)
    (h : WL P c ops Q rest S K L O (MapF enc c.w0.heap.size g (fPut f s v) :: X')) : WL P c ops Q (⟨none, .mapUpdate t x y z, ty, pos, aft, none⟩ :: rest) S K L O X := by
  intro a w ha hm
  refine wpList_plain rfl fun K' hK => ?_
  obtain ⟨hg, es, ck, hb, he⟩ := hm.fact i hi
  have hdone : ∀ es' ck', Entries enc (fPut f s v) es' ck' → Mem c K L O (MapF enc c.w0.heap.size g (fPut f s v) :: X') (setBlock w g (.map es' ck')) := fun es' ck' he' => hm.mapped hg hb fun A hA => by
    rcases List.mem_cons.1 hA with rfl | hA
    · exact ⟨⟨hg, _, _, ChangeMaps.heap_setBlock_same hb _, he'⟩, MapF.lasts2⟩
    · exact ⟨(hX A hA).1 _ _ hg (grow_set hb) (hm.x A (hX A hA).2), hm.l A (hX A hA).2⟩
  unfold Oper.wp
  rcases he.find s with ⟨hf, _, hn⟩ | ⟨j, en, xv, hf, hj, hkk, _, _⟩
  · have : (execOp a.eval ⟨none, .mapUpdate t x y z, ty, pos, aft, none⟩).run P w = .ok .skip (setBlock w g (.map (es.push ⟨.string s, enc v, ck⟩) (ck + 1))) := by
      simp [execOp, ha.eval hx, ha.eval hy, ha.eval hz, Instr.mapUpdate, run_underlying (mapTy_u ht), MapKept.run_getObj_map hb, MapKept.run_setObj_map _ hb, check_str hk, find_str hk hf, Result.andThen, setBlock]
    rw [this]
    exact hK _ _ (h _ _ ha (hdone _ _ (he.push v hn)))
  · have : (execOp a.eval ⟨none, .mapUpdate t x y z, ty, pos, aft, none⟩).run P w = .ok .skip (setBlock w g (.map (es.modify j fun e => { e with key := .string s, val := enc v }) ck)) := by
      simp [execOp, ha.eval hx, ha.eval hy, ha.eval hz, Instr.mapUpdate, run_underlying (mapTy_u ht), MapKept.run_getObj_map hb, MapKept.run_setObj_map _ hb, check_str hk, find_str hk hf, hj, hkk, run_keyThatStays (show IsKey .string (.string s) from trivial), Result.andThen, setBlock]
    rw [this]
    exact hK _ _ (h _ _ ha (hdone _ _ (he.modify v hj hkk)))
end
end Go.Proofs.YtempjmpfdniecaaGreatDoor
namespace Go.Proofs.YtempjmpfdniecaaGreatDoor
/-- The units of a class, from number u + 1 on. -/
def unitsF (sl : List Sk) (k : ByteArray) (u : Nat) : List Cand := ((List.range (manyV sl k).toNat).drop u).map fun i => (k, ((i + 1 : Nat) : Int))
theorem unitsF_more {sl : List Sk} {k : ByteArray} {u : Nat} (h : ((u + 1 : Nat) : Int) ≤ manyV sl k) : unitsF sl k u = (k, ((u + 1 : Nat) : Int)) :: unitsF sl k (u + 1) := by
  unfold unitsF
  have hu : u < (List.range (manyV sl k).toNat).length := by rw [List.length_range]; omega
  rw [List.drop_eq_getElem_cons hu, List.map_cons, List.getElem_range]
theorem unitsF_end {sl : List Sk} {k : ByteArray} {u : Nat} (h : ¬ ((u + 1 : Nat) : Int) ≤ manyV sl k) : unitsF sl k u = [] := by
  unfold unitsF
  rw [List.drop_eq_nil_of_le (by rw [List.length_range]; omega)]; rfl
def candsF (sl : List Sk) (ks : List ByteArray) : List Cand := ks.flatMap fun k => unitsF sl k 0
theorem candsF_at {sl : List Sk} {ks : List ByteArray} {i : Nat} {k : ByteArray} (h : ks[i]? = some k) : candsF sl (ks.drop i) = unitsF sl k 0 ++ candsF sl (ks.drop (i + 1)) := by
  obtain ⟨hi, rfl⟩ := List.getElem?_eq_some_iff.1 h
  rw [List.drop_eq_getElem_cons hi]; rfl
theorem candsF_end {sl : List Sk} {ks : List ByteArray} {i : Nat} (h : ks.length ≤ i) : candsF sl (ks.drop i) = [] := by
  rw [List.drop_eq_nil_of_le h]; rfl
/-- The classes of a booking: its own, then those above. -/
def clsF (cs : List Cs) (b : Bk) : List ByteArray := b.cls :: pathN cs cs.length b.cls
def cdB (cs : List Cs) (sl : List Sk) (b : Bk) : List Cand := candsF sl (clsF cs b)
/-- Those of some candidates that are free, as given vehicles. -/
def chF (had : List Bk) (giv : List Gv) (b : Bk) (l : List Cand) : List Gv := (l.filter fun c => !takenR had giv b c).map fun c => ⟨b.key, c.1, c.2⟩
theorem chF_app (had : List Bk) (giv : List Gv) (b : Bk) (l m : List Cand) : chF had giv b (l ++ m) = chF had giv b l ++ chF had giv b m := by
  unfold chF; rw [List.filter_append, List.map_append]
theorem chF_yes {had : List Bk} {giv : List Gv} {b : Bk} {c : Cand} {l : List Cand} (h : takenR had giv b c = true) : chF had giv b (c :: l) = chF had giv b l := by
  unfold chF; rw [List.filter_cons_of_neg (by simp [h])]
theorem chF_no {had : List Bk} {giv : List Gv} {b : Bk} {c : Cand} {l : List Cand} (h : takenR had giv b c = false) : chF had giv b (c :: l) = ⟨b.key, c.1, c.2⟩ :: chF had giv b l := by
  unfold chF; rw [List.filter_cons_of_pos (by simp [h]), List.map_cons]
theorem any_take1 {α : Type} {p : α → Bool} {l : List α} {i : Nat} {x : α} (h : l[i]? = some x) : (l.take (i + 1)).any p = ((l.take i).any p || p x) := by
  rw [List.take_add_one, h, List.any_append]; simp
theorem meetW_comm (a b c d : Int) : meetW a b c d = meetW c d a b := by unfold meetW; rw [Bool.and_comm]
theorem zip_at {α β : Type} {l : List α} {m : List β} {i : Nat} {x : α} {y : β} (h1 : l[i]? = some x) (h2 : m[i]? = some y) : (l.zip m)[i]? = some (x, y) := by
  rw [List.getElem?_zip_eq_some]; exact ⟨h1, h2⟩
/-- Whether one of those before has a candidate at a booking's time. -/
def takP (b : Bk) (k : ByteArray) (u : Int) (p : Bk × Gv) : Bool := p.2.cls.toList == k.toList && decide (p.2.unit = u) && meetB b p.1
theorem takP_at {had : List Bk} {giv : List Gv} {j : Nat} {y : Bk} {z : Gv} {b : Bk} {k : ByteArray} {u : Int} (h1 : had[j]? = some y) (h2 : giv[j]? = some z) : ((had.zip giv).take (j + 1)).any (takP b k u) = (((had.zip giv).take j).any (takP b k u) || (z.cls.toList == k.toList && decide (z.unit = u) && meetW y.fr y.to_ b.fr b.to_)) := by
  rw [any_take1 (zip_at h1 h2)]
  have e : takP b k u (y, z) = (z.cls.toList == k.toList && decide (z.unit = u) && meetW y.fr y.to_ b.fr b.to_) := by
    show (_ && _ && meetW _ _ _ _) = _
    rw [meetW_comm]
  rw [e]
theorem range_bk (l : List Bk) : (List.range l.length).map (bkAt l) = l := by
  apply List.ext_getElem?
  intro i
  rw [List.getElem?_map]
  by_cases hi : i < l.length
  · rw [List.getElem?_range hi, List.getElem?_eq_getElem hi]
    show some ((l[i]?).getD _) = _
    rw [List.getElem?_eq_getElem hi]; rfl
  · rw [List.getElem?_eq_none (by rw [List.length_range]; omega), List.getElem?_eq_none (by omega)]; rfl
end Go.Proofs.YtempjmpfdniecaaGreatDoor
namespace Go.Proofs.YtempjmpfdniecaaGreatDoor
open Go.RowKit
def wnB (b : Bk) : Wn := (b.fr, b.to_)
def capB (sl : List Sk) (k : ByteArray) : Nat := (manyV sl k).toNat
/-- The choices of a booking. -/
def chB (cs : List Cs) (sl : List Sk) (b : Bk) : List (CdW ByteArray) := chC (capB sl) (clsF cs b)
theorem path_nodup {l : List Cs} (hc : Closed l) (hl : loopB l l.length = false) {k : ByteArray} (hk : 0 ≤ ixP (csP k) l 0) : (k :: pathN l l.length k).Nodup := by
  have hno : ∀ x ∈ l, ¬ x.key ∈ pathN l l.length x.key := fun x hx hm => by
    have : loopB l l.length = true := List.any_eq_true.2 ⟨x, hx, inK_mem.2 hm⟩
    rw [hl] at this; cases this
  refine List.nodup_cons.2 ⟨fun hu => ?_, ?_⟩
  · obtain ⟨x, _, hx, rfl⟩ := ix_key hk
    exact hno x hx hu
  · show List.Pairwise (fun a b => a ≠ b) _
    rw [List.pairwise_iff_getElem]
    intro i j hi hj hij he
    have hxi : (pathN l l.length k)[i]? = some ((pathN l l.length k)[i]) := List.getElem?_eq_getElem hi
    have hxj : (pathN l l.length k)[j]? = some ((pathN l l.length k)[j]) := List.getElem?_eq_getElem hj
    rw [← he] at hxj
    generalize (pathN l l.length k)[i] = u at *
    have hd := pathN_drop l i _ _ u hxi
    have hmem : u ∈ pathN l (l.length - (i + 1)) u := by
      rw [← hd]
      refine List.mem_of_getElem? (i := j - (i + 1)) ?_
      rw [List.getElem?_drop, show i + 1 + (j - (i + 1)) = j by omega]; exact hxj
    have hb := pathN_len l l.length k
    have hmore := pathN_more l (l.length - (i + 1)) u (i + 1)
    rw [show l.length - (i + 1) + (i + 1) = l.length by omega] at hmore
    rw [hmore] at hmem
    obtain ⟨x, _, hx, rfl⟩ := ix_key (path_in hc _ _ u (List.mem_of_getElem? hxi))
    exact hno x hx (List.mem_of_mem_take hmem)
theorem path_lenA {l : List Cs} (hc : Closed l) (hl : loopB l l.length = false) {k : ByteArray} (hk : 0 ≤ ixP (csP k) l 0) : (k :: pathN l l.length k).length ≤ l.length := by
  have hin : ∀ u ∈ k :: pathN l l.length k, 0 ≤ ixP (csP u) l 0 := fun u hu => by
    rcases List.mem_cons.1 hu with rfl | hu
    · exact hk
    · exact path_in hc _ _ u hu
  have hbound : ∀ x ∈ (k :: pathN l l.length k).map (fun u => (ixP (csP u) l 0).toNat), x < l.length := fun x hx => by
    obtain ⟨u, hu, rfl⟩ := List.mem_map.1 hx
    have h1 := hin u hu
    have h2 := ixP_bound (p := csP u) l
    omega
  have hsame : ∀ u ∈ k :: pathN l l.length k, ∀ v ∈ k :: pathN l l.length k, (ixP (csP u) l 0).toNat = (ixP (csP v) l 0).toNat → u = v := fun u hu v hv he => by
    obtain ⟨x, hx, _, hxu⟩ := ix_key (hin u hu)
    obtain ⟨y, hy, _, hyv⟩ := ix_key (hin v hv)
    rw [he, hy] at hx
    injection hx with hx
    subst hx
    exact hxu.symm.trans hyv
  have hpair : ((k :: pathN l l.length k).map (fun u => (ixP (csP u) l 0).toNat)).Pairwise (fun a b => a ≠ b) := by
    rw [List.pairwise_map]
    have hnd : (k :: pathN l l.length k).Pairwise (fun a b => a ≠ b) := path_nodup hc hl hk
    exact hnd.imp_of_mem fun {a b} ha hb hab he => hab (hsame a ha b hb he)
  have := pigeon _ _ hbound hpair
  rwa [List.length_map] at this
theorem ixP_nodup {l : List ByteArray} (h : l.Nodup) {i : Nat} {x : ByteArray} (hx : l[i]? = some x) : ixP (fun y => x.toList == y.toList) l 0 = (i : Int) := by
  rcases ixP_spec (p := fun y => x.toList == y.toList) l 0 with ⟨_, h2⟩ | ⟨j, z, h1, h2, h3, _⟩
  · have := h2 x (List.mem_of_getElem? hx)
    simp at this
  · have e : x = z := ba_ext (by simpa using h3)
    rw [← e] at h2
    obtain ⟨hi1, hi2⟩ := List.getElem?_eq_some_iff.1 hx
    obtain ⟨hj1, hj2⟩ := List.getElem?_eq_some_iff.1 h2
    have hp : l.Pairwise (fun a b => a ≠ b) := h
    rw [List.pairwise_iff_getElem] at hp
    rcases Nat.lt_trichotomy i j with hij | hij | hij
    · exact absurd (hi2.trans hj2.symm) (hp i j hi1 hj1 hij)
    · rw [h1, ← hij, Nat.zero_add]
    · exact absurd (hj2.trans hi2.symm) (hp j i hj1 hi1 hij)
theorem way_at {many : ByteArray → Nat} : ∀ (ks : List ByteArray) (i : Nat) (k : CdW ByteArray), k ∈ wayC many i ks → ∃ j, ks[j]? = some k.1 ∧ k.2.1 = i + j
  | [], _, _, h => by cases h
  | c :: r, i, k, h => by
    unfold wayC at h
    rcases List.mem_cons.1 h with rfl | h
    · exact ⟨0, rfl, rfl⟩
    · obtain ⟨j, h1, h2⟩ := way_at r (i + 1) k h
      exact ⟨j + 1, h1, by omega⟩
/-- The steps of a choice are those between the classes. -/
theorem steps_ch {cs : List Cs} {b : Bk} {many : ByteArray → Nat} (hcl : Closed cs) (hlo : loopB cs cs.length = false) (hk : 0 ≤ ixP (csP b.cls) cs 0) {k : CdW ByteArray} (h : k ∈ wayC many 0 (clsF cs b)) : stepsV cs b.cls k.1 = (k.2.1 : Int) := by
  obtain ⟨j, h1, h2⟩ := way_at _ _ _ h
  have h3 : ixP (fun y => k.1.toList == y.toList) (b.cls :: pathN cs cs.length b.cls) 0 = (j : Int) := ixP_nodup (path_nodup hcl hlo hk) h1
  rw [← stepsV_eq hcl hlo, path_same hcl hlo, h3]
  omega
theorem okB {cs : List Cs} {sl : List Sk} {l : List Bk} (hcl : Closed cs) (hlo : loopB cs cs.length = false) (hk : ∀ b ∈ l, 0 ≤ ixP (csP b.cls) cs 0) (ht : ∀ b ∈ l, b.fr < b.to_) : okC (capB sl) (l.map wnB) (l.map (chB cs sl)) := by
  have hch := fun b hb => ch_ok (many := capB sl) (path_nodup hcl hlo (hk b hb))
  refine ⟨by simp, fun x hx => ?_, fun c hc k hkm => ?_, fun c hc k hkm => ?_, fun c hc => ?_⟩
  · obtain ⟨b, hb, rfl⟩ := List.mem_map.1 hx; exact ht b hb
  · obtain ⟨b, hb, rfl⟩ := List.mem_map.1 hc; exact (hch b hb).1 k hkm
  · obtain ⟨b, hb, rfl⟩ := List.mem_map.1 hc; exact (hch b hb).2.1 k hkm
  · obtain ⟨b, hb, rfl⟩ := List.mem_map.1 hc; exact (hch b hb).2.2.1
/-- What the document gives with so many steps; the first that is there. -/
def asgF (cs : List Cs) (sl : List Sk) (l : List Bk) (n : Nat) : Option (List (ByteArray × Nat)) := docF (l.map wnB) (l.map (chB cs sl)) [] n
def asgO (cs : List Cs) (sl : List Sk) (l : List Bk) : Option (List (ByteArray × Nat)) := (List.range (l.length * cs.length + 1)).findSome? (asgF cs sl l)
theorem range_find {β : Type} {f : Nat → Option β} {N n : Nat} {o : β} (h1 : ∀ m, m < n → f m = none) (h2 : f n = some o) (h : n < N) : (List.range N).findSome? f = some o := by
  obtain ⟨d, rfl⟩ : ∃ d, N = n + (d + 1) := ⟨N - n - 1, by omega⟩
  rw [List.range_add, List.findSome?_append, fs_none (fun x hx => h1 x (List.mem_range.1 hx)), List.range_succ_eq_map, List.map_cons, List.findSome?_cons, Nat.add_zero, h2]
  rfl
theorem sols_empty {ws : List Wn} : ∀ (css : List (List (CdW ByteArray))) (st : List (ByteArray × Nat)), [] ∈ css → solsW ws css st = []
  | [], _, h => by cases h
  | cs :: r, st, h => by
    unfold solsW
    rcases List.mem_cons.1 h with e | h
    · rw [← e]; rfl
    · rw [List.flatMap_eq_nil_iff]
      intro k _
      rw [sols_empty r _ h]; rfl
/-- The program's answer and the document's. -/
theorem asg_same {cs : List Cs} {sl : List Sk} {l : List Bk} (hcl : Closed cs) (hlo : loopB cs cs.length = false) (hk : ∀ b ∈ l, 0 ≤ ixP (csP b.cls) cs 0) (ht : ∀ b ∈ l, b.fr < b.to_) {items : List (ItW ByteArray)} (hp : items.Perm ((l.map wnB).zip (l.map (chB cs sl)))) :
    (bbW roomF items [] 0 none = none ∧ asgO cs sl l = none) ∨ ∃ n o, bbW roomF items [] 0 none = some n ∧ asgO cs sl l = some o ∧ unitsW (l.map wnB) (roomU (l.map wnB)) (l.map (chB cs sl)) [] n = some o ∧ n ≤ l.length * cs.length ∧ (o, n) ∈ solsW (l.map wnB) (l.map (chB cs sl)) [] := by
  rcases assign_same (okB (sl := sl) hcl hlo hk ht) hp with ⟨h1, h2⟩ | ⟨n, o, h1, h2, h3, h4, h5⟩
  · exact .inl ⟨h1, fs_none fun n _ => h2 n⟩
  · have hle := sols_le (M := cs.length) (l.map (chB cs sl)) [] (fun c hc k hkm => by
      obtain ⟨b, hb, rfl⟩ := List.mem_map.1 hc
      have h6 := (ch_ok (many := capB sl) (path_nodup hcl hlo (hk b hb))).2.2.2 k hkm
      have h7 := path_lenA hcl hlo (hk b hb)
      omega) _ h5
    rw [List.length_map] at hle
    exact .inr ⟨n, o, h1, range_find h2 h3 (by dsimp only at hle; omega), h4, hle, h5⟩
theorem asg_empty {cs : List Cs} {sl : List Sk} {l : List Bk} (hcl : Closed cs) (hlo : loopB cs cs.length = false) (hk : ∀ b ∈ l, 0 ≤ ixP (csP b.cls) cs 0) (ht : ∀ b ∈ l, b.fr < b.to_) (h : [] ∈ l.map (chB cs sl)) : asgO cs sl l = none := by
  rcases asg_same (sl := sl) hcl hlo hk ht (List.Perm.refl _) with ⟨_, h2⟩ | ⟨n, o, _, _, _, _, h5⟩
  · exact h2
  · rw [sols_empty _ _ h] at h5; cases h5
def gvO (l : List Bk) (o : List (ByteArray × Nat)) : List Gv := (l.zip o).map fun p => ⟨p.1.key, p.2.1, (p.2.2 : Int)⟩
theorem tkn_R {b : Bk} {c : ByteArray} {u : Nat} : ∀ (l : List Bk) (st : List (ByteArray × Nat)), takenR l (gvO l st) b (c, (u : Int)) = tknW (l.map wnB) st (wnB b) c u
  | [], st => by unfold takenR tknW; simp
  | x :: l, [] => by unfold takenR tknW gvO; simp
  | x :: l, p :: st => by
    have ih := tkn_R (b := b) (c := c) (u := u) l st
    unfold takenR tknW gvO at ih ⊢
    simp only [List.zip_cons_cons, List.map_cons, List.any_cons]
    rw [ih]
    congr 1
    unfold meetB meetW mtW wnB
    rw [Bool.eq_iff_iff]
    obtain ⟨p1, p2⟩ := p
    simp only [Bool.and_eq_true, decide_eq_true_eq, beq_iff_eq, Prod.mk.injEq]
    constructor
    · rintro ⟨⟨h1, h2⟩, h3, h4⟩
      exact ⟨⟨ba_ext h1, by omega⟩, h4, h3⟩
    · rintro ⟨⟨h1, h2⟩, h3, h4⟩
      exact ⟨⟨congrArg ByteArray.toList h1, by omega⟩, h4, h3⟩
def dcG (b : Bk) (k : ByteArray × Nat × Nat) : Gv := ⟨b.key, k.1, (k.2.2 : Int)⟩
theorem ch_units {sl : List Sk} {l : List Bk} {st : List (ByteArray × Nat)} {b : Bk} (c : ByteArray) (s : Nat) : chF l (gvO l st) b (unitsF sl c 0) = (((List.range' 1 (capB sl c)).filter fun u => !tknW (l.map wnB) st (wnB b) c u).map fun u => (c, s, u)).map (dcG b) := by
  unfold chF unitsF
  rw [List.drop_zero, List.filter_map, List.map_map, List.range'_eq_map_range, List.filter_map, List.map_map, List.map_map]
  have e : ((fun c => !takenR l (gvO l st) b c) ∘ fun i => (c, ((i + 1 : Nat) : Int))) = ((fun u => !tknW (l.map wnB) st (wnB b) c u) ∘ fun x => 1 + x) := by
    funext i
    simp only [Function.comp]
    rw [tkn_R, Nat.add_comm]
  rw [e]
  refine List.map_congr_left fun i _ => ?_
  simp only [Function.comp, dcG]
  rw [Nat.add_comm]
theorem ch_way {sl : List Sk} {l : List Bk} {st : List (ByteArray × Nat)} {b : Bk} : ∀ (ks : List ByteArray) (i : Nat), chF l (gvO l st) b (candsF sl ks) = (docN (l.map wnB) st (wnB b) (wayC (capB sl) i ks)).map (dcG b)
  | [], _ => rfl
  | c :: r, i => by
    have ih := ch_way (sl := sl) (l := l) (st := st) (b := b) r (i + 1)
    unfold candsF at ih ⊢
    rw [List.flatMap_cons, chF_app, ih, ch_units c i]
    rw [show wayC (capB sl) i (c :: r) = (c, i, capB sl c) :: wayC (capB sl) (i + 1) r from rfl]
    unfold docN
    rw [List.flatMap_cons, List.map_append]
/-- What the document finds free for a booking. -/
def dnB (cs : List Cs) (sl : List Sk) (l : List Bk) (st : List (ByteArray × Nat)) (b : Bk) : List (ByteArray × Nat × Nat) := docN (l.map wnB) st (wnB b) (chB cs sl b)
theorem dn_ch {cs : List Cs} {sl : List Sk} {l : List Bk} {st : List (ByteArray × Nat)} {b : Bk} : chF l (gvO l st) b (cdB cs sl b) = (dnB cs sl l st b).map (dcG b) := by
  unfold dnB chB chC
  rw [docN_filter]
  exact ch_way _ 0
theorem dn_mem {cs : List Cs} {sl : List Sk} {l : List Bk} {st : List (ByteArray × Nat)} {b : Bk} (hcl : Closed cs) (hlo : loopB cs cs.length = false) (hk : 0 ≤ ixP (csP b.cls) cs 0) {k : ByteArray × Nat × Nat} (h : k ∈ dnB cs sl l st b) : stepsV cs b.cls k.1 = (k.2.1 : Int) ∧ k.2.1 ≤ cs.length ∧ 1 ≤ k.2.2 ∧ k.2.2 ≤ capB sl k.1 := by
  unfold dnB docN at h
  rw [List.mem_flatMap] at h
  obtain ⟨k', h1, h2⟩ := h
  obtain ⟨u, h3, rfl⟩ := List.mem_map.1 h2
  have h4 := List.mem_range'_1.1 (List.mem_filter.1 h3).1
  have h5 : k' ∈ wayC (capB sl) 0 (clsF cs b) := (List.mem_filter.1 h1).1
  have h6 := way_mem _ _ _ h5
  have h7 := path_lenA hcl hlo hk
  have h8 : (clsF cs b).length ≤ cs.length := h7
  have h9 := steps_ch (k := k') hcl hlo hk h5
  refine ⟨h9, ?_, ?_, ?_⟩ <;> dsimp only <;> omega
/-- The document's search from a booking on. -/
def asgD (cs : List Cs) (sl : List Sk) (l : List Bk) (st : List (ByteArray × Nat)) (left : Nat) : Option (List (ByteArray × Nat)) := docF (l.map wnB) ((l.drop st.length).map (chB cs sl)) st left
theorem asgD_end {cs : List Cs} {sl : List Sk} {l : List Bk} {st : List (ByteArray × Nat)} {left : Nat} (h : l.length ≤ st.length) : asgD cs sl l st left = if left = 0 then some st else none := by
  unfold asgD
  rw [List.drop_eq_nil_of_le h]; rfl
theorem asgD_at {cs : List Cs} {sl : List Sk} {l : List Bk} {st : List (ByteArray × Nat)} {left : Nat} {b : Bk} (h : l[st.length]? = some b) : asgD cs sl l st left = docS st left (fun k => asgD cs sl l (st ++ [(k.1, k.2.2)]) (left - k.2.1)) (dnB cs sl l st b) [] := by
  obtain ⟨hi, e⟩ := List.getElem?_eq_some_iff.1 h
  have hw : (l.map wnB).getD st.length (0, 0) = wnB b := by
    rw [List.getD_eq_getElem?_getD, List.getElem?_map, h]; rfl
  unfold asgD
  rw [List.drop_eq_getElem_cons hi, e, List.map_cons, docF, hw]
  unfold dnB
  congr 1
  funext k
  rw [List.length_append, List.length_singleton]
section
variable {α β : Type} [DecidableEq α] {st : List (α × Nat)} {left : Nat} {g : α × Nat × Nat → Option β} {dl : List (α × Nat × Nat)} {j : Nat} {k : α × Nat × Nat} {fr : List α}
theorem docS_skip1 (h : dl[j]? = some k) (h2 : left < k.2.1 ∨ ((k.1, k.2.2) ∉ st ∧ k.1 ∈ fr)) : docS st left g (dl.drop j) fr = docS st left g (dl.drop (j + 1)) fr := by
  obtain ⟨hj, rfl⟩ := List.getElem?_eq_some_iff.1 h
  rw [List.drop_eq_getElem_cons hj, docS, if_pos h2]
theorem docS_got {o : β} (h : dl[j]? = some k) (h2 : ¬ (left < k.2.1 ∨ ((k.1, k.2.2) ∉ st ∧ k.1 ∈ fr))) (hg : g k = some o) : docS st left g (dl.drop j) fr = some o := by
  obtain ⟨hj, rfl⟩ := List.getElem?_eq_some_iff.1 h
  rw [List.drop_eq_getElem_cons hj, docS, if_neg h2, hg]
/-- The classes of which one that nobody had has been tried. -/
def docR (st : List (α × Nat)) (k : α × Nat × Nat) (fr : List α) : List α := if (k.1, k.2.2) ∈ st then fr else k.1 :: fr
theorem docR_mem {c : α} : c ∈ docR st k fr ↔ c ∈ fr ∨ (c = k.1 ∧ (k.1, k.2.2) ∉ st) := by
  unfold docR
  by_cases h : (k.1, k.2.2) ∈ st
  · rw [if_pos h]
    exact ⟨.inl, fun h2 => h2.elim id fun h3 => absurd h h3.2⟩
  · rw [if_neg h, List.mem_cons]
    exact ⟨fun h2 => h2.elim (fun h3 => .inr ⟨h3, h⟩) .inl, fun h2 => h2.elim .inr fun h3 => .inl h3.1⟩
theorem docS_next (h : dl[j]? = some k) (h2 : ¬ (left < k.2.1 ∨ ((k.1, k.2.2) ∉ st ∧ k.1 ∈ fr))) (hg : g k = none) : docS st left g (dl.drop j) fr = docS st left g (dl.drop (j + 1)) (docR st k fr) := by
  obtain ⟨hj, rfl⟩ := List.getElem?_eq_some_iff.1 h
  rw [List.drop_eq_getElem_cons hj, docS, if_neg h2, hg]; rfl
end
theorem docS_end {β : Type} {st : List (ByteArray × Nat)} {left : Nat} {g : ByteArray × Nat × Nat → Option β} {dl : List (ByteArray × Nat × Nat)} {j : Nat} {fr : List ByteArray} (h : dl.length ≤ j) : docS st left g (dl.drop j) fr = none := by
  rw [List.drop_eq_nil_of_le h]; rfl
theorem gvO_snoc {l : List Bk} {st : List (ByteArray × Nat)} {b : Bk} {k : ByteArray × Nat} (h : l[st.length]? = some b) : gvO l (st ++ [k]) = gvO l st ++ [⟨b.key, k.1, (k.2 : Int)⟩] := by
  obtain ⟨hi, e⟩ := List.getElem?_eq_some_iff.1 h
  unfold gvO
  have e1 : l = l.take st.length ++ b :: l.drop (st.length + 1) := by
    rw [← e, ← List.drop_eq_getElem_cons hi, List.take_append_drop]
  have hl : (l.take st.length).length = st.length := by rw [List.length_take]; omega
  have e2 : l.zip (st ++ [k]) = (l.take st.length).zip st ++ [(b, k)] := by
    conv => lhs; rw [e1]
    rw [List.zip_append hl, List.zip_cons_cons, List.zip_nil_right]
  have e3 : l.zip st = (l.take st.length).zip st := by
    conv => lhs; rw [e1]
    have := List.zip_append (r₁ := b :: l.drop (st.length + 1)) (r₂ := ([] : List (ByteArray × Nat))) hl
    rw [List.append_nil] at this
    rw [this]; simp
  rw [e2, e3, List.map_append]; rfl
theorem gvO_len {l : List Bk} {st : List (ByteArray × Nat)} (h : st.length ≤ l.length) : (gvO l st).length = st.length := by
  unfold gvO
  rw [List.length_map, List.length_zip]; omega
/-- The end of a search holds as many as there are bookings. -/
theorem docF_len {ws : List Wn} : ∀ (css : List (List (CdW ByteArray))) (st : List (ByteArray × Nat)) (left : Nat) (o : List (ByteArray × Nat)), docF ws css st left = some o → o.length = st.length + css.length
  | [], st, left, o, h => by
    unfold docF at h
    split at h
    · cases h; rfl
    · cases h
  | cs :: r, st, left, o, h => by
    have hS : ∀ (dl : List (ByteArray × Nat × Nat)) (fr : List ByteArray), docS st left (fun k => docF ws r (st ++ [(k.1, k.2.2)]) (left - k.2.1)) dl fr = some o → o.length = st.length + (r.length + 1) := by
      intro dl
      induction dl with
      | nil => intro fr h; cases h
      | cons k dl ih =>
        intro fr h
        unfold docS at h
        split at h
        · exact ih _ h
        · split at h
          · rename_i o' ho'
            cases h
            have := docF_len r _ _ _ ho'
            rw [List.length_append, List.length_singleton] at this
            omega
          · exact ih _ h
    unfold docF at h
    exact hS _ _ h
theorem asgD_len {cs : List Cs} {sl : List Sk} {l : List Bk} {st : List (ByteArray × Nat)} {left : Nat} {o : List (ByteArray × Nat)} (hl : st.length ≤ l.length) (h : asgD cs sl l st left = some o) : o.length = l.length := by
  have := docF_len _ _ _ _ h
  rw [List.length_map, List.length_drop] at this
  omega
theorem asgF_D {cs : List Cs} {sl : List Sk} {l : List Bk} {n : Nat} : asgF cs sl l n = asgD cs sl l [] n := rfl
theorem asgO_len {cs : List Cs} {sl : List Sk} {l : List Bk} {o : List (ByteArray × Nat)} (h : asgO cs sl l = some o) : o.length = l.length := by
  unfold asgO at h
  obtain ⟨n, _, hn⟩ := List.exists_of_findSome?_eq_some h
  exact asgD_len (Nat.zero_le _) (asgF_D.symm.trans hn)
end Go.Proofs.YtempjmpfdniecaaGreatDoor
namespace Go.Proofs.YtempjmpfdniecaaGreatDoor
open Go.RowKit
def hourFr (hs : List Int) (d : Int) : Int := d * 1440 + frAt hs (d % 7).toNat
def hourTo (hs : List Int) (d : Int) : Int := d * 1440 + toAt hs (d % 7).toNat
end Go.Proofs.YtempjmpfdniecaaGreatDoor
namespace Go.Proofs.YtempjmpfdniecaaGreatDoor
open Go.RowKit
/-- The next opening from day d on; n days are left. -/
def nextFrom (hs : List Int) (at_ : Int) : Nat → Int → Option Int
  | 0, _ => none
  | n + 1, d => if max at_ (hourFr hs d) < hourTo hs d then some (max at_ (hourFr hs d)) else nextFrom hs at_ n (d + 1)
end Go.Proofs.YtempjmpfdniecaaGreatDoor
namespace Go.Proofs.YtempjmpfdniecaaGreatDoor
def frD (hs : List Int) (d : Int) : Int := frAt hs (d % 7).toNat
def toD (hs : List Int) (d : Int) : Int := toAt hs (d % 7).toNat
theorem hourFr_eq (hs : List Int) (d : Int) : hourFr hs d = d * 1440 + frD hs d := rfl
theorem hourTo_eq (hs : List Int) (d : Int) : hourTo hs d = d * 1440 + toD hs d := rfl
section
variable {hs : List Int} {at_ : Int}
theorem never (h : ∀ e, ¬ frD hs e < toD hs e) : ∀ (n : Nat) (d : Int), nextFrom hs at_ n d = none
  | 0, _ => rfl
  | n + 1, d => by
    have h1 := h d
    rw [nextFrom, if_neg (by rw [hourFr_eq, hourTo_eq]; omega)]
    exact never h n (d + 1)
end
end Go.Proofs.YtempjmpfdniecaaGreatDoor
namespace Go.Proofs.YtempjmpfdniecaaGreatDoor
open Go.RowKit
theorem ix_dec {α : Type} {p : α → Bool} {l : List α} : decide (0 ≤ ixP p l 0) = l.any p := ix_any
end Go.Proofs.YtempjmpfdniecaaGreatDoor
namespace Go.Proofs.YtempjmpfdniecaaGreatDoor
open Go.RowKit
theorem gfilt_at {α : Type} {p : α → Bool} {l : List α} {i : Nat} {x : α} (h : l[i]? = some x) : (l.take (i + 1)).filter p = (l.take i).filter p ++ (if p x = true then [x] else []) := by
  rw [List.take_add_one, h, List.filter_append]
  by_cases hp : p x = true
  · rw [if_pos hp, Option.toList_some, List.filter_cons_of_pos hp]; rfl
  · rw [if_neg hp, Option.toList_some, List.filter_cons_of_neg hp]; rfl
/-- Right bookings have classes that there are. -/
theorem gcheckE_ok {cs : List Cs} {l : List Bk} (h : checkE cs l = 0) : classesE cs = 0 ∧ formE l = 0 ∧ ∀ b ∈ l, keysE cs [b.cls] = 0 := by
  unfold checkE firstE at h
  by_cases h1 : classesE cs = 0
  · rw [if_pos h1] at h
    have h2 : classedE cs l = 0 := by
      unfold firstE at h
      by_cases e : classedE cs l = 0
      · exact e
      · rw [if_neg e] at h; exact h
    unfold classedE at h2
    by_cases h3 : formE l = 0
    · rw [if_neg (by rw [h3]; decide)] at h2
      refine ⟨h1, h3, fun b hb => ?_⟩
      rw [keysE_one, h1]
      have h4 : noB cs b.cls = false := by
        cases hn : noB cs b.cls with
        | false => rfl
        | true =>
          rw [if_pos (List.any_eq_true.2 ⟨b, hb, hn⟩)] at h2
          cases h2
      unfold noB at h4
      rw [h4]; rfl
    · rw [if_pos h3] at h2; exact absurd h2 h3
  · rw [if_neg h1] at h; exact absurd h h1
/-- A right stock has at most a hundred vehicles of a class. -/
theorem many_le {cs : List Cs} {sl : List Sk} (h : stockE cs sl = 0) (k : ByteArray) : manyV sl k ≤ 100 := by
  have hall : ∀ x ∈ sl, x.many ≤ 100 := fun x hx => by
    unfold stockE firstE at h
    by_cases h1 : classesE cs = 0
    · rw [if_pos h1] at h
      unfold firstE at h
      by_cases h2 : 30 < sl.length
      · rw [if_pos h2] at h; cases h
      · rw [if_neg h2] at h
        have h3 : scanE (skE cs) none sl = 0 := by
          by_cases e : scanE (skE cs) none sl = 0
          · exact e
          · rw [if_neg e] at h; exact h
        obtain ⟨q, hq⟩ := scanE_all h3 x hx
        unfold skE at hq
        repeat (split at hq; · cases hq)
        rename_i h4 h5 h6
        simp [inB] at h6
        omega
    · rw [if_neg h1] at h; exact absurd h h1
  clear h
  induction sl with
  | nil => show (0 : Int) ≤ 100; omega
  | cons x r ih =>
    unfold manyV
    split
    · exact hall x (List.mem_cons_self ..)
    · exact ih fun y hy => hall y (List.mem_cons_of_mem _ hy)
end Go.Proofs.YtempjmpfdniecaaGreatDoor
namespace Go.Proofs.YtempjmpfdniecaaGreatDoor
open Go.RowKit
structure ChS where
  A : Option Addr
  n : Nat
  c : Nat
  l : List (CdW ByteArray)
def cdEnc (k : CdW ByteArray) : List Value := [.string k.1, .int .i64 (k.2.1 : Int), .int .i64 (k.2.2 : Int)]
theorem cd_len (k : CdW ByteArray) : (cdEnc k).length = 3 := rfl
def csnEnc (x : ChS) : List Value := [.slice x.A x.n x.c]
theorem csn_len (x : ChS) : (csnEnc x).length = 1 := rfl
def Chs (T : TypeId) (cx : List ChS) (w : World) : Prop := ∀ x ∈ cx, SlT cdEnc 3 T w x.A x.n x.l
theorem Chs.lasts {N : Nat} {row : Option Nat} {Tt : List TypeId} {T : TypeId} {cx : List ChS} (hT : Tt.contains T = true) : Lasts2 N row Tt (Chs T cx) := lasts_all fun _ _ => SlT.lasts2 hT
theorem Chs.grow {T : TypeId} {cx : List ChS} {w w' : World} (h : Chs T cx w) (hg : w.grownBy w' none) : Chs T cx w' := fun x hx => (h x hx).grow0 hg
def ownC (T : TypeId) (x : ChS) : Own := ⟨.slice x.A x.n x.c, T, 3, x.n, x.l.flatMap cdEnc⟩
def famC (T : TypeId) (cx : List ChS) : List Own := cx.map (ownC T)
section
variable {c : Cx} {K : World → Prop} {L : List (Nat × TypeId × List Value)} {O O' F : List Own} {X : List (World → Prop)} {w : World}
theorem Mem.permO (h : Mem c K L O X w) (hp : O.Perm O') : Mem c K L O' X w := ⟨h.g, h.k, h.b, h.nd, fun r hr => h.o r (hp.mem_iff.2 hr), fun r hr => h.od r (hp.mem_iff.2 hr), (hp.pairwise_iff (fun hr g hg e => hr g e hg)).1 h.oo, h.x, h.kk, h.l, h.rs⟩
theorem Mem.pickT (h : Mem c K L (O ++ F) X w) (ls os xs : List Nat) (hl : allNe ls = true) (ho : allNe os = true) : Mem c K (pickI L ls) (pickI O os ++ F) (pickI X xs) w := by
  have h1 := (h.pickL ls hl).pickX xs
  have hs : ∀ x ∈ pickI O os ++ F, x ∈ O ++ F := fun x hx => by
    rcases List.mem_append.1 hx with hx | hx
    · obtain ⟨i, _, hi⟩ := pickI_mem hx
      exact List.mem_append_left _ (List.mem_of_getElem? hi)
    · exact List.mem_append_right _ hx
  refine ⟨h1.g, h1.k, h1.b, h1.nd, fun r hr => h1.o r (hs r hr), fun r hr => h1.od r (hs r hr), ?_, h1.x, h1.kk, h1.l, h1.rs⟩
  obtain ⟨p1, p2, p3⟩ := List.pairwise_append.1 h1.oo
  refine List.pairwise_append.2 ⟨pickI_pair (fun _ _ hr g hg e => hr g e hg) p1 ho, p2, fun x hx y hy => ?_⟩
  obtain ⟨i, _, hi⟩ := pickI_mem hx
  exact p3 x (List.mem_of_getElem? hi) y hy
/-- A row comes into the family. -/
theorem Mem.famSnoc {T : TypeId} {cx : List ChS} {x : ChS} {o : Own} (h : Mem c K L ([ownC T x, o] ++ famC T cx) X w) : Mem c K L ([o] ++ famC T (cx ++ [x])) X w := by
  refine h.permO ?_
  unfold famC
  rw [List.map_append]
  show (ownC T x :: ([o] ++ cx.map (ownC T))).Perm ([o] ++ (cx.map (ownC T) ++ [ownC T x]))
  rw [← List.append_assoc]
  exact (List.perm_append_singleton _ _).symm
theorem Mem.famChs {T : TypeId} {cx : List ChS} (h : Mem c K L (O ++ famC T cx) X w) (hl : ∀ x ∈ cx, x.l.length = x.n) : Chs T cx w := fun x hx => SlT.ofOwn cd_len (h.o _ (List.mem_append_right _ (List.mem_map.2 ⟨x, hx, rfl⟩))) (hl x hx)
end
theorem way_get {many : ByteArray → Nat} : ∀ (ks : List ByteArray) (i j : Nat) (x : ByteArray), ks[j]? = some x → (wayC many i ks)[j]? = some (x, i + j, many x)
  | [], _, _, _, h => by cases h
  | c :: r, i, 0, x, h => by
    cases h; rfl
  | c :: r, i, j + 1, x, h => by
    unfold wayC
    rw [List.getElem?_cons_succ, way_get r (i + 1) j x (by simpa using h), show i + 1 + j = i + (j + 1) by omega]
theorem way_len {many : ByteArray → Nat} : ∀ (ks : List ByteArray) (i : Nat), (wayC many i ks).length = ks.length
  | [], _ => rfl
  | c :: r, i => by unfold wayC; rw [List.length_cons, List.length_cons, way_len r]
/-- The choices among the first classes of a way. -/
def chT (sl : List Sk) (ks : List ByteArray) (j : Nat) : List (CdW ByteArray) := ((wayC (capB sl) 0 ks).take j).filter fun k => decide (0 < k.2.2)
theorem chT_at {sl : List Sk} {ks : List ByteArray} {j : Nat} {x : ByteArray} (h : ks[j]? = some x) : chT sl ks (j + 1) = chT sl ks j ++ (if 0 < capB sl x then [(x, j, capB sl x)] else []) := by
  unfold chT
  rw [gfilt_at (way_get (many := capB sl) ks 0 j x h), Nat.zero_add]
  dsimp only
  by_cases h0 : 0 < capB sl x
  · rw [if_pos h0, if_pos (by simpa using h0)]
  · rw [if_neg h0, if_neg (by simpa using h0)]
theorem chT_end {sl : List Sk} {ks : List ByteArray} {j : Nat} (h : ks.length ≤ j) : chT sl ks j = chC (capB sl) ks := by
  unfold chT chC
  rw [List.take_of_length_le (by rw [way_len]; exact h)]
theorem chT_len (sl : List Sk) (ks : List ByteArray) (j : Nat) : (chT sl ks j).length ≤ ks.length := by
  unfold chT
  have h1 := List.length_filter_le (fun k : CdW ByteArray => decide (0 < k.2.2)) ((wayC (capB sl) 0 ks).take j)
  rw [List.length_take, way_len] at h1
  omega
def lenN (css : List (List (CdW ByteArray))) (j : Nat) : Nat := (css.getD j []).length
def coLt (css : List (List (CdW ByteArray))) (a b : Int) : Bool := decide (cmpI (lenN css a.toNat : Int) (lenN css b.toNat : Int) < 0)
def coLtN (css : List (List (CdW ByteArray))) (a b : Nat) : Bool := decide (cmpI (lenN css a : Int) (lenN css b : Int) < 0)
def ordN (css : List (List (CdW ByteArray))) (n : Nat) : List Nat := isort (coLtN css) (List.range n)
theorem ordN_eq (css : List (List (CdW ByteArray))) (n : Nat) : isort (coLt css) ((List.range n).map fun k => ((k : Nat) : Int)) = (ordN css n).map fun k => ((k : Nat) : Int) := isort_mapF (fun x y => by unfold coLt coLtN; rw [Int.toNat_natCast, Int.toNat_natCast]) _
theorem ordN_perm (css : List (List (CdW ByteArray))) (n : Nat) : (ordN css n).Perm (List.range n) := isort_perm _ _
def itB (cs : List Cs) (sl : List Sk) (l : List Bk) (j : Nat) : ItW ByteArray := (wnB (bkAt l j), chB cs sl (bkAt l j))
theorem it_range (cs : List Cs) (sl : List Sk) (l : List Bk) : (List.range l.length).map (itB cs sl l) = (l.map wnB).zip (l.map (chB cs sl)) := by
  have h := congrArg (List.map (fun b => (wnB b, chB cs sl b))) (range_bk l)
  rw [List.map_map] at h
  rw [List.zip_map']
  exact h
theorem it_perm {cs : List Cs} {sl : List Sk} {l : List Bk} {o : List Nat} (h : o.Perm (List.range l.length)) : (o.map (itB cs sl l)).Perm ((l.map wnB).zip (l.map (chB cs sl))) := by
  rw [← it_range]
  exact h.map _
/-- The bookings that have classes. -/
def clAt (cl : List ByteArray) (j : Nat) : ByteArray := (cl[j]?).getD ⟨#[]⟩
def plB (l : List Bk) (cl : List ByteArray) (o : List Nat) : List (ByteArray × Wn) := o.map fun j => (clAt cl j, wnB (bkAt l j))
theorem plB_set {l : List Bk} {cl : List ByteArray} {o : List Nat} {i : Nat} {x : ByteArray} (h : i ∉ o) : plB l (cl.set i x) o = plB l cl o := by
  unfold plB clAt
  refine List.map_congr_left fun j hj => ?_
  rw [List.getElem?_set_ne (show i ≠ j from fun e => h (by rw [e]; exact hj))]
theorem nodup_take {o : List Nat} (hn : o.Nodup) {k i : Nat} (h : o[k]? = some i) : i ∉ o.take k := fun hin => by
  obtain ⟨q, hq⟩ := List.getElem?_of_mem hin
  rw [List.getElem?_take] at hq
  split at hq
  · have h1 := (List.getElem?_eq_some_iff.1 hq).1
    have h2 := (List.getElem?_eq_some_iff.1 h).1
    exact absurd (((List.getElem?_eq_some_iff.1 hq).2).trans ((List.getElem?_eq_some_iff.1 h).2).symm) (List.pairwise_iff_getElem.1 hn q k h1 h2 (by omega))
  · cases hq
theorem plB_snoc {l : List Bk} {cl : List ByteArray} {o : List Nat} {k i : Nat} {x : ByteArray} (h : o[k]? = some i) (hn : o.Nodup) (hi : i < cl.length) : plB l (cl.set i x) (o.take (k + 1)) = plB l cl (o.take k) ++ [(x, wnB (bkAt l i))] := by
  rw [List.take_add_one, h, Option.toList_some]
  have e := plB_set (l := l) (cl := cl) (x := x) (nodup_take hn h)
  unfold plB at e ⊢
  rw [List.map_append, e, List.map_cons, List.map_nil]
  congr 3
  unfold clAt
  rw [List.getElem?_set_self hi]; rfl
def nEnc (k : Nat) : List Value := [.int .i64 (k : Int)]
theorem n_len (k : Nat) : (nEnc k).length = 1 := rfl
theorem n_flat (l : List Nat) : (l.map fun k => ((k : Nat) : Int)).flatMap iEnc = l.flatMap nEnc := by
  rw [List.flatMap_map]; rfl
theorem tl_dec (a b : ByteArray) : (a.toList == b.toList) = decide (a = b) := by
  rw [Bool.eq_iff_iff, beq_iff_eq, decide_eq_true_eq]
  exact ⟨ba_ext, fun h => by rw [h]⟩
theorem clAt_get {cl : List ByteArray} {j : Nat} {x : ByteArray} (h : cl[j]? = some x) : clAt cl j = x := by unfold clAt; rw [h]; rfl
theorem bkAt_get {l : List Bk} {j : Nat} {x : Bk} (h : l[j]? = some x) : bkAt l j = x := by unfold bkAt; rw [h]; rfl
theorem timC_at {l : List Bk} {cl : List ByteArray} {o : List Nat} {k j : Nat} {x : Wn} {c : ByteArray} (h : o[k]? = some j) : timC (plB l cl (o.take (k + 1))) x c = timC (plB l cl (o.take k)) x c ++ (if (decide (clAt cl j = c) && mtW (wnB (bkAt l j)) x) = true then [wnB (bkAt l j)] else []) := by
  unfold timC plB
  rw [List.take_add_one, h, Option.toList_some, List.map_append, List.filter_append, List.map_append]
  congr 1
  rw [List.map_cons, List.map_nil, List.filter_cons]
  dsimp only
  split <;> rfl
theorem timC_ok {l : List Bk} {cl : List ByteArray} {o : List Nat} {x : Wn} {c : ByteArray} (ht : BkTim l) (ho : ∀ j ∈ o, j < l.length) : TimOk (timC (plB l cl o) x c) := fun t h => by
  unfold timC plB at h
  obtain ⟨p, h1, rfl⟩ := List.mem_map.1 h
  obtain ⟨j, h2, rfl⟩ := List.mem_map.1 (List.mem_filter.1 h1).1
  obtain ⟨b, hb⟩ : ∃ b, l[j]? = some b := ⟨_, List.getElem?_eq_getElem (ho j h2)⟩
  dsimp only
  rw [bkAt_get hb]
  exact ht b (List.mem_of_getElem? hb)
theorem timC_len (l : List Bk) (cl : List ByteArray) (o : List Nat) (x : Wn) (c : ByteArray) : (timC (plB l cl o) x c).length ≤ o.length := by
  unfold timC plB
  rw [List.length_map]
  have := List.length_filter_le (fun p : ByteArray × Wn => decide (p.1 = c) && mtW p.2 x) (o.map fun j => (clAt cl j, wnB (bkAt l j)))
  rwa [List.length_map] at this
theorem restI_W {items : List (ItW ByteArray)} : restI items = restW (items.map Prod.snd) := by
  induction items with
  | nil => rfl
  | cons it r ih => unfold restI restW; rw [List.map_cons, ih]
theorem restW_at {css : List (List (CdW ByteArray))} {n : Nat} {cs : List (CdW ByteArray)} (h : css[n]? = some cs) : restW (css.drop n) = headW cs + restW (css.drop (n + 1)) := by
  obtain ⟨hi, rfl⟩ := List.getElem?_eq_some_iff.1 h
  rw [List.drop_eq_getElem_cons hi, restW]
theorem restW_le {M : Nat} : ∀ {css : List (List (CdW ByteArray))}, (∀ cs ∈ css, ∀ k ∈ cs, k.2.1 ≤ M) → restW css ≤ css.length * M
  | [], _ => Nat.zero_le _
  | cs :: r, h => by
    have ih := restW_le (css := r) fun c hc => h c (List.mem_cons_of_mem _ hc)
    have h0 : headW cs ≤ M := by
      unfold headW
      cases cs with
      | nil => exact Nat.zero_le _
      | cons k t => exact h _ (List.mem_cons_self ..) k (List.mem_cons_self ..)
    rw [restW, List.length_cons, Nat.add_mul]
    omega
def restR (css : List (List (CdW ByteArray))) (j n : Nat) : Int := if j ≤ n then ((restW (css.drop n) : Nat) : Int) else 0
def restL (css : List (List (CdW ByteArray))) (j : Nat) : List Int := (List.range (css.length + 1)).map (restR css j)
theorem restL_len (css : List (List (CdW ByteArray))) (j : Nat) : (restL css j).length = css.length + 1 := by unfold restL; simp
theorem restL_at {css : List (List (CdW ByteArray))} {j n : Nat} (h : n ≤ css.length) : (restL css j)[n]? = some (restR css j n) := by
  unfold restL
  rw [List.getElem?_map, List.getElem?_range (by omega)]; rfl
theorem restL_zero (css : List (List (CdW ByteArray))) : restL css css.length = List.replicate (css.length + 1) 0 := by
  refine List.ext_getElem? fun n => ?_
  unfold restL
  rw [List.getElem?_map, List.getElem?_replicate]
  by_cases h : n < css.length + 1
  · rw [List.getElem?_range h, if_pos h, Option.map_some]
    congr 1
    unfold restR
    split
    · rw [List.drop_eq_nil_of_le (by assumption)]; rfl
    · rfl
  · rw [if_neg h, List.getElem?_eq_none (by simpa using h)]; rfl
theorem restL_set {css : List (List (CdW ByteArray))} {j : Nat} (hj : j < css.length) : (restL css (j + 1)).set j ((restW (css.drop j) : Nat) : Int) = restL css j := by
  refine List.ext_getElem? fun n => ?_
  by_cases e : j = n
  · subst e
    rw [List.getElem?_set_self (by rw [restL_len]; omega), restL_at (by omega)]
    unfold restR
    rw [if_pos (Nat.le_refl _)]
  · rw [List.getElem?_set_ne e]
    rcases Nat.lt_or_ge css.length n with h | h
    · rw [List.getElem?_eq_none (by rw [restL_len]; omega), List.getElem?_eq_none (by rw [restL_len]; omega)]
    · rw [restL_at h, restL_at h]
      unfold restR
      by_cases h1 : j ≤ n
      · rw [if_pos h1, if_pos (by omega)]
      · rw [if_neg h1, if_neg (by omega)]
section
variable {F : List (ByteArray × Wn) → Wn → CdW ByteArray → Bool} {items r : List (ItW ByteArray)} {pl : List (ByteArray × Wn)} {used : Nat} {best : Option Nat}
theorem bb_stop (h : stopW best (used + restI items) = true) : bbW F items pl used best = best := by
  unfold bbW; rw [if_pos h]
theorem bb_end (h : stopW best (used + restI ([] : List (ItW ByteArray))) = false) : bbW F [] pl used best = some used := by
  unfold bbW; rw [if_neg (by rw [h]; decide)]
/-- One choice. -/
def bbS (F : List (ByteArray × Wn) → Wn → CdW ByteArray → Bool) (r : List (ItW ByteArray)) (pl : List (ByteArray × Wn)) (x : Wn) (used : Nat) (best : Option Nat) (k : CdW ByteArray) : Option Nat := if F pl x k = true then bbW F r (pl ++ [(k.1, x)]) (used + k.2.1) best else best
theorem bb_at {it : ItW ByteArray} (h : stopW best (used + restI (it :: r)) = false) : bbW F (it :: r) pl used best = it.2.foldl (bbS F r pl it.1 used) best := by
  unfold bbW; rw [if_neg (by rw [h]; decide)]; rfl
end
theorem foldl_at {α β : Type} {f : β → α → β} {l : List α} {j : Nat} {x : α} {b : β} (h : l[j]? = some x) : (l.drop j).foldl f b = (l.drop (j + 1)).foldl f (f b x) := by
  obtain ⟨hj, rfl⟩ := List.getElem?_eq_some_iff.1 h
  rw [List.drop_eq_getElem_cons hj, List.foldl_cons]
theorem foldl_end {α β : Type} {f : β → α → β} {l : List α} {j : Nat} {b : β} (h : l.length ≤ j) : (l.drop j).foldl f b = b := by
  rw [List.drop_eq_nil_of_le h]; rfl
def bestI : Option Nat → Int
  | none => -1
  | some n => (n : Int)
theorem stopW_iff {b : Option Nat} {n : Nat} : (decide (0 ≤ bestI b) && decide (bestI b ≤ (n : Int))) = stopW b n := by
  cases b with
  | none => rfl
  | some m =>
    show (decide (0 ≤ (m : Int)) && decide ((m : Int) ≤ (n : Int))) = decide (m ≤ n)
    rw [Bool.eq_iff_iff]
    simp only [Bool.and_eq_true, decide_eq_true_eq]
    omega
theorem plB_take {l : List Bk} {a b : List ByteArray} {o : List Nat} {k : Nat} (h : plB l a (o.take (k + 1)) = plB l b (o.take (k + 1))) : plB l a (o.take k) = plB l b (o.take k) := by
  have h2 := congrArg (List.take k) h
  unfold plB at h2 ⊢
  rw [← List.map_take, ← List.map_take, List.take_take, Nat.min_eq_left (Nat.le_succ k)] at h2
  exact h2
theorem cx_at {cs : List Cs} {sl : List Sk} {l : List Bk} {cx : List ChS} (h : cx.map ChS.l = l.map (chB cs sl)) {i : Nat} {x : ChS} (hx : cx[i]? = some x) : x.l = chB cs sl (bkAt l i) := by
  have h2 := congrArg (fun z => z[i]?) h
  rw [List.getElem?_map, List.getElem?_map, hx] at h2
  cases hb : l[i]? with
  | none => rw [hb] at h2; cases h2
  | some b =>
    rw [hb] at h2
    rw [bkAt_get hb]
    exact Option.some.inj h2
theorem drop_map_at {cs : List Cs} {sl : List Sk} {l : List Bk} {od : List Nat} {k i : Nat} (h : od[k]? = some i) : (od.drop k).map (itB cs sl l) = itB cs sl l i :: (od.drop (k + 1)).map (itB cs sl l) := by
  obtain ⟨hk, rfl⟩ := List.getElem?_eq_some_iff.1 h
  rw [List.drop_eq_getElem_cons hk, List.map_cons]
theorem nd_set {l : List Bk} {cl : List ByteArray} {od : List Nat} {k i : Nat} {x : ByteArray} (hn : od.Nodup) (h : od[k]? = some i) : plB l (cl.set i x) (od.take k) = plB l cl (od.take k) := plB_set (nodup_take hn h)
def RwOk (cl : List ByteArray) (un : List Int) (st : List (ByteArray × Nat)) : Prop := cl.take st.length = st.map Prod.fst ∧ un.take st.length = st.map fun p => ((p.2 : Nat) : Int)
theorem RwOk.nil (cl : List ByteArray) (un : List Int) : RwOk cl un [] := ⟨rfl, rfl⟩
theorem RwOk.at {cl : List ByteArray} {un : List Int} {st : List (ByteArray × Nat)} (h : RwOk cl un st) {k : Nat} {p : ByteArray × Nat} (hk : st[k]? = some p) : cl[k]? = some p.1 ∧ un[k]? = some ((p.2 : Nat) : Int) := by
  have hlt := (List.getElem?_eq_some_iff.1 hk).1
  have h1 := congrArg (fun z => z[k]?) h.1
  have h2 := congrArg (fun z => z[k]?) h.2
  rw [List.getElem?_take_of_lt hlt, List.getElem?_map, hk] at h1 h2
  exact ⟨h1, h2⟩
theorem RwOk.set {cl : List ByteArray} {un : List Int} {st : List (ByteArray × Nat)} (h : RwOk cl un st) {i : Nat} (hi : st.length ≤ i) (x : ByteArray) (y : Int) : RwOk (cl.set i x) (un.set i y) st := by
  unfold RwOk
  rw [List.take_set_of_le hi, List.take_set_of_le hi]
  exact h
theorem RwOk.all {cl : List ByteArray} {un : List Int} {st : List (ByteArray × Nat)} (h : RwOk cl un st) (h1 : cl.length = st.length) (h2 : un.length = st.length) : cl = st.map Prod.fst ∧ un = st.map fun p => ((p.2 : Nat) : Int) := by
  have e1 := h.1
  have e2 := h.2
  rw [List.take_of_length_le (by omega)] at e1 e2
  exact ⟨e1, e2⟩
end Go.Proofs.YtempjmpfdniecaaGreatDoor
namespace Go.Proofs.YtempjmpfdniecaaGreatDoor
open Go.RowKit
theorem Mem.gainA {c : Cx} {K : World → Prop} {L : List (Nat × TypeId × List Value)} {O : List Own} {X : List (World → Prop)} {w w' : World} {g : Nat} {T : TypeId} {cs : List Value} (h : Mem c K L O X w) (hgr : w.grownBy w' none) (hN : w.heap.size ≤ g) (hb : Blk w' g T cs) : Mem c K ((g, T, cs) :: L) O X w' := by
  have h2 := h.grow hgr
  refine ⟨h2.g, h2.k, fun x hx => ?_, List.Pairwise.cons (fun y hy e => by have h3 := (h.b y hy).2.lt; have e2 : g = y.1 := e; omega) h.nd, h2.o, fun r hr x hx => ?_, h.oo, h2.x, h.kk, h.l, h.rs⟩
  · rcases List.mem_cons.1 hx with rfl | hx
    · exact ⟨Nat.le_trans h.g.size hN, hb⟩
    · exact h2.b x hx
  · rcases List.mem_cons.1 hx with rfl | hx
    · intro e
      have := ((h.o r hr).lt g e).2
      omega
    · exact h.od r hr x hx
theorem BlkX.lasts {N : Nat} {row : Option Nat} {Tt : List TypeId} {g : Nat} {T : TypeId} {cs : List Value} (hT : Tt.contains T = true) : Lasts2 N row Tt (fun w => Blk w g T cs) := ⟨fun _ _ h hx => hx.grown h (by simp), fun w _ r T2 c h1 h2 _ h4 hx => hx.grown h4 (fun e => by
  have e2 : g = r := Option.some.inj e
  subst e2
  unfold Blk at hx
  rw [h1] at hx
  injection hx with hx
  injection hx with _ hx _
  exact h2 (by rw [hx]; simpa using hT))⟩
section
variable {P : Program} {c : Cx} {ops : Array Oper} {Q : Exit → Act → World → Prop} {rest : List Oper} {S : List (Nat × Value)} {K : World → Prop} {L : List (Nat × TypeId × List Value)} {O : List Own} {X : List (World → Prop)} {d : Nat} {ty : TypeId} {pos : String} {aft : Array Edge} {ty2 : TypeId} {pos2 : String} {aft2 : Array Edge}
/-- A copy of a struct in a new block. -/
theorem wl_allocs {t : TypeId} {y : Operand} {n : Nat} {cs vs cs' : List Value} (hz : zeroCs P t = some cs) (hd : Nat.ble (d + 1) c.n = true) (hs : rowSz P t = some n) (hy : ∀ g, rd ((d, .pointer (some ⟨g, 0, none⟩)) :: S) y = some (.agg vs.toArray)) (hx : ∀ g, rd ((d, .pointer (some ⟨g, 0, none⟩)) :: S) (.tmp d) = some (.pointer (some ⟨g, 0, none⟩))) (h1 : vs.all (·.oneCell') = true) (hn : vs.length = n) (ho : Nat.ble (0 + n) cs.length = true) (hcs : splice cs 0 vs = cs')
    (h : ∀ g, WL P c ops Q rest ((d, .pointer (some ⟨g, 0, none⟩)) :: S) K ((g, t, cs') :: L) O X) : WL P c ops Q (⟨some d, .alloc t, ty, pos, aft, none⟩ :: ⟨none, .store t (.tmp d) y, ty2, pos2, aft2, none⟩ :: rest) S K L O X := by
  intro a w ha hm
  refine wpList_plain rfl fun K' hK => ?_
  unfold zeroCs at hz
  cases hi : P.info? t with
  | none => simp [hi] at hz
  | some inf =>
    cases hzz : inf.zero with
    | none => simp [hi, hzz] at hz
    | some z =>
      simp only [hi, hzz, Option.bind_some, Option.map_some, Option.some.injEq] at hz
      unfold Oper.wp
      have : (execOp a.eval ⟨some d, .alloc t, ty, pos, aft, none⟩).run P w = .ok (.value (.pointer (some ⟨w.heap.size, 0, none⟩))) (w.alloc (.cells cs.toArray t)) := by
        subst hz
        simp [execOp, Instr.alloc, zeroValue, typeInfo, hi, hzz, newVar, newRow]
      rw [this]
      refine hK _ _ ?_
      have ha2 := ha.put hd (.pointer (some ⟨w.heap.size, 0, none⟩))
      have hb := Blk.at_ w rfl t cs
      obtain ⟨dd, hu, hr, hi⟩ := run_row hs
      subst hcs
      refine wpList_store_blk rfl t (.tmp d) y rfl w.heap.size 0 t cs vs hb (ha2.eval (hx _)) (ha2.eval (hy _)) n hi hn (Nat.le_of_ble_eq_true ho) (by simpa using h1) fun w' hb' hg => ?_
      exact h _ _ _ ⟨ha2.size, ha2.val, ha2.df⟩ (hm.gainA (grow_own (grow_alloc (World.grownBy.refl w none) _) hg (fun k e => by cases e; exact Nat.le_refl _)) (Nat.le_refl _) hb')
theorem wl_buildSlice0 {t e : TypeId} {sz : Nat} (ht : P.underlying t = some (.slice e)) (hi : (P.info? e).map (fun i => i.size) = some sz) (hd : Nat.ble (d + 1) c.n = true)
    (h : ∀ g, WL P c ops Q rest ((d, .slice (some ⟨g, 0, none⟩) 0 0) :: S) K ((g, e, []) :: L) O X) : WL P c ops Q (⟨some d, .buildSlice t 0 #[], ty, pos, aft, none⟩ :: rest) S K L O X := by
  intro a w ha hm
  refine wpList_plain rfl fun K' hK => ?_
  unfold Oper.wp
  have : (execOp a.eval ⟨some d, .buildSlice t 0 #[], ty, pos, aft, none⟩).run P w = .ok (.value (.slice (some ⟨w.heap.size, 0, none⟩) 0 0)) (w.alloc (.cells #[] e)) := by
    cases hz : P.info? e with
    | none => rw [hz] at hi; cases hi
    | some inf =>
      simp [execOp, Instr.buildSlice, run_underlying ht, sizeOf, typeInfo, hz, newRow, Instr.fill]
      exact congrArg (fun z => w.alloc (Obj.cells z e)) (Array.eq_empty_of_size_eq_zero (by simp))
  rw [this]
  exact hK _ _ (h _ _ _ (ha.put hd _) (hm.new e []))
end
theorem fits_any (l : List Bk) (A : Option Addr) (nb cb : Nat) (Ao : Option Addr) (co : Nat) (od : List Nat) (Ac : Option Addr) (cc : Nat) (cl : List ByteArray) (CV UV RV : Value) (bs : Int) (g k i : Nat) (c : ByteArray) (st mm : Nat) (w : World) (hb : Blk w g 266 [.slice A nb cb, CV, .slice Ao nb co, .slice Ac nb cc, UV, RV, .int .i64 bs]) (hl : SlT bkEnc 6 92 w A nb l) (ho : SlT nEnc 1 3 w Ao nb od) (hc : SlT sgEnc 1 9 w Ac nb cl) (hk : k ≤ nb) (hi : i < nb) (hn : nb ≤ 1000) (hco : nb ≤ co) (hord : ∀ j ∈ od, j < nb) (htm : BkTim l) :
  Calls Tryz.prog 282 #[.pointer (some ⟨g, 0, none⟩), .int .i64 ((k : Nat) : Int), .int .i64 ((i : Nat) : Int), .agg #[.string c, .int .i64 ((st : Nat) : Int), .int .i64 ((mm : Nat) : Int)]] w (fun e w' => e = .returned (.bool (roomF (plB l cl (od.take k)) (wnB (bkAt l i)) (c, st, mm))) ∧ w.grownBy w' none) := by
 refine gw_enter ⟨84, w, none, []⟩ Tryz.func282 rfl Tryz.ntmps282 rfl (mem0 (X := [BlkOld w.heap.size none g 266 [.slice A nb cb, CV, .slice Ao nb co, .slice Ac nb cc, UV, RV, .int .i64 bs], SlOld bkEnc 6 92 w.heap.size none A nb l, SlOld nEnc 1 3 w.heap.size none Ao nb od, SlOld sgEnc 1 9 w.heap.size none Ac nb cl]) (allF_cons hb.old (allF_cons hl.old (allF_cons ho.old (allF_cons hc.old allF_nil)))) (allL_cons BlkOld.lasts (allL_cons SlOld.lasts (allL_cons SlOld.lasts (allL_cons SlOld.lasts allL_nil))))) ?_
 refine sr_ ?_
 have hlen := hl.len
 have hlen2 := ho.len
 have hlen3 := hc.len
 obtain ⟨b, off, hA, _, _⟩ := hl.get (by omega)
 subst hA
 obtain ⟨bo, oo, hA, _, _⟩ := ho.get (by omega)
 subst hA
 obtain ⟨bc, oc, hA, _, _⟩ := hc.get (by omega)
 subst hA
 obtain ⟨x, hx⟩ : ∃ x, l[i]? = some x := ⟨_, List.getElem?_eq_getElem (by omega)⟩
 obtain ⟨x0, x1, x2, x3, x4, x5⟩ := x
 have hbi : bkAt l i = ⟨x0, x1, x2, x3, x4, x5⟩ := bkAt_get hx
 have hwi : wnB (bkAt l i) = (x2, x3) := by rw [hbi]; rfl
 rw [hwi]
 refine wl_box rfl rfl rfl fun g1 => ?_
 refine sg_ rfl (nn_ (sr_ ?_))
 refine wl_buildSlice0 (e := 27) (sz := 2) (by kernel_rfl) (by kernel_rfl) rfl fun g2 => ?_
 refine sg_ rfl (nn_ (gw_seq (sr_ (mv_ rfl (wl_ov (ov_nilcheck rfl) rfl (fd_ fo266_2 rfl rfl ?_))))))
 refine wl_ov (ov_load (v := .slice (some ⟨bo, oo, none⟩) nb co) sc22 rfl (fun _ hm => (hm.fact 0 rfl).2) rfl) rfl ?_
 refine mv_ rfl ?_
 refine wl_ov (ov_sliceHi (hi := k) es22 rfl rfl rfl (by omega)) rfl ?_
 refine wl_ov (ov_len es22 rfl) rfl (mv_ rfl (nn_ (gw_block ?_)))
 refine gw_toOwn (sz := 2) (n := 0) 0 [1] rfl rfl rfl (by unfold maxLen; omega) ?_
 refine gw_loop (γ := Nat × Nat × Value) (fun (gq : Nat × Nat × Value) => gq.1 ≤ k ∧ (timC (plB l cl (od.take gq.1)) (x2, x3) c).length = gq.2.1) (fun (gq : Nat × Nat × Value) => [(0, .pointer (some ⟨g, 0, none⟩)), (2, .int .i64 ((i : Nat) : Int)), (7, .pointer (some ⟨g1, 0, none⟩)), (8, .bool false), (9, gq.2.2), (20, .slice (some ⟨bo, oo, none⟩) k co), (21, .int .i64 ((k : Nat) : Int)), (22, .int .i64 ((gq.1 : Nat) : Int))]) (fun (gq : Nat × Nat × Value) => fun _ => True) (fun (gq : Nat × Nat × Value) => [(g1, 268, [.string c, .int .i64 ((st : Nat) : Int), .int .i64 ((mm : Nat) : Int)])]) (fun (gq : Nat × Nat × Value) => [⟨gq.2.2, 27, 2, gq.2.1, (timC (plB l cl (od.take gq.1)) (x2, x3) c).flatMap wEnc⟩]) (fun (gq : Nat × Nat × Value) => [BlkOld w.heap.size none g 266 [.slice (some ⟨b, off, none⟩) nb cb, CV, .slice (some ⟨bo, oo, none⟩) nb co, .slice (some ⟨bc, oc, none⟩) nb cc, UV, RV, .int .i64 bs], SlOld bkEnc 6 92 w.heap.size none (some ⟨b, off, none⟩) nb l, SlOld nEnc 1 3 w.heap.size none (some ⟨bo, oo, none⟩) nb od, SlOld sgEnc 1 9 w.heap.size none (some ⟨bc, oc, none⟩) nb cl]) (fun (gq : Nat × Nat × Value) => k - gq.1) (0, 0, .slice (some ⟨g2, 0, none⟩) 0 0) ⟨Nat.zero_le _, rfl⟩ ⟨rfl, rfl, rfl, rfl, rfl, rfl, rfl, rfl, trivial⟩ (fun _ hm => hm.pick [0] [0] [0, 1, 2, 3] rfl rfl) ?_
 rintro ⟨j, q, v⟩ hinv
 replace hinv : j ≤ k ∧ (timC (plB l cl (od.take j)) (x2, x3) c).length = q := hinv
 dsimp only
 refine sr_ ?_
 obtain ⟨hj0, hq⟩ := hinv
 refine wl_ov (ov_lss rfl rfl) rfl (nn_ (gw_seq ?_))
 refine gw_cond rfl (fun hh => ?_) (fun hh => ?_)
 ·have hj : ((j : Nat) : Int) < ((k : Nat) : Int) := by simpa using hh
  clear hh
  refine gw_skip (nx_then (gw_seq (gw_block (sr_ ?_))))
  obtain ⟨o, hoj⟩ : ∃ x, od[j]? = some x := ⟨_, List.getElem?_eq_getElem (by omega)⟩
  have hob := hord o (List.mem_of_getElem? hoj)
  have hat := timC_at (l := l) (cl := cl) (x := (x2, x3)) (c := c) hoj
  have hql := timC_len l cl (od.take j) (x2, x3) c
  rw [List.length_take] at hql
  obtain ⟨y, hy⟩ : ∃ x, l[o]? = some x := ⟨_, List.getElem?_eq_getElem (by omega)⟩
  obtain ⟨y0, y1, y2, y3, y4, y5⟩ := y
  obtain ⟨ck, hck⟩ : ∃ x, cl[o]? = some x := ⟨_, List.getElem?_eq_getElem (by omega)⟩
  rw [clAt_get hck, bkAt_get hy] at hat
  refine wl_ov (ov_index (j := j) es22 rfl rfl (by omega)) rfl ?_
  refine wl_ov (ov_elem1 (k := 0) (v := .int .i64 ((o : Nat) : Int)) sc3 rfl (fun _ hm => (hm.fact 2 rfl).1) hoj rfl rfl) rfl ?_
  refine sg_ rfl (nn_ (gw_seq ?_))
  refine gd (fun wz => Blk wz g1 268 [.string c, .int .i64 ((st : Nat) : Int), .int .i64 ((mm : Nat) : Int)] ∧ (BlkOld w.heap.size none g 266 [.slice (some ⟨b, off, none⟩) nb cb, CV, .slice (some ⟨bo, oo, none⟩) nb co, .slice (some ⟨bc, oc, none⟩) nb cc, UV, RV, .int .i64 bs]) wz ∧ (SlOld bkEnc 6 92 w.heap.size none (some ⟨b, off, none⟩) nb l) wz ∧ (SlOld nEnc 1 3 w.heap.size none (some ⟨bo, oo, none⟩) nb od) wz ∧ (SlOld sgEnc 1 9 w.heap.size none (some ⟨bc, oc, none⟩) nb cl) wz ∧ True) mixed (fun _ hm => ⟨hm.bl 0, hm.fa 0, hm.fa 1, hm.fa 2, hm.fa 3, trivial⟩) fun z => ?_
  refine wt 0 29 1 rfl z (ov_move rfl) ?_
  refine wt 1 29 3 rfl z (ov_nilcheck rfl) ?_
  refine wt 2 29 7 rfl z (ov_field fo266_3 rfl rfl) ?_
  refine wt 3 29 15 rfl z (ov_load (v := .slice (some ⟨bc, oc, none⟩) nb cc) sc103 rfl (fun _ hm => (hm.2.1).2) rfl) ?_
  refine wt 4 29 31 rfl z (ov_move rfl) ?_
  refine wt 5 29 63 rfl z (ov_index (j := o) es103 rfl rfl (by omega)) ?_
  refine wt 6 29 127 rfl z (ov_elem1 (k := 0) (v := .string ck) sc9 rfl (fun _ hm => (hm.2.2.2.2.1).1) hck rfl rfl) ?_
  refine wt 7 29 255 rfl z (ov_field fo268_0 rfl rfl) ?_
  refine wt 8 29 511 rfl z (ov_load sc9 rfl (fun _ hm => hm.1) rfl) ?_
  refine wt 9 29 1023 rfl z (ov_seql rfl rfl) ?_
  refine wt 10 29 2047 rfl z (ov_move rfl) ?_
  rcases Bool.eq_false_or_eq_true (ck.toList == c.toList) with hb3 | hb3
  ·refine wa_set 36 rfl (congrArg Value.bool hb3) ?_
   refine wto 11 29 4095 rfl rfl rfl z (ov_move rfl) ?_
   refine wto 12 29 8191 rfl rfl rfl z (ov_nilcheck rfl) ?_
   refine wto 13 29 16383 rfl rfl rfl z (ov_field fo266_0 rfl rfl) ?_
   refine wto 14 29 32767 rfl rfl rfl z (ov_load (v := .slice (some ⟨b, off, none⟩) nb cb) sc76 rfl (fun _ hm => (hm.2.1).2) rfl) ?_
   refine wto 15 29 65535 rfl rfl rfl z (ov_move rfl) ?_
   refine wto 16 29 131071 rfl rfl rfl z (ov_index (j := o) es76 rfl rfl (by omega)) ?_
   refine wto 17 29 262143 rfl rfl rfl z (ov_field fo92_2 rfl rfl) ?_
   refine wto 18 29 524287 rfl rfl rfl z (ov_elemN (k := 2) (vs := [.int .i64 y2, .int .i64 y3]) rz27 rfl (fun _ hm => (hm.2.2.1).1) hy rfl rfl rfl) ?_
   refine wto 19 29 1048575 rfl rfl rfl z (ov_move rfl) ?_
   refine wto 20 29 2097151 rfl rfl rfl z (ov_nilcheck rfl) ?_
   refine wto 21 29 4194303 rfl rfl rfl z (ov_field fo266_0 rfl rfl) ?_
   refine wto 22 29 8388607 rfl rfl rfl z (ov_load (v := .slice (some ⟨b, off, none⟩) nb cb) sc76 rfl (fun _ hm => (hm.2.1).2) rfl) ?_
   refine wto 23 29 16777215 rfl rfl rfl z (ov_move rfl) ?_
   refine wto 24 29 33554431 rfl rfl rfl z (ov_index (j := i) es76 rfl rfl (by omega)) ?_
   refine wto 25 29 67108863 rfl rfl rfl z (ov_field fo92_2 rfl rfl) ?_
   refine wto 26 29 134217727 rfl rfl rfl z (ov_elemN (k := 2) (vs := [.int .i64 x2, .int .i64 x3]) rz27 rfl (fun _ hm => (hm.2.2.1).1) hx rfl rfl rfl) ?_
   refine wa1 27 rfl ?_
   refine wl_guard_on rfl rfl rfl ?_
   refine wl_callv rfl cb161 rfl rfl (fun wx hm => (meet_any y2 y3 x2 x3 wx)) ?_
   refine wl_nil ?_
   refine nw 29 268435455 (fun _ hm => ⟨hm.bl 0, hm.fa 0, hm.fa 1, hm.fa 2, hm.fa 3, trivial⟩) fun z => ?_
   refine wt 28 29 536870911 rfl z (ov_pick_t rfl rfl) ?_
   refine wa_done (by kernel_rfl) ?_
   refine nx_then ?_
   refine gw_cond rfl (fun hh => ?_) (fun hh => ?_)
   ·have hm4 : (meetW y2 y3 x2 x3) = true := by simpa using hh
    clear hh
    refine gw_region (mv_ rfl (mv_ rfl (wl_ov (ov_nilcheck rfl) rfl (fd_ fo266_0 rfl rfl ?_))))
    refine wl_ov (ov_load (v := .slice (some ⟨b, off, none⟩) nb cb) sc76 rfl (fun _ hm => (hm.fact 0 rfl).2) rfl) rfl ?_
    refine mv_ rfl ?_
    refine wl_ov (ov_index (j := o) es76 rfl rfl (by omega)) rfl ?_
    refine fd_ fo92_2 rfl rfl ?_
    refine wl_ov (ov_elemN (k := 2) (vs := [.int .i64 y2, .int .i64 y3]) rz27 rfl (fun _ hm => (hm.fact 1 rfl).1) hy rfl rfl rfl) rfl ?_
    refine wl_buildSlice (e := 27) (cs := [.int .i64 y2, .int .i64 y3]) rfl (by kernel_rfl) rfl fun g5 => ?_
    rw [show (decide (ck = c) && mtW (wnB ⟨y0, y1, y2, y3, y4, y5⟩) (x2, x3)) = true from by rw [← tl_dec, hb3, Bool.true_and]; exact hm4, if_pos rfl] at hat
    refine wl_append (news := [.int .i64 y2, .int .i64 y3]) 0 0 ap341 rfl rfl rfl rfl rfl rfl rfl (by omega) (by unfold maxLen; omega) rfl rfl fun v2 hv2 => ?_
    rw [show (timC (plB l cl (od.take j)) (x2, x3) c).flatMap wEnc ++ ([.int .i64 y2, .int .i64 y3] : List Value) = (timC (plB l cl (od.take (j + 1))) (x2, x3) c).flatMap wEnc from by rw [hat]; simp [wEnc, wnB]]
    refine sg_ rfl (wl_nil (nx_blk_nrm (nx_then (gw_region (ad_ rfl rfl (mv_ rfl (wl_nil ?_)))))))
    exact nx_round (j + 1, q + 1, v2) ⟨by dsimp only; omega, by dsimp only; rw [hat, List.length_append, hq]; rfl⟩ (by dsimp only; omega) ⟨rfl, rfl, rfl, rfl, rfl, rfl, rfl, (some_int (by omega)), trivial⟩ (fun _ hm => hm.pick [1] [0] [0, 1, 2, 3] rfl rfl)
   have hm4 : (meetW y2 y3 x2 x3) = false := by simpa using hh
   clear hh
   refine gw_skip (nx_blk_nrm (nx_then (gw_region (ad_ rfl rfl (mv_ rfl (wl_nil ?_))))))
   rw [show (decide (ck = c) && mtW (wnB ⟨y0, y1, y2, y3, y4, y5⟩) (x2, x3)) = false from by rw [← tl_dec, hb3, Bool.true_and]; exact hm4, if_neg (by decide), List.append_nil] at hat
   rw [show (timC (plB l cl (od.take j)) (x2, x3) c) = (timC (plB l cl (od.take (j + 1))) (x2, x3) c) from hat.symm]
   exact nx_round (j + 1, q, v) ⟨by dsimp only; omega, by dsimp only; rw [hat]; exact hq⟩ (by dsimp only; omega) ⟨rfl, rfl, rfl, rfl, rfl, rfl, rfl, (some_int (by omega)), trivial⟩ (fun _ hm => hm.pick [0] [0] [0, 1, 2, 3] rfl rfl)
  refine wa_set 36 rfl (congrArg Value.bool hb3) ?_
  refine wtf 11 29 4095 rfl rfl rfl z ?_
  refine wtf 12 29 8191 rfl rfl rfl z ?_
  refine wtf 13 29 16383 rfl rfl rfl z ?_
  refine wtf 14 29 32767 rfl rfl rfl z ?_
  refine wtf 15 29 65535 rfl rfl rfl z ?_
  refine wtf 16 29 131071 rfl rfl rfl z ?_
  refine wtf 17 29 262143 rfl rfl rfl z ?_
  refine wtf 18 29 524287 rfl rfl rfl z ?_
  refine wtf 19 29 1048575 rfl rfl rfl z ?_
  refine wtf 20 29 2097151 rfl rfl rfl z ?_
  refine wtf 21 29 4194303 rfl rfl rfl z ?_
  refine wtf 22 29 8388607 rfl rfl rfl z ?_
  refine wtf 23 29 16777215 rfl rfl rfl z ?_
  refine wtf 24 29 33554431 rfl rfl rfl z ?_
  refine wtf 25 29 67108863 rfl rfl rfl z ?_
  refine wtf 26 29 134217727 rfl rfl rfl z ?_
  refine wtf 27 29 268435455 rfl rfl rfl z ?_
  refine wt 28 29 536870911 rfl z (ov_pick_f rfl rfl) ?_
  refine wa_done (by kernel_rfl) ?_
  refine nx_then (cf_ rfl (gw_skip (nx_blk_nrm (nx_then (gw_region (ad_ rfl rfl (mv_ rfl (wl_nil ?_))))))))
  rw [show (decide (ck = c) && mtW (wnB ⟨y0, y1, y2, y3, y4, y5⟩) (x2, x3)) = false from by rw [← tl_dec, hb3, Bool.false_and], if_neg (by decide), List.append_nil] at hat
  rw [show (timC (plB l cl (od.take j)) (x2, x3) c) = (timC (plB l cl (od.take (j + 1))) (x2, x3) c) from hat.symm]
  exact nx_round (j + 1, q, v) ⟨by dsimp only; omega, by dsimp only; rw [hat]; exact hq⟩ (by dsimp only; omega) ⟨rfl, rfl, rfl, rfl, rfl, rfl, rfl, (some_int (by omega)), trivial⟩ (fun _ hm => hm.pick [0] [0] [0, 1, 2, 3] rfl rfl)
 have hj : ¬ (((j : Nat) : Int) < ((k : Nat) : Int)) := by simpa using hh
 clear hh
 refine gw_exit ?_
 refine nx_then_exit (nx_then_exit ?_)
 refine nx_blk_here ?_
 refine nx_then (sr_ ?_)
 obtain rfl : j = k := by omega
 refine wl_look (R := ∃ A cc, v = .slice A q cc) (fun wx hm => own_slice (hm.ownI 0 rfl)) ?_
 rintro ⟨At, ct, rfl⟩
 refine mv_ rfl (mv_ rfl (wl_ov (ov_nilcheck rfl) rfl (fd_ fo266_0 rfl rfl ?_)))
 refine wl_ov (ov_load (v := .slice (some ⟨b, off, none⟩) nb cb) sc76 rfl (fun _ hm => (hm.fact 0 rfl).2) rfl) rfl ?_
 refine mv_ rfl ?_
 refine wl_ov (ov_index (j := i) es76 rfl rfl (by omega)) rfl ?_
 refine fd_ fo92_2 rfl rfl ?_
 refine wl_ov (ov_elemN (k := 2) (vs := [.int .i64 x2, .int .i64 x3]) rz27 rfl (fun _ hm => (hm.fact 1 rfl).1) hx rfl rfl rfl) rfl ?_
 have hql := timC_len l cl (od.take j) (x2, x3) c
 rw [List.length_take] at hql
 obtain ⟨BT, hBT⟩ : ∃ z, z = busyT (timC (plB l cl (od.take j)) (x2, x3) c) x2 x3 := ⟨_, rfl⟩
 refine wl_callv (v := .tuple #[.int .i64 BT.1, .int .i64 BT.2]) rfl cb320 rfl rfl (fun wx hm => (by rw [hBT]; exact busiest_any (timC (plB l cl (od.take j)) (x2, x3) c) At q ct x2 x3 wx (SlT.ofOwn w_len (hm.ownI 0 rfl) hq) (timC_ok htm (fun y hy => by rw [hlen]; exact hord y (List.mem_of_mem_take hy))) (by omega) (by have h5 := htm _ (List.mem_of_getElem? hx); dsimp only at h5; omega))) ?_
 refine mv_ rfl (wl_ov (ov_extract rfl rfl) rfl (wl_ov (ov_extract rfl rfl) rfl (sg_ rfl (sg_ rfl (nn_ (sr_ (mv_ rfl (fd_ fo268_2 rfl rfl (lk_ sc3 0 rfl rfl rfl (wl_ov (ov_lss rfl rfl) rfl (sg_ rfl ?_)))))))))))
 refine nn_ ?_
 refine gw_ret ?_
 refine nx_ret1 rfl rfl fun wx hm => ?_
 exact ⟨by rw [hBT]; rfl, hm.g⟩
end Go.Proofs.YtempjmpfdniecaaGreatDoor
namespace Go.Proofs.YtempjmpfdniecaaGreatDoor
open Go.RowKit
section
variable {c : Cx} {K : World → Prop} {L : List (Nat × TypeId × List Value)} {O : List Own} {X : List (World → Prop)} {w w' : World}
theorem Mem.blkFar (h : Mem c K L O X w) (i j : Nat) {g br : Nat} {T e : TypeId} {cs : List Value} {n cap sz n' : Nat} {xs : List Value} (hi : L[i]? = some (g, T, cs)) (hj : O[j]? = some ⟨.slice (some ⟨br, 0, none⟩) n cap, e, sz, n', xs⟩) : BlkOld w.heap.size (some br) g T cs w :=
  ⟨⟨(h.blkI i hi).lt, fun e => h.od _ (List.mem_of_getElem? hj) _ (List.mem_of_getElem? hi) e⟩, h.blkI i hi⟩
end
section
variable {P : Program} {nn : Nat} {S : List (Nat × Value)} {Z : World → Prop} {d : Nat} {ty : TypeId} {pos : String} {aft : Array Edge}
/-- Two strings, one behind the other. -/
theorem ov_sadd {t t' : TypeId} {x y : Operand} {m n : ByteArray} (hx : rd S x = some (.string m)) (hy : rd S y = some (.string n)) (h : m.size + n.size ≤ 9223372036854775807) : OV P nn S Z ⟨some d, .binOp .add t x y t', ty, pos, aft, none⟩ (.string (m ++ n)) :=
  ov_bin hx hy (fun w => by
    have e := run_string_add_sum (P := P) w m n h
    simp [binOp_string_add, e, go_sem])
end
end Go.Proofs.YtempjmpfdniecaaGreatDoor
namespace Go.Proofs.YtempjmpfdniecaaGreatDoor
open Go.RowKit
section
variable {P : Program} {c : Cx} {ops : Array Oper} {Q : Exit → Act → World → Prop} {rest : List Oper} {S : List (Nat × Value)} {K : World → Prop} {L : List (Nat × TypeId × List Value)} {O : List Own} {X : List (World → Prop)}
variable {d : Nat} {ty : TypeId} {pos : String} {aft : Array Edge}
/-- append of a slice that is known, behind a row of the call's own. -/
theorem wl_appendS {α : Type} {enc : α → List Value} {t e T : TypeId} {sz by_ : Nat} {x y : Operand} {m n cc : Nat} {A : Option Addr} {l : List α} {v : Value} {xs : List Value} (i : Nat) (ht : appB P t = some (e, sz, by_)) (hx : rd S x = some v) (hO : O[i]? = some ⟨v, e, sz, n, xs⟩) (hy : rd S y = some (.slice A m cc)) (hS : ∀ w, Mem c K L O X w → SlT enc sz T w A m l) (hnil : m = 0 → A = none ∧ cc = 0 ∨ ∃ b o, A = some ⟨b, o, none⟩) (hk : ∀ x, (enc x).length = sz)
    (h1 : ∀ x, ∀ u ∈ enc x, u.oneCell' = true) (hb : (n + m) * by_ ≤ 140737488355328) (h63 : n + m ≤ maxLen) (hT : c.Tt.contains e = false) (hd : Nat.ble (d + 1) c.n = true)
    (h : ∀ v', WL P c ops Q rest ((d, v') :: S) K L (setOwn ⟨v', e, sz, n + m, xs ++ l.flatMap enc⟩ O i) X) : WL P c ops Q (⟨some d, .call ⟨.builtin .append, #[x, y], #[t, t]⟩, ty, pos, aft, none⟩ :: rest) S K L O X := by
  intro a w ha hm
  unfold appB at ht
  split at ht
  · rename_i e' hu
    split at ht
    · rename_i inf hi
      split at ht
      · rename_i z hz
        split at ht
        · rename_i hzz
          simp only [Option.some.injEq, Prod.mk.injEq] at ht
          obtain ⟨rfl, rfl, rfl⟩ := ht
          have hown := hm.o _ (List.mem_of_getElem? hO)
          have hs := hS w hm
          have hll := flat_len enc inf.size hk l
          rw [hs.len] at hll
          have hone := flat_one enc h1 l
          rcases Nat.eq_zero_or_pos m with rfl | hm0
          · have hl0 : l = [] := List.length_eq_zero_iff.1 hs.len
            subst hl0
            rcases hnil rfl with ⟨rfl, rfl⟩ | ⟨b, o, rfl⟩
            · refine wpList_append_own_none rfl x y t rfl c.w0.heap.size e' inf inf.size hu hi v n xs (ha.eval hx) hown (ha.eval hy) ?_
              have h2 := h v
              rw [List.flatMap_nil, List.append_nil, Nat.add_zero, setOwn_self hO] at h2
              exact h2 _ _ (ha.put hd _) hm
            · refine wpList_append_own_at _ rfl x y t rfl c.w0.heap.size e' inf z inf.size inf.bytes hu hi hz rfl rfl hzz.1 hzz.2 v n xs (ha.eval hx) hown ⟨b, o, none⟩ 0 cc [] (ha.eval hy) (by simp) (fun k u hk => by simp at hk) (fun u hu => by cases hu) h63 hb hm.g.size fun v' w' h2 h3 h4 h5 => ?_
              exact h v' _ _ (ha.put hd _) (hm.append hO hT h2 h3 h5)
          · obtain ⟨b, o, rfl, hbl, hfl⟩ := hs.flat hk hm0
            refine wpList_append_own_at _ rfl x y t rfl c.w0.heap.size e' inf z inf.size inf.bytes hu hi hz rfl rfl hzz.1 hzz.2 v n xs (ha.eval hx) hown ⟨b, o, none⟩ m cc (l.flatMap enc) (ha.eval hy) hll hfl hone h63 hb hm.g.size fun v' w' h2 h3 h4 h5 => ?_
            exact h v' _ _ (ha.put hd _) (hm.append hO hT h2 h3 h5)
        · cases ht
      · cases ht
    · cases ht
  · cases ht
end
end Go.Proofs.YtempjmpfdniecaaGreatDoor
namespace Go.Proofs.YtempjmpfdniecaaGreatDoor
open Go.RowKit
theorem choicesP_any (cs : List Cs) (A0 : Option Addr) (n0 c0 : Nat) (sl : List Sk) (A1 : Option Addr) (n1 c1 : Nat) (l : List Bk) (A : Option Addr) (n c : Nat) (w : World) (hcs : SlT csEnc 2 158 w A0 n0 cs) (hco : ∀ x ∈ cs, CsOk x) (hn0 : n0 ≤ 1000) (hs : SlT skEnc 2 211 w A1 n1 sl) (hso : ∀ x ∈ sl, SkOk x) (hn1 : n1 ≤ 1000) (hl : SlT bkEnc 6 92 w A n l) (hn : n ≤ 1000) (hkeys : ∀ b ∈ l, keysE cs [b.cls] = 0) :
  Calls Tryz.prog 220 #[.slice A0 n0 c0, .slice A1 n1 c1, .slice A n c] w (fun e w' => ∃ (A9 : Option Addr) (c9 : Nat) (cx : List ChS), e = .returned (.slice A9 n c9) ∧ SlT csnEnc 1 269 w' A9 n cx ∧ Chs 268 cx w' ∧ cx.map ChS.l = l.map (chB cs sl) ∧ w.grownBy w' none) := by
 refine gw_enter ⟨59, w, none, []⟩ Tryz.func220 rfl Tryz.ntmps220 rfl (mem0 (X := [SlOld csEnc 2 158 w.heap.size none A0 n0 cs, SlOld skEnc 2 211 w.heap.size none A1 n1 sl, SlOld bkEnc 6 92 w.heap.size none A n l]) (allF_cons hcs.old (allF_cons hs.old (allF_cons hl.old allF_nil))) (allL_cons SlOld.lasts (allL_cons SlOld.lasts (allL_cons SlOld.lasts allL_nil)))) ?_
 refine sr_ ?_
 have hlen := hl.len
 have hlen0 := hcs.len
 refine sg_ rfl (nn_ (sr_ (sg_ rfl (nn_ (gw_seq (sr_ (mv_ rfl (wl_ov (ov_len es76 rfl) rfl (mv_ rfl ?_)))))))))
 refine nn_ (gw_block ?_)
 refine gw_nilOwn 269 1 ?_
 refine gw_loop (γ := Nat × Value × List ChS) (fun g => g.1 ≤ n ∧ g.2.2.map ChS.l = (l.take g.1).map (chB cs sl) ∧ ∀ x ∈ g.2.2, x.l.length = x.n) (fun g => [(0, .slice A0 n0 c0), (1, .slice A1 n1 c1), (6, .slice none 0 0), (7, g.2.1), (16, .slice A n c), (17, .int .i64 ((n : Nat) : Int)), (18, .int .i64 ((g.1 : Nat) : Int))]) (fun g => fun _ => True) (fun g => []) (fun g => (([⟨g.2.1, 269, 1, g.1, g.2.2.flatMap csnEnc⟩] : List Own) ++ famC 268 g.2.2)) (fun g => [SlOld csEnc 2 158 w.heap.size none A0 n0 cs, SlOld skEnc 2 211 w.heap.size none A1 n1 sl, SlOld bkEnc 6 92 w.heap.size none A n l]) (fun g => n - g.1) (0, .slice none 0 0, []) ⟨Nat.zero_le _, rfl, fun _ h => by cases h⟩ ⟨rfl, rfl, rfl, rfl, rfl, rfl, rfl, trivial⟩ (fun _ hm => hm.pick [] [0] [0, 1, 2] rfl rfl) ?_
 rintro ⟨i, v, cx⟩ hinv
 replace hinv : i ≤ n ∧ cx.map ChS.l = (l.take i).map (chB cs sl) ∧ ∀ x ∈ cx, x.l.length = x.n := hinv
 dsimp only
 refine sr_ ?_
 obtain ⟨hi0, hcx, hcn⟩ := hinv
 refine wl_ov (ov_lss rfl rfl) rfl (nn_ (gw_seq ?_))
 refine gw_cond rfl (fun hh => ?_) (fun hh => ?_)
 ·have hi : ((i : Nat) : Int) < ((n : Nat) : Int) := by simpa using hh
  clear hh
  refine gw_skip (nx_then (gw_seq (gw_block (sr_ ?_))))
  obtain ⟨b, off, hA, _, _⟩ := hl.get (by omega)
  subst hA
  obtain ⟨x, hx⟩ : ∃ x, l[i]? = some x := ⟨_, List.getElem?_eq_getElem (by omega)⟩
  obtain ⟨x0, x1, x2, x3, x4, x5⟩ := x
  have hkey := hkeys _ (List.mem_of_getElem? hx)
  dsimp only at hkey
  obtain ⟨KS, hKS⟩ : ∃ z, z = clsF cs (⟨x0, x1, x2, x3, x4, x5⟩ : Bk) := ⟨_, rfl⟩
  have hks : ([.string x1] : List Value) ++ (pathN cs n0 x1).flatMap sgEnc = KS.flatMap sgEnc := by
   rw [hKS]
   show _ = (x1 :: pathN cs cs.length x1).flatMap sgEnc
   rw [hlen0]; rfl
  have hkl : KS.length = 1 + (pathN cs n0 x1).length := by
   rw [hKS]
   show (x1 :: pathN cs cs.length x1).length = _
   rw [hlen0, List.length_cons]; omega
  have hpn := pathN_len cs n0 x1
  refine wl_ov (ov_index (j := i) es76 rfl rfl (by omega)) rfl ?_
  refine wl_ov (ov_elem (vs := [.string x0, .string x1, .int .i64 x2, .int .i64 x3, .int .i64 x4, .int .i64 x5]) rz92 rfl (fun _ hm => (hm.fact 2 rfl).1) hx rfl rfl) rfl ?_
  refine wl_alloc zc92 rfl fun g1 => ?_
  refine wl_stores (cs' := [.string x0, .string x1, .int .i64 x2, .int .i64 x3, .int .i64 x4, .int .i64 x5]) 0 rz92 rfl rfl rfl rfl rfl rfl rfl rfl ?_
  refine nn_ (sr_ (mv_ rfl (fd_ fo92_1 rfl rfl (lk_ sc9 0 rfl rfl rfl ?_))))
  refine wl_callgo (γ := Option Addr × Nat × Nat) (val := (fun g => .tuple #[.slice g.1 g.2.1 g.2.2, .int .i64 0])) (φ := (fun g => (pathN cs n0 x1).length = g.2.1)) (fun g => ⟨.slice g.1 g.2.1 g.2.2, 9, 1, g.2.1, (pathN cs n0 x1).flatMap sgEnc⟩) rfl cb157 rfl rfl (fun wx hm => (above_right cs A0 n0 c0 x1 wx (hm.fact 0 rfl).1 hco (by omega) hkey).mono fun _ _ ⟨A2, n2, c2, he, ho, hl2, hg⟩ => ⟨(A2, n2, c2), he, hl2, ho, hg⟩) ?_
  rintro ⟨A2, n2, c2⟩ hpl
  dsimp only at hpl ⊢
  refine mv_ rfl (wl_ov (ov_extract rfl rfl) rfl (wl_ov (ov_extract rfl rfl) rfl (sg_ rfl (sg_ rfl (nn_ (sr_ (sg_ rfl (nn_ (gw_seq (gw_seq ?_))))))))))
  refine gw_region (fd_ fo92_1 rfl rfl (lk_ sc9 0 rfl rfl rfl ?_))
  refine wl_buildSlice (e := 9) (cs := [.string x1]) rfl (by kernel_rfl) rfl fun g2 => ?_
  refine mv_ rfl ?_
  refine wl_toOwn (sz := 1) (n := 1) 0 [1] rfl rfl rfl (by unfold maxLen; omega) ?_
  refine wl_appendO 0 1 ap103 rfl rfl rfl rfl (flat_one sgEnc sg_one _) (by omega) (by unfold maxLen; omega) rfl rfl fun v2 hv => ?_
  rw [hks]
  refine wl_look (R := ∃ A cc, v2 = .slice A (1 + n2) cc) (fun wx hm => own_slice (hm.ownI 0 rfl)) ?_
  rintro ⟨A5, c5, rfl⟩
  have hKl : KS.length = 1 + n2 := by omega
  refine wl_nilOwn 268 3 ?_
  refine wl_ov (ov_len es103 rfl) rfl (mv_ rfl (nn_ (gw_block ?_)))
  refine gw_loop (γ := Nat × Nat × Value) (fun gg => gg.1 ≤ 1 + n2 ∧ (chT sl KS gg.1).length = gg.2.1) (fun gg => [(0, .slice A0 n0 c0), (1, .slice A1 n1 c1), (6, .slice none 0 0), (7, v), (12, gg.2.2), (16, .slice (some ⟨b, off, none⟩) n c), (17, .int .i64 ((n : Nat) : Int)), (18, .int .i64 ((i : Nat) : Int)), (33, .slice A5 (1 + n2) c5), (34, .int .i64 ((1 + n2 : Nat) : Int)), (35, .int .i64 ((gg.1 : Nat) : Int))]) (fun gg => fun _ => True) (fun gg => [(g1, 92, [.string x0, .string x1, .int .i64 x2, .int .i64 x3, .int .i64 x4, .int .i64 x5])]) (fun gg => (([⟨gg.2.2, 268, 3, gg.2.1, (chT sl KS gg.1).flatMap cdEnc⟩, ⟨.slice A5 (1 + n2) c5, 9, 1, 1 + n2, KS.flatMap sgEnc⟩, ⟨v, 269, 1, i, cx.flatMap csnEnc⟩] : List Own) ++ famC 268 cx)) (fun gg => [SlOld csEnc 2 158 w.heap.size none A0 n0 cs, SlOld skEnc 2 211 w.heap.size none A1 n1 sl, SlOld bkEnc 6 92 w.heap.size none (some ⟨b, off, none⟩) n l]) (fun gg => 1 + n2 - gg.1) (0, 0, .slice none 0 0) ⟨Nat.zero_le _, rfl⟩ ⟨rfl, rfl, rfl, rfl, rfl, rfl, rfl, rfl, rfl, rfl, rfl, trivial⟩ (fun _ hm => Mem.pickT (O := [⟨.slice none 0 0, 268, 3, 0, []⟩, ⟨.slice A5 (1 + n2) c5, 9, 1, 1 + n2, KS.flatMap sgEnc⟩, ⟨.slice A2 n2 c2, 9, 1, n2, (pathN cs n0 x1).flatMap sgEnc⟩, ⟨v, 269, 1, i, cx.flatMap csnEnc⟩]) (F := famC 268 cx) hm [0] [0, 1, 3] [0, 1, 2] rfl rfl) ?_
  rintro ⟨j, q, vc⟩ hinv
  replace hinv : j ≤ 1 + n2 ∧ (chT sl KS j).length = q := hinv
  dsimp only
  refine sr_ ?_
  obtain ⟨hj0, hq⟩ := hinv
  refine wl_ov (ov_lss rfl rfl) rfl (nn_ (gw_seq ?_))
  refine gw_cond rfl (fun hh => ?_) (fun hh => ?_)
  ·have hj : ((j : Nat) : Int) < ((1 + n2 : Nat) : Int) := by simpa using hh
   clear hh
   refine gw_skip (nx_then (gw_seq (gw_block (sr_ ?_))))
   refine wl_look (R := ∃ g, A5 = some ⟨g, 0, none⟩) (fun wx hm => own_addr (hm.ownI 1 rfl) (by omega)) ?_
   rintro ⟨gk7, rfl⟩
   obtain ⟨ck, hck⟩ : ∃ x, KS[j]? = some x := ⟨_, List.getElem?_eq_getElem (by omega)⟩
   have hat := chT_at (sl := sl) hck
   have hcl := chT_len sl KS j
   refine mv_ rfl ?_
   refine wl_ov (ov_index (j := j) es103 rfl rfl (by omega)) rfl ?_
   refine wl_ov (ov_elem1 (k := 0) (v := .string ck) sc9 rfl (fun _ hm => (SlT.ofOwn sg_len (hm.ownI 1 rfl) hKl)) hck rfl rfl) rfl ?_
   refine sg_ rfl (sg_ rfl (nn_ (sr_ (mv_ rfl (mv_ rfl ?_)))))
   refine wl_callv rfl cb158 rfl rfl (fun wx hm => (many_any sl A1 n1 c1 ck wx (hm.fact 1 rfl).1 hso (by omega))) ?_
   refine sg_ rfl (nn_ (sr_ (mv_ rfl ?_)))
   refine wl_ov (ov_gtr rfl rfl) rfl ?_
   refine nn_ ?_
   refine gw_cond rfl (fun hh => ?_) (fun hh => ?_)
   ·have hm0 : 0 < manyV sl ck := by simpa using hh
    clear hh
    refine gw_region ?_
    have hcap : manyV sl ck = ((capB sl ck : Nat) : Int) := by unfold capB; omega
    rw [if_pos (show 0 < capB sl ck by omega)] at hat
    refine wl_set 15 (v' := .int .i64 ((capB sl ck : Nat) : Int)) rfl (congrArg (Value.int .i64) hcap) ?_
    refine mv_ rfl (mv_ rfl (mv_ rfl (mv_ rfl ?_)))
    refine wl_ov (ov_build (cs := [.string ck, .int .i64 ((j : Nat) : Int), .int .i64 ((capB sl ck : Nat) : Int)]) rfl (by kernel_rfl)) rfl ?_
    refine wl_buildSlice (e := 268) (cs := [.string ck, .int .i64 ((j : Nat) : Int), .int .i64 ((capB sl ck : Nat) : Int)]) rfl (by kernel_rfl) rfl fun g3 => ?_
    refine wl_append (news := [.string ck, .int .i64 ((j : Nat) : Int), .int .i64 ((capB sl ck : Nat) : Int)]) 0 0 ap269 rfl rfl rfl rfl rfl rfl rfl (by omega) (by unfold maxLen; omega) rfl rfl fun v3 hv3 => ?_
    rw [show (chT sl KS j).flatMap cdEnc ++ ([.string ck, .int .i64 ((j : Nat) : Int), .int .i64 ((capB sl ck : Nat) : Int)] : List Value) = (chT sl KS (j + 1)).flatMap cdEnc from by rw [hat]; simp [cdEnc]]
    refine sg_ rfl (wl_nil (nx_blk_nrm (nx_then (gw_region (ad_ rfl rfl (mv_ rfl (wl_nil ?_)))))))
    exact nx_round (j + 1, q + 1, v3) ⟨by dsimp only; omega, by dsimp only; rw [hat, List.length_append, hq]; rfl⟩ (by dsimp only; omega) ⟨rfl, rfl, rfl, rfl, rfl, rfl, rfl, rfl, rfl, rfl, (some_int (by omega)), trivial⟩ (fun _ hm => Mem.pickT (O := [⟨v3, 268, 3, q + 1, (chT sl KS (j + 1)).flatMap cdEnc⟩, ⟨.slice (some ⟨gk7, 0, none⟩) (1 + n2) c5, 9, 1, 1 + n2, KS.flatMap sgEnc⟩, ⟨v, 269, 1, i, cx.flatMap csnEnc⟩]) (F := famC 268 cx) hm [1] [0, 1, 2] [0, 1, 2] rfl rfl)
   have hm0 : ¬ (0 < manyV sl ck) := by simpa using hh
   clear hh
   refine gw_skip (nx_blk_nrm (nx_then (gw_region ?_)))
   rw [if_neg (show ¬ 0 < capB sl ck by unfold capB; omega), List.append_nil] at hat
   rw [show chT sl KS j = chT sl KS (j + 1) from hat.symm]
   refine ad_ rfl rfl (mv_ rfl (wl_nil ?_))
   exact nx_round (j + 1, q, vc) ⟨by dsimp only; omega, by dsimp only; rw [hat]; exact hq⟩ (by dsimp only; omega) ⟨rfl, rfl, rfl, rfl, rfl, rfl, rfl, rfl, rfl, rfl, (some_int (by omega)), trivial⟩ (fun _ hm => Mem.pickT (O := [⟨vc, 268, 3, q, (chT sl KS (j + 1)).flatMap cdEnc⟩, ⟨.slice (some ⟨gk7, 0, none⟩) (1 + n2) c5, 9, 1, 1 + n2, KS.flatMap sgEnc⟩, ⟨v, 269, 1, i, cx.flatMap csnEnc⟩]) (F := famC 268 cx) hm [0] [0, 1, 2] [0, 1, 2] rfl rfl)
  have hj : ¬ (((j : Nat) : Int) < ((1 + n2 : Nat) : Int)) := by simpa using hh
  clear hh
  refine gw_exit ?_
  refine nx_then_exit (nx_then_exit ?_)
  refine nx_blk_here ?_
  refine nx_then (gw_region ?_)
  have hall : chT sl KS j = chB cs sl (⟨x0, x1, x2, x3, x4, x5⟩ : Bk) := by rw [chT_end (by omega), hKS]; rfl
  rw [hall] at hq ⊢
  refine wl_look (R := ∃ A cc, vc = .slice A q cc) (fun wx hm => own_slice (hm.ownI 0 rfl)) ?_
  rintro ⟨Ac, cc, rfl⟩
  refine mv_ rfl (mv_ rfl ?_)
  refine wl_buildSlice (e := 269) (cs := [.slice Ac q cc]) rfl (by kernel_rfl) rfl fun g4 => ?_
  refine wl_append (news := [.slice Ac q cc]) 2 0 ap263 rfl rfl rfl rfl rfl rfl rfl (by omega) (by unfold maxLen; omega) rfl rfl fun v4 hv4 => ?_
  rw [show cx.flatMap csnEnc ++ ([.slice Ac q cc] : List Value) = (cx ++ [(⟨Ac, q, cc, chB cs sl (⟨x0, x1, x2, x3, x4, x5⟩ : Bk)⟩ : ChS)]).flatMap csnEnc from by simp [csnEnc]]
  refine sg_ rfl (wl_nil (nx_blk_nrm (nx_then (gw_region (ad_ rfl rfl (mv_ rfl (wl_nil ?_)))))))
  exact nx_round (i + 1, v4, cx ++ [(⟨Ac, q, cc, chB cs sl (⟨x0, x1, x2, x3, x4, x5⟩ : Bk)⟩ : ChS)]) ⟨by dsimp only; omega, by dsimp only; rw [List.map_append, hcx, List.take_add_one, hx, Option.toList_some, List.map_append]; rfl, fun y hy => by
   rcases List.mem_append.1 hy with hy | hy
   ·exact hcn y hy
   rw [List.mem_singleton.1 hy]; exact hq⟩ (by dsimp only; omega) ⟨rfl, rfl, rfl, rfl, rfl, rfl, (some_int (by omega)), trivial⟩ (fun _ hm => (Mem.pickT (O := [⟨.slice Ac q cc, 268, 3, q, (chB cs sl (⟨x0, x1, x2, x3, x4, x5⟩ : Bk)).flatMap cdEnc⟩, ⟨.slice A5 (1 + n2) c5, 9, 1, 1 + n2, KS.flatMap sgEnc⟩, ⟨v4, 269, 1, i + 1, (cx ++ [(⟨Ac, q, cc, chB cs sl (⟨x0, x1, x2, x3, x4, x5⟩ : Bk)⟩ : ChS)]).flatMap csnEnc⟩]) (F := famC 268 cx) hm [] [0, 2] [0, 1, 2] rfl rfl).famSnoc)
 have hi : ¬ (((i : Nat) : Int) < ((n : Nat) : Int)) := by simpa using hh
 clear hh
 refine gw_exit ?_
 refine nx_then_exit (nx_then_exit ?_)
 refine nx_blk_here ?_
 refine nx_then (sr_ ?_)
 have hin : i = n := by omega
 subst hin
 rw [List.take_of_length_le (by omega)] at hcx
 have hcl : cx.length = i := by have h := congrArg List.length hcx; rw [List.length_map, List.length_map] at h; omega
 refine wl_look (R := ∃ A cc, v = .slice A i cc) (fun wx hm => own_slice (hm.ownI 0 rfl)) ?_
 rintro ⟨Au, cu, rfl⟩
 refine mv_ rfl (sg_ rfl (nn_ ?_))
 refine gw_ret ?_
 refine nx_ret1 rfl rfl fun wx hm => ?_
 exact ⟨Au, cu, cx, rfl, SlT.ofOwn csn_len (hm.ownI 0 rfl) hcl, Mem.famChs (O := [⟨.slice Au i cu, 269, 1, i, cx.flatMap csnEnc⟩]) hm hcn, hcx, hm.g⟩
end Go.Proofs.YtempjmpfdniecaaGreatDoor
namespace Go.Proofs.YtempjmpfdniecaaGreatDoor
open Go.RowKit
def gPow : Nat := 3
def gMax : Nat := 0
def gSyn : Nat := 1
def gRan : Nat := 2
/-- The package variables that numbers and texts are read and written with. -/
def TxtW (w : World) : Prop :=
  (∃ T f, w.heap[gPow]? = some (.cells (Lib.pow10Tab.map fun z => Value.int .u64 z).toArray T f)) ∧
  (∃ cs T f m, w.heap[gMax]? = some (.cells cs T f) ∧ cs[0]? = some (.int .i64 m)) ∧
  (∃ T f tp p, w.heap[gSyn]? = some (.cells #[.iface tp p] T f)) ∧
  (∃ T f tp p, w.heap[gRan]? = some (.cells #[.iface tp p] T f))
def isG (k : Nat) : Prop := k = gPow ∨ k = gMax ∨ k = gSyn ∨ k = gRan
theorem TxtW.lt {w : World} (h : TxtW w) {k : Nat} (hk : isG k) : k < w.heap.size := by
  obtain ⟨⟨_, _, h1⟩, ⟨_, _, _, _, h2, _⟩, ⟨_, _, _, _, h3⟩, ⟨_, _, _, _, h4⟩⟩ := h
  rcases hk with rfl | rfl | rfl | rfl
  · exact (Array.getElem?_eq_some_iff.1 h1).1
  · exact (Array.getElem?_eq_some_iff.1 h2).1
  · exact (Array.getElem?_eq_some_iff.1 h3).1
  · exact (Array.getElem?_eq_some_iff.1 h4).1
theorem TxtW.same {w w' : World} (h : TxtW w) (hk : ∀ k, isG k → w'.heap[k]? = w.heap[k]?) : TxtW w' := by
  obtain ⟨⟨T1, f1, h1⟩, ⟨cs, T2, f2, m, h2, h2b⟩, ⟨T3, f3, t3, p3, h3⟩, ⟨T4, f4, t4, p4, h4⟩⟩ := h
  exact ⟨⟨T1, f1, (hk _ (.inl rfl)).trans h1⟩, ⟨cs, T2, f2, m, (hk _ (.inr (.inl rfl))).trans h2, h2b⟩, ⟨T3, f3, t3, p3, (hk _ (.inr (.inr (.inl rfl)))).trans h3⟩, ⟨T4, f4, t4, p4, (hk _ (.inr (.inr (.inr rfl)))).trans h4⟩⟩
/-- .. and they are old: nothing that is made, and no row that turns, is one of them. -/
def TxtO (N : Nat) (row : Option Nat) (w : World) : Prop := TxtW w ∧ ∀ k, isG k → k < N ∧ row ≠ some k
theorem TxtW.old {w : World} (h : TxtW w) : TxtO w.heap.size none w := ⟨h, fun _ hk => ⟨h.lt hk, fun e => by cases e⟩⟩
theorem TxtO.lasts {N : Nat} {row : Option Nat} {Tt : List TypeId} : Lasts2 N row Tt (TxtO N row) :=
  ⟨fun _ _ hg h => ⟨h.1.same fun k hk => hg.block k (h.1.lt hk) (fun e => by cases e), h.2⟩,
   fun w w' r T c _ _ h3 hg h => ⟨h.1.same fun k hk => hg.block k (h.1.lt hk) (fun e => by
      have e2 : k = r := by injection e
      subst e2
      have := h.2 k hk
      rcases h3 with h3 | h3
      · omega
      · exact this.2 h3), h.2⟩⟩
theorem TxtW.max {w : World} (h : TxtW w) : ∃ m, w.cell? ⟨gMax, 0, none⟩ = some (.int .i64 m) := by
  obtain ⟨_, ⟨cs, T2, f2, m, h2, h2b⟩, _⟩ := h
  exact ⟨m, by simp [World.cell?, h2, h2b]⟩
end Go.Proofs.YtempjmpfdniecaaGreatDoor
namespace Go.Proofs.YtempjmpfdniecaaGreatDoor
open Go.RowKit
/-- A fact on old blocks alone. -/
def OldF (N : Nat) (A : World → Prop) : Prop := ∀ w w', Below N w w' → A w → A w'
section
variable {c : Cx} {K : World → Prop} {L : List (Nat × TypeId × List Value)} {O : List Own} {X X' : List (World → Prop)} {w w' : World} {T e : TypeId} {b : Nat} {p v : Value} {bs : List Value}
theorem Mem.gB (hm : Mem c K L O X w) (hb : Below c.w0.heap.size w w') : c.w0.grownBy w' c.row :=
  ⟨hb.os.trans hm.g.os, hb.tape.trans hm.g.tape, hb.output.trans hm.g.output, Nat.le_trans hm.g.size hb.size, fun k hk hne => (hb.block k hk).trans (hm.g.block k hk hne)⟩
theorem Mem.built (hm : Mem c K L O X w) (h : Lib.BuilderAt T e c.w0.heap.size b p bs w') (hb : Below c.w0.heap.size w w') (hX : ∀ A ∈ X', OldF c.w0.heap.size A ∧ A ∈ X) :
    ∃ v, Mem c (fun _ => True) [(b, T, [p, v])] [⟨v, e, 1, bs.length, bs⟩] X' w' := by
  obtain ⟨hN, v, hh, ho, hne⟩ := h
  refine ⟨v, hm.gB hb, trivial, fun x hx => ?_, List.pairwise_singleton _ _, fun r hr => ?_, fun r hr x hx => ?_, List.pairwise_singleton _ _, fun A hA => (hX A hA).1 _ _ hb (hm.x A (hX A hA).2), Keeps.true_, fun A hA => hm.l A (hX A hA).2, hm.rs⟩
  · rw [List.mem_singleton.1 hx]; exact ⟨hN, hh⟩
  · rw [List.mem_singleton.1 hr]; exact ho
  · rw [List.mem_singleton.1 hr, List.mem_singleton.1 hx]; exact hne
end
end Go.Proofs.YtempjmpfdniecaaGreatDoor
namespace Go.Proofs.YtempjmpfdniecaaGreatDoor
open Go.RowKit
section
variable {K : World → Prop} {L : List (Nat × TypeId × List Value)} {O : List Own} {X X' : List (World → Prop)} {w w' w0 : World} {n n' : Nat} {row : Option Nat} {Tt : List TypeId}
theorem Mem.cx (h : Mem ⟨n, w0, row, Tt⟩ K L O X w) : Mem ⟨n', w0, row, Tt⟩ K L O X w := ⟨h.g, h.k, h.b, h.nd, h.o, h.od, h.oo, h.x, h.kk, h.l, h.rs⟩
end
section
variable {c : Cx} {K : World → Prop} {L : List (Nat × TypeId × List Value)} {O : List Own} {X X' : List (World → Prop)} {w w' : World}
/-- A call has turned a block that is known, the only one, and handed a row of its own out through it. -/
theorem Mem.handed {g : Nat} {T e : TypeId} {sz m : Nat} {v u : Value} {xs : List Value} (hm : Mem c (fun _ => True) [(g, T, [u])] O X w) (hg : w.grownBy w' (some g)) (hb : Blk w' g T [v]) (ho : w'.ownsRow w.heap.size e sz v m xs)
    (hX : ∀ A ∈ X', (∀ w w', c.w0.heap.size ≤ g → w.grownBy w' (some g) → A w → A w') ∧ A ∈ X) : Mem c (fun _ => True) [(g, T, [v])] [⟨v, e, sz, m, xs⟩] X' w' := by
  have h1 := hm.b _ (List.mem_singleton.2 rfl)
  have hlt : g < w.heap.size := h1.2.lt
  have hN : c.w0.heap.size ≤ w.heap.size := hm.g.size
  have hne : v.ownBlock ≠ some g := fun e => by
    have := ho.lt g e
    omega
  refine ⟨⟨hg.os.trans hm.g.os, hg.tape.trans hm.g.tape, hg.output.trans hm.g.output, Nat.le_trans hm.g.size hg.size, fun k hk hne => ?_⟩, trivial, fun x hx => ?_, List.pairwise_singleton _ _, fun r hr => ?_, fun r hr x hx => ?_, List.pairwise_singleton _ _, fun A hA => (hX A hA).1 _ _ h1.1 hg (hm.x A (hX A hA).2), Keeps.true_, fun A hA => hm.l A (hX A hA).2, hm.rs⟩
  · exact (hg.block k (Nat.lt_of_lt_of_le hk hm.g.size) (fun e => by
      have e2 : k = g := by injection e
      have := h1.1
      omega)).trans (hm.g.block k hk hne)
  · rw [List.mem_singleton.1 hx]; exact ⟨h1.1, hb⟩
  · rw [List.mem_singleton.1 hr]
    refine ⟨ho.1, ?_⟩
    rcases ho.2 with h | ⟨g', cap, cur, h2, h3, h4⟩
    · exact .inl h
    · exact .inr ⟨g', cap, cur, h2, Nat.le_trans hN h3, h4⟩
  · rw [List.mem_singleton.1 hr, List.mem_singleton.1 hx]; exact hne
end
theorem TxtO.far {N g : Nat} {row : Option Nat} : ∀ w w' : World, N ≤ g → w.grownBy w' (some g) → TxtO N row w → TxtO N row w' := fun _ _ hN hg h =>
  ⟨h.1.same fun k hk => hg.block k (h.1.lt hk) (fun e => by
    have e2 : k = g := by injection e
    have := (h.2 k hk).1
    omega), h.2⟩
end Go.Proofs.YtempjmpfdniecaaGreatDoor
namespace Go.Proofs.YtempjmpfdniecaaGreatDoor
open Go.RowKit
/-- What classesFrom does, from a place of the order on. -/
def CfSpec (w0 : World) (l : List Bk) (A : Option Addr) (nb cb : Nat) (cs : List Cs) (sl : List Sk) (A9 : Option Addr) (c9 : Nat) (cx : List ChS) (od : List Nat) (Ao : Option Addr) (co : Nat) (re : List Int) (g g7 gc gr : Nat) (k : Nat) : Prop := ∀ (used : Nat) (best : Option Nat) (cl : List ByteArray) (w : World), cl.length = nb → used ≤ 1000 * k → Mem ⟨0, w0, none, [269, 268]⟩ (fun _ => True) [(g, 266, [.slice A nb cb, .slice A9 nb c9, .slice Ao nb co, .slice (some ⟨gc, 0, none⟩) nb nb, .slice none 0 0, .slice (some ⟨gr, 0, none⟩) (nb + 1) (nb + 1), .int .i64 (bestI best)]), (g7, 262, [.pointer (some ⟨g, 0, none⟩)])] [⟨.slice (some ⟨gc, 0, none⟩) nb nb, 9, 1, nb, (cl).flatMap sgEnc⟩, ⟨.slice Ao nb co, 3, 1, nb, od.flatMap nEnc⟩, ⟨.slice (some ⟨gr, 0, none⟩) (nb + 1) (nb + 1), 3, 1, nb + 1, re.flatMap iEnc⟩] [SlOld bkEnc 6 92 w0.heap.size none A nb l, fun wy => SlT csnEnc 1 269 wy A9 nb cx, fun wy => Chs 268 cx wy] w →
    Calls Tryz.prog 228 #[.pointer (some ⟨g, 0, none⟩), .int .i64 ((k : Nat) : Int), .int .i64 ((used : Nat) : Int)] w (fun e w' => ∃ cl' : List ByteArray, e = .returned (.tuple #[]) ∧ cl'.length = nb ∧ plB l cl' (od.take k) = plB l cl (od.take k) ∧ Mem ⟨0, w0, none, [269, 268]⟩ (fun _ => True) [(g, 266, [.slice A nb cb, .slice A9 nb c9, .slice Ao nb co, .slice (some ⟨gc, 0, none⟩) nb nb, .slice none 0 0, .slice (some ⟨gr, 0, none⟩) (nb + 1) (nb + 1), .int .i64 (bestI (bbW roomF ((od.drop (k)).map (itB cs sl l)) (plB l cl (od.take (k))) (used) (best)))]), (g7, 262, [.pointer (some ⟨g, 0, none⟩)])] [⟨.slice (some ⟨gc, 0, none⟩) nb nb, 9, 1, nb, (cl').flatMap sgEnc⟩, ⟨.slice Ao nb co, 3, 1, nb, od.flatMap nEnc⟩, ⟨.slice (some ⟨gr, 0, none⟩) (nb + 1) (nb + 1), 3, 1, nb + 1, re.flatMap iEnc⟩] [SlOld bkEnc 6 92 w0.heap.size none A nb l, fun wy => SlT csnEnc 1 269 wy A9 nb cx, fun wy => Chs 268 cx wy] w')
theorem cf_step (w0 : World) (l : List Bk) (A : Option Addr) (nb cb : Nat) (cs : List Cs) (sl : List Sk) (A9 : Option Addr) (c9 : Nat) (cx : List ChS) (od : List Nat) (Ao : Option Addr) (co : Nat) (re : List Int) (g g7 gc gr : Nat) (k : Nat) (ih : k < nb → CfSpec w0 l A nb cb cs sl A9 c9 cx od Ao co re g g7 gc gr (k + 1)) (hk : k ≤ nb) (hn : nb ≤ 1000) (hco : nb ≤ co) (hol : od.length = nb) (hrl : re.length = nb + 1) (hord : ∀ j ∈ od, j < nb) (hnd : od.Nodup) (htm : BkTim l) (hcx : cx.map ChS.l = l.map (chB cs sl)) (hstp : ∀ b ∈ l, ∀ q ∈ chB cs sl b, q.2.1 ≤ 1000) (hchl : ∀ b ∈ l, (chB cs sl b).length ≤ 1000) (hrest : ∀ k, restI ((od.drop k).map (itB cs sl l)) ≤ 1000000) (hre : ∀ k, k ≤ nb → re[k]? = some ((restI ((od.drop k).map (itB cs sl l)) : Nat) : Int)) : CfSpec w0 l A nb cb cs sl A9 c9 cx od Ao co re g g7 gc gr k := by
 intro used best cl w hcl hused hm
 refine gw_enter ⟨88, w0, none, [269, 268]⟩ Tryz.func228 rfl Tryz.ntmps228 rfl hm.cx ?_
 refine gw_seq ?_
 obtain ⟨BB, hBB⟩ : ∃ z, z = bbW roomF ((od.drop (k)).map (itB cs sl l)) (plB l cl (od.take (k))) (used) (best) := ⟨_, rfl⟩
 obtain ⟨rk, hrk⟩ : ∃ z, z = restI ((od.drop k).map (itB cs sl l)) := ⟨_, rfl⟩
 have hrb := hrest k
 rw [← hrk] at hrb
 have hrg := hre k hk
 rw [← hrk] at hrg
 rw [← hBB]
 refine gw_cut (γ := Bool) (I := (fun (sb : Bool) => sb = stopW best (used + rk))) (S' := (fun (sb : Bool) => [(0, .pointer (some ⟨g, 0, none⟩)), (1, .int .i64 ((k : Nat) : Int)), (2, .int .i64 ((used : Nat) : Int)), (29, .bool sb)])) (K' := (fun (sb : Bool) => fun _ => True)) (L' := (fun (sb : Bool) => [(g, 266, [.slice A nb cb, .slice A9 nb c9, .slice Ao nb co, .slice (some ⟨gc, 0, none⟩) nb nb, .slice none 0 0, .slice (some ⟨gr, 0, none⟩) (nb + 1) (nb + 1), .int .i64 (bestI best)]), (g7, 262, [.pointer (some ⟨g, 0, none⟩)])])) (O' := (fun (sb : Bool) => [⟨.slice (some ⟨gc, 0, none⟩) nb nb, 9, 1, nb, (cl).flatMap sgEnc⟩, ⟨.slice Ao nb co, 3, 1, nb, od.flatMap nEnc⟩, ⟨.slice (some ⟨gr, 0, none⟩) (nb + 1) (nb + 1), 3, 1, nb + 1, re.flatMap iEnc⟩])) (X' := (fun (sb : Bool) => [SlOld bkEnc 6 92 w0.heap.size none A nb l, fun wy => SlT csnEnc 1 269 wy A9 nb cx, fun wy => Chs 268 cx wy])) ?_ ?_
 ·refine gd (fun wz => Blk wz g 266 [.slice A nb cb, .slice A9 nb c9, .slice Ao nb co, .slice (some ⟨gc, 0, none⟩) nb nb, .slice none 0 0, .slice (some ⟨gr, 0, none⟩) (nb + 1) (nb + 1), .int .i64 (bestI best)] ∧ Blk wz g7 262 [.pointer (some ⟨g, 0, none⟩)] ∧ (SlOld bkEnc 6 92 w0.heap.size none A nb l) wz ∧ (fun wy => SlT csnEnc 1 269 wy A9 nb cx) wz ∧ (fun wy => Chs 268 cx wy) wz ∧ wz.ownsRow w0.heap.size 9 1 (.slice (some ⟨gc, 0, none⟩) nb nb) nb ((cl).flatMap sgEnc) ∧ wz.ownsRow w0.heap.size 3 1 (.slice Ao nb co) nb (od.flatMap nEnc) ∧ wz.ownsRow w0.heap.size 3 1 (.slice (some ⟨gr, 0, none⟩) (nb + 1) (nb + 1)) (nb + 1) (re.flatMap iEnc) ∧ True) mixed (fun _ hm => ⟨hm.bl 0, hm.bl 1, hm.fa 0, hm.fa 1, hm.fa 2, hm.ownI 0 rfl, hm.ownI 1 rfl, hm.ownI 2 rfl, trivial⟩) fun z => ?_
  refine wt 0 21 1 rfl z (ov_move rfl) ?_
  refine wt 1 21 3 rfl z (ov_nilcheck rfl) ?_
  refine wt 2 21 7 rfl z (ov_field fo266_6 rfl rfl) ?_
  refine wt 3 21 15 rfl z (ov_load sc3 rfl (fun _ hm => hm.1) rfl) ?_
  refine wt 4 21 31 rfl z (ov_geq rfl rfl) ?_
  refine wt 5 21 63 rfl z (ov_move rfl) ?_
  rcases Bool.eq_false_or_eq_true (decide (0 ≤ bestI best)) with h1 | h1
  ·refine wa_set 14 rfl (congrArg Value.bool h1) ?_
   refine wto 6 21 127 rfl rfl rfl z (ov_move rfl) ?_
   refine wto 7 21 255 rfl rfl rfl z (ov_move rfl) ?_
   refine wto 8 21 511 rfl rfl rfl z (ov_nilcheck rfl) ?_
   refine wto 9 21 1023 rfl rfl rfl z (ov_field fo266_5 rfl rfl) ?_
   refine wto 10 21 2047 rfl rfl rfl z (ov_load sc22 rfl (fun _ hm => hm.1) rfl) ?_
   refine wto 11 21 4095 rfl rfl rfl z (ov_move rfl) ?_
   refine wto 12 21 8191 rfl rfl rfl z (ov_index (j := k) es22 rfl rfl (by omega)) ?_
   refine wto 13 21 16383 rfl rfl rfl z (ov_elem1 (k := 0) (v := .int .i64 ((rk : Nat) : Int)) sc3 rfl (fun _ hm => (SlT.ofOwn i_len (hm.2.2.2.2.2.2.2.1) hrl)) hrg rfl rfl) ?_
   refine wto 14 21 32767 rfl rfl rfl z (ov_add rfl rfl (by omega) (by omega)) ?_
   refine wto 15 21 65535 rfl rfl rfl z (ov_move rfl) ?_
   refine wto 16 21 131071 rfl rfl rfl z (ov_nilcheck rfl) ?_
   refine wto 17 21 262143 rfl rfl rfl z (ov_field fo266_6 rfl rfl) ?_
   refine wto 18 21 524287 rfl rfl rfl z (ov_load sc3 rfl (fun _ hm => hm.1) rfl) ?_
   refine wto 19 21 1048575 rfl rfl rfl z (ov_geq rfl rfl) ?_
   refine wt 20 21 2097151 rfl z (ov_pick_t rfl rfl) ?_
   refine wa_done (by kernel_rfl) ?_
   exact nx_meet (decide (bestI best ≤ ((used : Nat) : Int) + ((rk : Nat) : Int))) (by rw [← stopW_iff, h1]; first | rfl | (rw [Bool.true_and, decide_eq_decide]; omega)) ⟨rfl, rfl, rfl, rfl, trivial⟩ (fun _ hm => hm.pick [0, 1] [0, 1, 2] [0, 1, 2] rfl rfl)
  refine wa_set 14 rfl (congrArg Value.bool h1) ?_
  refine wtf 6 21 127 rfl rfl rfl z ?_
  refine wtf 7 21 255 rfl rfl rfl z ?_
  refine wtf 8 21 511 rfl rfl rfl z ?_
  refine wtf 9 21 1023 rfl rfl rfl z ?_
  refine wtf 10 21 2047 rfl rfl rfl z ?_
  refine wtf 11 21 4095 rfl rfl rfl z ?_
  refine wtf 12 21 8191 rfl rfl rfl z ?_
  refine wtf 13 21 16383 rfl rfl rfl z ?_
  refine wtf 14 21 32767 rfl rfl rfl z ?_
  refine wtf 15 21 65535 rfl rfl rfl z ?_
  refine wtf 16 21 131071 rfl rfl rfl z ?_
  refine wtf 17 21 262143 rfl rfl rfl z ?_
  refine wtf 18 21 524287 rfl rfl rfl z ?_
  refine wtf 19 21 1048575 rfl rfl rfl z ?_
  refine wt 20 21 2097151 rfl z (ov_pick_f rfl rfl) ?_
  refine wa_done (by kernel_rfl) ?_
  exact nx_meet false (by rw [← stopW_iff, h1]; first | rfl | (rw [Bool.true_and, decide_eq_decide]; omega)) ⟨rfl, rfl, rfl, rfl, trivial⟩ (fun _ hm => hm.pick [0, 1] [0, 1, 2] [0, 1, 2] rfl rfl)
 intro sb hinv
 replace hinv : sb = stopW best (used + rk) := hinv
 have hst0 : sb = stopW best (used + rk) := hinv
 refine gw_cond rfl (fun hh => ?_) (fun hh => ?_)
 ·have hsb : sb = true := by simpa using hh
  clear hh
  refine gw_ret ?_
  refine nx_then_ret ?_
  have hst : stopW best (used + rk) = true := hst0.symm.trans hsb
  rw [show BB = best from by rw [hBB]; exact bb_stop (by rw [← hrk]; exact hst)]
  refine nx_ret0' rfl fun wx hm => ?_
  exact ⟨cl, rfl, hcl, rfl, (hm.pick [0, 1] [0, 1, 2] [0, 1, 2] rfl rfl).cx⟩
 have hsb : sb = false := by simpa using hh
 clear hh
 refine gw_skip (nx_then (gw_seq (sr_ ?_)))
 have hst : stopW best (used + rk) = false := hst0.symm.trans hsb
 refine mv_ rfl (mv_ rfl (wl_ov (ov_nilcheck rfl) rfl (fd_ fo266_2 rfl rfl (lk_ sc22 0 rfl rfl rfl (wl_ov (ov_len es22 rfl) rfl (wl_ov (ov_eql rfl rfl) rfl (nn_ ?_)))))))
 refine gw_cond rfl (fun hh => ?_) (fun hh => ?_)
 ·have hkn : ((k : Nat) : Int) = ((nb : Nat) : Int) := by simpa using hh
  clear hh
  refine sr_ (mv_ rfl (mv_ rfl (wl_ov (ov_nilcheck rfl) rfl (fd_ fo266_6 rfl rfl ?_))))
  refine wl_store 0 sc3 rfl rfl rfl rfl rfl rfl ?_
  refine nn_ ?_
  refine gw_ret ?_
  refine nx_then_ret ?_
  have hk2 : nb ≤ k := by omega
  rw [show BB = some used from by rw [hBB]; rw [List.drop_eq_nil_of_le (by omega)]; exact bb_end (by rw [List.drop_eq_nil_of_le (by omega)] at hrk; rw [show restI ([] : List (ItW ByteArray)) = rk from hrk.symm]; exact hst)]
  refine nx_ret0' rfl fun wx hm => ?_
  exact ⟨cl, rfl, hcl, rfl, (hm.pick [0, 1] [0, 1, 2] [0, 1, 2] rfl rfl).cx⟩
 have hkn : ¬ (((k : Nat) : Int) = ((nb : Nat) : Int)) := by simpa using hh
 clear hh
 refine gw_skip (nx_then (sr_ ?_))
 have hk2 : k < nb := by omega
 obtain ⟨i, hi⟩ : ∃ x, od[k]? = some x := ⟨_, List.getElem?_eq_getElem (by omega)⟩
 have hib := hord i (List.mem_of_getElem? hi)
 have hdm := drop_map_at (cs := cs) (sl := sl) (l := l) hi
 obtain ⟨PL, hPL⟩ : ∃ z, z = plB l cl (od.take k) := ⟨_, rfl⟩
 rw [← hPL] at hBB ⊢
 rw [hdm] at hrk hBB
 rw [bb_at (by rw [← hrk]; exact hst)] at hBB
 have hl0 := (hm.fact 0 rfl : SlOld bkEnc 6 92 w0.heap.size none A nb l w).1
 have hlen := hl0.len
 have hch9 : SlT csnEnc 1 269 w A9 nb cx := hm.fact 1 rfl
 have hchs : Chs 268 cx w := hm.fact 2 rfl
 have hcl9 := hch9.len
 refine wl_look (R := ∃ g, Ao = some ⟨g, 0, none⟩) (fun wx hm => own_addr (hm.ownI 1 rfl) (by omega)) ?_
 rintro ⟨go, rfl⟩
 obtain ⟨b9, o9, hA, _, _⟩ := hch9.get (by omega)
 subst hA
 obtain ⟨x9, hx9⟩ : ∃ x, cx[i]? = some x := ⟨_, List.getElem?_eq_getElem (by omega)⟩
 have hx9l := cx_at hcx hx9
 have hx9m := List.mem_of_getElem? hx9
 have hs9 := hchs x9 hx9m
 obtain ⟨Ai, ni, ci, li⟩ := x9
 dsimp only at hx9l hs9
 have hni := hs9.len
 obtain ⟨b0, hb0⟩ : ∃ x, l[i]? = some x := ⟨_, List.getElem?_eq_getElem (by omega)⟩
 have hni1 : ni ≤ 1000 := by have h8 := hchl b0 (List.mem_of_getElem? hb0); rw [← bkAt_get hb0, ← hx9l] at h8; omega
 have hstl : ∀ q ∈ li, q.2.1 ≤ 1000 := by rw [hx9l, bkAt_get hb0]; exact hstp b0 (List.mem_of_getElem? hb0)
 obtain ⟨xw, hxw⟩ : ∃ z, z = wnB (bkAt l i) := ⟨_, rfl⟩
 obtain ⟨RS, hRS⟩ : ∃ z, z = (od.drop (k + 1)).map (itB cs sl l) := ⟨_, rfl⟩
 replace hBB : BB = li.foldl (bbS roomF RS PL xw used) best := by rw [hBB, hxw, hRS, hx9l]; rfl
 refine mv_ rfl (wl_ov (ov_nilcheck rfl) rfl (fd_ fo266_2 rfl rfl (lk_ sc22 0 rfl rfl rfl (mv_ rfl ?_))))
 refine wl_ov (ov_index (j := k) es22 rfl rfl (by omega)) rfl ?_
 refine wl_ov (ov_elem1 (k := 0) (v := .int .i64 ((i : Nat) : Int)) sc3 rfl (fun _ hm => (SlT.ofOwn n_len (hm.ownI 1 rfl) hol)) hi rfl rfl) rfl ?_
 refine sg_ rfl (nn_ (sr_ (mv_ rfl (wl_ov (ov_nilcheck rfl) rfl (fd_ fo266_1 rfl rfl (lk_ sc263 0 rfl rfl rfl (mv_ rfl ?_)))))))
 refine wl_ov (ov_index (j := i) es263 rfl rfl (by omega)) rfl ?_
 refine wl_ov (ov_elem1 (k := 0) (v := .slice Ai ni ci) sc269 rfl (fun _ hm => (hm.fact 1 rfl)) hx9 rfl rfl) rfl ?_
 refine wl_ov (ov_len es269 rfl) rfl (mv_ rfl (nn_ (gw_block ?_)))
 refine gw_loop (γ := Nat × Option Nat × List ByteArray) (fun (gq : Nat × Option Nat × List ByteArray) => gq.1 ≤ ni ∧ gq.2.2.length = nb ∧ plB l gq.2.2 (od.take k) = PL ∧ BB = (li.drop gq.1).foldl (bbS roomF RS PL xw used) gq.2.1) (fun (gq : Nat × Option Nat × List ByteArray) => [(0, .pointer (some ⟨g, 0, none⟩)), (1, .int .i64 ((k : Nat) : Int)), (2, .int .i64 ((used : Nat) : Int)), (6, .int .i64 ((i : Nat) : Int)), (54, .slice Ai ni ci), (55, .int .i64 ((ni : Nat) : Int)), (56, .int .i64 ((gq.1 : Nat) : Int))]) (fun (gq : Nat × Option Nat × List ByteArray) => fun _ => True) (fun (gq : Nat × Option Nat × List ByteArray) => [(g, 266, [.slice A nb cb, .slice (some ⟨b9, o9, none⟩) nb c9, .slice (some ⟨go, 0, none⟩) nb co, .slice (some ⟨gc, 0, none⟩) nb nb, .slice none 0 0, .slice (some ⟨gr, 0, none⟩) (nb + 1) (nb + 1), .int .i64 (bestI gq.2.1)]), (g7, 262, [.pointer (some ⟨g, 0, none⟩)])]) (fun (gq : Nat × Option Nat × List ByteArray) => [⟨.slice (some ⟨gc, 0, none⟩) nb nb, 9, 1, nb, (gq.2.2).flatMap sgEnc⟩, ⟨.slice (some ⟨go, 0, none⟩) nb co, 3, 1, nb, od.flatMap nEnc⟩, ⟨.slice (some ⟨gr, 0, none⟩) (nb + 1) (nb + 1), 3, 1, nb + 1, re.flatMap iEnc⟩]) (fun (gq : Nat × Option Nat × List ByteArray) => [SlOld bkEnc 6 92 w0.heap.size none A nb l, fun wy => SlT csnEnc 1 269 wy (some ⟨b9, o9, none⟩) nb cx, fun wy => Chs 268 cx wy]) (fun (gq : Nat × Option Nat × List ByteArray) => ni - gq.1) (0, best, cl) ⟨Nat.zero_le _, hcl, hPL.symm, hBB⟩ ⟨rfl, rfl, rfl, rfl, rfl, rfl, rfl, trivial⟩ (fun _ hm => hm.pick [0, 1] [0, 1, 2] [0, 1, 2] rfl rfl) ?_
 rintro ⟨j, bj, ce⟩ hinv
 replace hinv : j ≤ ni ∧ ce.length = nb ∧ plB l ce (od.take k) = PL ∧ BB = (li.drop j).foldl (bbS roomF RS PL xw used) bj := hinv
 dsimp only
 refine sr_ ?_
 obtain ⟨hj0, hce, hpl, hBj⟩ := hinv
 refine wl_ov (ov_lss rfl rfl) rfl (nn_ (gw_seq ?_))
 refine gw_cond rfl (fun hh => ?_) (fun hh => ?_)
 ·have hj : ((j : Nat) : Int) < ((ni : Nat) : Int) := by simpa using hh
  clear hh
  refine gw_skip (nx_then (gw_seq (gw_block (sr_ ?_))))
  obtain ⟨bi, oi, hA, _, _⟩ := hs9.get (by omega)
  subst hA
  obtain ⟨q, hq⟩ : ∃ x, li[j]? = some x := ⟨_, List.getElem?_eq_getElem (by omega)⟩
  have hqs := hstl q (List.mem_of_getElem? hq)
  rw [foldl_at hq] at hBj
  obtain ⟨c, st, mm⟩ := q
  dsimp only at hqs
  obtain ⟨RF, hRF⟩ : ∃ z, z = roomF PL xw (c, st, mm) := ⟨_, rfl⟩
  refine wl_ov (ov_index (j := j) es269 rfl rfl (by omega)) rfl ?_
  refine wl_ov (ov_elem (vs := [.string c, .int .i64 ((st : Nat) : Int), .int .i64 ((mm : Nat) : Int)]) rz268 rfl (fun _ hm => ((hm.fact 2 rfl) _ hx9m)) hq rfl rfl) rfl ?_
  refine wl_allocs (vs := [.string c, .int .i64 ((st : Nat) : Int), .int .i64 ((mm : Nat) : Int)]) (cs' := [.string c, .int .i64 ((st : Nat) : Int), .int .i64 ((mm : Nat) : Int)]) zc268 rfl rz268 (fun _ => rfl) (fun _ => rfl) rfl rfl rfl rfl fun g1 => ?_
  refine nn_ (sr_ (mv_ rfl (mv_ rfl (mv_ rfl ?_))))
  refine wl_ov (ov_loads rz268 rfl (fun _ hm => hm.blkI 0 rfl) rfl rfl) rfl ?_
  refine wl_callv (v := .bool RF) rfl cb282 rfl rfl (fun wx hm => (by rw [hRF, ← hpl, hxw]; exact fits_any l A nb cb (some ⟨go, 0, none⟩) co od (some ⟨gc, 0, none⟩) nb ce _ _ _ _ g k i c st mm wx (hm.blkI 1 rfl) (hm.fact 0 rfl).1 (SlT.ofOwn n_len (hm.ownI 1 rfl) hol) (SlT.ofOwn sg_len (hm.ownI 0 rfl) hce) hk hib hn hco hord htm)) ?_
  refine nn_ ?_
  refine gw_cond rfl (fun hh => ?_) (fun hh => ?_)
  ·have hrf : RF = true := by simpa using hh
   clear hh
   refine gw_seq ?_
   have hbs : bbS roomF RS PL xw used bj (c, st, mm) = bbW roomF RS (PL ++ [(c, xw)]) (used + st) bj := if_pos (hRF.symm.trans hrf)
   rw [hbs] at hBj
   obtain ⟨c0, hc0⟩ : ∃ x, ce[i]? = some x := ⟨_, List.getElem?_eq_getElem (by omega)⟩
   have hps := plB_snoc (l := l) (x := c) hi hnd (by omega : i < ce.length)
   rw [hpl, ← hxw] at hps
   refine gd (fun wz => Blk wz g1 268 [.string c, .int .i64 ((st : Nat) : Int), .int .i64 ((mm : Nat) : Int)] ∧ Blk wz g 266 [.slice A nb cb, .slice (some ⟨b9, o9, none⟩) nb c9, .slice (some ⟨go, 0, none⟩) nb co, .slice (some ⟨gc, 0, none⟩) nb nb, .slice none 0 0, .slice (some ⟨gr, 0, none⟩) (nb + 1) (nb + 1), .int .i64 (bestI bj)] ∧ Blk wz g7 262 [.pointer (some ⟨g, 0, none⟩)] ∧ (SlOld bkEnc 6 92 w0.heap.size none A nb l) wz ∧ (fun wy => SlT csnEnc 1 269 wy (some ⟨b9, o9, none⟩) nb cx) wz ∧ (fun wy => Chs 268 cx wy) wz ∧ True) mixed (fun _ hm => ⟨hm.bl 0, hm.bl 1, hm.bl 2, hm.fa 0, hm.fa 1, hm.fa 2, trivial⟩) fun z => ?_
   refine wt 0 9 1 rfl z (ov_move rfl) ?_
   refine wt 1 9 3 rfl z (ov_nilcheck rfl) ?_
   refine wt 2 9 7 rfl z (ov_field fo266_3 rfl rfl) ?_
   refine wt 3 9 15 rfl z (ov_load sc103 rfl (fun _ hm => hm.2.1) rfl) ?_
   refine wt 4 9 31 rfl z (ov_move rfl) ?_
   refine wt 5 9 63 rfl z (ov_field fo268_0 rfl rfl) ?_
   refine wt 6 9 127 rfl z (ov_load sc9 rfl (fun _ hm => hm.1) rfl) ?_
   refine wt 7 9 255 rfl z (ov_index (j := i) es103 rfl rfl (by omega)) ?_
   refine wa1 8 rfl ?_
   refine wl_storeE (l := ce) (j := i) (r := 0) (el := c0) (el' := c) 0 sc9 rfl rfl rfl rfl sg_len rfl hc0 hce (show 0 < 1 by decide) rfl rfl ?_
   refine wl_nil ?_
   refine nw 9 511 (fun _ hm => ⟨hm.bl 0, hm.bl 1, hm.bl 2, hm.fa 0, hm.fa 1, hm.fa 2, trivial⟩) fun z => ?_
   refine wa_done (by kernel_rfl) ?_
   refine nx_then (sr_ (mv_ rfl (mv_ rfl (ad_ rfl rfl ?_))))
   refine wl_set 75 (v' := .int .i64 ((k + 1 : Nat) : Int)) rfl (congrArg (Value.int .i64) (by omega)) ?_
   refine mv_ rfl (fd_ fo268_1 rfl rfl (lk_ sc3 0 rfl rfl rfl (ad_ rfl rfl ?_)))
   refine wl_set 79 (v' := .int .i64 ((used + st : Nat) : Int)) rfl (congrArg (Value.int .i64) (by omega)) ?_
   refine wl_callG (γ := List ByteArray) (val := fun _ => .tuple #[]) (φ := fun c2 => c2.length = nb ∧ plB l c2 (od.take (k + 1)) = plB l (ce.set i c) (od.take (k + 1))) (K' := fun _ => fun _ => True) (L' := fun _ => [(g, 266, [.slice A nb cb, .slice (some ⟨b9, o9, none⟩) nb c9, .slice (some ⟨go, 0, none⟩) nb co, .slice (some ⟨gc, 0, none⟩) nb nb, .slice none 0 0, .slice (some ⟨gr, 0, none⟩) (nb + 1) (nb + 1), .int .i64 (bestI (bbW roomF RS (PL ++ [(c, xw)]) (used + st) bj))]), (g7, 262, [.pointer (some ⟨g, 0, none⟩)])]) (O' := fun c2 => [⟨.slice (some ⟨gc, 0, none⟩) nb nb, 9, 1, nb, (c2).flatMap sgEnc⟩, ⟨.slice (some ⟨go, 0, none⟩) nb co, 3, 1, nb, od.flatMap nEnc⟩, ⟨.slice (some ⟨gr, 0, none⟩) (nb + 1) (nb + 1), 3, 1, nb + 1, re.flatMap iEnc⟩]) (X' := fun _ => [SlOld bkEnc 6 92 w0.heap.size none A nb l, fun wy => SlT csnEnc 1 269 wy (some ⟨b9, o9, none⟩) nb cx, fun wy => Chs 268 cx wy]) rfl cb228 rfl rfl (fun wx hm => by
    have h := ih hk2 (used + st) bj (ce.set i c) wx (by rw [List.length_set]; exact hce) (by omega) ((hm.pick [1, 2] [0, 1, 2] [0, 1, 2] rfl rfl).cx)
    rw [hps, ← hRS] at h
    exact h.mono fun _ _ ⟨c2, he, h1, h2, hm2⟩ => ⟨c2, he, ⟨h1, by rw [h2, hps]⟩, hm2.cx⟩) ?_
   rintro c2 ⟨hc2, hpl2⟩
   obtain ⟨c3, hc3⟩ : ∃ x, c2[i]? = some x := ⟨_, List.getElem?_eq_getElem (by omega)⟩
   have hpl3 := plB_take hpl2
   rw [nd_set hnd hi, hpl] at hpl3
   refine nn_ (gw_region (mv_ rfl (wl_ov (ov_nilcheck rfl) rfl (fd_ fo266_3 rfl rfl (lk_ sc103 0 rfl rfl rfl (mv_ rfl ?_))))))
   refine wl_ov (ov_index (j := i) es103 rfl rfl (by omega)) rfl ?_
   refine wl_storeE (l := c2) (j := i) (r := 0) (el := c3) (el' := ⟨#[]⟩) 0 sc9 rfl rfl rfl rfl sg_len rfl hc3 hc2 (show 0 < 1 by decide) rfl rfl ?_
   refine wl_nil (nx_blk_nrm (nx_then (gw_region (ad_ rfl rfl (mv_ rfl (wl_nil ?_))))))
   exact nx_round (j + 1, bbW roomF RS (PL ++ [(c, xw)]) (used + st) bj, c2.set i ⟨#[]⟩) ⟨by dsimp only; omega, by dsimp only; rw [List.length_set]; exact hc2, by dsimp only; rw [nd_set hnd hi]; exact hpl3, hBj⟩ (by dsimp only; omega) ⟨rfl, rfl, rfl, rfl, rfl, rfl, (some_int (by omega)), trivial⟩ (fun _ hm => hm.pick [0, 1] [0, 1, 2] [0, 1, 2] rfl rfl)
  have hrf : RF = false := by simpa using hh
  clear hh
  refine gw_skip (nx_blk_nrm (nx_then (gw_region ?_)))
  have hbs : bbS roomF RS PL xw used bj (c, st, mm) = bj := if_neg (by rw [← hRF, hrf]; decide)
  rw [hbs] at hBj
  refine ad_ rfl rfl (mv_ rfl (wl_nil ?_))
  exact nx_round (j + 1, bj, ce) ⟨by dsimp only; omega, hce, hpl, hBj⟩ (by dsimp only; omega) ⟨rfl, rfl, rfl, rfl, rfl, rfl, (some_int (by omega)), trivial⟩ (fun _ hm => hm.pick [1, 2] [0, 1, 2] [0, 1, 2] rfl rfl)
 have hj : ¬ (((j : Nat) : Int) < ((ni : Nat) : Int)) := by simpa using hh
 clear hh
 refine gw_exit ?_
 refine nx_then_exit (nx_then_exit ?_)
 refine nx_blk_here ?_
 rw [foldl_end (by omega)] at hBj
 rw [hBj]
 refine nx_ret0 rfl fun wx hm => ?_
 exact ⟨ce, rfl, hce, hpl, (hm.pick [0, 1] [0, 1, 2] [0, 1, 2] rfl rfl).cx⟩
theorem cf_all (w0 : World) (l : List Bk) (A : Option Addr) (nb cb : Nat) (cs : List Cs) (sl : List Sk) (A9 : Option Addr) (c9 : Nat) (cx : List ChS) (od : List Nat) (Ao : Option Addr) (co : Nat) (re : List Int) (g g7 gc gr : Nat) (hn : nb ≤ 1000) (hco : nb ≤ co) (hol : od.length = nb) (hrl : re.length = nb + 1) (hord : ∀ j ∈ od, j < nb) (hnd : od.Nodup) (htm : BkTim l) (hcx : cx.map ChS.l = l.map (chB cs sl)) (hstp : ∀ b ∈ l, ∀ q ∈ chB cs sl b, q.2.1 ≤ 1000) (hchl : ∀ b ∈ l, (chB cs sl b).length ≤ 1000) (hrest : ∀ k, restI ((od.drop k).map (itB cs sl l)) ≤ 1000000) (hre : ∀ k, k ≤ nb → re[k]? = some ((restI ((od.drop k).map (itB cs sl l)) : Nat) : Int)) : ∀ (d k : Nat), k + d = nb → CfSpec w0 l A nb cb cs sl A9 c9 cx od Ao co re g g7 gc gr k
  | 0, k, h => cf_step w0 l A nb cb cs sl A9 c9 cx od Ao co re g g7 gc gr k (fun h2 => absurd h2 (by omega)) (by omega) hn hco hol hrl hord hnd htm hcx hstp hchl hrest hre
  | d + 1, k, h => cf_step w0 l A nb cb cs sl A9 c9 cx od Ao co re g g7 gc gr k (fun _ => cf_all w0 l A nb cb cs sl A9 c9 cx od Ao co re g g7 gc gr hn hco hol hrl hord hnd htm hcx hstp hchl hrest hre d (k + 1) (by omega)) (by omega) hn hco hol hrl hord hnd htm hcx hstp hchl hrest hre
end Go.Proofs.YtempjmpfdniecaaGreatDoor
namespace Go.Proofs.YtempjmpfdniecaaGreatDoor
open Go.RowKit
theorem SlT.farT {α : Type} {enc : α → List Value} {k : Nat} {T : TypeId} {N : Nat} {A : Option Addr} {n : Nat} {l : List α} {w : World} (h : SlT enc k T w A n l) {e : TypeId} {sz br m cap n' : Nat} {xs : List Value} (ho : w.ownsRow N e sz (.slice (some ⟨br, 0, none⟩) m cap) n' xs) (hT : T ≠ e) : SlOld enc k T w.heap.size (some br) A n l w := ⟨h, fun b off e1 hn => by
  obtain ⟨b2, off2, cells, fz, e2, hh, _⟩ := h.at_ hn
  rw [e1] at e2; cases e2
  refine ⟨(Array.getElem?_eq_some_iff.1 hh).1, fun e3 => ?_⟩
  cases e3
  rcases ho.2 with ⟨h2, _⟩ | ⟨g', cap', cur, hv, hbase, hh2, _⟩
  · cases h2
  · injection hv with hA _ _
    injection hA with hA
    injection hA with hA _ _
    subst hA
    rw [hh] at hh2
    injection hh2 with hh2
    injection hh2 with _ hh2 _
    exact hT hh2⟩
theorem lenN_at {css : List (List (CdW ByteArray))} {cx : List ChS} (h : cx.map ChS.l = css) (hn : ∀ x ∈ cx, x.l.length = x.n) {i : Nat} {x : ChS} (hx : cx[i]? = some x) : ((x.n : Nat) : Int) = (lenN css i : Int) := by
  unfold lenN
  rw [← h, List.getD_eq_getElem?_getD, List.getElem?_map, hx]
  show _ = ((x.l.length : Nat) : Int)
  rw [hn x (List.mem_of_getElem? hx)]
theorem coI_any (cx : List ChS) (css : List (List (CdW ByteArray))) (A9 : Option Addr) (nb c9 g7 g : Nat) (q0 q2 q3 q4 q5 q6 : Value) (i j : Nat) (w : World) (hch : SlT csnEnc 1 269 w A9 nb cx) (hp : Blk w g7 262 [.pointer (some ⟨g, 0, none⟩)]) (hb : Blk w g 266 [q0, .slice A9 nb c9, q2, q3, q4, q5, q6]) (hcx : cx.map ChS.l = css) (hcn : ∀ x ∈ cx, x.l.length = x.n) (hi : i < nb) (hj : j < nb) :
  Calls Tryz.prog 227 #[.int .i64 ((i : Nat) : Int), .int .i64 ((j : Nat) : Int), .pointer (some ⟨g7, 0, none⟩)] w (fun e w' => e = .returned (.int .i64 (cmpI (lenN css i : Int) (lenN css j : Int))) ∧ w.grownBy w' none) := by
 refine gw_enter ⟨23, w, none, []⟩ Tryz.func227 rfl Tryz.ntmps227 rfl (mem0 (X := [SlOld csnEnc 1 269 w.heap.size none A9 nb cx, BlkOld w.heap.size none g7 262 [.pointer (some ⟨g, 0, none⟩)], BlkOld w.heap.size none g 266 [q0, .slice A9 nb c9, q2, q3, q4, q5, q6]]) (allF_cons hch.old (allF_cons hp.old (allF_cons hb.old allF_nil))) (allL_cons SlOld.lasts (allL_cons BlkOld.lasts (allL_cons BlkOld.lasts allL_nil)))) ?_
 refine sr_ ?_
 have hlen := hch.len
 obtain ⟨b9, o9, hA, _, _⟩ := hch.get (by omega)
 subst hA
 obtain ⟨x, hx⟩ : ∃ x, cx[i]? = some x := ⟨_, List.getElem?_eq_getElem (by omega)⟩
 obtain ⟨y, hy⟩ : ∃ x, cx[j]? = some x := ⟨_, List.getElem?_eq_getElem (by omega)⟩
 have ex := lenN_at hcx hcn hx
 have ey := lenN_at hcx hcn hy
 obtain ⟨xa, xn, xc, xl⟩ := x
 obtain ⟨ya, yn, yc, yl⟩ := y
 dsimp only at ex ey
 rw [← ex, ← ey]
 refine sg_ rfl (nn_ (gw_seq ?_))
 refine gd (fun wz => (SlOld csnEnc 1 269 w.heap.size none (some ⟨b9, o9, none⟩) nb cx) wz ∧ (BlkOld w.heap.size none g7 262 [.pointer (some ⟨g, 0, none⟩)]) wz ∧ (BlkOld w.heap.size none g 266 [q0, .slice (some ⟨b9, o9, none⟩) nb c9, q2, q3, q4, q5, q6]) wz ∧ True) mixed (fun _ hm => ⟨hm.fa 0, hm.fa 1, hm.fa 2, trivial⟩) fun z => ?_
 refine wt 0 18 1 rfl z (ov_load (v := .pointer (some ⟨g, 0, none⟩)) sc262 rfl (fun _ hm => (hm.2.1).2) rfl) ?_
 refine wt 1 18 3 rfl z (ov_nilcheck rfl) ?_
 refine wt 2 18 7 rfl z (ov_field fo266_1 rfl rfl) ?_
 refine wt 3 18 15 rfl z (ov_load (v := .slice (some ⟨b9, o9, none⟩) nb c9) sc263 rfl (fun _ hm => (hm.2.2.1).2) rfl) ?_
 refine wt 4 18 31 rfl z (ov_move rfl) ?_
 refine wt 5 18 63 rfl z (ov_index (j := i) es263 rfl rfl (by omega)) ?_
 refine wt 6 18 127 rfl z (ov_elem1 (k := 0) (v := .slice xa xn xc) sc269 rfl (fun _ hm => (hm.1).1) hx rfl rfl) ?_
 refine wt 7 18 255 rfl z (ov_len es269 rfl) ?_
 refine wt 8 18 511 rfl z (ov_load (v := .pointer (some ⟨g, 0, none⟩)) sc262 rfl (fun _ hm => (hm.2.1).2) rfl) ?_
 refine wt 9 18 1023 rfl z (ov_nilcheck rfl) ?_
 refine wt 10 18 2047 rfl z (ov_field fo266_1 rfl rfl) ?_
 refine wt 11 18 4095 rfl z (ov_load (v := .slice (some ⟨b9, o9, none⟩) nb c9) sc263 rfl (fun _ hm => (hm.2.2.1).2) rfl) ?_
 refine wt 12 18 8191 rfl z (ov_move rfl) ?_
 refine wt 13 18 16383 rfl z (ov_index (j := j) es263 rfl rfl (by omega)) ?_
 refine wt 14 18 32767 rfl z (ov_elem1 (k := 0) (v := .slice ya yn yc) sc269 rfl (fun _ hm => (hm.1).1) hy rfl rfl) ?_
 refine wt 15 18 65535 rfl z (ov_len es269 rfl) ?_
 refine wa1 16 rfl ?_
 refine wl_callv rfl cb83 rfl rfl (fun wx hm => (cmp_int _ _ wx)) ?_
 refine wl_nil ?_
 refine nw 18 131071 (fun _ hm => ⟨hm.fa 0, hm.fa 1, hm.fa 2, trivial⟩) fun z => ?_
 refine wt 17 18 262143 rfl z (ov_assign rfl) ?_
 refine wa_done (by kernel_rfl) ?_
 refine nx_then ?_
 refine gw_ret ?_
 refine nx_ret1 rfl rfl fun wx hm => ?_
 exact ⟨rfl, hm.g⟩
theorem coJ_any (cx : List ChS) (css : List (List (CdW ByteArray))) (A9 : Option Addr) (nb c9 g7 g : Nat) (q0 q2 q3 q4 q5 q6 : Value) (x y : Int) (w : World) (hch : SlT csnEnc 1 269 w A9 nb cx) (hp : Blk w g7 262 [.pointer (some ⟨g, 0, none⟩)]) (hb : Blk w g 266 [q0, .slice A9 nb c9, q2, q3, q4, q5, q6]) (hcx : cx.map ChS.l = css) (hcn : ∀ x ∈ cx, x.l.length = x.n) (hx : 0 ≤ x ∧ x < (nb : Int)) (hy : 0 ≤ y ∧ y < (nb : Int)) :
    Calls Tryz.prog 227 #[.int .i64 x, .int .i64 y, .pointer (some ⟨g7, 0, none⟩)] w (fun e w' => e = .returned (.int .i64 (cmpI (lenN css x.toNat : Int) (lenN css y.toNat : Int))) ∧ w.grownBy w' none) := by
  obtain ⟨i, rfl⟩ := Int.eq_ofNat_of_zero_le hx.1
  obtain ⟨j, rfl⟩ := Int.eq_ofNat_of_zero_le hy.1
  exact coI_any cx css A9 nb c9 g7 g q0 q2 q3 q4 q5 q6 i j w hch hp hb hcx hcn (by omega) (by omega)
theorem ins_co (cx : List ChS) (css : List (List (CdW ByteArray))) (A9 : Option Addr) (nb c9 g7 g : Nat) (q0 q2 q3 q4 q5 q6 : Value) (l0 : List Int) (br n cap base : Nat) (w : World) (h : w.ownsRow base 3 1 (.slice (some ⟨br, 0, none⟩) n cap) n (l0.flatMap iEnc)) (hl0 : l0.length = n) (hn : n ≤ 1000000) (hch : SlOld csnEnc 1 269 w.heap.size (some br) A9 nb cx w) (hp : BlkOld w.heap.size (some br) g7 262 [.pointer (some ⟨g, 0, none⟩)] w) (hb : BlkOld w.heap.size (some br) g 266 [q0, .slice A9 nb c9, q2, q3, q4, q5, q6] w) (hcx : cx.map ChS.l = css) (hcn : ∀ x ∈ cx, x.l.length = x.n) (hall : ∀ z ∈ l0, 0 ≤ z ∧ z < (nb : Int)) :
  Calls Tryz.prog 296 #[.slice (some ⟨br, 0, none⟩) n cap, .int .i64 0, .int .i64 ((n : Nat) : Int), .func (.func 227) #[] #[.pointer (some ⟨g7, 0, none⟩)]] w (fun e w' => e = .returned (.tuple #[]) ∧ w'.ownsRow base 3 1 (.slice (some ⟨br, 0, none⟩) n cap) n ((isort (coLt css) l0).flatMap iEnc) ∧ w.grownBy w' (some br)) := by
 obtain ⟨R, hR⟩ : ∃ z, z = isort (coLt css) l0 := ⟨_, rfl⟩
 rw [← hR]
 refine gw_enter ⟨53, w, (some br), []⟩ Tryz.func296 rfl Tryz.ntmps296 rfl (memR (X := [SlOld csnEnc 1 269 w.heap.size (some br) A9 nb cx, BlkOld w.heap.size (some br) g7 262 [.pointer (some ⟨g, 0, none⟩)], BlkOld w.heap.size (some br) g 266 [q0, .slice A9 nb c9, q2, q3, q4, q5, q6]]) h (allF_cons hch (allF_cons hp (allF_cons hb allF_nil))) (allL_cons SlOld.lasts (allL_cons BlkOld.lasts (allL_cons BlkOld.lasts allL_nil)))) ?_
 refine sr_ (mv_ rfl (ad_ rfl rfl ?_))
 refine wl_set 11 (v' := .int .i64 1) rfl rfl ?_
 refine sg_ rfl (nn_ (gw_block ?_))
 refine gw_loop (γ := Nat × List Int) (fun gg => (1 ≤ gg.1 ∧ gg.1 ≤ n + 1) ∧ gg.2.length = n ∧ isortF (coLt css) (n - gg.1) gg.1 gg.2 = R) (fun gg => [(0, .slice (some ⟨br, 0, none⟩) n cap), (1, .int .i64 0), (2, .int .i64 ((n : Nat) : Int)), (3, .func (.func 227) #[] #[.pointer (some ⟨g7, 0, none⟩)]), (8, .int .i64 ((gg.1 : Nat) : Int))]) (fun gg => RowK base 3 1 n cap br ((gg.2).flatMap iEnc)) (fun gg => []) (fun gg => []) (fun gg => [SlOld csnEnc 1 269 w.heap.size (some br) A9 nb cx, BlkOld w.heap.size (some br) g7 262 [.pointer (some ⟨g, 0, none⟩)], BlkOld w.heap.size (some br) g 266 [q0, .slice A9 nb c9, q2, q3, q4, q5, q6]]) (fun gg => n + 1 - gg.1) (1, l0) ⟨⟨Nat.le_refl _, by omega⟩, hl0, by rw [hR]; unfold isort; rw [hl0]⟩ ⟨rfl, rfl, rfl, rfl, (some_int (by omega)), trivial⟩ (fun _ hm => hm.pick [] [] [0, 1, 2] rfl rfl) ?_
 rintro ⟨i, l⟩ hinv
 replace hinv : (1 ≤ i ∧ i ≤ n + 1) ∧ l.length = n ∧ isortF (coLt css) (n - i) i l = R := hinv
 dsimp only
 refine gw_seq (sr_ ?_)
 obtain ⟨⟨hi1, hi2⟩, hl1, hR1⟩ := hinv
 refine mv_ rfl (mv_ rfl (wl_ov (ov_lss rfl rfl) rfl (nn_ ?_)))
 refine gw_cond rfl (fun hh => ?_) (fun hh => ?_)
 ·have hi : ((i : Nat) : Int) < ((n : Nat) : Int) := by simpa using hh
  clear hh
  refine gw_skip (nx_then (gw_seq (gw_block (sr_ ?_))))
  have hRi : isortF (coLt css) (n - (i + 1)) (i + 1) (sink (coLt css) i l) = R := by rw [← hR1, show n - i = (n - (i + 1)) + 1 by omega]; rfl
  obtain ⟨S, hS⟩ : ∃ z, z = sink (coLt css) i l := ⟨_, rfl⟩
  rw [← hS] at hRi
  have hSl : S.length = n := by rw [hS, sink_len]; exact hl1
  refine mv_ rfl (sg_ rfl (nn_ (gw_block ?_)))
  refine gw_loop (γ := Nat × List Int) (fun gg => (gg.1 ≤ i) ∧ gg.2.length = n ∧ sink (coLt css) gg.1 gg.2 = S) (fun gg => [(0, .slice (some ⟨br, 0, none⟩) n cap), (1, .int .i64 0), (2, .int .i64 ((n : Nat) : Int)), (3, .func (.func 227) #[] #[.pointer (some ⟨g7, 0, none⟩)]), (8, .int .i64 ((i : Nat) : Int)), (9, .int .i64 ((gg.1 : Nat) : Int))]) (fun gg => RowK base 3 1 n cap br ((gg.2).flatMap iEnc)) (fun gg => []) (fun gg => []) (fun gg => [SlOld csnEnc 1 269 w.heap.size (some br) A9 nb cx, BlkOld w.heap.size (some br) g7 262 [.pointer (some ⟨g, 0, none⟩)], BlkOld w.heap.size (some br) g 266 [q0, .slice A9 nb c9, q2, q3, q4, q5, q6]]) (fun gg => gg.1) (i, l) ⟨Nat.le_refl _, hl1, hS.symm⟩ ⟨rfl, rfl, rfl, rfl, rfl, rfl, trivial⟩ (fun _ hm => hm.pick [] [] [0, 1, 2] rfl rfl) ?_
  rintro ⟨jj, m⟩ hinv
  replace hinv : (jj ≤ i) ∧ m.length = n ∧ sink (coLt css) jj m = S := hinv
  dsimp only
  refine gw_seq (gw_seq ?_)
  obtain ⟨hj1, hm1, hS1⟩ := hinv
  rcases jj with _ | j
  ·refine gd (fun wz => (SlOld csnEnc 1 269 w.heap.size (some br) A9 nb cx) wz ∧ (BlkOld w.heap.size (some br) g7 262 [.pointer (some ⟨g, 0, none⟩)]) wz ∧ (BlkOld w.heap.size (some br) g 266 [q0, .slice A9 nb c9, q2, q3, q4, q5, q6]) wz ∧ True) mixed (fun _ hm => ⟨hm.fa 0, hm.fa 1, hm.fa 2, trivial⟩) fun z => ?_
   refine wt 0 17 1 rfl z (ov_move rfl) ?_
   refine wa_set 18 (v' := .int .i64 0) rfl rfl ?_
   refine wt 1 17 3 rfl z (ov_move rfl) ?_
   refine wt 2 17 7 rfl z (ov_gtr rfl rfl) ?_
   refine wa_set 20 (v' := .bool false) rfl (congrArg Value.bool (by decide)) ?_
   refine wt 3 17 15 rfl z (ov_move rfl) ?_
   refine wtf 4 17 31 rfl rfl rfl z ?_
   refine wtf 5 17 63 rfl rfl rfl z ?_
   refine wtf 6 17 127 rfl rfl rfl z ?_
   refine wtf 7 17 255 rfl rfl rfl z ?_
   refine wtf 8 17 511 rfl rfl rfl z ?_
   refine wtf 9 17 1023 rfl rfl rfl z ?_
   refine wtf 10 17 2047 rfl rfl rfl z ?_
   refine wtf 11 17 4095 rfl rfl rfl z ?_
   refine wtf 12 17 8191 rfl rfl rfl z ?_
   refine wtf 13 17 16383 rfl rfl rfl z ?_
   refine wtf 14 17 32767 rfl rfl rfl z ?_
   refine wtf 15 17 65535 rfl rfl rfl z ?_
   refine wt 16 17 131071 rfl z (ov_pick_f rfl rfl) ?_
   refine wa_done (by kernel_rfl) ?_
   refine nx_then (cf_ rfl ?_)
   refine gw_exit ?_
   refine nx_then_exit (nx_then_exit ?_)
   refine nx_blk_here ?_
   refine nx_blk_nrm (nx_then (gw_region (mv_ rfl (ad_ rfl rfl (sg_ rfl (wl_nil ?_))))))
   have hm2 : m = S := hS1
   exact nx_round (i + 1, m) ⟨⟨by dsimp only; omega, by dsimp only; omega⟩, by rw [hm2]; exact hSl, by rw [hm2]; exact hRi⟩ (by dsimp only; omega) ⟨rfl, rfl, rfl, rfl, (some_int (by omega)), trivial⟩ (fun _ hm => hm.pick [] [] [0, 1, 2] rfl rfl)
  have hj2 : j + 1 < n := by omega
  have hin : ∀ z ∈ m, z ∈ l0 := fun z hz => mem_in hR hRi hS1 hz
  obtain ⟨x0, hx⟩ : ∃ x, m[j + 1]? = some x := ⟨_, List.getElem?_eq_getElem (by omega)⟩
  obtain ⟨y0, hy⟩ : ∃ x, m[j]? = some x := ⟨_, List.getElem?_eq_getElem (by omega)⟩
  refine gd (fun wz => (SlOld csnEnc 1 269 w.heap.size (some br) A9 nb cx) wz ∧ (BlkOld w.heap.size (some br) g7 262 [.pointer (some ⟨g, 0, none⟩)]) wz ∧ (BlkOld w.heap.size (some br) g 266 [q0, .slice A9 nb c9, q2, q3, q4, q5, q6]) wz ∧ (RowK base 3 1 n cap br ((m).flatMap iEnc)) wz ∧ True) mixed (fun _ hm => ⟨hm.fa 0, hm.fa 1, hm.fa 2, hm.k, trivial⟩) fun z => ?_
  refine wt 0 17 1 rfl z (ov_move rfl) ?_
  refine wt 1 17 3 rfl z (ov_move rfl) ?_
  refine wt 2 17 7 rfl z (ov_gtr rfl rfl) ?_
  refine wa_set 20 (v' := .bool true) rfl (congrArg Value.bool (decide_eq_true (by omega))) ?_
  refine wt 3 17 15 rfl z (ov_move rfl) ?_
  refine wto 4 17 31 rfl rfl rfl z (ov_move rfl) ?_
  refine wto 5 17 63 rfl rfl rfl z (ov_move rfl) ?_
  refine wto 6 17 127 rfl rfl rfl z (ov_move rfl) ?_
  refine wto 7 17 255 rfl rfl rfl z (ov_index (j := (j + 1)) es22 rfl rfl (by omega)) ?_
  refine wto 8 17 511 rfl rfl rfl z (ov_elem1 (k := 0) (v := .int .i64 x0) sc3 rfl (fun _ hm => (RowK.get (hm.2.2.2.1) iE_len hm1)) hx rfl rfl) ?_
  refine wto 9 17 1023 rfl rfl rfl z (ov_move rfl) ?_
  refine wto 10 17 2047 rfl rfl rfl z (ov_move rfl) ?_
  refine wto 11 17 4095 rfl rfl rfl z (ov_sub rfl rfl (by omega) (by omega)) ?_
  refine wa_set 29 (v' := .int .i64 ((j : Nat) : Int)) rfl (congrArg (Value.int .i64) (by omega)) ?_
  refine wto 12 17 8191 rfl rfl rfl z (ov_index (j := j) es22 rfl rfl (by omega)) ?_
  refine wto 13 17 16383 rfl rfl rfl z (ov_elem1 (k := 0) (v := .int .i64 y0) sc3 rfl (fun _ hm => (RowK.get (hm.2.2.2.1) iE_len hm1)) hy rfl rfl) ?_
  refine wa1 14 rfl ?_
  refine wl_guard_on rfl rfl rfl ?_
  refine wl_callv rfl cb227 rfl rfl (fun wx hm => (coJ_any cx css A9 nb c9 g7 g q0 q2 q3 q4 q5 q6 x0 y0 wx (hm.fact 0 rfl).1 (hm.fact 1 rfl).2 (hm.fact 2 rfl).2 hcx hcn (hall _ (hin _ (List.mem_of_getElem? hx))) (hall _ (hin _ (List.mem_of_getElem? hy))))) ?_
  refine wl_nil ?_
  refine nw 17 32767 (fun _ hm => ⟨hm.fa 0, hm.fa 1, hm.fa 2, hm.k, trivial⟩) fun z => ?_
  refine wto 15 17 65535 rfl rfl rfl z (ov_lss rfl rfl) ?_
  refine wt 16 17 131071 rfl z (ov_pick_t rfl rfl) ?_
  refine wa_done (by kernel_rfl) ?_
  refine nx_then ?_
  refine gw_cond rfl (fun hh => ?_) (fun hh => ?_)
  ·have hlt : cmpI (lenN css x0.toNat : Int) (lenN css y0.toNat : Int) < 0 := by simpa using hh
   clear hh
   refine gw_skip (nx_then (gw_seq (gw_block ?_)))
   have hlt2 : (coLt css) x0 y0 = true := decide_eq_true (show cmpI (lenN css x0.toNat : Int) (lenN css y0.toNat : Int) < 0 from hlt)
   have hS2 := (sink_yes hx hy hlt2).symm.trans hS1
   refine gd (fun wz => (SlOld csnEnc 1 269 w.heap.size (some br) A9 nb cx) wz ∧ (BlkOld w.heap.size (some br) g7 262 [.pointer (some ⟨g, 0, none⟩)]) wz ∧ (BlkOld w.heap.size (some br) g 266 [q0, .slice A9 nb c9, q2, q3, q4, q5, q6]) wz ∧ True) mixed (fun _ hm => ⟨hm.fa 0, hm.fa 1, hm.fa 2, trivial⟩) fun z => ?_
   refine wt 0 18 1 rfl z (ov_move rfl) ?_
   refine wt 1 18 3 rfl z (ov_move rfl) ?_
   refine wt 2 18 7 rfl z (ov_move rfl) ?_
   refine wt 3 18 15 rfl z (ov_move rfl) ?_
   refine wt 4 18 31 rfl z (ov_sub rfl rfl (by omega) (by omega)) ?_
   refine wa_set 41 (v' := .int .i64 ((j : Nat) : Int)) rfl (congrArg (Value.int .i64) (by omega)) ?_
   refine wt 5 18 63 rfl z (ov_move rfl) ?_
   refine wt 6 18 127 rfl z (ov_move rfl) ?_
   refine wt 7 18 255 rfl z (ov_sub rfl rfl (by omega) (by omega)) ?_
   refine wa_set 44 (v' := .int .i64 ((j : Nat) : Int)) rfl (congrArg (Value.int .i64) (by omega)) ?_
   refine wt 8 18 511 rfl z (ov_index (j := j) es22 rfl rfl (by omega)) ?_
   refine wt 10 18 1535 rfl z (ov_move rfl) ?_
   refine wt 11 18 3583 rfl z (ov_move rfl) ?_
   refine wt 12 18 7679 rfl z (ov_index (j := (j + 1)) es22 rfl rfl (by omega)) ?_
   refine wa_all [9, 13] (by kernel_rfl) rfl ⟨⟨_, rfl, ?_⟩, ⟨_, rfl, ?_⟩, trivial⟩
   ·refine wl_ov (ov_elem1 (k := 0) (v := .int .i64 y0) sc3 rfl (fun _ hm => (RowK.get hm.k iE_len hm1)) hy rfl rfl) rfl ?_
    refine wl_nil ?_
    refine nw 18 8191 (fun _ hm => ⟨hm.fa 0, hm.fa 1, hm.fa 2, trivial⟩) fun z => ?_
    refine wa1 13 rfl ?_
    refine wl_ov (ov_elem1 (k := 0) (v := .int .i64 x0) sc3 rfl (fun _ hm => (RowK.get hm.k iE_len hm1)) hx rfl rfl) rfl ?_
    refine wl_nil ?_
    refine nw 18 16383 (fun _ hm => ⟨hm.fa 0, hm.fa 1, hm.fa 2, trivial⟩) fun z => ?_
    refine wt 14 18 32767 rfl z (ov_index (j := (j + 1)) es22 rfl rfl (by omega)) ?_
    refine wa1 15 rfl ?_
    refine wl_storeRow (l := m) (j := j + 1) (r := 0) (el := x0) (el' := y0) rfl sc3 rfl rfl rfl iE_len rfl hx hm1 (by decide) rfl rfl ?_
    refine wl_nil ?_
    refine nw 18 65535 (fun _ hm => ⟨hm.fa 0, hm.fa 1, hm.fa 2, trivial⟩) fun z => ?_
    refine wt 16 18 131071 rfl z (ov_index (j := j) es22 rfl rfl (by omega)) ?_
    refine wa1 17 rfl ?_
    refine wl_storeRow (l := m.set (j + 1) y0) (j := j) (r := 0) (el := y0) (el' := x0) rfl sc3 rfl rfl rfl iE_len rfl (by rw [List.getElem?_set_ne (by omega)]; exact hy) (by rw [List.length_set]; exact hm1) (by decide) rfl rfl ?_
    refine wl_nil ?_
    refine nw 18 262143 (fun _ hm => ⟨hm.fa 0, hm.fa 1, hm.fa 2, trivial⟩) fun z => ?_
    refine wa_done (by kernel_rfl) ?_
    refine nx_blk_nrm (nx_then (gw_region (mv_ rfl ?_)))
    refine wl_ov (ov_sub rfl rfl (by omega) (by omega)) rfl ?_
    refine wl_set 36 (v' := .int .i64 ((j : Nat) : Int)) rfl (congrArg (Value.int .i64) (by omega)) ?_
    refine sg_ rfl (wl_nil ?_)
    exact nx_round (j, (m.set (j + 1) y0).set j x0) ⟨by dsimp only; omega, by simp [hm1], hS2⟩ (by dsimp only; omega) ⟨rfl, rfl, rfl, rfl, rfl, (some_int (by omega)), trivial⟩ (fun _ hm => hm.pick [] [] [0, 1, 2] rfl rfl)
   refine wl_ov (ov_elem1 (k := 0) (v := .int .i64 x0) sc3 rfl (fun _ hm => (RowK.get hm.k iE_len hm1)) hx rfl rfl) rfl ?_
   refine wl_nil ?_
   refine nw 18 15871 (fun _ hm => ⟨hm.fa 0, hm.fa 1, hm.fa 2, trivial⟩) fun z => ?_
   refine wa1 9 rfl ?_
   refine wl_ov (ov_elem1 (k := 0) (v := .int .i64 y0) sc3 rfl (fun _ hm => (RowK.get hm.k iE_len hm1)) hy rfl rfl) rfl ?_
   refine wl_nil ?_
   refine nw 18 16383 (fun _ hm => ⟨hm.fa 0, hm.fa 1, hm.fa 2, trivial⟩) fun z => ?_
   refine wt 14 18 32767 rfl z (ov_index (j := (j + 1)) es22 rfl rfl (by omega)) ?_
   refine wa1 15 rfl ?_
   refine wl_storeRow (l := m) (j := j + 1) (r := 0) (el := x0) (el' := y0) rfl sc3 rfl rfl rfl iE_len rfl hx hm1 (by decide) rfl rfl ?_
   refine wl_nil ?_
   refine nw 18 65535 (fun _ hm => ⟨hm.fa 0, hm.fa 1, hm.fa 2, trivial⟩) fun z => ?_
   refine wt 16 18 131071 rfl z (ov_index (j := j) es22 rfl rfl (by omega)) ?_
   refine wa1 17 rfl ?_
   refine wl_storeRow (l := m.set (j + 1) y0) (j := j) (r := 0) (el := y0) (el' := x0) rfl sc3 rfl rfl rfl iE_len rfl (by rw [List.getElem?_set_ne (by omega)]; exact hy) (by rw [List.length_set]; exact hm1) (by decide) rfl rfl ?_
   refine wl_nil ?_
   refine nw 18 262143 (fun _ hm => ⟨hm.fa 0, hm.fa 1, hm.fa 2, trivial⟩) fun z => ?_
   refine wa_done (by kernel_rfl) ?_
   refine nx_blk_nrm (nx_then (gw_region (mv_ rfl ?_)))
   refine wl_ov (ov_sub rfl rfl (by omega) (by omega)) rfl ?_
   refine wl_set 36 (v' := .int .i64 ((j : Nat) : Int)) rfl (congrArg (Value.int .i64) (by omega)) ?_
   refine sg_ rfl (wl_nil ?_)
   exact nx_round (j, (m.set (j + 1) y0).set j x0) ⟨by dsimp only; omega, by simp [hm1], hS2⟩ (by dsimp only; omega) ⟨rfl, rfl, rfl, rfl, rfl, (some_int (by omega)), trivial⟩ (fun _ hm => hm.pick [] [] [0, 1, 2] rfl rfl)
  have hlt : ¬ (cmpI (lenN css x0.toNat : Int) (lenN css y0.toNat : Int) < 0) := by simpa using hh
  clear hh
  refine gw_exit ?_
  refine nx_then_exit (nx_then_exit ?_)
  refine nx_blk_here ?_
  refine nx_blk_nrm (nx_then (gw_region ?_))
  have hlt2 : (coLt css) x0 y0 = false := decide_eq_false (show ¬ cmpI (lenN css x0.toNat : Int) (lenN css y0.toNat : Int) < 0 from hlt)
  have hS2 := (sink_no hx hy hlt2).symm.trans hS1
  refine mv_ rfl (ad_ rfl rfl (sg_ rfl (wl_nil ?_)))
  have hm2 : m = S := hS2
  exact nx_round (i + 1, m) ⟨⟨by dsimp only; omega, by dsimp only; omega⟩, by rw [hm2]; exact hSl, by rw [hm2]; exact hRi⟩ (by dsimp only; omega) ⟨rfl, rfl, rfl, rfl, (some_int (by omega)), trivial⟩ (fun _ hm => hm.pick [] [] [0, 1, 2] rfl rfl)
 have hi : ¬ (((i : Nat) : Int) < ((n : Nat) : Int)) := by simpa using hh
 clear hh
 refine gw_exit ?_
 refine nx_then_exit (nx_then_exit ?_)
 refine nx_blk_here ?_
 obtain rfl : l = R := by rw [← hR1, show n - i = 0 by omega]; rfl
 refine nx_ret0 rfl fun wx hm => ?_
 exact ⟨rfl, fin_row hm.k hm.g⟩
theorem stb_co (cx : List ChS) (css : List (List (CdW ByteArray))) (A9 : Option Addr) (nb c9 g7 g : Nat) (q0 q2 q3 q4 q5 q6 : Value) (l0 : List Int) (br n cap base : Nat) (w : World) (h : w.ownsRow base 3 1 (.slice (some ⟨br, 0, none⟩) n cap) n (l0.flatMap iEnc)) (hl0 : l0.length = n) (hn : n ≤ 19) (hch : SlOld csnEnc 1 269 w.heap.size (some br) A9 nb cx w) (hp : BlkOld w.heap.size (some br) g7 262 [.pointer (some ⟨g, 0, none⟩)] w) (hb : BlkOld w.heap.size (some br) g 266 [q0, .slice A9 nb c9, q2, q3, q4, q5, q6] w) (hcx : cx.map ChS.l = css) (hcn : ∀ x ∈ cx, x.l.length = x.n) (hall : ∀ z ∈ l0, 0 ≤ z ∧ z < (nb : Int)) :
  Calls Tryz.prog 237 #[.slice (some ⟨br, 0, none⟩) n cap, .int .i64 ((n : Nat) : Int), .func (.func 227) #[] #[.pointer (some ⟨g7, 0, none⟩)]] w (fun e w' => e = .returned (.tuple #[]) ∧ w'.ownsRow base 3 1 (.slice (some ⟨br, 0, none⟩) n cap) n ((isort (coLt css) l0).flatMap iEnc) ∧ w.grownBy w' (some br)) := by
 refine gw_enter ⟨63, w, (some br), []⟩ Tryz.func237 rfl Tryz.ntmps237 rfl (memR (X := [SlOld csnEnc 1 269 w.heap.size (some br) A9 nb cx, BlkOld w.heap.size (some br) g7 262 [.pointer (some ⟨g, 0, none⟩)], BlkOld w.heap.size (some br) g 266 [q0, .slice A9 nb c9, q2, q3, q4, q5, q6]]) h (allF_cons hch (allF_cons hp (allF_cons hb allF_nil))) (allL_cons SlOld.lasts (allL_cons BlkOld.lasts (allL_cons BlkOld.lasts allL_nil)))) ?_
 refine sr_ (sg_ rfl (nn_ (sr_ (mv_ rfl (sg_ rfl (sg_ rfl (nn_ (gw_seq (gw_block ?_)))))))))
 refine gw_rounds 1 ?_
 refine gr_next ?_
 refine gw_seq (sr_ (mv_ rfl (mv_ rfl (wl_ov (ov_leq rfl rfl) rfl ?_))))
 refine wl_set 13 (v' := .bool false) rfl (congrArg Value.bool (decide_eq_false (by omega))) ?_
 refine nn_ (cf_ rfl ?_)
 refine gw_exit ?_
 refine nx_then_exit (nx_then_exit ?_)
 refine nx_blk_here ?_
 refine nx_then (sr_ (mv_ rfl (mv_ rfl (mv_ rfl (mv_ rfl ?_)))))
 refine wl_callK rfl rfl rfl cb296 rfl rfl (fun wx hm => (ins_co cx css A9 nb c9 g7 g q0 q2 q3 q4 q5 q6 l0 br n cap base wx hm.k hl0 (by omega) (hm.fact 0 rfl).again (hm.fact 1 rfl).again2 (hm.fact 2 rfl).again2 hcx hcn hall)) ?_
 refine nn_ (gw_block ?_)
 refine gw_rounds 1 ?_
 refine gr_next ?_
 refine gw_seq (sr_ (mv_ rfl (mv_ rfl (wl_ov (ov_lss rfl rfl) rfl ?_))))
 refine wl_set 30 (v' := .bool false) rfl (congrArg Value.bool (decide_eq_false (by omega))) ?_
 refine nn_ (cf_ rfl ?_)
 refine gw_exit ?_
 refine nx_then_exit (nx_then_exit ?_)
 refine nx_blk_here ?_
 refine nx_ret0 rfl fun wx hm => ?_
 exact ⟨rfl, fin_row hm.k hm.g⟩
set_option maxRecDepth 100000 in
set_option maxHeartbeats 400000 in
theorem stable_co (cx : List ChS) (css : List (List (CdW ByteArray))) (A9 : Option Addr) (nb c9 g7 g : Nat) (q0 q2 q3 q4 q5 q6 : Value) (l0 : List Int) (br n cap base : Nat) (w : World) (h : w.ownsRow base 3 1 (.slice (some ⟨br, 0, none⟩) n cap) n (l0.flatMap iEnc)) (hl0 : l0.length = n) (hn : n ≤ 19) (hch : SlOld csnEnc 1 269 w.heap.size (some br) A9 nb cx w) (hp : BlkOld w.heap.size (some br) g7 262 [.pointer (some ⟨g, 0, none⟩)] w) (hb : BlkOld w.heap.size (some br) g 266 [q0, .slice A9 nb c9, q2, q3, q4, q5, q6] w) (hcx : cx.map ChS.l = css) (hcn : ∀ x ∈ cx, x.l.length = x.n) (hall : ∀ z ∈ l0, 0 ≤ z ∧ z < (nb : Int)) :
    Calls Tryz.prog 155 #[.slice (some ⟨br, 0, none⟩) n cap, .func (.func 227) #[] #[.pointer (some ⟨g7, 0, none⟩)]] w (fun e w' => e = .returned (.tuple #[]) ∧ w'.ownsRow base 3 1 (.slice (some ⟨br, 0, none⟩) n cap) n ((isort (coLt css) l0).flatMap iEnc) ∧ w.grownBy w' (some br)) := by
  refine gw_enter ⟨9, w, (some br), []⟩ Tryz.func155 rfl Tryz.ntmps155 rfl (memR (X := [SlOld csnEnc 1 269 w.heap.size (some br) A9 nb cx, BlkOld w.heap.size (some br) g7 262 [.pointer (some ⟨g, 0, none⟩)], BlkOld w.heap.size (some br) g 266 [q0, .slice A9 nb c9, q2, q3, q4, q5, q6]]) h (allF_cons hch (allF_cons hp (allF_cons hb allF_nil))) (allL_cons SlOld.lasts (allL_cons BlkOld.lasts (allL_cons BlkOld.lasts allL_nil)))) ?_
  refine gw_region ?_
  refine wl_ov (ov_move rfl) rfl ?_
  refine wl_ov (ov_move rfl) rfl ?_
  refine wl_ov (ov_len es22 rfl) rfl ?_
  refine wl_ov (ov_move rfl) rfl ?_
  refine wl_callK rfl rfl rfl cb237 rfl rfl (fun wx hm => (stb_co cx css A9 nb c9 g7 g q0 q2 q3 q4 q5 q6 l0 br n cap base wx hm.k hl0 (by omega) (hm.fact 0 rfl).again (hm.fact 1 rfl).again2 (hm.fact 2 rfl).again2 hcx hcn hall)) ?_
  refine wl_nil ?_
  refine nx_ret0 rfl fun wx hm => ?_
  exact ⟨rfl, fin_row hm.k hm.g⟩
theorem ins0_co (A : Option Addr) (cap g7 : Nat) (w : World) : Calls Tryz.prog 296 #[.slice A 0 cap, .int .i64 0, .int .i64 0, .func (.func 227) #[] #[.pointer (some ⟨g7, 0, none⟩)]] w (fun e w' => e = .returned (.tuple #[]) ∧ w.grownBy w' none) := by
 refine gw_enter ⟨53, w, none, []⟩ Tryz.func296 rfl Tryz.ntmps296 rfl (mem0 (X := []) allF_nil allL_nil) ?_
 refine sr_ (mv_ rfl (ad_ rfl rfl ?_))
 refine wl_set 11 (v' := .int .i64 1) rfl rfl ?_
 refine sg_ rfl (nn_ (gw_block ?_))
 refine gw_rounds 1 ?_
 refine gr_next ?_
 refine gw_seq (sr_ (mv_ rfl (mv_ rfl (wl_ov (ov_lss rfl rfl) rfl ?_))))
 refine wl_set 14 (v' := .bool false) rfl (congrArg Value.bool (by decide)) ?_
 refine nn_ (cf_ rfl ?_)
 refine gw_exit ?_
 refine nx_then_exit (nx_then_exit ?_)
 refine nx_blk_here ?_
 refine nx_ret0 rfl fun wx hm => ?_
 exact ⟨rfl, hm.g⟩
theorem stb0_co (A : Option Addr) (cap g7 : Nat) (w : World) : Calls Tryz.prog 237 #[.slice A 0 cap, .int .i64 0, .func (.func 227) #[] #[.pointer (some ⟨g7, 0, none⟩)]] w (fun e w' => e = .returned (.tuple #[]) ∧ w.grownBy w' none) := by
 refine gw_enter ⟨63, w, none, []⟩ Tryz.func237 rfl Tryz.ntmps237 rfl (mem0 (X := []) allF_nil allL_nil) ?_
 refine sr_ (sg_ rfl (nn_ (sr_ (mv_ rfl (sg_ rfl (sg_ rfl (nn_ (gw_seq (gw_block ?_)))))))))
 refine gw_rounds 1 ?_
 refine gr_next ?_
 refine gw_seq (sr_ (mv_ rfl (mv_ rfl (wl_ov (ov_leq rfl rfl) rfl ?_))))
 refine wl_set 13 (v' := .bool false) rfl (congrArg Value.bool (by decide)) ?_
 refine nn_ (cf_ rfl ?_)
 refine gw_exit ?_
 refine nx_then_exit (nx_then_exit ?_)
 refine nx_blk_here ?_
 refine nx_then (sr_ (mv_ rfl (mv_ rfl (mv_ rfl (mv_ rfl ?_)))))
 refine wl_callv rfl cb296 rfl rfl (fun wx hm => (ins0_co A cap g7 wx)) ?_
 refine nn_ (gw_block ?_)
 refine gw_rounds 1 ?_
 refine gr_next ?_
 refine gw_seq (sr_ (mv_ rfl (mv_ rfl (wl_ov (ov_lss rfl rfl) rfl ?_))))
 refine wl_set 30 (v' := .bool false) rfl (congrArg Value.bool (by decide)) ?_
 refine nn_ (cf_ rfl ?_)
 refine gw_exit ?_
 refine nx_then_exit (nx_then_exit ?_)
 refine nx_blk_here ?_
 refine nx_ret0 rfl fun wx hm => ?_
 exact ⟨rfl, hm.g⟩
set_option maxRecDepth 100000 in
set_option maxHeartbeats 400000 in
theorem stable0_co (A : Option Addr) (cap g7 : Nat) (w : World) : Calls Tryz.prog 155 #[.slice A 0 cap, .func (.func 227) #[] #[.pointer (some ⟨g7, 0, none⟩)]] w (fun e w' => e = .returned (.tuple #[]) ∧ w.grownBy w' none) := by
  refine gw_enter ⟨9, w, none, []⟩ Tryz.func155 rfl Tryz.ntmps155 rfl (mem0 (X := []) allF_nil allL_nil) ?_
  refine gw_region ?_
  refine wl_ov (ov_move rfl) rfl ?_
  refine wl_ov (ov_move rfl) rfl ?_
  refine wl_ov (ov_len es22 rfl) rfl ?_
  refine wl_set 6 (v' := .int .i64 0) rfl rfl ?_
  refine wl_ov (ov_move rfl) rfl ?_
  refine wl_callv rfl cb237 rfl rfl (fun wx hm => (stb0_co A cap g7 wx)) ?_
  refine wl_nil ?_
  refine nx_ret0 rfl fun wx hm => ?_
  exact ⟨rfl, hm.g⟩
end Go.Proofs.YtempjmpfdniecaaGreatDoor
namespace Go.Proofs.YtempjmpfdniecaaGreatDoor
open Go.RowKit
/-- The least number of steps, or -1. -/
def FwOk (cs : List Cs) (sl : List Sk) (l : List Bk) (v : Int) : Prop := (v = -1 ∧ asgO cs sl l = none) ∨ ∃ (k : Nat) (o : List (ByteArray × Nat)), v = (k : Int) ∧ asgO cs sl l = some o ∧ unitsW (l.map wnB) (roomU (l.map wnB)) (l.map (chB cs sl)) [] k = some o ∧ k ≤ l.length * cs.length
theorem fw_none {cs : List Cs} {sl : List Sk} {l : List Bk} (h : asgO cs sl l = none) : FwOk cs sl l (-1) := .inl ⟨rfl, h⟩
theorem fw_iff {cs : List Cs} {sl : List Sk} {l : List Bk} {v : Int} (h : FwOk cs sl l v) : decide (0 ≤ v) = (asgO cs sl l).isSome := by
  rcases h with ⟨rfl, h⟩ | ⟨k, o, rfl, h, _⟩
  · rw [h]; rfl
  · rw [h, decide_eq_true (by omega)]; rfl
theorem keys_ix {cs : List Cs} {l : List Bk} (h : ∀ b ∈ l, keysE cs [b.cls] = 0) : ∀ b ∈ l, 0 ≤ ixP (csP b.cls) cs 0 := fun b hb => (keys_ok (h b hb)).2 _ (List.mem_singleton.2 rfl)
theorem ch_steps {cs : List Cs} {sl : List Sk} {b : Bk} (hcl : Closed cs) (hlo : loopB cs cs.length = false) (h30 : cs.length ≤ 30) (hk : 0 ≤ ixP (csP b.cls) cs 0) : ∀ q ∈ chB cs sl b, q.2.1 ≤ 1000 := fun q hq => by
  have h1 := (ch_ok (many := capB sl) (path_nodup hcl hlo hk)).2.2.2 q hq
  have h2 := path_lenA hcl hlo hk
  omega
theorem ch_short {cs : List Cs} {sl : List Sk} {b : Bk} (hcl : Closed cs) (hlo : loopB cs cs.length = false) (h30 : cs.length ≤ 30) (hk : 0 ≤ ixP (csP b.cls) cs 0) : (chB cs sl b).length ≤ 1000 := by
  have h1 := List.length_filter_le (fun k : CdW ByteArray => decide (0 < k.2.2)) (wayC (capB sl) 0 (clsF cs b))
  rw [way_len] at h1
  have h2 : (clsF cs b).length ≤ cs.length := path_lenA hcl hlo hk
  exact Nat.le_trans h1 (by omega)
theorem fw_bb {cs : List Cs} {sl : List Sk} {l : List Bk} (hcl : Closed cs) (hlo : loopB cs cs.length = false) (hk : ∀ b ∈ l, 0 ≤ ixP (csP b.cls) cs 0) (ht : BkTim l) {od : List Nat} (hp : od.Perm (List.range l.length)) : FwOk cs sl l (bestI (bbW roomF (od.map (itB cs sl l)) [] 0 none)) := by
  rcases asg_same (sl := sl) hcl hlo hk (fun b hb => (ht b hb).2.1) (it_perm hp) with ⟨h1, h2⟩ | ⟨k, o, h1, h2, h3, h4, _⟩
  · rw [h1]; exact fw_none h2
  · rw [h1]; exact .inr ⟨k, o, rfl, h2, h3, h4⟩
def coB (cs : List Cs) (sl : List Sk) (l : List Bk) (od : List Nat) : List (List (CdW ByteArray)) := od.map fun j => chB cs sl (bkAt l j)
theorem co_it {cs : List Cs} {sl : List Sk} {l : List Bk} {od : List Nat} {k : Nat} : restI ((od.drop k).map (itB cs sl l)) = restW ((coB cs sl l od).drop k) := by
  rw [restI_W, List.map_map]
  unfold coB
  rw [← List.map_drop]; rfl
theorem co_at {cs : List Cs} {sl : List Sk} {l : List Bk} {od : List Nat} {k i : Nat} (h : od[k]? = some i) : (coB cs sl l od)[k]? = some (chB cs sl (bkAt l i)) := by
  unfold coB; rw [List.getElem?_map, h]; rfl
theorem co_le {cs : List Cs} {sl : List Sk} {l : List Bk} {od : List Nat} (hs : ∀ b ∈ l, ∀ q ∈ chB cs sl b, q.2.1 ≤ 1000) (ho : ∀ j ∈ od, j < l.length) (k : Nat) : restW ((coB cs sl l od).drop k) ≤ od.length * 1000 := by
  have h := restW_le (M := 1000) (css := (coB cs sl l od).drop k) fun c hc q hq => by
    have hm := List.mem_of_mem_drop hc
    unfold coB at hm
    obtain ⟨j, hj, rfl⟩ := List.mem_map.1 hm
    obtain ⟨b, hb⟩ : ∃ b, l[j]? = some b := ⟨_, List.getElem?_eq_getElem (ho j hj)⟩
    rw [bkAt_get hb] at hq
    exact hs b (List.mem_of_getElem? hb) q hq
  rw [List.length_drop] at h
  have e : (coB cs sl l od).length = od.length := by unfold coB; rw [List.length_map]
  rw [e] at h
  exact Nat.le_trans h (Nat.mul_le_mul_right _ (by omega))
theorem head_at {c : List (CdW ByteArray)} {k : CdW ByteArray} (h : c[0]? = some k) : headW c = k.2.1 := by
  cases c with
  | nil => cases h
  | cons x r => cases h; rfl
theorem zc262 : zeroCs Tryz.prog 262 = some [.pointer none] := by kernel_rfl
theorem fewest_any (cs : List Cs) (A0 : Option Addr) (n0 c0 : Nat) (sl : List Sk) (A1 : Option Addr) (n1 c1 : Nat) (l : List Bk) (A : Option Addr) (n c : Nat) (w : World) (hcs : SlT csEnc 2 158 w A0 n0 cs) (hco : ∀ x ∈ cs, CsOk x) (hn0 : n0 ≤ 1000) (hs : SlT skEnc 2 211 w A1 n1 sl) (hso : ∀ x ∈ sl, SkOk x) (hn1 : n1 ≤ 1000) (hl : SlT bkEnc 6 92 w A n l) (hn : n ≤ 12) (hcl : Closed cs) (hlo : loopB cs cs.length = false) (h30 : cs.length ≤ 30) (hkeys : ∀ b ∈ l, keysE cs [b.cls] = 0) (htm : BkTim l) :
  Calls Tryz.prog 134 #[.slice A0 n0 c0, .slice A1 n1 c1, .slice A n c] w (fun e w' => ∃ v, e = .returned (.int .i64 v) ∧ FwOk cs sl l v ∧ w.grownBy w' none) := by
 refine gw_enter ⟨102, w, none, [269, 268]⟩ Tryz.func134 rfl Tryz.ntmps134 rfl (mem0 (X := [SlOld csEnc 2 158 w.heap.size none A0 n0 cs, SlOld skEnc 2 211 w.heap.size none A1 n1 sl, SlOld bkEnc 6 92 w.heap.size none A n l]) (allF_cons hcs.old (allF_cons hs.old (allF_cons hl.old allF_nil))) (allL_cons SlOld.lasts (allL_cons SlOld.lasts (allL_cons SlOld.lasts allL_nil)))) ?_
 refine sr_ ?_
 have hlen := hl.len
 have hix := keys_ix hkeys
 have hstp : ∀ b ∈ l, ∀ q ∈ chB cs sl b, q.2.1 ≤ 1000 := fun b hb => ch_steps hcl hlo h30 (hix b hb)
 have hchl : ∀ b ∈ l, (chB cs sl b).length ≤ 1000 := fun b hb => ch_short hcl hlo h30 (hix b hb)
 refine sg_ rfl (nn_ ?_)
 refine gw_cut (γ := Option Addr × Nat × List ChS × Nat × Nat × Nat) (I := (fun g => g.2.2.1.map ChS.l = l.map (chB cs sl))) (S' := (fun g => [(2, .slice A n c), (6, .int .i64 0), (7, .pointer (some ⟨g.2.2.2.1, 0, none⟩))])) (K' := (fun g => fun _ => True)) (L' := (fun g => [(g.2.2.2.1, 262, [.pointer (some ⟨g.2.2.2.2.1, 0, none⟩)]), (g.2.2.2.2.1, 266, [.slice A n c, .slice g.1 n g.2.1, .slice none 0 0, .slice (some ⟨g.2.2.2.2.2, 0, none⟩) n n, .slice none 0 0, .slice none 0 0, .int .i64 (-1)])])) (O' := (fun g => [⟨.slice (some ⟨g.2.2.2.2.2, 0, none⟩) n n, 9, 1, n, (List.replicate (n) (⟨#[]⟩ : ByteArray)).flatMap sgEnc⟩])) (X' := (fun g => [SlOld csEnc 2 158 w.heap.size none A0 n0 cs, SlOld skEnc 2 211 w.heap.size none A1 n1 sl, SlOld bkEnc 6 92 w.heap.size none A n l, fun wy => SlT csnEnc 1 269 wy g.1 n g.2.2.1, fun wy => Chs 268 g.2.2.1 wy])) ?_ ?_
 ·refine gd (fun wz => (SlOld csEnc 2 158 w.heap.size none A0 n0 cs) wz ∧ (SlOld skEnc 2 211 w.heap.size none A1 n1 sl) wz ∧ (SlOld bkEnc 6 92 w.heap.size none A n l) wz ∧ True) mixed (fun _ hm => ⟨hm.fa 0, hm.fa 1, hm.fa 2, trivial⟩) fun z => ?_
  refine wt 0 12 1 rfl z (ov_move rfl) ?_
  refine wt 1 12 3 rfl z (ov_move rfl) ?_
  refine wt 2 12 7 rfl z (ov_move rfl) ?_
  refine wt 3 12 15 rfl z (ov_move rfl) ?_
  refine wt 5 12 47 rfl z (ov_move rfl) ?_
  refine wt 6 12 111 rfl z (ov_len es76 rfl) ?_
  refine wa_all [4, 7, 10] (by kernel_rfl) rfl ⟨⟨_, rfl, ?_⟩, ⟨_, rfl, ?_⟩, ⟨_, rfl, ?_⟩, trivial⟩
  ·refine wl_callx (γ := Option Addr × Nat × List ChS) (val := (fun g => .slice g.1 n g.2.1)) (φ := (fun g => g.2.2.map ChS.l = l.map (chB cs sl))) (Y := (fun g => fun wy => SlT csnEnc 1 269 wy g.1 n g.2.2 ∧ Chs 268 g.2.2 wy)) rfl cb220 rfl rfl (fun wx hm => (choicesP_any cs A0 n0 c0 sl A1 n1 c1 l A n c wx (hm.fact 0 rfl).1 hco (by omega) (hm.fact 1 rfl).1 hso (by omega) (hm.fact 2 rfl).1 (by omega) hkeys).mono fun _ _ ⟨A9, c9, cx, he, h1, h2, h3, hg⟩ => ⟨(A9, c9, cx), he, h3, hg, ⟨h1, h2⟩⟩) (fun _ => (SlT.lasts2 rfl).and_ (Chs.lasts rfl)) ?_
   rintro ⟨A9, c9, cx⟩ hcx
   dsimp only at hcx ⊢
   refine wl_nil ?_
   refine nw 12 127 (fun _ hm => ⟨hm.fa 1, hm.fa 2, hm.fa 3, trivial⟩) fun z => ?_
   refine wa_all [7, 10] (by kernel_rfl) rfl ⟨⟨_, rfl, ?_⟩, ⟨_, rfl, ?_⟩, trivial⟩
   ·refine wl_makeO (n := n) (sz := 1) (e := 9) (by_ := 16) (z := .string ⟨#[]⟩) (by kernel_rfl) (by kernel_rfl) rfl rfl (by omega) (by omega) (by omega) (by unfold maxLen; omega) (made_flat (enc := sgEnc) (x := (⟨#[]⟩ : ByteArray)) rfl rfl (by decide) (n)) rfl fun g1 => ?_
    refine wl_nil ?_
    refine nw 12 255 (fun _ hm => ⟨hm.fa 1, hm.fa 2, hm.fa 3, trivial⟩) fun z => ?_
    refine wt 8 12 511 rfl z (ov_build (cs := [.slice A n c, .slice A9 n c9, .slice none 0 0, .slice (some ⟨g1, 0, none⟩) n n, .slice none 0 0, .slice none 0 0, .int .i64 (-1)]) rfl (by kernel_rfl)) ?_
    refine wa_all [9, 10] (by kernel_rfl) rfl ⟨⟨_, rfl, ?_⟩, ⟨_, rfl, ?_⟩, trivial⟩
    ·refine wl_box rfl rfl rfl fun g2 => ?_
     refine wl_nil ?_
     refine nw 12 1023 (fun _ hm => ⟨hm.fa 1, hm.fa 2, hm.fa 3, trivial⟩) fun z => ?_
     refine wa1 10 rfl ?_
     refine wl_alloc zc262 rfl fun g3 => ?_
     refine wl_nil ?_
     refine nw 12 2047 (fun _ hm => ⟨hm.fa 1, hm.fa 2, hm.fa 3, trivial⟩) fun z => ?_
     refine wa1 11 rfl ?_
     refine wl_store 0 sc262 rfl rfl rfl rfl rfl rfl ?_
     refine wl_nil ?_
     refine nw 12 4095 (fun _ hm => ⟨hm.fa 1, hm.fa 2, hm.fa 3, trivial⟩) fun z => ?_
     refine wa_done (by kernel_rfl) ?_
     refine nx_also (Y := fun wy => SlT csnEnc 1 269 wy A9 n cx) (SlT.lasts2 rfl) (fun wx hm => (hm.fact 0 rfl).1) ?_
     refine nx_also (Y := fun wy => Chs 268 cx wy) (Chs.lasts rfl) (fun wx hm => (hm.fact 1 rfl).2) ?_
     exact nx_meet (A9, c9, cx, g3, g2, g1) hcx ⟨rfl, rfl, rfl, trivial⟩ (fun _ hm => hm.pick [0, 1] [0] [3, 4, 5, 1, 0] rfl rfl)
    refine wl_alloc zc262 rfl fun g4 => ?_
    refine wl_nil ?_
    refine nw 12 1535 (fun _ hm => ⟨hm.fa 1, hm.fa 2, hm.fa 3, trivial⟩) fun z => ?_
    refine wa1 9 rfl ?_
    refine wl_box rfl rfl rfl fun g5 => ?_
    refine wl_nil ?_
    refine nw 12 2047 (fun _ hm => ⟨hm.fa 1, hm.fa 2, hm.fa 3, trivial⟩) fun z => ?_
    refine wa1 11 rfl ?_
    refine wl_store 1 sc262 rfl rfl rfl rfl rfl rfl ?_
    refine wl_nil ?_
    refine nw 12 4095 (fun _ hm => ⟨hm.fa 1, hm.fa 2, hm.fa 3, trivial⟩) fun z => ?_
    refine wa_done (by kernel_rfl) ?_
    refine nx_also (Y := fun wy => SlT csnEnc 1 269 wy A9 n cx) (SlT.lasts2 rfl) (fun wx hm => (hm.fact 0 rfl).1) ?_
    refine nx_also (Y := fun wy => Chs 268 cx wy) (Chs.lasts rfl) (fun wx hm => (hm.fact 1 rfl).2) ?_
    exact nx_meet (A9, c9, cx, g4, g5, g1) hcx ⟨rfl, rfl, rfl, trivial⟩ (fun _ hm => hm.pick [1, 0] [0] [3, 4, 5, 1, 0] rfl rfl)
   refine wl_alloc zc262 rfl fun g6 => ?_
   refine wl_nil ?_
   refine nw 12 1151 (fun _ hm => ⟨hm.fa 1, hm.fa 2, hm.fa 3, trivial⟩) fun z => ?_
   refine wa1 7 rfl ?_
   refine wl_makeO (n := n) (sz := 1) (e := 9) (by_ := 16) (z := .string ⟨#[]⟩) (by kernel_rfl) (by kernel_rfl) rfl rfl (by omega) (by omega) (by omega) (by unfold maxLen; omega) (made_flat (enc := sgEnc) (x := (⟨#[]⟩ : ByteArray)) rfl rfl (by decide) (n)) rfl fun g7 => ?_
   refine wl_nil ?_
   refine nw 12 1279 (fun _ hm => ⟨hm.fa 1, hm.fa 2, hm.fa 3, trivial⟩) fun z => ?_
   refine wt 8 12 1535 rfl z (ov_build (cs := [.slice A n c, .slice A9 n c9, .slice none 0 0, .slice (some ⟨g7, 0, none⟩) n n, .slice none 0 0, .slice none 0 0, .int .i64 (-1)]) rfl (by kernel_rfl)) ?_
   refine wa1 9 rfl ?_
   refine wl_box rfl rfl rfl fun g8 => ?_
   refine wl_nil ?_
   refine nw 12 2047 (fun _ hm => ⟨hm.fa 1, hm.fa 2, hm.fa 3, trivial⟩) fun z => ?_
   refine wa1 11 rfl ?_
   refine wl_store 1 sc262 rfl rfl rfl rfl rfl rfl ?_
   refine wl_nil ?_
   refine nw 12 4095 (fun _ hm => ⟨hm.fa 1, hm.fa 2, hm.fa 3, trivial⟩) fun z => ?_
   refine wa_done (by kernel_rfl) ?_
   refine nx_also (Y := fun wy => SlT csnEnc 1 269 wy A9 n cx) (SlT.lasts2 rfl) (fun wx hm => (hm.fact 0 rfl).1) ?_
   refine nx_also (Y := fun wy => Chs 268 cx wy) (Chs.lasts rfl) (fun wx hm => (hm.fact 1 rfl).2) ?_
   exact nx_meet (A9, c9, cx, g6, g8, g7) hcx ⟨rfl, rfl, rfl, trivial⟩ (fun _ hm => hm.pick [1, 0] [0] [3, 4, 5, 1, 0] rfl rfl)
  ·refine wl_makeO (n := n) (sz := 1) (e := 9) (by_ := 16) (z := .string ⟨#[]⟩) (by kernel_rfl) (by kernel_rfl) rfl rfl (by omega) (by omega) (by omega) (by unfold maxLen; omega) (made_flat (enc := sgEnc) (x := (⟨#[]⟩ : ByteArray)) rfl rfl (by decide) (n)) rfl fun g9 => ?_
   refine wl_nil ?_
   refine nw 12 239 (fun _ hm => ⟨hm.fa 0, hm.fa 1, hm.fa 2, trivial⟩) fun z => ?_
   refine wa_all [4, 10] (by kernel_rfl) rfl ⟨⟨_, rfl, ?_⟩, ⟨_, rfl, ?_⟩, trivial⟩
   ·refine wl_callx (γ := Option Addr × Nat × List ChS) (val := (fun g => .slice g.1 n g.2.1)) (φ := (fun g => g.2.2.map ChS.l = l.map (chB cs sl))) (Y := (fun g => fun wy => SlT csnEnc 1 269 wy g.1 n g.2.2 ∧ Chs 268 g.2.2 wy)) rfl cb220 rfl rfl (fun wx hm => (choicesP_any cs A0 n0 c0 sl A1 n1 c1 l A n c wx (hm.fact 0 rfl).1 hco (by omega) (hm.fact 1 rfl).1 hso (by omega) (hm.fact 2 rfl).1 (by omega) hkeys).mono fun _ _ ⟨A9, c9, cx, he, h1, h2, h3, hg⟩ => ⟨(A9, c9, cx), he, h3, hg, ⟨h1, h2⟩⟩) (fun _ => (SlT.lasts2 rfl).and_ (Chs.lasts rfl)) ?_
    rintro ⟨A9, c9, cx⟩ hcx
    dsimp only at hcx ⊢
    refine wl_nil ?_
    refine nw 12 255 (fun _ hm => ⟨hm.fa 1, hm.fa 2, hm.fa 3, trivial⟩) fun z => ?_
    refine wt 8 12 511 rfl z (ov_build (cs := [.slice A n c, .slice A9 n c9, .slice none 0 0, .slice (some ⟨g9, 0, none⟩) n n, .slice none 0 0, .slice none 0 0, .int .i64 (-1)]) rfl (by kernel_rfl)) ?_
    refine wa_all [9, 10] (by kernel_rfl) rfl ⟨⟨_, rfl, ?_⟩, ⟨_, rfl, ?_⟩, trivial⟩
    ·refine wl_box rfl rfl rfl fun g10 => ?_
     refine wl_nil ?_
     refine nw 12 1023 (fun _ hm => ⟨hm.fa 1, hm.fa 2, hm.fa 3, trivial⟩) fun z => ?_
     refine wa1 10 rfl ?_
     refine wl_alloc zc262 rfl fun g11 => ?_
     refine wl_nil ?_
     refine nw 12 2047 (fun _ hm => ⟨hm.fa 1, hm.fa 2, hm.fa 3, trivial⟩) fun z => ?_
     refine wa1 11 rfl ?_
     refine wl_store 0 sc262 rfl rfl rfl rfl rfl rfl ?_
     refine wl_nil ?_
     refine nw 12 4095 (fun _ hm => ⟨hm.fa 1, hm.fa 2, hm.fa 3, trivial⟩) fun z => ?_
     refine wa_done (by kernel_rfl) ?_
     refine nx_also (Y := fun wy => SlT csnEnc 1 269 wy A9 n cx) (SlT.lasts2 rfl) (fun wx hm => (hm.fact 0 rfl).1) ?_
     refine nx_also (Y := fun wy => Chs 268 cx wy) (Chs.lasts rfl) (fun wx hm => (hm.fact 1 rfl).2) ?_
     exact nx_meet (A9, c9, cx, g11, g10, g9) hcx ⟨rfl, rfl, rfl, trivial⟩ (fun _ hm => hm.pick [0, 1] [0] [3, 4, 5, 1, 0] rfl rfl)
    refine wl_alloc zc262 rfl fun g12 => ?_
    refine wl_nil ?_
    refine nw 12 1535 (fun _ hm => ⟨hm.fa 1, hm.fa 2, hm.fa 3, trivial⟩) fun z => ?_
    refine wa1 9 rfl ?_
    refine wl_box rfl rfl rfl fun g13 => ?_
    refine wl_nil ?_
    refine nw 12 2047 (fun _ hm => ⟨hm.fa 1, hm.fa 2, hm.fa 3, trivial⟩) fun z => ?_
    refine wa1 11 rfl ?_
    refine wl_store 1 sc262 rfl rfl rfl rfl rfl rfl ?_
    refine wl_nil ?_
    refine nw 12 4095 (fun _ hm => ⟨hm.fa 1, hm.fa 2, hm.fa 3, trivial⟩) fun z => ?_
    refine wa_done (by kernel_rfl) ?_
    refine nx_also (Y := fun wy => SlT csnEnc 1 269 wy A9 n cx) (SlT.lasts2 rfl) (fun wx hm => (hm.fact 0 rfl).1) ?_
    refine nx_also (Y := fun wy => Chs 268 cx wy) (Chs.lasts rfl) (fun wx hm => (hm.fact 1 rfl).2) ?_
    exact nx_meet (A9, c9, cx, g12, g13, g9) hcx ⟨rfl, rfl, rfl, trivial⟩ (fun _ hm => hm.pick [1, 0] [0] [3, 4, 5, 1, 0] rfl rfl)
   refine wl_alloc zc262 rfl fun g14 => ?_
   refine wl_nil ?_
   refine nw 12 1263 (fun _ hm => ⟨hm.fa 0, hm.fa 1, hm.fa 2, trivial⟩) fun z => ?_
   refine wa1 4 rfl ?_
   refine wl_callx (γ := Option Addr × Nat × List ChS) (val := (fun g => .slice g.1 n g.2.1)) (φ := (fun g => g.2.2.map ChS.l = l.map (chB cs sl))) (Y := (fun g => fun wy => SlT csnEnc 1 269 wy g.1 n g.2.2 ∧ Chs 268 g.2.2 wy)) rfl cb220 rfl rfl (fun wx hm => (choicesP_any cs A0 n0 c0 sl A1 n1 c1 l A n c wx (hm.fact 0 rfl).1 hco (by omega) (hm.fact 1 rfl).1 hso (by omega) (hm.fact 2 rfl).1 (by omega) hkeys).mono fun _ _ ⟨A9, c9, cx, he, h1, h2, h3, hg⟩ => ⟨(A9, c9, cx), he, h3, hg, ⟨h1, h2⟩⟩) (fun _ => (SlT.lasts2 rfl).and_ (Chs.lasts rfl)) ?_
   rintro ⟨A9, c9, cx⟩ hcx
   dsimp only at hcx ⊢
   refine wl_nil ?_
   refine nw 12 1279 (fun _ hm => ⟨hm.fa 1, hm.fa 2, hm.fa 3, trivial⟩) fun z => ?_
   refine wt 8 12 1535 rfl z (ov_build (cs := [.slice A n c, .slice A9 n c9, .slice none 0 0, .slice (some ⟨g9, 0, none⟩) n n, .slice none 0 0, .slice none 0 0, .int .i64 (-1)]) rfl (by kernel_rfl)) ?_
   refine wa1 9 rfl ?_
   refine wl_box rfl rfl rfl fun g15 => ?_
   refine wl_nil ?_
   refine nw 12 2047 (fun _ hm => ⟨hm.fa 1, hm.fa 2, hm.fa 3, trivial⟩) fun z => ?_
   refine wa1 11 rfl ?_
   refine wl_store 1 sc262 rfl rfl rfl rfl rfl rfl ?_
   refine wl_nil ?_
   refine nw 12 4095 (fun _ hm => ⟨hm.fa 1, hm.fa 2, hm.fa 3, trivial⟩) fun z => ?_
   refine wa_done (by kernel_rfl) ?_
   refine nx_also (Y := fun wy => SlT csnEnc 1 269 wy A9 n cx) (SlT.lasts2 rfl) (fun wx hm => (hm.fact 0 rfl).1) ?_
   refine nx_also (Y := fun wy => Chs 268 cx wy) (Chs.lasts rfl) (fun wx hm => (hm.fact 1 rfl).2) ?_
   exact nx_meet (A9, c9, cx, g14, g15, g9) hcx ⟨rfl, rfl, rfl, trivial⟩ (fun _ hm => hm.pick [1, 0] [0] [3, 4, 5, 1, 0] rfl rfl)
  refine wl_alloc zc262 rfl fun g16 => ?_
  refine wl_nil ?_
  refine nw 12 1135 (fun _ hm => ⟨hm.fa 0, hm.fa 1, hm.fa 2, trivial⟩) fun z => ?_
  refine wa_all [4, 7] (by kernel_rfl) rfl ⟨⟨_, rfl, ?_⟩, ⟨_, rfl, ?_⟩, trivial⟩
  ·refine wl_callx (γ := Option Addr × Nat × List ChS) (val := (fun g => .slice g.1 n g.2.1)) (φ := (fun g => g.2.2.map ChS.l = l.map (chB cs sl))) (Y := (fun g => fun wy => SlT csnEnc 1 269 wy g.1 n g.2.2 ∧ Chs 268 g.2.2 wy)) rfl cb220 rfl rfl (fun wx hm => (choicesP_any cs A0 n0 c0 sl A1 n1 c1 l A n c wx (hm.fact 0 rfl).1 hco (by omega) (hm.fact 1 rfl).1 hso (by omega) (hm.fact 2 rfl).1 (by omega) hkeys).mono fun _ _ ⟨A9, c9, cx, he, h1, h2, h3, hg⟩ => ⟨(A9, c9, cx), he, h3, hg, ⟨h1, h2⟩⟩) (fun _ => (SlT.lasts2 rfl).and_ (Chs.lasts rfl)) ?_
   rintro ⟨A9, c9, cx⟩ hcx
   dsimp only at hcx ⊢
   refine wl_nil ?_
   refine nw 12 1151 (fun _ hm => ⟨hm.fa 1, hm.fa 2, hm.fa 3, trivial⟩) fun z => ?_
   refine wa1 7 rfl ?_
   refine wl_makeO (n := n) (sz := 1) (e := 9) (by_ := 16) (z := .string ⟨#[]⟩) (by kernel_rfl) (by kernel_rfl) rfl rfl (by omega) (by omega) (by omega) (by unfold maxLen; omega) (made_flat (enc := sgEnc) (x := (⟨#[]⟩ : ByteArray)) rfl rfl (by decide) (n)) rfl fun g17 => ?_
   refine wl_nil ?_
   refine nw 12 1279 (fun _ hm => ⟨hm.fa 1, hm.fa 2, hm.fa 3, trivial⟩) fun z => ?_
   refine wt 8 12 1535 rfl z (ov_build (cs := [.slice A n c, .slice A9 n c9, .slice none 0 0, .slice (some ⟨g17, 0, none⟩) n n, .slice none 0 0, .slice none 0 0, .int .i64 (-1)]) rfl (by kernel_rfl)) ?_
   refine wa1 9 rfl ?_
   refine wl_box rfl rfl rfl fun g18 => ?_
   refine wl_nil ?_
   refine nw 12 2047 (fun _ hm => ⟨hm.fa 1, hm.fa 2, hm.fa 3, trivial⟩) fun z => ?_
   refine wa1 11 rfl ?_
   refine wl_store 1 sc262 rfl rfl rfl rfl rfl rfl ?_
   refine wl_nil ?_
   refine nw 12 4095 (fun _ hm => ⟨hm.fa 1, hm.fa 2, hm.fa 3, trivial⟩) fun z => ?_
   refine wa_done (by kernel_rfl) ?_
   refine nx_also (Y := fun wy => SlT csnEnc 1 269 wy A9 n cx) (SlT.lasts2 rfl) (fun wx hm => (hm.fact 0 rfl).1) ?_
   refine nx_also (Y := fun wy => Chs 268 cx wy) (Chs.lasts rfl) (fun wx hm => (hm.fact 1 rfl).2) ?_
   exact nx_meet (A9, c9, cx, g16, g18, g17) hcx ⟨rfl, rfl, rfl, trivial⟩ (fun _ hm => hm.pick [1, 0] [0] [3, 4, 5, 1, 0] rfl rfl)
  refine wl_makeO (n := n) (sz := 1) (e := 9) (by_ := 16) (z := .string ⟨#[]⟩) (by kernel_rfl) (by kernel_rfl) rfl rfl (by omega) (by omega) (by omega) (by unfold maxLen; omega) (made_flat (enc := sgEnc) (x := (⟨#[]⟩ : ByteArray)) rfl rfl (by decide) (n)) rfl fun g19 => ?_
  refine wl_nil ?_
  refine nw 12 1263 (fun _ hm => ⟨hm.fa 0, hm.fa 1, hm.fa 2, trivial⟩) fun z => ?_
  refine wa1 4 rfl ?_
  refine wl_callx (γ := Option Addr × Nat × List ChS) (val := (fun g => .slice g.1 n g.2.1)) (φ := (fun g => g.2.2.map ChS.l = l.map (chB cs sl))) (Y := (fun g => fun wy => SlT csnEnc 1 269 wy g.1 n g.2.2 ∧ Chs 268 g.2.2 wy)) rfl cb220 rfl rfl (fun wx hm => (choicesP_any cs A0 n0 c0 sl A1 n1 c1 l A n c wx (hm.fact 0 rfl).1 hco (by omega) (hm.fact 1 rfl).1 hso (by omega) (hm.fact 2 rfl).1 (by omega) hkeys).mono fun _ _ ⟨A9, c9, cx, he, h1, h2, h3, hg⟩ => ⟨(A9, c9, cx), he, h3, hg, ⟨h1, h2⟩⟩) (fun _ => (SlT.lasts2 rfl).and_ (Chs.lasts rfl)) ?_
  rintro ⟨A9, c9, cx⟩ hcx
  dsimp only at hcx ⊢
  refine wl_nil ?_
  refine nw 12 1279 (fun _ hm => ⟨hm.fa 1, hm.fa 2, hm.fa 3, trivial⟩) fun z => ?_
  refine wt 8 12 1535 rfl z (ov_build (cs := [.slice A n c, .slice A9 n c9, .slice none 0 0, .slice (some ⟨g19, 0, none⟩) n n, .slice none 0 0, .slice none 0 0, .int .i64 (-1)]) rfl (by kernel_rfl)) ?_
  refine wa1 9 rfl ?_
  refine wl_box rfl rfl rfl fun g20 => ?_
  refine wl_nil ?_
  refine nw 12 2047 (fun _ hm => ⟨hm.fa 1, hm.fa 2, hm.fa 3, trivial⟩) fun z => ?_
  refine wa1 11 rfl ?_
  refine wl_store 1 sc262 rfl rfl rfl rfl rfl rfl ?_
  refine wl_nil ?_
  refine nw 12 4095 (fun _ hm => ⟨hm.fa 1, hm.fa 2, hm.fa 3, trivial⟩) fun z => ?_
  refine wa_done (by kernel_rfl) ?_
  refine nx_also (Y := fun wy => SlT csnEnc 1 269 wy A9 n cx) (SlT.lasts2 rfl) (fun wx hm => (hm.fact 0 rfl).1) ?_
  refine nx_also (Y := fun wy => Chs 268 cx wy) (Chs.lasts rfl) (fun wx hm => (hm.fact 1 rfl).2) ?_
  exact nx_meet (A9, c9, cx, g16, g20, g19) hcx ⟨rfl, rfl, rfl, trivial⟩ (fun _ hm => hm.pick [1, 0] [0] [3, 4, 5, 1, 0] rfl rfl)
 rintro ⟨A9, c9, cx, g7, gx, gc⟩ hinv
 replace hinv : cx.map ChS.l = l.map (chB cs sl) := hinv
 dsimp only
 refine gw_seq (sr_ ?_)
 have hcx : cx.map ChS.l = l.map (chB cs sl) := hinv
 have hcxl : cx.length = n := by have h := congrArg List.length hcx; rw [List.length_map, List.length_map] at h; omega
 refine wl_look (R := (∀ x ∈ cx, x.l.length = x.n) ∧ (0 < n → ∃ b9 o9, A9 = some ⟨b9, o9, none⟩) ∧ ∀ x ∈ cx, 0 < x.n → ∃ bi oi, x.A = some ⟨bi, oi, none⟩) (fun wx hm => ⟨fun x hx => ((hm.fact 4 rfl) x hx).len, fun h0 => by
  obtain ⟨b9, o9, e, _⟩ := (hm.fact 3 rfl).get h0
  exact ⟨b9, o9, e⟩, fun x hx h0 => by
  obtain ⟨b9, o9, e, _⟩ := ((hm.fact 4 rfl) x hx).get h0
  exact ⟨b9, o9, e⟩⟩) ?_
 rintro ⟨hcn, h9, hin⟩
 refine wl_nilOwn 3 1 ?_
 refine mv_ rfl (wl_ov (ov_len es76 rfl) rfl (mv_ rfl (nn_ (gw_block ?_))))
 refine gw_loop (γ := Nat × Value) (fun g => g.1 ≤ n ∧ ∀ j, j < g.1 → lenN (l.map (chB cs sl)) j ≠ 0) (fun g => [(2, .slice A n c), (7, .pointer (some ⟨g7, 0, none⟩)), (21, .int .i64 ((n : Nat) : Int)), (22, .int .i64 ((g.1 : Nat) : Int))]) (fun g => fun _ => True) (fun g => [(g7, 262, [.pointer (some ⟨gx, 0, none⟩)]), (gx, 266, [.slice A n c, .slice A9 n c9, g.2, .slice (some ⟨gc, 0, none⟩) n n, .slice none 0 0, .slice none 0 0, .int .i64 (-1)])]) (fun g => [⟨g.2, 3, 1, g.1, (List.range g.1).flatMap nEnc⟩, ⟨.slice (some ⟨gc, 0, none⟩) n n, 9, 1, n, (List.replicate (n) (⟨#[]⟩ : ByteArray)).flatMap sgEnc⟩]) (fun g => [SlOld csEnc 2 158 w.heap.size none A0 n0 cs, SlOld skEnc 2 211 w.heap.size none A1 n1 sl, SlOld bkEnc 6 92 w.heap.size none A n l, fun wy => SlT csnEnc 1 269 wy A9 n cx, fun wy => Chs 268 cx wy]) (fun g => n - g.1) (0, .slice none 0 0) ⟨Nat.zero_le _, fun j h => absurd h (Nat.not_lt_zero j)⟩ ⟨rfl, rfl, rfl, rfl, trivial⟩ (fun _ hm => hm.pick [0, 1] [0, 1] [0, 1, 2, 3, 4] rfl rfl) ?_
 rintro ⟨i, v⟩ hinv
 replace hinv : i ≤ n ∧ ∀ j, j < i → lenN (l.map (chB cs sl)) j ≠ 0 := hinv
 dsimp only
 refine sr_ ?_
 obtain ⟨hi0, hne⟩ := hinv
 refine wl_ov (ov_lss rfl rfl) rfl (nn_ (gw_seq ?_))
 refine gw_cond rfl (fun hh => ?_) (fun hh => ?_)
 ·have hi : ((i : Nat) : Int) < ((n : Nat) : Int) := by simpa using hh
  clear hh
  refine gw_skip (nx_then (gw_seq (gw_block (sr_ ?_))))
  obtain ⟨b9, o9, rfl⟩ := h9 (by omega)
  obtain ⟨x9, hx9⟩ : ∃ x, cx[i]? = some x := ⟨_, List.getElem?_eq_getElem (by omega)⟩
  have hln := lenN_at hcx hcn hx9
  have hxl := cx_at hcx hx9
  obtain ⟨Ai, ni, ci, li⟩ := x9
  dsimp only at hln hxl
  refine mv_ rfl (sg_ rfl (nn_ (gw_seq (sr_ (lk_ sc262 0 rfl rfl rfl (wl_ov (ov_nilcheck rfl) rfl (fd_ fo266_1 rfl rfl (lk_ sc263 1 rfl rfl rfl (mv_ rfl ?_)))))))))
  refine wl_ov (ov_index (j := i) es263 rfl rfl (by omega)) rfl ?_
  refine wl_ov (ov_elem1 (k := 0) (v := .slice Ai ni ci) sc269 rfl (fun _ hm => (hm.fact 3 rfl)) hx9 rfl rfl) rfl ?_
  refine wl_ov (ov_len es269 rfl) rfl (wl_ov (ov_eql rfl rfl) rfl (nn_ ?_))
  refine gw_cond rfl (fun hh => ?_) (fun hh => ?_)
  ·have hni : ((ni : Nat) : Int) = 0 := by simpa using hh
   clear hh
   refine sr_ (sg_ rfl ?_)
   refine wl_set 6 (v' := .int .i64 (-1)) rfl rfl ?_
   refine nn_ ?_
   refine gw_ret ?_
   refine nx_then_ret (nx_blk_ret (nx_then_ret (nx_then_ret (nx_blk_ret (nx_then_ret ?_)))))
   have hle : li = [] := List.length_eq_zero_iff.1 (by have := hcn _ (List.mem_of_getElem? hx9); dsimp only at this; omega)
   have hem : [] ∈ l.map (chB cs sl) := by rw [← hcx]; exact List.mem_map.2 ⟨_, List.mem_of_getElem? hx9, hle⟩
   refine nx_ret1 rfl rfl fun wx hm => ?_
   exact ⟨-1, rfl, fw_none (asg_empty hcl hlo hix (fun b hb => (htm b hb).2.1) hem), hm.g⟩
  have hni : ¬ (((ni : Nat) : Int) = 0) := by simpa using hh
  clear hh
  refine gw_skip (nx_then ?_)
  have hn0 : lenN (l.map (chB cs sl)) i ≠ 0 := by omega
  refine gd (fun wz => Blk wz g7 262 [.pointer (some ⟨gx, 0, none⟩)] ∧ (SlOld csEnc 2 158 w.heap.size none A0 n0 cs) wz ∧ (SlOld skEnc 2 211 w.heap.size none A1 n1 sl) wz ∧ (SlOld bkEnc 6 92 w.heap.size none A n l) wz ∧ (fun wy => SlT csnEnc 1 269 wy (some ⟨b9, o9, none⟩) n cx) wz ∧ (fun wy => Chs 268 cx wy) wz ∧ True) mixed (fun _ hm => ⟨hm.bl 0, hm.fa 0, hm.fa 1, hm.fa 2, hm.fa 3, hm.fa 4, trivial⟩) fun z => ?_
  refine wt 0 11 1 rfl z (ov_load sc262 rfl (fun _ hm => hm.1) rfl) ?_
  refine wt 1 11 3 rfl z (ov_load sc262 rfl (fun _ hm => hm.1) rfl) ?_
  refine wt 2 11 7 rfl z (ov_nilcheck rfl) ?_
  refine wt 3 11 15 rfl z (ov_field fo266_2 rfl rfl) ?_
  refine wt 5 11 47 rfl z (ov_move rfl) ?_
  refine wa_all [4, 6] (by kernel_rfl) rfl ⟨⟨_, rfl, ?_⟩, ⟨_, rfl, ?_⟩, trivial⟩
  ·refine lk_ sc22 1 rfl rfl rfl (wl_nil ?_)
   refine nw 11 63 (fun _ hm => ⟨hm.bl 0, hm.fa 0, hm.fa 1, hm.fa 2, hm.fa 3, hm.fa 4, trivial⟩) fun z => ?_
   refine wa1 6 rfl ?_
   refine wl_buildSlice (e := 3) (cs := [.int .i64 ((i : Nat) : Int)]) rfl (by kernel_rfl) rfl fun g21 => ?_
   refine wl_nil ?_
   refine nw 11 127 (fun _ hm => ⟨hm.bl 1, hm.fa 0, hm.fa 1, hm.fa 2, hm.fa 3, hm.fa 4, trivial⟩) fun z => ?_
   refine wa1 7 rfl ?_
   refine wl_append (news := [.int .i64 ((i : Nat) : Int)]) 0 0 ap22 rfl rfl rfl rfl rfl rfl rfl (by omega) (by unfold maxLen; omega) rfl rfl fun v2 hv2 => ?_
   rw [show (List.range i).flatMap nEnc ++ ([.int .i64 ((i : Nat) : Int)] : List Value) = (List.range (i + 1)).flatMap nEnc from by rw [List.range_succ, List.flatMap_append]; simp [nEnc]]
   refine wl_look (R := ∃ A cc, v2 = .slice A (i + 1) cc) (fun wx hm => own_slice (hm.ownI 0 rfl)) ?_
   rintro ⟨Ao, co, rfl⟩
   refine wl_nil ?_
   refine nw 11 255 (fun _ hm => ⟨hm.bl 1, hm.fa 0, hm.fa 1, hm.fa 2, hm.fa 3, hm.fa 4, trivial⟩) fun z => ?_
   refine wt 8 11 511 rfl z (ov_nilcheck rfl) ?_
   refine wt 9 11 1023 rfl z (ov_field fo266_2 rfl rfl) ?_
   refine wa1 10 rfl ?_
   refine wl_store 2 sc22 rfl rfl rfl rfl rfl rfl ?_
   refine wl_nil ?_
   refine nw 11 2047 (fun _ hm => ⟨hm.bl 1, hm.fa 0, hm.fa 1, hm.fa 2, hm.fa 3, hm.fa 4, trivial⟩) fun z => ?_
   refine wa_done (by kernel_rfl) ?_
   refine nx_blk_nrm (nx_then (gw_region (ad_ rfl rfl (mv_ rfl (wl_nil ?_)))))
   exact nx_round (i + 1, .slice Ao (i + 1) co) ⟨by dsimp only; omega, fun j hj => by
    by_cases e : j = i
    ·rw [e]; omega
    exact hne j (by dsimp only at hj; omega)⟩ (by dsimp only; omega) ⟨rfl, rfl, rfl, (some_int (by omega)), trivial⟩ (fun _ hm => hm.pick [1, 2] [0, 1] [0, 1, 2, 3, 4] rfl rfl)
  refine wl_buildSlice (e := 3) (cs := [.int .i64 ((i : Nat) : Int)]) rfl (by kernel_rfl) rfl fun g22 => ?_
  refine wl_nil ?_
  refine nw 11 111 (fun _ hm => ⟨hm.bl 1, hm.fa 0, hm.fa 1, hm.fa 2, hm.fa 3, hm.fa 4, trivial⟩) fun z => ?_
  refine wa1 4 rfl ?_
  refine lk_ sc22 2 rfl rfl rfl (wl_nil ?_)
  refine nw 11 127 (fun _ hm => ⟨hm.bl 1, hm.fa 0, hm.fa 1, hm.fa 2, hm.fa 3, hm.fa 4, trivial⟩) fun z => ?_
  refine wa1 7 rfl ?_
  refine wl_append (news := [.int .i64 ((i : Nat) : Int)]) 0 0 ap22 rfl rfl rfl rfl rfl rfl rfl (by omega) (by unfold maxLen; omega) rfl rfl fun v2 hv2 => ?_
  rw [show (List.range i).flatMap nEnc ++ ([.int .i64 ((i : Nat) : Int)] : List Value) = (List.range (i + 1)).flatMap nEnc from by rw [List.range_succ, List.flatMap_append]; simp [nEnc]]
  refine wl_look (R := ∃ A cc, v2 = .slice A (i + 1) cc) (fun wx hm => own_slice (hm.ownI 0 rfl)) ?_
  rintro ⟨Ao, co, rfl⟩
  refine wl_nil ?_
  refine nw 11 255 (fun _ hm => ⟨hm.bl 1, hm.fa 0, hm.fa 1, hm.fa 2, hm.fa 3, hm.fa 4, trivial⟩) fun z => ?_
  refine wt 8 11 511 rfl z (ov_nilcheck rfl) ?_
  refine wt 9 11 1023 rfl z (ov_field fo266_2 rfl rfl) ?_
  refine wa1 10 rfl ?_
  refine wl_store 2 sc22 rfl rfl rfl rfl rfl rfl ?_
  refine wl_nil ?_
  refine nw 11 2047 (fun _ hm => ⟨hm.bl 1, hm.fa 0, hm.fa 1, hm.fa 2, hm.fa 3, hm.fa 4, trivial⟩) fun z => ?_
  refine wa_done (by kernel_rfl) ?_
  refine nx_blk_nrm (nx_then (gw_region (ad_ rfl rfl (mv_ rfl (wl_nil ?_)))))
  exact nx_round (i + 1, .slice Ao (i + 1) co) ⟨by dsimp only; omega, fun j hj => by
   by_cases e : j = i
   ·rw [e]; omega
   exact hne j (by dsimp only at hj; omega)⟩ (by dsimp only; omega) ⟨rfl, rfl, rfl, (some_int (by omega)), trivial⟩ (fun _ hm => hm.pick [1, 2] [0, 1] [0, 1, 2, 3, 4] rfl rfl)
 have hi : ¬ (((i : Nat) : Int) < ((n : Nat) : Int)) := by simpa using hh
 clear hh
 refine gw_exit ?_
 refine nx_then_exit (nx_then_exit ?_)
 refine nx_blk_here ?_
 refine nx_then (sr_ ?_)
 have hin2 : i = n := by omega
 subst hin2
 refine wl_look (R := ∃ A cc, v = .slice A i cc) (fun wx hm => own_slice (hm.ownI 0 rfl)) ?_
 rintro ⟨Ao, co, rfl⟩
 obtain ⟨OD, hOD⟩ : ∃ z, z = ordN (l.map (chB cs sl)) i := ⟨_, rfl⟩
 have hOp : OD.Perm (List.range l.length) := by rw [hOD, hlen]; exact ordN_perm _ _
 have hOl : OD.length = i := by rw [hOp.length_eq, List.length_range]; exact hlen
 have hOm : ∀ j ∈ OD, j < i := fun j hj => by have := List.mem_range.1 (hOp.mem_iff.1 hj); omega
 have hOn : OD.Nodup := hOp.nodup_iff.2 List.nodup_range
 refine lk_ sc262 0 rfl rfl rfl (wl_ov (ov_nilcheck rfl) rfl (fd_ fo266_2 rfl rfl (lk_ sc22 1 rfl rfl rfl (wl_ov (ov_makeFunc rfl rfl) rfl ?_))))
 by_cases h0 : i = 0
 ·refine wl_callv (v := .tuple #[]) rfl cb155 rfl rfl (fun wx hm => (by subst h0; exact stable0_co Ao co g7 wx)) ?_
  rw [show (List.range i).flatMap nEnc = OD.flatMap nEnc from by rw [List.length_eq_zero_iff.1 (hOl.trans h0), h0]; rfl]
  refine nn_ (gw_seq ?_)
  refine gd (fun wz => Blk wz g7 262 [.pointer (some ⟨gx, 0, none⟩)] ∧ (SlOld csEnc 2 158 w.heap.size none A0 n0 cs) wz ∧ (SlOld skEnc 2 211 w.heap.size none A1 n1 sl) wz ∧ (SlOld bkEnc 6 92 w.heap.size none A i l) wz ∧ (fun wy => SlT csnEnc 1 269 wy A9 i cx) wz ∧ (fun wy => Chs 268 cx wy) wz ∧ True) mixed (fun _ hm => ⟨hm.bl 0, hm.fa 0, hm.fa 1, hm.fa 2, hm.fa 3, hm.fa 4, trivial⟩) fun z => ?_
  refine wt 0 8 1 rfl z (ov_load sc262 rfl (fun _ hm => hm.1) rfl) ?_
  refine wt 1 8 3 rfl z (ov_move rfl) ?_
  refine wt 2 8 7 rfl z (ov_len es76 rfl) ?_
  refine wt 3 8 15 rfl z (ov_add rfl rfl (by omega) (by omega)) ?_
  refine wa1 4 rfl ?_
  refine wl_makeO (n := (i + 1)) (sz := 1) (e := 3) (by_ := 8) (z := .int .i64 0) (by kernel_rfl) (by kernel_rfl) rfl rfl (by omega) (by omega) (by omega) (by unfold maxLen; omega) (made_flat (enc := iEnc) (x := (0 : Int)) rfl rfl (by decide) (i + 1)) rfl fun g23 => ?_
  obtain ⟨CO, hCO⟩ : ∃ z, z = coB cs sl l OD := ⟨_, rfl⟩
  have hCl : CO.length = i := by rw [hCO]; unfold coB; rw [List.length_map]; exact hOl
  rw [show (List.replicate (i + 1) (0 : Int)).flatMap iEnc = (restL CO i).flatMap iEnc from by rw [show restL CO i = List.replicate (i + 1) 0 from by have := restL_zero CO; rw [hCl] at this; exact this]]
  refine wl_nil ?_
  refine nw 8 31 (fun _ hm => ⟨hm.bl 0, hm.fa 0, hm.fa 1, hm.fa 2, hm.fa 3, hm.fa 4, trivial⟩) fun z => ?_
  refine wt 5 8 63 rfl z (ov_nilcheck rfl) ?_
  refine wt 6 8 127 rfl z (ov_field fo266_5 rfl rfl) ?_
  refine wa1 7 rfl ?_
  refine wl_store 1 sc22 rfl rfl rfl rfl rfl rfl ?_
  refine wl_nil ?_
  refine nw 8 255 (fun _ hm => ⟨hm.bl 0, hm.fa 0, hm.fa 1, hm.fa 2, hm.fa 3, hm.fa 4, trivial⟩) fun z => ?_
  refine wa_done (by kernel_rfl) ?_
  refine nx_then (gw_seq (sr_ (mv_ rfl (wl_ov (ov_len es76 rfl) rfl ?_))))
  refine wl_ov (ov_sub rfl rfl (by omega) (by omega)) rfl ?_
  refine sg_ rfl (nn_ (gw_block ?_))
  refine gw_loop (γ := Nat) (fun (j : Nat) => j ≤ i) (fun (j : Nat) => [(7, .pointer (some ⟨g7, 0, none⟩)), (9, .int .i64 (((j : Nat) : Int) - 1))]) (fun (j : Nat) => fun _ => True) (fun (j : Nat) => [(g7, 262, [.pointer (some ⟨gx, 0, none⟩)]), (gx, 266, [.slice A i c, .slice A9 i c9, .slice Ao i co, .slice (some ⟨gc, 0, none⟩) i i, .slice none 0 0, .slice (some ⟨g23, 0, none⟩) (i + 1) (i + 1), .int .i64 (-1)])]) (fun (j : Nat) => [⟨.slice (some ⟨g23, 0, none⟩) (i + 1) (i + 1), 3, 1, (i + 1), (restL CO j).flatMap iEnc⟩, ⟨.slice Ao i co, 3, 1, i, OD.flatMap nEnc⟩, ⟨.slice (some ⟨gc, 0, none⟩) i i, 9, 1, i, (List.replicate (i) (⟨#[]⟩ : ByteArray)).flatMap sgEnc⟩]) (fun (j : Nat) => [SlOld csEnc 2 158 w.heap.size none A0 n0 cs, SlOld skEnc 2 211 w.heap.size none A1 n1 sl, SlOld bkEnc 6 92 w.heap.size none A i l, fun wy => SlT csnEnc 1 269 wy A9 i cx, fun wy => Chs 268 cx wy]) (fun (j : Nat) => j) i (Nat.le_refl _) ⟨rfl, rfl, trivial⟩ (fun _ hm => hm.pick [0, 1] [0, 1, 2] [0, 1, 2, 3, 4] rfl rfl) ?_
  intro j hinv
  replace hinv : j ≤ i := hinv
  refine gw_seq (sr_ (mv_ rfl ?_))
  refine wl_ov (ov_geq rfl rfl) rfl ?_
  refine nn_ ?_
  refine gw_cond rfl (fun hh => ?_) (fun hh => ?_)
  ·have hj : 0 ≤ ((j : Nat) : Int) - 1 := by simpa using hh
   clear hh
   refine gw_skip (nx_then (gw_seq (gw_block ?_)))
   obtain ⟨k, rfl⟩ : ∃ k, j = k + 1 := ⟨j - 1, by omega⟩
   have ek : (((k + 1 : Nat) : Int) - 1) = ((k : Nat) : Int) := by omega
   have hki : k < i := by omega
   refine gw_set 9 (v' := .int .i64 ((k : Nat) : Int)) rfl (congrArg (Value.int .i64) ek) ?_
   exact absurd hki (by omega)
  have hj : ¬ (0 ≤ ((j : Nat) : Int) - 1) := by simpa using hh
  clear hh
  refine gw_exit ?_
  refine nx_then_exit (nx_then_exit ?_)
  refine nx_blk_here ?_
  refine nx_then (sr_ ?_)
  have hj0 : j = 0 := by omega
  subst hj0
  refine lk_ sc262 0 rfl rfl rfl ?_
  refine wl_callG (γ := List ByteArray) (val := fun _ => .tuple #[]) (φ := fun _ => True) (K' := fun _ => fun _ => True) (L' := fun _ => [(gx, 266, [.slice A i c, .slice A9 i c9, .slice Ao i co, .slice (some ⟨gc, 0, none⟩) i i, .slice none 0 0, .slice (some ⟨g23, 0, none⟩) (i + 1) (i + 1), .int .i64 (bestI (bbW roomF (OD.map (itB cs sl l)) [] 0 none))]), (g7, 262, [.pointer (some ⟨gx, 0, none⟩)])]) (O' := fun cl2 => [⟨.slice (some ⟨gc, 0, none⟩) i i, 9, 1, i, cl2.flatMap sgEnc⟩, ⟨.slice Ao i co, 3, 1, i, OD.flatMap nEnc⟩, ⟨.slice (some ⟨g23, 0, none⟩) (i + 1) (i + 1), 3, 1, (i + 1), (restL CO 0).flatMap iEnc⟩]) (X' := fun _ => [SlOld bkEnc 6 92 w.heap.size none A i l]) rfl cb228 rfl rfl (fun wx hm => by
   have h := cf_all w l A i c cs sl A9 c9 cx OD Ao co (restL CO 0) gx g7 gc g23 (by omega) (own_cap (hm.ownI 1 rfl)) hOl (by rw [restL_len, hCl]) hOm hOn htm hcx hstp hchl (fun k => by rw [co_it]; exact Nat.le_trans (co_le hstp (fun j hj => by rw [hlen]; exact hOm j hj) k) (by omega)) (fun k hk => by rw [co_it, ← hCO, restL_at (by omega)]; rfl) i 0 (by omega) 0 none (List.replicate (i) (⟨#[]⟩ : ByteArray)) wx (by rw [List.length_replicate]) (by omega) (hm.pick [1, 0] [2, 1, 0] [2, 3, 4] rfl rfl).cx
   exact h.mono fun _ _ ⟨cl2, he, _, _, hm2⟩ => ⟨cl2, he, trivial, (hm2.cx.pick [0, 1] [0, 1, 2] [0] rfl rfl)⟩) ?_
  rintro cl2 -
  refine nn_ (sr_ (lk_ sc262 1 rfl rfl rfl (wl_ov (ov_nilcheck rfl) rfl (fd_ fo266_6 rfl rfl (lk_ sc3 0 rfl rfl rfl (sg_ rfl (nn_ ?_)))))))
  refine gw_ret ?_
  refine nx_ret1 rfl rfl fun wx hm => ?_
  exact ⟨_, rfl, fw_bb hcl hlo hix htm hOp, hm.g⟩
 refine wl_look (R := ∃ g, Ao = some ⟨g, 0, none⟩) (fun wx hm => own_addr (hm.ownI 0 rfl) (by omega)) ?_
 rintro ⟨go, rfl⟩
 rw [show (List.range i).flatMap nEnc = ((List.range i).map fun k => ((k : Nat) : Int)).flatMap iEnc from (n_flat _).symm]
 refine wl_callr (v := .tuple #[]) (xs' := OD.flatMap nEnc) 0 rfl rfl rfl cb155 rfl rfl (fun wx hm => (by have h := stable_co cx (l.map (chB cs sl)) A9 i c9 g7 gx _ _ _ _ _ _ ((List.range i).map fun k => ((k : Nat) : Int)) go i co _ wx (hm.ownI 0 rfl) (by simp) (by omega) ((hm.fact 3 rfl).farT (hm.ownI 0 rfl) (by decide)) (hm.blkFar 0 0 rfl rfl) (hm.blkFar 1 0 rfl rfl) hcx hcn (fun z hz => by obtain ⟨q, hq, rfl⟩ := List.mem_map.1 hz; have := List.mem_range.1 hq; omega); rw [ordN_eq, ← hOD, n_flat] at h; exact h)) ?_
 refine nn_ (gw_seq ?_)
 refine gd (fun wz => Blk wz g7 262 [.pointer (some ⟨gx, 0, none⟩)] ∧ (SlOld csEnc 2 158 w.heap.size none A0 n0 cs) wz ∧ (SlOld skEnc 2 211 w.heap.size none A1 n1 sl) wz ∧ (SlOld bkEnc 6 92 w.heap.size none A i l) wz ∧ (fun wy => SlT csnEnc 1 269 wy A9 i cx) wz ∧ (fun wy => Chs 268 cx wy) wz ∧ True) mixed (fun _ hm => ⟨hm.bl 0, hm.fa 0, hm.fa 1, hm.fa 2, hm.fa 3, hm.fa 4, trivial⟩) fun z => ?_
 refine wt 0 8 1 rfl z (ov_load sc262 rfl (fun _ hm => hm.1) rfl) ?_
 refine wt 1 8 3 rfl z (ov_move rfl) ?_
 refine wt 2 8 7 rfl z (ov_len es76 rfl) ?_
 refine wt 3 8 15 rfl z (ov_add rfl rfl (by omega) (by omega)) ?_
 refine wa1 4 rfl ?_
 refine wl_makeO (n := (i + 1)) (sz := 1) (e := 3) (by_ := 8) (z := .int .i64 0) (by kernel_rfl) (by kernel_rfl) rfl rfl (by omega) (by omega) (by omega) (by unfold maxLen; omega) (made_flat (enc := iEnc) (x := (0 : Int)) rfl rfl (by decide) (i + 1)) rfl fun g24 => ?_
 obtain ⟨CO, hCO⟩ : ∃ z, z = coB cs sl l OD := ⟨_, rfl⟩
 have hCl : CO.length = i := by rw [hCO]; unfold coB; rw [List.length_map]; exact hOl
 rw [show (List.replicate (i + 1) (0 : Int)).flatMap iEnc = (restL CO i).flatMap iEnc from by rw [show restL CO i = List.replicate (i + 1) 0 from by have := restL_zero CO; rw [hCl] at this; exact this]]
 refine wl_nil ?_
 refine nw 8 31 (fun _ hm => ⟨hm.bl 0, hm.fa 0, hm.fa 1, hm.fa 2, hm.fa 3, hm.fa 4, trivial⟩) fun z => ?_
 refine wt 5 8 63 rfl z (ov_nilcheck rfl) ?_
 refine wt 6 8 127 rfl z (ov_field fo266_5 rfl rfl) ?_
 refine wa1 7 rfl ?_
 refine wl_store 1 sc22 rfl rfl rfl rfl rfl rfl ?_
 refine wl_nil ?_
 refine nw 8 255 (fun _ hm => ⟨hm.bl 0, hm.fa 0, hm.fa 1, hm.fa 2, hm.fa 3, hm.fa 4, trivial⟩) fun z => ?_
 refine wa_done (by kernel_rfl) ?_
 refine nx_then (gw_seq (sr_ (mv_ rfl (wl_ov (ov_len es76 rfl) rfl ?_))))
 refine wl_ov (ov_sub rfl rfl (by omega) (by omega)) rfl ?_
 refine sg_ rfl (nn_ (gw_block ?_))
 refine gw_loop (γ := Nat) (fun (j : Nat) => j ≤ i) (fun (j : Nat) => [(7, .pointer (some ⟨g7, 0, none⟩)), (9, .int .i64 (((j : Nat) : Int) - 1))]) (fun (j : Nat) => fun _ => True) (fun (j : Nat) => [(g7, 262, [.pointer (some ⟨gx, 0, none⟩)]), (gx, 266, [.slice A i c, .slice A9 i c9, .slice (some ⟨go, 0, none⟩) i co, .slice (some ⟨gc, 0, none⟩) i i, .slice none 0 0, .slice (some ⟨g24, 0, none⟩) (i + 1) (i + 1), .int .i64 (-1)])]) (fun (j : Nat) => [⟨.slice (some ⟨g24, 0, none⟩) (i + 1) (i + 1), 3, 1, (i + 1), (restL CO j).flatMap iEnc⟩, ⟨.slice (some ⟨go, 0, none⟩) i co, 3, 1, i, OD.flatMap nEnc⟩, ⟨.slice (some ⟨gc, 0, none⟩) i i, 9, 1, i, (List.replicate (i) (⟨#[]⟩ : ByteArray)).flatMap sgEnc⟩]) (fun (j : Nat) => [SlOld csEnc 2 158 w.heap.size none A0 n0 cs, SlOld skEnc 2 211 w.heap.size none A1 n1 sl, SlOld bkEnc 6 92 w.heap.size none A i l, fun wy => SlT csnEnc 1 269 wy A9 i cx, fun wy => Chs 268 cx wy]) (fun (j : Nat) => j) i (Nat.le_refl _) ⟨rfl, rfl, trivial⟩ (fun _ hm => hm.pick [0, 1] [0, 1, 2] [0, 1, 2, 3, 4] rfl rfl) ?_
 intro j hinv
 replace hinv : j ≤ i := hinv
 refine gw_seq (sr_ (mv_ rfl ?_))
 refine wl_ov (ov_geq rfl rfl) rfl ?_
 refine nn_ ?_
 refine gw_cond rfl (fun hh => ?_) (fun hh => ?_)
 ·have hj : 0 ≤ ((j : Nat) : Int) - 1 := by simpa using hh
  clear hh
  refine gw_skip (nx_then (gw_seq (gw_block ?_)))
  obtain ⟨k, rfl⟩ : ∃ k, j = k + 1 := ⟨j - 1, by omega⟩
  have ek : (((k + 1 : Nat) : Int) - 1) = ((k : Nat) : Int) := by omega
  have hki : k < i := by omega
  refine gw_set 9 (v' := .int .i64 ((k : Nat) : Int)) rfl (congrArg (Value.int .i64) ek) ?_
  obtain ⟨b9, o9, rfl⟩ := h9 (by omega)
  obtain ⟨q, hq⟩ : ∃ x, OD[k]? = some x := ⟨_, List.getElem?_eq_getElem (by omega)⟩
  have hqi := hOm q (List.mem_of_getElem? hq)
  obtain ⟨x9, hx9⟩ : ∃ x, cx[q]? = some x := ⟨_, List.getElem?_eq_getElem (by omega)⟩
  have hx9m := List.mem_of_getElem? hx9
  have hln := lenN_at hcx hcn hx9
  have hxl := cx_at hcx hx9
  have hlnz := hne q hqi
  obtain ⟨bi, oi, hAi⟩ := hin _ hx9m (by omega)
  obtain ⟨Ai, ni, ci, li⟩ := x9
  dsimp only at hln hxl hAi
  subst hAi
  have hlil := hcn _ hx9m
  dsimp only at hlil
  obtain ⟨e0, he0⟩ : ∃ x, li[0]? = some x := ⟨_, List.getElem?_eq_getElem (by omega)⟩
  have hco := co_at (cs := cs) (sl := sl) (l := l) hq
  rw [← hCO, ← hxl] at hco
  have hrw := restW_at hco
  rw [head_at he0] at hrw
  obtain ⟨e1, e2, e3⟩ := e0
  dsimp only at hrw
  obtain ⟨r1, hr1⟩ : ∃ z, z = restW (CO.drop (k + 1)) := ⟨_, rfl⟩
  obtain ⟨r0, hr0⟩ : ∃ z, z = restW (CO.drop k) := ⟨_, rfl⟩
  have hrb := co_le (l := l) (cs := cs) (sl := sl) hstp (fun j hj => by rw [hlen]; exact hOm j hj) k
  rw [← hCO, ← hr0] at hrb
  rw [← hr0, ← hr1] at hrw
  have hg1 : (restL CO (k + 1))[k + 1]? = some ((r1 : Nat) : Int) := by rw [restL_at (by omega), hr1]; unfold restR; rw [if_pos (Nat.le_refl _)]
  have hg0 : (restL CO (k + 1))[k]? = some (restR CO (k + 1) k) := restL_at (by omega)
  refine gd (fun wz => Blk wz g7 262 [.pointer (some ⟨gx, 0, none⟩)] ∧ Blk wz gx 266 [.slice A i c, .slice (some ⟨b9, o9, none⟩) i c9, .slice (some ⟨go, 0, none⟩) i co, .slice (some ⟨gc, 0, none⟩) i i, .slice none 0 0, .slice (some ⟨g24, 0, none⟩) (i + 1) (i + 1), .int .i64 (-1)] ∧ (SlOld csEnc 2 158 w.heap.size none A0 n0 cs) wz ∧ (SlOld skEnc 2 211 w.heap.size none A1 n1 sl) wz ∧ (SlOld bkEnc 6 92 w.heap.size none A i l) wz ∧ (fun wy => SlT csnEnc 1 269 wy (some ⟨b9, o9, none⟩) i cx) wz ∧ (fun wy => Chs 268 cx wy) wz ∧ wz.ownsRow w.heap.size 3 1 (.slice (some ⟨go, 0, none⟩) i co) i (OD.flatMap nEnc) ∧ wz.ownsRow w.heap.size 9 1 (.slice (some ⟨gc, 0, none⟩) i i) i ((List.replicate (i) (⟨#[]⟩ : ByteArray)).flatMap sgEnc) ∧ True) mixed (fun _ hm => ⟨hm.bl 0, hm.bl 1, hm.fa 0, hm.fa 1, hm.fa 2, hm.fa 3, hm.fa 4, hm.ownI 1 rfl, hm.ownI 2 rfl, trivial⟩) fun z => ?_
  refine wt 0 32 1 rfl z (ov_load sc262 rfl (fun _ hm => hm.1) rfl) ?_
  refine wt 1 32 3 rfl z (ov_nilcheck rfl) ?_
  refine wt 2 32 7 rfl z (ov_field fo266_5 rfl rfl) ?_
  refine wt 3 32 15 rfl z (ov_load sc22 rfl (fun _ hm => hm.2.1) rfl) ?_
  refine wt 4 32 31 rfl z (ov_move rfl) ?_
  refine wt 5 32 63 rfl z (ov_load sc262 rfl (fun _ hm => hm.1) rfl) ?_
  refine wt 6 32 127 rfl z (ov_nilcheck rfl) ?_
  refine wt 7 32 255 rfl z (ov_field fo266_5 rfl rfl) ?_
  refine wt 8 32 511 rfl z (ov_load sc22 rfl (fun _ hm => hm.2.1) rfl) ?_
  refine wt 9 32 1023 rfl z (ov_move rfl) ?_
  refine wt 10 32 2047 rfl z (ov_add rfl rfl (by omega) (by omega)) ?_
  refine wa_set 75 (v' := .int .i64 ((k + 1 : Nat) : Int)) rfl (congrArg (Value.int .i64) (by omega)) ?_
  refine wt 11 32 4095 rfl z (ov_index (j := k + 1) es22 rfl rfl (by omega)) ?_
  refine wt 13 32 12287 rfl z (ov_load sc262 rfl (fun _ hm => hm.1) rfl) ?_
  refine wt 14 32 28671 rfl z (ov_nilcheck rfl) ?_
  refine wt 15 32 61439 rfl z (ov_field fo266_1 rfl rfl) ?_
  refine wt 16 32 126975 rfl z (ov_load sc263 rfl (fun _ hm => hm.2.1) rfl) ?_
  refine wt 17 32 258047 rfl z (ov_load sc262 rfl (fun _ hm => hm.1) rfl) ?_
  refine wt 18 32 520191 rfl z (ov_nilcheck rfl) ?_
  refine wt 19 32 1044479 rfl z (ov_field fo266_2 rfl rfl) ?_
  refine wt 20 32 2093055 rfl z (ov_load sc22 rfl (fun _ hm => hm.2.1) rfl) ?_
  refine wt 21 32 4190207 rfl z (ov_move rfl) ?_
  refine wt 22 32 8384511 rfl z (ov_index (j := k) es22 rfl rfl (by omega)) ?_
  refine wt 23 32 16773119 rfl z (ov_elem1 (k := 0) (v := .int .i64 ((q : Nat) : Int)) sc3 rfl (fun _ hm => (SlT.ofOwn n_len (hm.2.2.2.2.2.2.2.1) hOl)) hq rfl rfl) ?_
  refine wt 24 32 33550335 rfl z (ov_index (j := q) es263 rfl rfl (by omega)) ?_
  refine wt 25 32 67104767 rfl z (ov_elem1 (k := 0) (v := .slice (some ⟨bi, oi, none⟩) ni ci) sc269 rfl (fun _ hm => (hm.2.2.2.2.2.1)) hx9 rfl rfl) ?_
  refine wt 26 32 134213631 rfl z (ov_index (j := 0) es269 rfl rfl (by omega)) ?_
  refine wt 27 32 268431359 rfl z (ov_field fo268_1 rfl rfl) ?_
  refine wt 28 32 536866815 rfl z (ov_elem1 (k := 1) (v := .int .i64 ((e2 : Nat) : Int)) sc3 rfl (fun _ hm => ((hm.2.2.2.2.2.2.1) _ hx9m)) he0 rfl rfl) ?_
  refine wa1 12 rfl ?_
  refine wl_ov (ov_elem1 (k := 0) (v := .int .i64 ((r1 : Nat) : Int)) sc3 rfl (fun _ hm => (SlT.ofOwn i_len (hm.ownI 0 rfl) (by rw [restL_len]; omega))) hg1 rfl rfl) rfl ?_
  refine wl_nil ?_
  refine nw 32 536870911 (fun _ hm => ⟨hm.bl 0, hm.bl 1, hm.fa 0, hm.fa 1, hm.fa 2, hm.fa 3, hm.fa 4, hm.ownI 1 rfl, hm.ownI 2 rfl, trivial⟩) fun z => ?_
  refine wt 29 32 1073741823 rfl z (ov_add rfl rfl (by omega) (by omega)) ?_
  refine wa_set 94 (v' := .int .i64 ((r0 : Nat) : Int)) rfl (congrArg (Value.int .i64) (by omega)) ?_
  refine wt 30 32 2147483647 rfl z (ov_index (j := k) es22 rfl rfl (by omega)) ?_
  refine wa1 31 rfl ?_
  refine wl_storeE (l := (restL CO (k + 1))) (j := k) (r := 0) (el := (restR CO (k + 1) k)) (el' := ((r0 : Nat) : Int)) 0 sc3 rfl rfl rfl rfl i_len rfl hg0 (by rw [restL_len]; omega) (show 0 < 1 by decide) rfl rfl ?_
  rw [show ((restL CO (k + 1)).set k ((r0 : Nat) : Int)).flatMap iEnc = (restL CO k).flatMap iEnc from by rw [hr0, restL_set (by omega)]]
  refine wl_nil ?_
  refine nw 32 4294967295 (fun _ hm => ⟨hm.bl 0, hm.bl 1, hm.fa 0, hm.fa 1, hm.fa 2, hm.fa 3, hm.fa 4, hm.ownI 1 rfl, hm.ownI 2 rfl, trivial⟩) fun z => ?_
  refine wa_done (by kernel_rfl) ?_
  refine nx_blk_nrm (nx_then (gw_region (mv_ rfl ?_)))
  refine wl_ov (ov_sub rfl rfl (by omega) (by omega)) rfl ?_
  refine sg_ rfl (wl_nil ?_)
  exact nx_round k (by omega) (by omega) ⟨rfl, rfl, trivial⟩ (fun _ hm => hm.pick [0, 1] [0, 1, 2] [0, 1, 2, 3, 4] rfl rfl)
 have hj : ¬ (0 ≤ ((j : Nat) : Int) - 1) := by simpa using hh
 clear hh
 refine gw_exit ?_
 refine nx_then_exit (nx_then_exit ?_)
 refine nx_blk_here ?_
 refine nx_then (sr_ ?_)
 have hj0 : j = 0 := by omega
 subst hj0
 refine lk_ sc262 0 rfl rfl rfl ?_
 refine wl_callG (γ := List ByteArray) (val := fun _ => .tuple #[]) (φ := fun _ => True) (K' := fun _ => fun _ => True) (L' := fun _ => [(gx, 266, [.slice A i c, .slice A9 i c9, .slice (some ⟨go, 0, none⟩) i co, .slice (some ⟨gc, 0, none⟩) i i, .slice none 0 0, .slice (some ⟨g24, 0, none⟩) (i + 1) (i + 1), .int .i64 (bestI (bbW roomF (OD.map (itB cs sl l)) [] 0 none))]), (g7, 262, [.pointer (some ⟨gx, 0, none⟩)])]) (O' := fun cl2 => [⟨.slice (some ⟨gc, 0, none⟩) i i, 9, 1, i, cl2.flatMap sgEnc⟩, ⟨.slice (some ⟨go, 0, none⟩) i co, 3, 1, i, OD.flatMap nEnc⟩, ⟨.slice (some ⟨g24, 0, none⟩) (i + 1) (i + 1), 3, 1, (i + 1), (restL CO 0).flatMap iEnc⟩]) (X' := fun _ => [SlOld bkEnc 6 92 w.heap.size none A i l]) rfl cb228 rfl rfl (fun wx hm => by
  have h := cf_all w l A i c cs sl A9 c9 cx OD (some ⟨go, 0, none⟩) co (restL CO 0) gx g7 gc g24 (by omega) (own_cap (hm.ownI 1 rfl)) hOl (by rw [restL_len, hCl]) hOm hOn htm hcx hstp hchl (fun k => by rw [co_it]; exact Nat.le_trans (co_le hstp (fun j hj => by rw [hlen]; exact hOm j hj) k) (by omega)) (fun k hk => by rw [co_it, ← hCO, restL_at (by omega)]; rfl) i 0 (by omega) 0 none (List.replicate (i) (⟨#[]⟩ : ByteArray)) wx (by rw [List.length_replicate]) (by omega) (hm.pick [1, 0] [2, 1, 0] [2, 3, 4] rfl rfl).cx
  exact h.mono fun _ _ ⟨cl2, he, _, _, hm2⟩ => ⟨cl2, he, trivial, (hm2.cx.pick [0, 1] [0, 1, 2] [0] rfl rfl)⟩) ?_
 rintro cl2 -
 refine nn_ (sr_ (lk_ sc262 1 rfl rfl rfl (wl_ov (ov_nilcheck rfl) rfl (fd_ fo266_6 rfl rfl (lk_ sc3 0 rfl rfl rfl (sg_ rfl (nn_ ?_)))))))
 refine gw_ret ?_
 refine nx_ret1 rfl rfl fun wx hm => ?_
 exact ⟨_, rfl, fw_bb hcl hlo hix htm hOp, hm.g⟩
end Go.Proofs.YtempjmpfdniecaaGreatDoor
namespace Go.Proofs.YtempjmpfdniecaaGreatDoor
open Go.RowKit
/-- What right bookings have. -/
theorem right_has {cs : List Cs} {sl : List Sk} {l : List Bk} (h : firstE [stockE cs sl, checkE cs l] = 0) : (cs.length ≤ 30 ∧ Closed cs ∧ loopB cs cs.length = false) ∧ (∀ k, manyV sl k ≤ 100) ∧ (∀ b ∈ l, keysE cs [b.cls] = 0) ∧ BkTim l ∧ formE l = 0 := by
  obtain ⟨h1, h2⟩ := firstE_two h
  obtain ⟨hc0, hf0, hk⟩ := gcheckE_ok h2
  exact ⟨classesE_ok hc0, many_le h1, hk, form_tim hf0, hf0⟩
end Go.Proofs.YtempjmpfdniecaaGreatDoor
namespace Go.Proofs.YtempjmpfdniecaaGreatDoor
open Go.RowKit
theorem choicesW_any (cs : List Cs) (A0 : Option Addr) (n0 c0 : Nat) (sl : List Sk) (A1 : Option Addr) (n1 c1 : Nat) (had : List Bk) (giv : List Gv) (H G : Option Addr) (hN gn hc gc : Nat) (x0 x1 : ByteArray) (x2 x3 x4 x5 : Int) (w : World) (hcs : SlT csEnc 2 158 w A0 n0 cs) (hco : ∀ x ∈ cs, CsOk x) (hn0 : n0 ≤ 30) (hcl : Closed cs) (hlo : loopB cs cs.length = false) (hs : SlT skEnc 2 211 w A1 n1 sl) (hso : ∀ x ∈ sl, SkOk x) (hn1 : n1 ≤ 1000) (hmany : ∀ k, manyV sl k ≤ 100) (hh : SlT bkEnc 6 92 w H hN had) (hg : SlT gvEnc 3 90 w G gn giv) (hgh : gn ≤ hN) (hgn : gn ≤ 1000) (hhad : ∀ b ∈ had, b.fr < b.to_) (hb : x2 < x3) :
  Calls Tryz.prog 127 #[.slice A0 n0 c0, .slice A1 n1 c1, .slice H hN hc, .slice G gn gc, .agg #[.string x0, .string x1, .int .i64 x2, .int .i64 x3, .int .i64 x4, .int .i64 x5]] w (fun e w' => ∃ (A8 : Option Addr) (k c8 : Nat), e = .returned (.slice A8 k c8) ∧ w'.ownsRow w.heap.size 90 3 (.slice A8 k c8) k ((chF had giv (⟨x0, x1, x2, x3, x4, x5⟩ : Bk) (cdB cs sl (⟨x0, x1, x2, x3, x4, x5⟩ : Bk))).flatMap gvEnc) ∧ (chF had giv (⟨x0, x1, x2, x3, x4, x5⟩ : Bk) (cdB cs sl (⟨x0, x1, x2, x3, x4, x5⟩ : Bk))).length = k ∧ k ≤ 3100 ∧ w.grownBy w' none) := by
 refine gw_enter ⟨81, w, none, []⟩ Tryz.func127 rfl Tryz.ntmps127 rfl (mem0 (X := [SlOld csEnc 2 158 w.heap.size none A0 n0 cs, SlOld skEnc 2 211 w.heap.size none A1 n1 sl, SlOld bkEnc 6 92 w.heap.size none H hN had, SlOld gvEnc 3 90 w.heap.size none G gn giv]) (allF_cons hcs.old (allF_cons hs.old (allF_cons hh.old (allF_cons hg.old allF_nil)))) (allL_cons SlOld.lasts (allL_cons SlOld.lasts (allL_cons SlOld.lasts (allL_cons SlOld.lasts allL_nil))))) ?_
 refine sr_ ?_
 have hlen0 := hcs.len
 have hlenh := hh.len
 have hleng := hg.len
 obtain ⟨KS, hKS⟩ : ∃ z, z = clsF cs (⟨x0, x1, x2, x3, x4, x5⟩ : Bk) := ⟨_, rfl⟩
 have hks : ([.string x1] : List Value) ++ (pathN cs (n0 + 1) x1).flatMap sgEnc = KS.flatMap sgEnc := by
  rw [hKS]
  show _ = (x1 :: pathN cs cs.length x1).flatMap sgEnc
  rw [← path_same hcl hlo, hlen0]; rfl
 have hkl : KS.length = 1 + (pathN cs (n0 + 1) x1).length := by
  rw [hKS]
  show (x1 :: pathN cs cs.length x1).length = _
  rw [← path_same hcl hlo, hlen0, List.length_cons]; omega
 have hkl2 : KS.length ≤ 31 := by
  rw [hKS]
  show (x1 :: pathN cs cs.length x1).length ≤ 31
  have := pathN_len cs cs.length x1
  rw [List.length_cons]; omega
 obtain ⟨T, hT⟩ : ∃ z, z = chF had giv (⟨x0, x1, x2, x3, x4, x5⟩ : Bk) (candsF sl KS) := ⟨_, rfl⟩
 have hTT : chF had giv (⟨x0, x1, x2, x3, x4, x5⟩ : Bk) (cdB cs sl (⟨x0, x1, x2, x3, x4, x5⟩ : Bk)) = T := by rw [hT, hKS]; rfl
 rw [hTT]
 refine wl_box rfl rfl rfl fun g1 => ?_
 refine sg_ rfl (nn_ (sr_ (sg_ rfl (nn_ (gw_seq ?_)))))
 refine gw_cut (γ := Option Addr × Nat × Nat) (I := (fun g => KS.length = g.2.1)) (S' := (fun g => [(1, .slice A1 n1 c1), (2, .slice H hN hc), (3, .slice G gn gc), (9, .pointer (some ⟨g1, 0, none⟩)), (10, .slice none 0 0), (11, .slice none 0 0), (25, .slice g.1 g.2.1 g.2.2), (26, .int .i64 ((g.2.1 : Nat) : Int)), (27, .int .i64 0)])) (K' := (fun g => fun _ => True)) (L' := (fun g => [(g1, 92, [.string x0, .string x1, .int .i64 x2, .int .i64 x3, .int .i64 x4, .int .i64 x5])])) (O' := (fun g => [⟨.slice g.1 g.2.1 g.2.2, 9, 1, g.2.1, KS.flatMap sgEnc⟩])) (X' := (fun g => [SlOld csEnc 2 158 w.heap.size none A0 n0 cs, SlOld skEnc 2 211 w.heap.size none A1 n1 sl, SlOld bkEnc 6 92 w.heap.size none H hN had, SlOld gvEnc 3 90 w.heap.size none G gn giv])) ?_ ?_
 ·refine gd (fun wz => Blk wz g1 92 [.string x0, .string x1, .int .i64 x2, .int .i64 x3, .int .i64 x4, .int .i64 x5] ∧ (SlOld csEnc 2 158 w.heap.size none A0 n0 cs) wz ∧ (SlOld skEnc 2 211 w.heap.size none A1 n1 sl) wz ∧ (SlOld bkEnc 6 92 w.heap.size none H hN had) wz ∧ (SlOld gvEnc 3 90 w.heap.size none G gn giv) wz ∧ True) mixed (fun _ hm => ⟨hm.bl 0, hm.fa 0, hm.fa 1, hm.fa 2, hm.fa 3, trivial⟩) fun z => ?_
  refine wt 0 10 1 rfl z (ov_field fo92_1 rfl rfl) ?_
  refine wt 1 10 3 rfl z (ov_load sc9 rfl (fun _ hm => hm.1) rfl) ?_
  refine wt 3 10 11 rfl z (ov_move rfl) ?_
  refine wt 4 10 27 rfl z (ov_field fo92_1 rfl rfl) ?_
  refine wt 5 10 59 rfl z (ov_load sc9 rfl (fun _ hm => hm.1) rfl) ?_
  refine wt 9 10 571 rfl z (ov_move rfl) ?_
  refine wa_all [2, 6] (by kernel_rfl) rfl ⟨⟨_, rfl, ?_⟩, ⟨_, rfl, ?_⟩, trivial⟩
  ·refine wl_buildSlice (e := 9) (cs := [.string x1]) rfl (by kernel_rfl) rfl fun g2 => ?_
   refine wl_nil ?_
   refine nw 10 575 (fun _ hm => ⟨hm.bl 1, hm.fa 0, hm.fa 1, hm.fa 2, hm.fa 3, trivial⟩) fun z => ?_
   refine wa1 6 rfl ?_
   refine wl_callgo (γ := Option Addr × Nat × Nat) (val := (fun g => .slice g.1 g.2.1 g.2.2)) (φ := (fun g => (pathN cs (n0 + 1) x1).length = g.2.1)) (fun g => ⟨.slice g.1 g.2.1 g.2.2, 9, 1, g.2.1, (pathN cs (n0 + 1) x1).flatMap sgEnc⟩) rfl cb222 rfl rfl (fun wx hm => (ups_any cs A0 n0 c0 x1 wx (hm.fact 0 rfl).1 hco (by omega)).mono fun _ _ ⟨A2, n2, c2, he, ho, hl2, hg⟩ => ⟨(A2, n2, c2), he, hl2, ho, hg⟩) ?_
   rintro ⟨A2, n2, c2⟩ hpl
   dsimp only at hpl ⊢
   refine wl_nil ?_
   refine nw 10 639 (fun _ hm => ⟨hm.bl 1, hm.fa 0, hm.fa 1, hm.fa 2, hm.fa 3, trivial⟩) fun z => ?_
   refine wa1 7 rfl ?_
   refine wl_toOwn (sz := 1) (n := 1) 0 [1] rfl rfl rfl (by unfold maxLen; omega) ?_
   refine wl_appendO 0 1 ap103 rfl rfl rfl rfl (flat_one sgEnc sg_one _) (by omega) (by unfold maxLen; omega) rfl rfl fun v2 hv => ?_
   rw [hks]
   refine wl_look (R := ∃ A cc, v2 = .slice A (1 + n2) cc) (fun wx hm => own_slice (hm.ownI 0 rfl)) ?_
   rintro ⟨A5, c5, rfl⟩
   refine wl_nil ?_
   refine nw 10 767 (fun _ hm => ⟨hm.bl 0, hm.fa 0, hm.fa 1, hm.fa 2, hm.fa 3, trivial⟩) fun z => ?_
   refine wt 8 10 1023 rfl z (ov_len es103 rfl) ?_
   refine wa_done (by kernel_rfl) ?_
   exact nx_meet (A5, 1 + n2, c5) (by rw [hkl, hpl]) ⟨rfl, rfl, rfl, rfl, rfl, rfl, rfl, rfl, rfl, trivial⟩ (fun _ hm => hm.pick [0] [0] [0, 1, 2, 3] rfl rfl)
  refine wl_callgo (γ := Option Addr × Nat × Nat) (val := (fun g => .slice g.1 g.2.1 g.2.2)) (φ := (fun g => (pathN cs (n0 + 1) x1).length = g.2.1)) (fun g => ⟨.slice g.1 g.2.1 g.2.2, 9, 1, g.2.1, (pathN cs (n0 + 1) x1).flatMap sgEnc⟩) rfl cb222 rfl rfl (fun wx hm => (ups_any cs A0 n0 c0 x1 wx (hm.fact 0 rfl).1 hco (by omega)).mono fun _ _ ⟨A2, n2, c2, he, ho, hl2, hg⟩ => ⟨(A2, n2, c2), he, hl2, ho, hg⟩) ?_
  rintro ⟨A2, n2, c2⟩ hpl
  dsimp only at hpl ⊢
  refine wl_nil ?_
  refine nw 10 635 (fun _ hm => ⟨hm.bl 0, hm.fa 0, hm.fa 1, hm.fa 2, hm.fa 3, trivial⟩) fun z => ?_
  refine wa1 2 rfl ?_
  refine wl_buildSlice (e := 9) (cs := [.string x1]) rfl (by kernel_rfl) rfl fun g3 => ?_
  refine wl_nil ?_
  refine nw 10 639 (fun _ hm => ⟨hm.bl 1, hm.fa 0, hm.fa 1, hm.fa 2, hm.fa 3, trivial⟩) fun z => ?_
  refine wa1 7 rfl ?_
  refine wl_toOwn (sz := 1) (n := 1) 0 [1] rfl rfl rfl (by unfold maxLen; omega) ?_
  refine wl_appendO 0 1 ap103 rfl rfl rfl rfl (flat_one sgEnc sg_one _) (by omega) (by unfold maxLen; omega) rfl rfl fun v2 hv => ?_
  rw [hks]
  refine wl_look (R := ∃ A cc, v2 = .slice A (1 + n2) cc) (fun wx hm => own_slice (hm.ownI 0 rfl)) ?_
  rintro ⟨A5, c5, rfl⟩
  refine wl_nil ?_
  refine nw 10 767 (fun _ hm => ⟨hm.bl 0, hm.fa 0, hm.fa 1, hm.fa 2, hm.fa 3, trivial⟩) fun z => ?_
  refine wt 8 10 1023 rfl z (ov_len es103 rfl) ?_
  refine wa_done (by kernel_rfl) ?_
  exact nx_meet (A5, 1 + n2, c5) (by rw [hkl, hpl]) ⟨rfl, rfl, rfl, rfl, rfl, rfl, rfl, rfl, rfl, trivial⟩ (fun _ hm => hm.pick [0] [0] [0, 1, 2, 3] rfl rfl)
 rintro ⟨A7, n7, c7⟩ hinv
 replace hinv : KS.length = n7 := hinv
 dsimp only
 refine gw_block ?_
 have hn7 : KS.length = n7 := hinv
 refine gw_nilOwn 90 3 ?_
 refine gw_loop (γ := Nat × Nat × Value × List Gv) (fun g => g.1 ≤ n7 ∧ g.2.2.2.length = g.2.1 ∧ g.2.1 ≤ 100 * g.1 ∧ g.2.2.2 ++ chF had giv (⟨x0, x1, x2, x3, x4, x5⟩ : Bk) (candsF sl (KS.drop g.1)) = T) (fun g => [(1, .slice A1 n1 c1), (2, .slice H hN hc), (3, .slice G gn gc), (9, .pointer (some ⟨g1, 0, none⟩)), (10, .slice none 0 0), (11, g.2.2.1), (25, .slice A7 n7 c7), (26, .int .i64 ((n7 : Nat) : Int)), (27, .int .i64 ((g.1 : Nat) : Int))]) (fun g => fun _ => True) (fun g => [(g1, 92, [.string x0, .string x1, .int .i64 x2, .int .i64 x3, .int .i64 x4, .int .i64 x5])]) (fun g => [⟨.slice A7 n7 c7, 9, 1, n7, KS.flatMap sgEnc⟩, ⟨g.2.2.1, 90, 3, g.2.1, g.2.2.2.flatMap gvEnc⟩]) (fun g => [SlOld csEnc 2 158 w.heap.size none A0 n0 cs, SlOld skEnc 2 211 w.heap.size none A1 n1 sl, SlOld bkEnc 6 92 w.heap.size none H hN had, SlOld gvEnc 3 90 w.heap.size none G gn giv]) (fun g => n7 - g.1) (0, 0, .slice none 0 0, []) ⟨Nat.zero_le _, rfl, Nat.zero_le _, hT.symm⟩ ⟨rfl, rfl, rfl, rfl, rfl, rfl, rfl, rfl, rfl, trivial⟩ (fun _ hm => hm.pick [0] [1, 0] [0, 1, 2, 3] rfl rfl) ?_
 rintro ⟨i, k, v, acc⟩ hinv
 replace hinv : i ≤ n7 ∧ acc.length = k ∧ k ≤ 100 * i ∧ acc ++ chF had giv (⟨x0, x1, x2, x3, x4, x5⟩ : Bk) (candsF sl (KS.drop i)) = T := hinv
 dsimp only
 refine sr_ ?_
 obtain ⟨hi0, hk, hki, hT1⟩ := hinv
 refine wl_ov (ov_lss rfl rfl) rfl (nn_ (gw_seq ?_))
 refine gw_cond rfl (fun hh => ?_) (fun hh => ?_)
 ·have hi : ((i : Nat) : Int) < ((n7 : Nat) : Int) := by simpa using hh
  clear hh
  refine gw_skip (nx_then (gw_seq (gw_block (sr_ ?_))))
  refine wl_look (R := ∃ g, A7 = some ⟨g, 0, none⟩) (fun wx hm => own_addr (hm.ownI 0 rfl) (by omega)) ?_
  rintro ⟨g7, rfl⟩
  obtain ⟨cl, hx⟩ : ∃ x, KS[i]? = some x := ⟨_, List.getElem?_eq_getElem (by omega)⟩
  refine wl_ov (ov_index (j := i) es103 rfl rfl (by omega)) rfl ?_
  refine wl_ov (ov_elem1 (k := 0) (v := .string cl) sc9 rfl (fun _ hm => (SlT.ofOwn sg_len (hm.ownI 0 rfl) hn7)) hx rfl rfl) rfl ?_
  refine sg_ rfl (nn_ (sr_ (sg_ rfl (nn_ (gw_block ?_)))))
  have hT2 : acc ++ chF had giv (⟨x0, x1, x2, x3, x4, x5⟩ : Bk) (unitsF sl cl 0) ++ chF had giv (⟨x0, x1, x2, x3, x4, x5⟩ : Bk) (candsF sl (KS.drop (i + 1))) = T := by rw [← hT1, candsF_at hx, chF_app, List.append_assoc]
  refine gw_loop (γ := Nat × Nat × Value × List Gv) (fun gg => gg.1 ≤ 100 ∧ gg.2.2.2.length = gg.2.1 ∧ gg.2.1 ≤ 100 * i + gg.1 ∧ gg.2.2.2 ++ chF had giv (⟨x0, x1, x2, x3, x4, x5⟩ : Bk) (unitsF sl cl gg.1) ++ chF had giv (⟨x0, x1, x2, x3, x4, x5⟩ : Bk) (candsF sl (KS.drop (i + 1))) = T) (fun gg => [(1, .slice A1 n1 c1), (2, .slice H hN hc), (3, .slice G gn gc), (9, .pointer (some ⟨g1, 0, none⟩)), (10, .slice none 0 0), (11, gg.2.2.1), (13, .string cl), (14, .int .i64 ((gg.1 + 1 : Nat) : Int)), (25, .slice (some ⟨g7, 0, none⟩) n7 c7), (26, .int .i64 ((n7 : Nat) : Int)), (27, .int .i64 ((i : Nat) : Int))]) (fun gg => fun _ => True) (fun gg => [(g1, 92, [.string x0, .string x1, .int .i64 x2, .int .i64 x3, .int .i64 x4, .int .i64 x5])]) (fun gg => [⟨.slice (some ⟨g7, 0, none⟩) n7 c7, 9, 1, n7, KS.flatMap sgEnc⟩, ⟨gg.2.2.1, 90, 3, gg.2.1, gg.2.2.2.flatMap gvEnc⟩]) (fun gg => [SlOld csEnc 2 158 w.heap.size none A0 n0 cs, SlOld skEnc 2 211 w.heap.size none A1 n1 sl, SlOld bkEnc 6 92 w.heap.size none H hN had, SlOld gvEnc 3 90 w.heap.size none G gn giv]) (fun gg => 100 - gg.1) (0, k, v, acc) ⟨Nat.zero_le _, hk, by dsimp only; omega, hT2⟩ ⟨rfl, rfl, rfl, rfl, rfl, rfl, rfl, (some_int (by omega)), rfl, rfl, rfl, trivial⟩ (fun _ hm => hm.pick [0] [0, 1] [0, 1, 2, 3] rfl rfl) ?_
  rintro ⟨u, k1, v1, ac1⟩ hinv
  replace hinv : u ≤ 100 ∧ ac1.length = k1 ∧ k1 ≤ 100 * i + u ∧ ac1 ++ chF had giv (⟨x0, x1, x2, x3, x4, x5⟩ : Bk) (unitsF sl cl u) ++ chF had giv (⟨x0, x1, x2, x3, x4, x5⟩ : Bk) (candsF sl (KS.drop (i + 1))) = T := hinv
  dsimp only
  refine gw_seq (sr_ ?_)
  obtain ⟨hu0, hk1, hku, hT3⟩ := hinv
  have hmb := hmany cl
  refine mv_ rfl (mv_ rfl (mv_ rfl ?_))
  refine wl_callv rfl cb223 rfl rfl (fun wx hm => (manyOf_any sl A1 n1 c1 cl wx (hm.fact 1 rfl).1 hso (by omega))) ?_
  refine wl_ov (ov_leq rfl rfl) rfl (nn_ ?_)
  refine gw_cond rfl (fun hh => ?_) (fun hh => ?_)
  ·have hu : ((u + 1 : Nat) : Int) ≤ manyV sl cl := by simpa using hh
   clear hh
   refine gw_skip (nx_then (gw_seq (gw_block (sr_ (sg_ rfl (nn_ (gw_seq (sr_ (mv_ rfl (wl_ov (ov_len es80 rfl) rfl ?_))))))))))
   refine mv_ rfl (nn_ (gw_block ?_))
   refine gw_loop (γ := Nat) (fun (j : Nat) => j ≤ gn) (fun (j : Nat) => [(1, .slice A1 n1 c1), (2, .slice H hN hc), (3, .slice G gn gc), (9, .pointer (some ⟨g1, 0, none⟩)), (10, .slice none 0 0), (11, v1), (13, .string cl), (14, .int .i64 ((u + 1 : Nat) : Int)), (15, .bool (((had.zip giv).take j).any (takP (⟨x0, x1, x2, x3, x4, x5⟩ : Bk) cl ((u + 1 : Nat) : Int)))), (25, .slice (some ⟨g7, 0, none⟩) n7 c7), (26, .int .i64 ((n7 : Nat) : Int)), (27, .int .i64 ((i : Nat) : Int)), (38, .slice G gn gc), (39, .int .i64 ((gn : Nat) : Int)), (40, .int .i64 ((j : Nat) : Int))]) (fun (j : Nat) => fun _ => True) (fun (j : Nat) => [(g1, 92, [.string x0, .string x1, .int .i64 x2, .int .i64 x3, .int .i64 x4, .int .i64 x5])]) (fun (j : Nat) => [⟨.slice (some ⟨g7, 0, none⟩) n7 c7, 9, 1, n7, KS.flatMap sgEnc⟩, ⟨v1, 90, 3, k1, ac1.flatMap gvEnc⟩]) (fun (j : Nat) => [SlOld csEnc 2 158 w.heap.size none A0 n0 cs, SlOld skEnc 2 211 w.heap.size none A1 n1 sl, SlOld bkEnc 6 92 w.heap.size none H hN had, SlOld gvEnc 3 90 w.heap.size none G gn giv]) (fun (j : Nat) => gn - j) 0 (Nat.zero_le _) ⟨rfl, rfl, rfl, rfl, rfl, rfl, rfl, rfl, (congrArg (fun z => some (Value.bool z)) (by rw [List.take_zero]; rfl)), rfl, rfl, rfl, rfl, rfl, rfl, trivial⟩ (fun _ hm => hm.pick [0] [0, 1] [0, 1, 2, 3] rfl rfl) ?_
   intro j hinv
   replace hinv : j ≤ gn := hinv
   refine sr_ (wl_ov (ov_lss rfl rfl) rfl (nn_ (gw_seq ?_)))
   refine gw_cond rfl (fun hh => ?_) (fun hh => ?_)
   ·have hj : ((j : Nat) : Int) < ((gn : Nat) : Int) := by simpa using hh
    clear hh
    refine gw_skip (nx_then (gw_seq (gw_block (sr_ ?_))))
    obtain ⟨bh, oh, hA, _, _⟩ := hh.get (by omega)
    subst hA
    obtain ⟨y, hy⟩ : ∃ x, had[j]? = some x := ⟨_, List.getElem?_eq_getElem (by omega)⟩
    obtain ⟨y0, y1, y2, y3, y4, y5⟩ := y
    obtain ⟨bg, og, hA, _, _⟩ := hg.get (by omega)
    subst hA
    obtain ⟨z, hz⟩ : ∃ x, giv[j]? = some x := ⟨_, List.getElem?_eq_getElem (by omega)⟩
    obtain ⟨z0, z1, z2⟩ := z
    have htm := hhad _ (List.mem_of_getElem? hy)
    dsimp only at htm
    have hat := takP_at (b := (⟨x0, x1, x2, x3, x4, x5⟩ : Bk)) (k := cl) (u := ((u + 1 : Nat) : Int)) hy hz
    dsimp only at hat
    refine mv_ rfl ?_
    refine wl_ov (ov_index (j := j) es80 rfl rfl (by omega)) rfl ?_
    refine wl_ov (ov_elem (vs := [.string z0, .string z1, .int .i64 z2]) rz90 rfl (fun _ hm => (hm.fact 3 rfl).1) hz rfl rfl) rfl ?_
    refine wl_alloc zc90 rfl fun g4 => ?_
    refine sg_ rfl ?_
    refine wl_stores (cs' := [.string z0, .string z1, .int .i64 z2]) 0 rz90 rfl rfl rfl rfl rfl rfl rfl rfl ?_
    refine nn_ ?_
    refine gd (fun wz => Blk wz g4 90 [.string z0, .string z1, .int .i64 z2] ∧ Blk wz g1 92 [.string x0, .string x1, .int .i64 x2, .int .i64 x3, .int .i64 x4, .int .i64 x5] ∧ (SlOld csEnc 2 158 w.heap.size none A0 n0 cs) wz ∧ (SlOld skEnc 2 211 w.heap.size none A1 n1 sl) wz ∧ (SlOld bkEnc 6 92 w.heap.size none (some ⟨bh, oh, none⟩) hN had) wz ∧ (SlOld gvEnc 3 90 w.heap.size none (some ⟨bg, og, none⟩) gn giv) wz ∧ True) mixed (fun _ hm => ⟨hm.bl 0, hm.bl 1, hm.fa 0, hm.fa 1, hm.fa 2, hm.fa 3, trivial⟩) fun z => ?_
    refine wt 0 24 1 rfl z (ov_move rfl) ?_
    refine wt 1 24 3 rfl z (ov_move rfl) ?_
    rcases Bool.eq_false_or_eq_true (((had.zip giv).take j).any (takP (⟨x0, x1, x2, x3, x4, x5⟩ : Bk) cl ((u + 1 : Nat) : Int))) with hb5 | hb5
    ·refine wa_set 46 rfl (congrArg Value.bool hb5) ?_
     refine wtf 2 24 7 rfl rfl rfl z ?_
     refine wtf 3 24 15 rfl rfl rfl z ?_
     refine wtf 4 24 31 rfl rfl rfl z ?_
     refine wtf 5 24 63 rfl rfl rfl z ?_
     refine wtf 6 24 127 rfl rfl rfl z ?_
     refine wtu 7 24 255 rfl rfl rfl z ?_
     refine wtu 8 24 511 rfl rfl rfl z ?_
     refine wtu 9 24 1023 rfl rfl rfl z ?_
     refine wtu 10 24 2047 rfl rfl rfl z ?_
     refine wtf 11 24 4095 rfl rfl rfl z ?_
     refine wtf 12 24 8191 rfl rfl rfl z ?_
     refine wtu 13 24 16383 rfl rfl rfl z ?_
     refine wtu 14 24 32767 rfl rfl rfl z ?_
     refine wtu 15 24 65535 rfl rfl rfl z ?_
     refine wtu 16 24 131071 rfl rfl rfl z ?_
     refine wtu 17 24 262143 rfl rfl rfl z ?_
     refine wtu 18 24 524287 rfl rfl rfl z ?_
     refine wtu 19 24 1048575 rfl rfl rfl z ?_
     refine wtu 20 24 2097151 rfl rfl rfl z ?_
     refine wtf 21 24 4194303 rfl rfl rfl z ?_
     refine wt 22 24 8388607 rfl z (ov_pick_t rfl rfl) ?_
     refine wt 23 24 16777215 rfl z (ov_assign rfl) ?_
     refine wa_done (by kernel_rfl) ?_
     refine nx_blk_nrm (nx_then (gw_region (ad_ rfl rfl (mv_ rfl (wl_nil ?_)))))
     exact nx_round (j + 1) (by omega) (by omega) ⟨rfl, rfl, rfl, rfl, rfl, rfl, rfl, rfl, (congrArg (fun z => some (Value.bool z)) (by have h9 := hat; rw [hb5] at h9; exact h9.symm)), rfl, rfl, rfl, rfl, rfl, (some_int (by omega)), trivial⟩ (fun _ hm => hm.pick [1] [0, 1] [0, 1, 2, 3] rfl rfl)
    refine wa_set 46 rfl (congrArg Value.bool hb5) ?_
    refine wto 2 24 7 rfl rfl rfl z (ov_field fo90_1 rfl rfl) ?_
    refine wto 3 24 15 rfl rfl rfl z (ov_load sc9 rfl (fun _ hm => hm.1) rfl) ?_
    refine wto 4 24 31 rfl rfl rfl z (ov_move rfl) ?_
    refine wto 5 24 63 rfl rfl rfl z (ov_seql rfl rfl) ?_
    refine wto 6 24 127 rfl rfl rfl z (ov_move rfl) ?_
    rcases Bool.eq_false_or_eq_true (z1.toList == cl.toList) with hb6 | hb6
    ·refine wa_set 51 rfl (congrArg Value.bool hb6) ?_
     refine wto 7 24 255 rfl rfl rfl z (ov_field fo90_2 rfl rfl) ?_
     refine wto 8 24 511 rfl rfl rfl z (ov_load sc3 rfl (fun _ hm => hm.1) rfl) ?_
     refine wto 9 24 1023 rfl rfl rfl z (ov_move rfl) ?_
     refine wto 10 24 2047 rfl rfl rfl z (ov_eql rfl rfl) ?_
     refine wto 11 24 4095 rfl rfl rfl z (ov_pick_t rfl rfl) ?_
     refine wto 12 24 8191 rfl rfl rfl z (ov_move rfl) ?_
     rcases Bool.eq_false_or_eq_true (decide (z2 = ((u + 1 : Nat) : Int))) with hb7 | hb7
     ·refine wa_set 57 rfl (congrArg Value.bool hb7) ?_
      refine wto 13 24 16383 rfl rfl rfl z (ov_move rfl) ?_
      refine wto 14 24 32767 rfl rfl rfl z (ov_move rfl) ?_
      refine wto 15 24 65535 rfl rfl rfl z (ov_index (j := j) es76 rfl rfl (by omega)) ?_
      refine wto 16 24 131071 rfl rfl rfl z (ov_field fo92_2 rfl rfl) ?_
      refine wto 17 24 262143 rfl rfl rfl z (ov_elemN (k := 2) (vs := [.int .i64 y2, .int .i64 y3]) rz27 rfl (fun _ hm => (hm.2.2.2.2.1).1) hy rfl rfl rfl) ?_
      refine wto 18 24 524287 rfl rfl rfl z (ov_field fo92_2 rfl rfl) ?_
      refine wto 19 24 1048575 rfl rfl rfl z (ov_loads rz27 rfl (fun _ hm => hm.2.1) rfl rfl) ?_
      refine wa1 20 rfl ?_
      refine wl_guard_on rfl rfl rfl ?_
      refine wl_callv rfl cb224 rfl rfl (fun wx hm => (rmeet_any y2 y3 x2 x3 wx (by omega) (by omega))) ?_
      refine wl_nil ?_
      refine nw 24 2097151 (fun _ hm => ⟨hm.bl 0, hm.bl 1, hm.fa 0, hm.fa 1, hm.fa 2, hm.fa 3, trivial⟩) fun z => ?_
      refine wto 21 24 4194303 rfl rfl rfl z (ov_pick_t rfl rfl) ?_
      refine wt 22 24 8388607 rfl z (ov_pick_f rfl rfl) ?_
      refine wt 23 24 16777215 rfl z (ov_assign rfl) ?_
      refine wa_done (by kernel_rfl) ?_
      refine nx_blk_nrm (nx_then (gw_region (ad_ rfl rfl (mv_ rfl (wl_nil ?_)))))
      exact nx_round (j + 1) (by omega) (by omega) ⟨rfl, rfl, rfl, rfl, rfl, rfl, rfl, rfl, (congrArg (fun z => some (Value.bool z)) (by have h9 := hat; rw [hb5, hb6, hb7] at h9; exact h9.symm)), rfl, rfl, rfl, rfl, rfl, (some_int (by omega)), trivial⟩ (fun _ hm => hm.pick [1] [0, 1] [0, 1, 2, 3] rfl rfl)
     refine wa_set 57 rfl (congrArg Value.bool hb7) ?_
     refine wtf 13 24 16383 rfl rfl rfl z ?_
     refine wtf 14 24 32767 rfl rfl rfl z ?_
     refine wtf 15 24 65535 rfl rfl rfl z ?_
     refine wtf 16 24 131071 rfl rfl rfl z ?_
     refine wtf 17 24 262143 rfl rfl rfl z ?_
     refine wtf 18 24 524287 rfl rfl rfl z ?_
     refine wtf 19 24 1048575 rfl rfl rfl z ?_
     refine wtf 20 24 2097151 rfl rfl rfl z ?_
     refine wto 21 24 4194303 rfl rfl rfl z (ov_pick_f rfl rfl) ?_
     refine wt 22 24 8388607 rfl z (ov_pick_f rfl rfl) ?_
     refine wt 23 24 16777215 rfl z (ov_assign rfl) ?_
     refine wa_done (by kernel_rfl) ?_
     refine nx_blk_nrm (nx_then (gw_region (ad_ rfl rfl (mv_ rfl (wl_nil ?_)))))
     exact nx_round (j + 1) (by omega) (by omega) ⟨rfl, rfl, rfl, rfl, rfl, rfl, rfl, rfl, (congrArg (fun z => some (Value.bool z)) (by have h9 := hat; rw [hb5, hb6, hb7] at h9; exact h9.symm)), rfl, rfl, rfl, rfl, rfl, (some_int (by omega)), trivial⟩ (fun _ hm => hm.pick [1] [0, 1] [0, 1, 2, 3] rfl rfl)
    refine wa_set 51 rfl (congrArg Value.bool hb6) ?_
    refine wtf 7 24 255 rfl rfl rfl z ?_
    refine wtf 8 24 511 rfl rfl rfl z ?_
    refine wtf 9 24 1023 rfl rfl rfl z ?_
    refine wtf 10 24 2047 rfl rfl rfl z ?_
    refine wto 11 24 4095 rfl rfl rfl z (ov_pick_f rfl rfl) ?_
    refine wto 12 24 8191 rfl rfl rfl z (ov_move rfl) ?_
    refine wtf 13 24 16383 rfl rfl rfl z ?_
    refine wtf 14 24 32767 rfl rfl rfl z ?_
    refine wtf 15 24 65535 rfl rfl rfl z ?_
    refine wtf 16 24 131071 rfl rfl rfl z ?_
    refine wtf 17 24 262143 rfl rfl rfl z ?_
    refine wtf 18 24 524287 rfl rfl rfl z ?_
    refine wtf 19 24 1048575 rfl rfl rfl z ?_
    refine wtf 20 24 2097151 rfl rfl rfl z ?_
    refine wto 21 24 4194303 rfl rfl rfl z (ov_pick_f rfl rfl) ?_
    refine wt 22 24 8388607 rfl z (ov_pick_f rfl rfl) ?_
    refine wt 23 24 16777215 rfl z (ov_assign rfl) ?_
    refine wa_done (by kernel_rfl) ?_
    refine nx_blk_nrm (nx_then (gw_region (ad_ rfl rfl (mv_ rfl (wl_nil ?_)))))
    exact nx_round (j + 1) (by omega) (by omega) ⟨rfl, rfl, rfl, rfl, rfl, rfl, rfl, rfl, (congrArg (fun z => some (Value.bool z)) (by have h9 := hat; rw [hb5, hb6] at h9; exact h9.symm)), rfl, rfl, rfl, rfl, rfl, (some_int (by omega)), trivial⟩ (fun _ hm => hm.pick [1] [0, 1] [0, 1, 2, 3] rfl rfl)
   have hj : ¬ (((j : Nat) : Int) < ((gn : Nat) : Int)) := by simpa using hh
   clear hh
   refine gw_exit ?_
   refine nx_then_exit (nx_then_exit ?_)
   refine nx_blk_here ?_
   refine nx_then (sr_ ?_)
   have hall : (had.zip giv).take j = (had.zip giv) := List.take_of_length_le (by rw [List.length_zip]; omega)
   rw [hall]
   refine mv_ rfl (wl_ov (ov_un_not rfl) rfl (nn_ ?_))
   refine gw_cond rfl (fun hh => ?_) (fun hh => ?_)
   ·have htk : ((had.zip giv).any (takP (⟨x0, x1, x2, x3, x4, x5⟩ : Bk) cl ((u + 1 : Nat) : Int))) = false := by simpa using hh
    clear hh
    refine gw_region (mv_ rfl (fd_ fo92_0 rfl rfl (lk_ sc9 0 rfl rfl rfl (mv_ rfl (mv_ rfl ?_)))))
    refine wl_ov (ov_build (cs := [.string x0, .string cl, .int .i64 ((u + 1 : Nat) : Int)]) rfl (by kernel_rfl)) rfl ?_
    refine wl_buildSlice (e := 90) (cs := [.string x0, .string cl, .int .i64 ((u + 1 : Nat) : Int)]) rfl (by kernel_rfl) rfl fun g8 => ?_
    refine wl_append (news := [.string x0, .string cl, .int .i64 ((u + 1 : Nat) : Int)]) 1 0 ap80 rfl rfl rfl rfl rfl rfl rfl (by omega) (by unfold maxLen; omega) rfl rfl fun v2 hv2 => ?_
    rw [show ac1.flatMap gvEnc ++ ([.string x0, .string cl, .int .i64 ((u + 1 : Nat) : Int)] : List Value) = (ac1 ++ [(⟨x0, cl, ((u + 1 : Nat) : Int)⟩ : Gv)]).flatMap gvEnc from by simp [gvEnc]]
    refine sg_ rfl (wl_nil (nx_blk_nrm (nx_then (gw_region (mv_ rfl (ad_ rfl rfl (sg_ rfl (wl_nil ?_))))))))
    have htk2 : takenR had giv (⟨x0, x1, x2, x3, x4, x5⟩ : Bk) (cl, ((u + 1 : Nat) : Int)) = false := htk
    exact nx_round (u + 1, k1 + 1, v2, ac1 ++ [(⟨x0, cl, ((u + 1 : Nat) : Int)⟩ : Gv)]) ⟨by dsimp only; omega, by simp [hk1], by dsimp only; omega, by rw [← hT3, unitsF_more hu, chF_no htk2]; simp⟩ (by dsimp only; omega) ⟨rfl, rfl, rfl, rfl, rfl, rfl, rfl, (some_int (by omega)), rfl, rfl, rfl, trivial⟩ (fun _ hm => hm.pick [1] [0, 1] [0, 1, 2, 3] rfl rfl)
   have htk : ((had.zip giv).any (takP (⟨x0, x1, x2, x3, x4, x5⟩ : Bk) cl ((u + 1 : Nat) : Int))) = true := by simpa using hh
   clear hh
   refine gw_skip (nx_blk_nrm (nx_then (gw_region (mv_ rfl (ad_ rfl rfl (sg_ rfl (wl_nil ?_)))))))
   have htk2 : takenR had giv (⟨x0, x1, x2, x3, x4, x5⟩ : Bk) (cl, ((u + 1 : Nat) : Int)) = true := htk
   exact nx_round (u + 1, k1, v1, ac1) ⟨by dsimp only; omega, hk1, by dsimp only; omega, by rw [← hT3, unitsF_more hu, chF_yes htk2]⟩ (by dsimp only; omega) ⟨rfl, rfl, rfl, rfl, rfl, rfl, rfl, (some_int (by omega)), rfl, rfl, rfl, trivial⟩ (fun _ hm => hm.pick [0] [0, 1] [0, 1, 2, 3] rfl rfl)
  have hu : ¬ (((u + 1 : Nat) : Int) ≤ manyV sl cl) := by simpa using hh
  clear hh
  refine gw_exit ?_
  refine nx_then_exit (nx_then_exit ?_)
  refine nx_blk_here ?_
  refine nx_blk_nrm (nx_then (gw_region (ad_ rfl rfl (mv_ rfl (wl_nil ?_)))))
  exact nx_round (i + 1, k1, v1, ac1) ⟨by dsimp only; omega, hk1, by dsimp only; omega, by rw [← hT3, unitsF_end hu]; simp [chF]⟩ (by dsimp only; omega) ⟨rfl, rfl, rfl, rfl, rfl, rfl, rfl, rfl, (some_int (by omega)), trivial⟩ (fun _ hm => hm.pick [0] [0, 1] [0, 1, 2, 3] rfl rfl)
 have hi : ¬ (((i : Nat) : Int) < ((n7 : Nat) : Int)) := by simpa using hh
 clear hh
 refine gw_exit ?_
 refine nx_then_exit (nx_then_exit ?_)
 refine nx_blk_here ?_
 refine nx_then (sr_ ?_)
 refine wl_look (R := ∃ A cc, v = .slice A k cc) (fun wx hm => own_slice (hm.ownI 1 rfl)) ?_
 rintro ⟨A8, c8, rfl⟩
 refine mv_ rfl (sg_ rfl (nn_ ?_))
 refine gw_ret ?_
 have hfin : acc = T := by rw [← hT1, candsF_end (by omega)]; simp [chF]
 rw [← hfin]
 refine nx_ret1 rfl rfl fun wx hm => ?_
 exact ⟨A8, k, c8, rfl, (hm.ownI 1 rfl), hk, by omega, hm.g⟩
end Go.Proofs.YtempjmpfdniecaaGreatDoor
namespace Go.Proofs.YtempjmpfdniecaaGreatDoor
open Go.RowKit
theorem given_info : ∃ i z, Tryz.prog.info? 90 = some i ∧ i.zero = some z ∧ i.size = 3 ∧ i.bytes = 40 ∧ z.cells.size = 3 := info_parts (by kernel_rfl)
set_option maxRecDepth 100000 in
set_option maxHeartbeats 1000000 in
theorem cloneGvs_pos (l : List Gv) (A : Option Addr) (n c : Nat) (w : World) (hl : SlT gvEnc 3 90 w A n l) (hn0 : 0 < n) (hn : n ≤ 1000000) :
    Calls Tryz.prog 131 #[.slice A n c] w (fun e w' => ∃ A' c', e = .returned (.slice A' n c') ∧ w'.ownsRow w.heap.size 90 3 (.slice A' n c') n (l.flatMap gvEnc) ∧ w.grownBy w' none) := by
  obtain ⟨b, off, rfl, hbl, hfl⟩ := hl.flat gv_len hn0
  have hlen := hl.len
  obtain ⟨i0, z0, hi, hz, hsz, hby, hzs⟩ := given_info
  have hnews : ∀ (o : Obj) j u, (l.flatMap gvEnc)[j]? = some u → (w.alloc o).cell? ((⟨b, off, none⟩ : Addr).add j) = some u := fun o j u hj =>
    (World.cell?_of_block (Below.heap_alloc w o _ (by unfold Addr.add; split <;> exact hbl))).trans (hfl j u hj)
  have hone := flat_one gvEnc gv_one l
  have hll := flat_len gvEnc 3 gv_len l
  rw [hlen] at hll
  clear hfl hl
  have Hnews := Lib.hid hnews
  clear hnews
  have he : ∀ w : World, (binOp .eql 80 (.slice (some ⟨b, off, none⟩) n c) (.slice none 0 0)).run Tryz.prog w = .ok (.bool false) w := fun _ => rfl
  go_enter Tryz.func131, Tryz.ntmps131
  go_wp2_with (at_builtin; refine wpList_append_own_at _ rfl _ _ 80 rfl w.heap.size 90 i0 z0 3 40 Tryz.underlying80 hi hz hsz hby hzs (by decide) (.slice (some ⟨w.heap.size, 0, none⟩) 0 0) 0 [] rfl ⟨rfl, .inr ⟨w.heap.size, 0, #[], rfl, Nat.le_refl _, heap_alloc_new w _, Nat.le_refl _, by decide, rfl, rfl⟩⟩ ⟨b, off, none⟩ n c (l.flatMap gvEnc) rfl hll (Hnews.out _) hone (by unfold maxLen; omega) (by omega) (by simp) ?_; intro v' w' hown hgrow hnil hat)
  rw [Nat.zero_add, List.nil_append] at hown
  have hown2 := hown
  obtain ⟨_, ho⟩ := hown2
  rcases ho with ⟨_, h0⟩ | ⟨g, cap, cur, rfl, hg, _⟩
  · omega
  · go_ret
    exact ⟨some ⟨g, 0, none⟩, cap, rfl, hown, grow_own (grow_alloc (World.grownBy.refl _ _) _) hgrow (fun k h => by cases h; exact Nat.le_refl _)⟩
set_option maxRecDepth 100000 in
set_option maxHeartbeats 1000000 in
theorem cloneGvs_empty (a : Addr) (c : Nat) (w : World) :
    Calls Tryz.prog 131 #[.slice (some a) 0 c] w (fun e w' => ∃ A' c', e = .returned (.slice A' 0 c') ∧ w'.ownsRow w.heap.size 90 3 (.slice A' 0 c') 0 [] ∧ w.grownBy w' none) := by
  obtain ⟨i0, z0, hi, hz, hsz, hby, hzs⟩ := given_info
  have he : ∀ w : World, (binOp .eql 80 (.slice (some a) 0 c) (.slice none 0 0)).run Tryz.prog w = .ok (.bool false) w := fun _ => rfl
  go_enter Tryz.func131, Tryz.ntmps131
  go_wp2_with (at_builtin; refine wpList_append_own_at _ rfl _ _ 80 rfl w.heap.size 90 i0 z0 3 40 Tryz.underlying80 hi hz hsz hby hzs (by decide) (.slice (some ⟨w.heap.size, 0, none⟩) 0 0) 0 [] rfl ⟨rfl, .inr ⟨w.heap.size, 0, #[], rfl, Nat.le_refl _, heap_alloc_new w _, Nat.le_refl _, by decide, rfl, rfl⟩⟩ a 0 c [] rfl rfl (fun j u hj => by simp at hj) (fun v hv => by cases hv) (by unfold maxLen; omega) (by omega) (by simp) ?_; intro v' w' hown hgrow hnil hat)
  rw [Nat.zero_add, List.nil_append] at hown
  have hown2 := hown
  obtain ⟨_, ho⟩ := hown2
  rcases ho with ⟨rfl, _⟩ | ⟨g, cap, cur, rfl, hg, _⟩
  · go_ret
    exact ⟨none, 0, rfl, hown, grow_own (grow_alloc (World.grownBy.refl _ _) _) hgrow (fun k h => by cases h; exact Nat.le_refl _)⟩
  · go_ret
    exact ⟨some ⟨g, 0, none⟩, cap, rfl, hown, grow_own (grow_alloc (World.grownBy.refl _ _) _) hgrow (fun k h => by cases h; exact Nat.le_refl _)⟩
set_option maxRecDepth 100000 in
set_option maxHeartbeats 400000 in
theorem cloneGvs_nil (c : Nat) (w : World) : Calls Tryz.prog 131 #[.slice none 0 c] w (fun e w' => e = .returned (.slice none 0 0) ∧ w = w') := by
  have he : ∀ w : World, (binOp .eql 80 (.slice none 0 c) (.slice none 0 0)).run Tryz.prog w = .ok (.bool true) w := fun _ => rfl
  go_enter Tryz.func131, Tryz.ntmps131
  go_wp2_with fail
  go_ret
  exact ⟨rfl, rfl⟩
theorem cloneGvs_any (l : List Gv) (A : Option Addr) (n c : Nat) (w : World) (hl : SlT gvEnc 3 90 w A n l) (hn : n ≤ 1000000) :
    Calls Tryz.prog 131 #[.slice A n c] w (fun e w' => ∃ A' c', e = .returned (.slice A' n c') ∧ w'.ownsRow w.heap.size 90 3 (.slice A' n c') n (l.flatMap gvEnc) ∧ w.grownBy w' none) := by
  by_cases h0 : n = 0
  · subst h0
    have hl0 : l = [] := List.length_eq_zero_iff.1 hl.len
    subst hl0
    cases A with
    | none => exact (cloneGvs_nil c w).mono fun e w' ⟨he, hw⟩ => ⟨none, 0, he, ⟨rfl, .inl ⟨rfl, rfl⟩⟩, hw ▸ World.grownBy.refl _ _⟩
    | some a => exact cloneGvs_empty a c w
  · exact cloneGvs_pos l A n c w hl (by omega) hn
end Go.Proofs.YtempjmpfdniecaaGreatDoor
