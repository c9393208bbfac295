/- The plain law of busy times: the greatest number of bookings at one moment. -/
import Derived.Test.YtcggbojhalbkjaaGreatDoorSpec
namespace Go.Proofs.YtcggbojhalbkjaaGreatDoor

/-- How many times are on at a moment. -/
def onT (T : List (Int × Int)) (x : Int) : Nat := T.countP (fun t => inB x t.1 (t.2 - 1))
theorem on_iff {t : Int × Int} {x : Int} : inB x t.1 (t.2 - 1) = true ↔ (t.1 ≤ x ∧ x < t.2) := by
  rw [inB_iff]; omega
theorem onT_pos {T : List (Int × Int)} {x : Int} (h : 0 < onT T x) : ∃ t ∈ T, t.1 ≤ x ∧ x < t.2 := by
  unfold onT at h
  obtain ⟨t, ht, h2⟩ := List.countP_pos_iff.1 h
  exact ⟨t, ht, on_iff.1 h2⟩
/-- Of those that are on, one began last. -/
theorem latest : ∀ (T : List (Int × Int)) (x : Int), (∃ t ∈ T, t.1 ≤ x ∧ x < t.2) → ∃ t ∈ T, (t.1 ≤ x ∧ x < t.2) ∧ ∀ u ∈ T, (u.1 ≤ x ∧ x < u.2) → u.1 ≤ t.1
  | [], _, ⟨_, h, _⟩ => by cases h
  | t :: r, x, h => by
    by_cases hr : ∃ u ∈ r, u.1 ≤ x ∧ x < u.2
    · obtain ⟨u, hu, h1, h2⟩ := latest r x hr
      by_cases ht : (t.1 ≤ x ∧ x < t.2) ∧ u.1 < t.1
      · refine ⟨t, List.mem_cons_self .., ht.1, fun v hv hon => ?_⟩
        rcases List.mem_cons.1 hv with rfl | hv
        · omega
        · have := h2 v hv hon; omega
      · refine ⟨u, List.mem_cons_of_mem _ hu, h1, fun v hv hon => ?_⟩
        rcases List.mem_cons.1 hv with rfl | hv
        · omega
        · exact h2 v hv hon
    · obtain ⟨u, hu, hon⟩ := h
      rcases List.mem_cons.1 hu with rfl | hu
      · refine ⟨u, List.mem_cons_self .., hon, fun v hv hv2 => ?_⟩
        rcases List.mem_cons.1 hv with rfl | hv
        · omega
        · exact absurd ⟨v, hv, hv2⟩ hr
      · exact absurd ⟨u, hu, hon⟩ hr
/-- The number does not fall from the last beginning on. -/
theorem onT_dom {T : List (Int × Int)} {x : Int} (h : 0 < onT T x) : ∃ t ∈ T, t.1 ≤ x ∧ ∀ z, t.1 ≤ z → z ≤ x → onT T x ≤ onT T z := by
  obtain ⟨t, ht, h1, h2⟩ := latest T x (onT_pos h)
  refine ⟨t, ht, h1.1, fun z hz1 hz2 => ?_⟩
  unfold onT
  refine List.countP_mono_left fun u hu hon => ?_
  have h3 := on_iff.1 hon
  have h4 := h2 u hu h3
  exact on_iff.2 (by omega)
theorem onT_self {T : List (Int × Int)} {t : Int × Int} (h : t ∈ T) (hw : t.1 < t.2) : 0 < onT T t.1 := by
  unfold onT
  exact List.countP_pos_iff.2 ⟨t, h, on_iff.2 (by omega)⟩
theorem onT_le (T : List (Int × Int)) (x : Int) : onT T x ≤ T.length := List.countP_le_length
/-- One moment more is looked at. -/
def busyS (f : Int → Nat) (st : Int × Int) (x : Int) : Int × Int := if st.1 < (f x : Int) then ((f x : Int), x) else st
def busyF (f : Int → Nat) (S : List Int) : Int × Int := S.foldl (busyS f) (-1, 0)
theorem busyF_take {f : Int → Nat} {S : List Int} {k : Nat} {x : Int} (h : S[k]? = some x) : busyF f (S.take (k + 1)) = busyS f (busyF f (S.take k)) x := by
  unfold busyF
  rw [List.take_add_one, h, List.foldl_append]; rfl
/-- n is the greatest number at the moments M, at the least such moment. -/
def IsTopM (f : Int → Nat) (M : List Int) (st : Int × Int) : Prop := st.2 ∈ M ∧ (f st.2 : Int) = st.1 ∧ ∀ x ∈ M, (f x : Int) ≤ st.1 ∧ ((f x : Int) = st.1 → st.2 ≤ x)
theorem busyF_top {f : Int → Nat} {S : List Int} (hs : S.Pairwise (fun a b => a ≤ b)) : ∀ k, k < S.length → IsTopM f (S.take (k + 1)) (busyF f (S.take (k + 1)))
  | 0, h => by
    cases S with
    | nil => simp at h
    | cons x r =>
      have e : busyF f ((x :: r).take (0 + 1)) = ((f x : Int), x) := by
        show busyS f (-1, 0) x = _
        unfold busyS
        rw [if_pos (by dsimp only; omega)]
      rw [e]
      refine ⟨by simp, rfl, fun y hy => ?_⟩
      have hyx : y = x := by simpa using hy
      subst hyx
      exact ⟨Int.le_refl _, fun _ => Int.le_refl _⟩
  | k + 1, h => by
    have ih := busyF_top (f := f) hs k (by omega)
    have hx : S[k + 1]? = some (S[k + 1]) := List.getElem?_eq_getElem h
    have hle : ∀ y ∈ S.take (k + 1), y ≤ S[k + 1] := fun y hy => by
      obtain ⟨i, hi, rfl⟩ := List.getElem_of_mem hy
      rw [List.length_take] at hi
      rw [List.getElem_take]
      exact List.pairwise_iff_getElem.1 hs i (k + 1) (by omega) h (by omega)
    rw [busyF_take hx]
    generalize S[k + 1] = x at *
    generalize busyF f (S.take (k + 1)) = st at *
    obtain ⟨h1, h2, h3⟩ := ih
    rw [List.take_add_one, hx]
    unfold busyS
    by_cases hc : st.1 < (f x : Int)
    · rw [if_pos hc]
      refine ⟨by simp, rfl, fun y hy => ?_⟩
      dsimp only
      rcases List.mem_append.1 hy with hy | hy
      · have := (h3 y hy).1
        exact ⟨by omega, fun e => by omega⟩
      · have hyx : y = x := by simpa using hy
        subst hyx
        exact ⟨Int.le_refl _, fun _ => Int.le_refl _⟩
    · rw [if_neg hc]
      refine ⟨List.mem_append_left _ h1, h2, fun y hy => ?_⟩
      rcases List.mem_append.1 hy with hy | hy
      · exact h3 y hy
      · have hyx : y = x := by simpa using hy
        subst hyx
        exact ⟨by omega, fun _ => hle _ h1⟩
theorem busyF_all {f : Int → Nat} {S : List Int} (hs : S.Pairwise (fun a b => a ≤ b)) (hn : 0 < S.length) : IsTopM f S (busyF f S) := by
  have h := busyF_top (f := f) hs (S.length - 1) (by omega)
  rw [show S.length - 1 + 1 = S.length by omega, List.take_length] at h
  exact h
/-- The reference's search. -/
def refS (f : Int → Nat) (st : Int × Int) (x : Int) : Int × Int := if st.1 < (f x : Int) ∨ ((f x : Int) = st.1 ∧ 0 < (f x : Int) ∧ x < st.2) then ((f x : Int), x) else st
def refF (f : Int → Nat) (M : List Int) : Int × Int := M.foldl (refS f) (0, 0)
def IsRef (f : Int → Nat) (M : List Int) (st : Int × Int) : Prop := (st = (0, 0) ∧ ∀ x ∈ M, f x = 0) ∨ (0 < st.1 ∧ IsTopM f M st)
theorem refF_take {f : Int → Nat} {S : List Int} {k : Nat} {x : Int} (h : S[k]? = some x) : refF f (S.take (k + 1)) = refS f (refF f (S.take k)) x := by
  unfold refF
  rw [List.take_add_one, h, List.foldl_append]; rfl
theorem refF_top (f : Int → Nat) (M : List Int) : ∀ k, k ≤ M.length → IsRef f (M.take k) (refF f (M.take k))
  | 0, _ => .inl ⟨rfl, fun x hx => by simp at hx⟩
  | k + 1, h => by
    have ih := refF_top f M k (by omega)
    have hx : M[k]? = some (M[k]) := List.getElem?_eq_getElem (by omega)
    rw [refF_take hx]
    generalize M[k] = x at *
    generalize refF f (M.take k) = st at *
    rw [List.take_add_one, hx]
    have hin : ∀ y, y ∈ M.take k ++ (some x).toList → y ∈ M.take k ∨ y = x := fun y hy => by
      rcases List.mem_append.1 hy with hy | hy
      · exact .inl hy
      · exact .inr (by simpa using hy)
    unfold refS
    by_cases hc : st.1 < (f x : Int) ∨ ((f x : Int) = st.1 ∧ 0 < (f x : Int) ∧ x < st.2)
    · rw [if_pos hc]
      have hpos : 0 < (f x : Int) := by
        rcases ih with ⟨e, _⟩ | ⟨h0, _⟩
        · rw [e] at hc; dsimp only at hc; omega
        · omega
      refine .inr ⟨hpos, by simp, rfl, fun y hy => ?_⟩
      dsimp only
      rcases hin y hy with hy | rfl
      · rcases ih with ⟨e, h2⟩ | ⟨_, _, _, h3⟩
        · rw [h2 y hy]; exact ⟨by omega, fun e => by omega⟩
        · have := h3 y hy
          refine ⟨by omega, fun e => ?_⟩
          rcases hc with hc | hc
          · omega
          · have := this.2 (by omega); omega
      · exact ⟨Int.le_refl _, fun _ => Int.le_refl _⟩
    · rw [if_neg hc]
      rcases ih with ⟨e, h2⟩ | ⟨h0, h1, h2, h3⟩
      · refine .inl ⟨e, fun y hy => ?_⟩
        rcases hin y hy with hy | rfl
        · exact h2 y hy
        · rw [e] at hc; dsimp only at hc; omega
      · refine .inr ⟨h0, List.mem_append_left _ h1, h2, fun y hy => ?_⟩
        rcases hin y hy with hy | rfl
        · exact h3 y hy
        · exact ⟨by omega, fun e => by omega⟩
theorem refF_all (f : Int → Nat) (M : List Int) : IsRef f M (refF f M) := by
  have h := refF_top f M M.length (Nat.le_refl _)
  rw [List.take_length] at h; exact h
/-- Both find the same: the beginnings of T are among M', what begins is not before 0. -/
theorem busy_same {T : List (Int × Int)} {M' S : List Int} (hT : ∀ t ∈ T, 0 ≤ t.1 ∧ t.1 < t.2) (hM : ∀ t ∈ T, t.1 ∈ M') (hS : ∀ x, x ∈ S ↔ x = 0 ∨ ∃ t ∈ T, t.1 = x) (hs : S.Pairwise (fun a b => a ≤ b)) : busyF (onT T) S = refF (onT T) M' := by
  have h0 : (0 : Int) ∈ S := (hS 0).2 (.inl rfl)
  obtain ⟨b1, b2, b3⟩ := busyF_all (f := onT T) hs (List.length_pos_of_mem h0)
  have hr := refF_all (onT T) M'
  generalize busyF (onT T) S = st at *
  generalize refF (onT T) M' = rf at *
  have hdom : ∀ x, 0 < onT T x → ∃ t ∈ T, t.1 ≤ x ∧ onT T x ≤ onT T t.1 := fun x hx => by
    obtain ⟨t, ht, h1, h2⟩ := onT_dom hx
    exact ⟨t, ht, h1, h2 t.1 (Int.le_refl _) h1⟩
  rcases hr with ⟨e, hz⟩ | ⟨hp, r1, r2, r3⟩
  · have hnone : T = [] := by
      cases T with
      | nil => rfl
      | cons t r =>
        have h1 := onT_self (T := t :: r) (List.mem_cons_self ..) (hT t (List.mem_cons_self ..)).2
        have h2 := hz t.1 (hM t (List.mem_cons_self ..))
        omega
    subst hnone
    have h2 : st.2 = 0 := by
      rcases (hS st.2).1 b1 with h | ⟨t, ht, _⟩
      · exact h
      · cases ht
    have h3 : st.1 = 0 := by rw [← b2]; rfl
    rw [e]; exact Prod.ext h3 h2
  · obtain ⟨y, hy, hy1, hy2⟩ := hdom rf.2 (by omega)
    have hyM := hM y hy
    have h1 := r3 y.1 hyM
    have hyr : y.1 = rf.2 := by
      have := h1.2 (by omega); omega
    have hin : rf.2 ∈ S := (hS _).2 (.inr ⟨y, hy, hyr⟩)
    have h2 := b3 rf.2 hin
    obtain ⟨u, hu, hu1, hu2⟩ := hdom st.2 (by omega)
    have h3 := r3 u.1 (hM u hu)
    have h4 : st.1 = rf.1 := by omega
    have h5 := h2.2 (by omega)
    have h6 := h3.2 (by omega)
    exact Prod.ext h4 (by omega)
/-- The reference's greatest number. -/
def maxS (f : Int → Nat) (n : Int) (x : Int) : Int := max n (f x : Int)
def maxF (f : Int → Nat) (n : Int) (M : List Int) : Int := M.foldl (maxS f) n
theorem maxF_spec (f : Int → Nat) : ∀ (M : List Int) (n : Int), n ≤ maxF f n M ∧ (∀ x ∈ M, (f x : Int) ≤ maxF f n M) ∧ (maxF f n M = n ∨ ∃ x ∈ M, (f x : Int) = maxF f n M)
  | [], n => ⟨Int.le_refl _, (fun _ h => by cases h), .inl rfl⟩
  | y :: r, n => by
    obtain ⟨h1, h2, h3⟩ := maxF_spec f r (max n (f y : Int))
    have e : maxF f n (y :: r) = maxF f (max n (f y : Int)) r := rfl
    rw [e]
    refine ⟨by omega, fun x hx => ?_, ?_⟩
    · rcases List.mem_cons.1 hx with rfl | hx
      · omega
      · exact h2 x hx
    · rcases h3 with h3 | ⟨x, hx, h3⟩
      · by_cases hc : n ≤ (f y : Int)
        · exact .inr ⟨y, List.mem_cons_self .., by omega⟩
        · exact .inl (by omega)
      · exact .inr ⟨x, List.mem_cons_of_mem _ hx, h3⟩
theorem free_same {T : List (Int × Int)} {M' S : List Int} {a b : Int} (hM : ∀ t ∈ T, (a ≤ t.1 ∧ t.1 < b) → t.1 ∈ M') (hM2 : ∀ x ∈ M', a ≤ x ∧ x < b) (hS : ∀ x, x ∈ S ↔ x = a ∨ ∃ t ∈ T, t.1 = x ∧ a ≤ x ∧ x < b) (hs : S.Pairwise (fun a b => a ≤ b)) : (busyF (onT T) S).1 = maxF (onT T) (onT T a : Int) M' := by
  have h0 : a ∈ S := (hS a).2 (.inl rfl)
  obtain ⟨b1, b2, b3⟩ := busyF_all (f := onT T) hs (List.length_pos_of_mem h0)
  obtain ⟨m1, m2, m3⟩ := maxF_spec (onT T) M' (onT T a : Int)
  generalize busyF (onT T) S = st at *
  generalize maxF (onT T) (onT T a : Int) M' = rf at *
  have hle : st.1 ≤ rf := by
    rcases (hS st.2).1 b1 with h | ⟨t, ht, h, h1, h2⟩
    · rw [h] at b2; omega
    · have := m2 st.2 (h ▸ hM t ht (by omega)); omega
  have hge : rf ≤ st.1 := by
    rcases m3 with h | ⟨x, hx, h⟩
    · have := (b3 a h0).1; omega
    · by_cases hp : 0 < onT T x
      · obtain ⟨t, ht, h1, h2⟩ := onT_dom hp
        have hxr := hM2 x hx
        by_cases ha : a ≤ t.1
        · have h3 := h2 t.1 (Int.le_refl _) h1
          have := (b3 t.1 ((hS _).2 (.inr ⟨t, ht, rfl, ha, by omega⟩))).1
          omega
        · have h3 := h2 a (by omega) hxr.1
          have := (b3 a h0).1
          omega
      · have := (b3 a h0).1; omega
  omega

end Go.Proofs.YtcggbojhalbkjaaGreatDoor
