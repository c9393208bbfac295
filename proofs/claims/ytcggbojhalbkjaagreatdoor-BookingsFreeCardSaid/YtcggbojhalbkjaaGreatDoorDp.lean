/- The plain law of divisions: the least one, found from the end and from the start. -/
import Derived.Test.YtcggbojhalbkjaaGreatDoorSpec
namespace Go.Proofs.YtcggbojhalbkjaaGreatDoor

structure Pc where
  kind : Int
  days : Int
  cents : Int
/-- A step: a piece at a place, at its price. -/
def StepOk (pr : Int → Nat → Int → Option Int) (i : Nat) (p : Pc) : Prop := 1 ≤ p.kind ∧ p.kind ≤ 4 ∧ 1 ≤ p.days ∧ p.days ≤ 7 ∧ pr p.kind i p.days = some p.cents
def Chain (pr : Int → Nat → Int → Option Int) : Nat → Nat → List Pc → Prop
  | i, j, [] => i = j
  | i, j, p :: r => StepOk pr i p ∧ Chain pr (i + p.days.toNat) j r
def pcSum : List Pc → Int
  | [] => 0
  | p :: r => p.cents + pcSum r
def lexLt : List Pc → List Pc → Prop
  | p :: r, q :: s => (p.kind < q.kind ∨ (p.kind = q.kind ∧ p.days < q.days)) ∨ (p.kind = q.kind ∧ p.days = q.days ∧ lexLt r s)
  | _, _ => False
def WLt (a b : List Pc) : Prop := pcSum a < pcSum b ∨ (pcSum a = pcSum b ∧ (a.length < b.length ∨ (a.length = b.length ∧ lexLt a b)))
theorem lex_asymm : ∀ {a b : List Pc}, lexLt a b → ¬ lexLt b a
  | [], _, h => by cases h
  | _ :: _, [], h => by cases h
  | p :: r, q :: s, h => fun g => by
    simp only [lexLt] at h g
    rcases h with h | ⟨h1, h2, h⟩ <;> rcases g with g | ⟨g1, g2, g⟩
    · omega
    · omega
    · omega
    · exact lex_asymm h g
theorem lex_trans : ∀ {a b c : List Pc}, lexLt a b → lexLt b c → lexLt a c
  | [], _, _, h, _ => by cases h
  | _ :: _, [], _, h, _ => by cases h
  | _ :: _, _ :: _, [], _, h => by cases h
  | p :: r, q :: s, u :: t, h, g => by
    simp only [lexLt] at h g ⊢
    rcases h with h | ⟨h1, h2, h⟩ <;> rcases g with g | ⟨g1, g2, g⟩
    · left; omega
    · left; omega
    · left; omega
    · right; exact ⟨by omega, by omega, lex_trans h g⟩
theorem wlt_asymm {a b : List Pc} (h : WLt a b) : ¬ WLt b a := fun g => by
  unfold WLt at h g
  rcases h with h | ⟨h1, h | ⟨h2, h⟩⟩ <;> rcases g with g | ⟨g1, g | ⟨g2, g⟩⟩ <;> first | omega | exact lex_asymm h g
theorem wlt_trans {a b c : List Pc} (h : WLt a b) (g : WLt b c) : WLt a c := by
  unfold WLt at h g ⊢
  rcases h with h | ⟨h1, h | ⟨h2, h⟩⟩ <;> rcases g with g | ⟨g1, g | ⟨g2, g⟩⟩ <;> first
    | (left; omega)
    | (right; refine ⟨by omega, ?_⟩; left; omega)
    | (right; refine ⟨by omega, ?_⟩; right; exact ⟨by omega, lex_trans h g⟩)
theorem pcSum_append : ∀ (a b : List Pc), pcSum (a ++ b) = pcSum a + pcSum b
  | [], b => by simp [pcSum]
  | p :: r, b => by simp only [List.cons_append, pcSum]; rw [pcSum_append r b]; omega
theorem lex_snoc : ∀ {a b : List Pc} (p : Pc), a.length = b.length → lexLt a b → lexLt (a ++ [p]) (b ++ [p])
  | [], _, _, _, h => by cases h
  | _ :: _, [], _, _, h => by cases h
  | x :: r, y :: s, p, hl, h => by
    simp only [List.cons_append, lexLt] at h ⊢
    rcases h with h | ⟨h1, h2, h⟩
    · exact .inl h
    · exact .inr ⟨h1, h2, lex_snoc p (by simpa using hl) h⟩
theorem wlt_snoc {a b : List Pc} (p : Pc) (h : WLt a b) : WLt (a ++ [p]) (b ++ [p]) := by
  unfold WLt at h ⊢
  simp only [pcSum_append, List.length_append, List.length_cons, List.length_nil]
  rcases h with h | ⟨h1, h | ⟨h2, h⟩⟩
  · left; omega
  · right; exact ⟨by omega, .inl (by omega)⟩
  · right; exact ⟨by omega, .inr ⟨by omega, lex_snoc p h2 h⟩⟩
theorem wlt_cons {a b : List Pc} (p : Pc) (h : WLt a b) : WLt (p :: a) (p :: b) := by
  unfold WLt at h ⊢
  simp only [pcSum, List.length_cons, lexLt]
  rcases h with h | ⟨h1, h | ⟨h2, h⟩⟩
  · left; omega
  · right; exact ⟨by omega, .inl (by omega)⟩
  · right; exact ⟨by omega, .inr ⟨by omega, .inr ⟨trivial, trivial, h⟩⟩⟩
section
variable {pr : Int → Nat → Int → Option Int}
theorem step_eq {i : Nat} {p q : Pc} (h : StepOk pr i p) (g : StepOk pr i q) (h1 : p.kind = q.kind) (h2 : p.days = q.days) : p = q := by
  have e : (some p.cents : Option Int) = some q.cents := h.2.2.2.2.symm.trans (by rw [h1, h2]; exact g.2.2.2.2)
  cases p; cases q
  simp_all
theorem chain_tri : ∀ {a b : List Pc} {i j : Nat}, Chain pr i j a → Chain pr i j b → a.length = b.length → a = b ∨ lexLt a b ∨ lexLt b a
  | [], [], _, _, _, _, _ => .inl rfl
  | [], _ :: _, _, _, _, _, h => by simp at h
  | _ :: _, [], _, _, _, _, h => by simp at h
  | p :: r, q :: s, i, j, h, g, hl => by
    simp only [Chain] at h g
    by_cases hk : p.kind = q.kind ∧ p.days = q.days
    · obtain rfl := step_eq h.1 g.1 hk.1 hk.2
      rcases chain_tri h.2 g.2 (by simpa using hl) with h | h | h
      · exact .inl (by rw [h])
      · exact .inr (.inl (.inr ⟨rfl, rfl, h⟩))
      · exact .inr (.inr (.inr ⟨rfl, rfl, h⟩))
    · simp only [lexLt]
      by_cases h3 : p.kind < q.kind ∨ (p.kind = q.kind ∧ p.days < q.days)
      · exact .inr (.inl (.inl h3))
      · exact .inr (.inr (.inl (by omega)))
theorem wlt_tri {a b : List Pc} {i j : Nat} (h : Chain pr i j a) (g : Chain pr i j b) : a = b ∨ WLt a b ∨ WLt b a := by
  unfold WLt
  by_cases h1 : pcSum a = pcSum b
  · by_cases h2 : a.length = b.length
    · rcases chain_tri h g h2 with h | h | h
      · exact .inl h
      · exact .inr (.inl (.inr ⟨h1, .inr ⟨h2, h⟩⟩))
      · exact .inr (.inr (.inr ⟨h1.symm, .inr ⟨h2.symm, h⟩⟩))
    · by_cases h3 : a.length < b.length
      · exact .inr (.inl (.inr ⟨h1, .inl h3⟩))
      · exact .inr (.inr (.inr ⟨h1.symm, .inl (by omega)⟩))
  · by_cases h3 : pcSum a < pcSum b
    · exact .inr (.inl (.inl h3))
    · exact .inr (.inr (.inl (by omega)))
theorem chain_le : ∀ {a : List Pc} {i j : Nat}, Chain pr i j a → i + a.length ≤ j
  | [], i, j, h => by simp only [Chain] at h; simp; omega
  | p :: r, i, j, h => by
    simp only [Chain] at h
    have := chain_le h.2
    have := h.1.2.2.1
    simp only [List.length_cons]; omega
theorem chain_head {p : Pc} {r : List Pc} {i j : Nat} (h : Chain pr i j (p :: r)) : i + p.days.toNat ≤ j := by
  simp only [Chain] at h
  have := chain_le h.2
  omega
theorem chain_snoc : ∀ {a : List Pc} {i k j : Nat} {p : Pc}, Chain pr i k a → StepOk pr k p → k + p.days.toNat = j → Chain pr i j (a ++ [p])
  | [], i, k, j, p, h, hs, he => by
    simp only [Chain] at h; subst h
    simp only [List.nil_append, Chain]; exact ⟨hs, he⟩
  | q :: r, i, k, j, p, h, hs, he => by
    simp only [Chain] at h
    simp only [List.cons_append, Chain]; exact ⟨h.1, chain_snoc h.2 hs he⟩
theorem chain_unsnoc : ∀ {a : List Pc} {i j : Nat}, Chain pr i j a → a ≠ [] → ∃ b k p, a = b ++ [p] ∧ Chain pr i k b ∧ StepOk pr k p ∧ k + p.days.toNat = j
  | [], _, _, _, h => absurd rfl h
  | [p], i, j, h, _ => by
    simp only [Chain] at h
    exact ⟨[], i, p, rfl, rfl, h.1, h.2⟩
  | p :: q :: r, i, j, h, _ => by
    have h2 : Chain pr (i + p.days.toNat) j (q :: r) := h.2
    obtain ⟨b, k, u, e, hb, hs, he⟩ := chain_unsnoc h2 (by simp)
    exact ⟨p :: b, k, u, by rw [e]; rfl, ⟨h.1, hb⟩, hs, he⟩
def Best (pr : Int → Nat → Int → Option Int) (i j : Nat) (ps : List Pc) : Prop := Chain pr i j ps ∧ ∀ qs, Chain pr i j qs → qs = ps ∨ WLt ps qs
theorem best_one {i j : Nat} {a b : List Pc} (h : Best pr i j a) (g : Best pr i j b) : a = b := by
  rcases h.2 b g.1 with e | h1
  · exact e.symm
  · rcases g.2 a h.1 with e | h2
    · exact e
    · exact absurd h2 (wlt_asymm h1)
theorem best_tail {i j : Nat} {p : Pc} {r : List Pc} (h : Best pr i j (p :: r)) : Best pr (i + p.days.toNat) j r := by
  have hc : StepOk pr i p ∧ Chain pr (i + p.days.toNat) j r := h.1
  refine ⟨hc.2, fun qs hq => ?_⟩
  rcases h.2 (p :: qs) ⟨hc.1, hq⟩ with e | hl
  · exact .inl (by injection e)
  · refine .inr ?_
    unfold WLt at hl ⊢
    simp only [pcSum, List.length_cons, lexLt] at hl
    rcases hl with hl | ⟨h1, hl | ⟨h2, hl⟩⟩
    · left; omega
    · right; exact ⟨by omega, .inl (by omega)⟩
    · right; refine ⟨by omega, .inr ⟨by omega, ?_⟩⟩
      rcases hl with hl | ⟨_, _, hl⟩
      · omega
      · exact hl
theorem best_end (n : Nat) : Best pr n n [] := ⟨rfl, fun qs hq => by
  cases qs with
  | nil => exact .inl rfl
  | cons p r => have := chain_le hq; simp only [List.length_cons] at this; omega⟩
/-- What is known of the rest from i on, as the search goes from the end. -/
def RestOk (pr : Int → Nat → Int → Option Int) (n i : Nat) : Option (List Pc) → Prop
  | none => ∀ qs, ¬ Chain pr i n qs
  | some ps => Best pr i n ps
def Bef (q : Pc) (k m : Int) : Prop := q.kind < k ∨ (q.kind = k ∧ q.days < m)
/-- The least among those whose first piece came up already. -/
def Cur (pr : Int → Nat → Int → Option Int) (n i : Nat) (k m : Int) : Option (List Pc) → Prop
  | none => ∀ q qs, Chain pr i n (q :: qs) → ¬ Bef q k m
  | some ps => Chain pr i n ps ∧ (∃ p r, ps = p :: r ∧ Bef p k m) ∧ ∀ q qs, Chain pr i n (q :: qs) → Bef q k m → q :: qs = ps ∨ WLt ps (q :: qs)
variable {n i : Nat} {k m : Int}
theorem cur_start : Cur pr n i 1 1 none := fun q qs h hb => by
  have h1 := h.1.1; have h2 := h.1.2.2.1
  unfold Bef at hb; omega
theorem bef_next {q : Pc} (h : Bef q k (m + 1)) : Bef q k m ∨ (q.kind = k ∧ q.days = m) := by unfold Bef at h ⊢; omega
theorem bef_up {q : Pc} (h : Bef q k m) : Bef q k (m + 1) := by unfold Bef at h ⊢; omega
theorem cur_skip {s : Option (List Pc)} (h : Cur pr n i k m s) (hno : ∀ q qs, Chain pr i n (q :: qs) → q.kind = k → q.days = m → False) : Cur pr n i k (m + 1) s := by
  cases s with
  | none =>
    intro q qs hc hb
    rcases bef_next hb with hb | ⟨h1, h2⟩
    · exact h q qs hc hb
    · exact hno q qs hc h1 h2
  | some ps =>
    obtain ⟨hc0, ⟨p, r, e, hb0⟩, h⟩ := h
    refine ⟨hc0, ⟨p, r, e, bef_up hb0⟩, fun q qs hc hb => ?_⟩
    rcases bef_next hb with hb | ⟨h1, h2⟩
    · exact h q qs hc hb
    · exact absurd (hno q qs hc h1 h2) id
theorem cur_none {s : Option (List Pc)} (h : Cur pr n i k m s) (hno : pr k i m = none) : Cur pr n i k (m + 1) s := cur_skip h fun q qs hc h1 h2 => by
  have h3 := hc.1.2.2.2.2
  rw [h1, h2, hno] at h3; cases h3
theorem cur_dead {s : Option (List Pc)} (h : Cur pr n i k m s) (hno : RestOk pr n (i + m.toNat) none) : Cur pr n i k (m + 1) s := cur_skip h fun q qs hc h1 h2 => by
  have h3 := hc.2
  rw [h2] at h3; exact hno qs h3
variable {c : Int} {rest ps : List Pc}
theorem cur_put (hk : 1 ≤ k ∧ k ≤ 4) (hm : 1 ≤ m ∧ m ≤ 7) (hc : pr k i m = some c) (hr : Best pr (i + m.toNat) n rest) (hall : ∀ q qs, Chain pr i n (q :: qs) → Bef q k m → WLt (⟨k, m, c⟩ :: rest) (q :: qs)) : Cur pr n i k (m + 1) (some (⟨k, m, c⟩ :: rest)) := by
  have hs : StepOk pr i ⟨k, m, c⟩ := ⟨hk.1, hk.2, hm.1, hm.2, hc⟩
  refine ⟨⟨hs, hr.1⟩, ⟨_, _, rfl, by unfold Bef; dsimp only; omega⟩, fun q qs hq hb => ?_⟩
  rcases bef_next hb with hb | ⟨h1, h2⟩
  · exact .inr (hall q qs hq hb)
  · have e : q = ⟨k, m, c⟩ := step_eq hq.1 hs h1 h2
    subst e
    rcases hr.2 qs hq.2 with e | hl
    · exact .inl (by rw [e])
    · exact .inr (wlt_cons _ hl)
theorem cur_first (h : Cur pr n i k m none) (hk : 1 ≤ k ∧ k ≤ 4) (hm : 1 ≤ m ∧ m ≤ 7) (hc : pr k i m = some c) (hr : Best pr (i + m.toNat) n rest) : Cur pr n i k (m + 1) (some (⟨k, m, c⟩ :: rest)) :=
  cur_put hk hm hc hr fun q qs hq hb => absurd hb (h q qs hq)
theorem cur_better (h : Cur pr n i k m (some ps)) (hk : 1 ≤ k ∧ k ≤ 4) (hm : 1 ≤ m ∧ m ≤ 7) (hc : pr k i m = some c) (hr : Best pr (i + m.toNat) n rest) (hl : c + pcSum rest < pcSum ps ∨ (c + pcSum rest = pcSum ps ∧ 1 + rest.length < ps.length)) : Cur pr n i k (m + 1) (some (⟨k, m, c⟩ :: rest)) :=
  cur_put hk hm hc hr fun q qs hq hb => by
    have h1 : WLt (⟨k, m, c⟩ :: rest) ps := by
      unfold WLt; simp only [pcSum, List.length_cons]
      rcases hl with hl | hl
      · exact .inl hl
      · exact .inr ⟨hl.1, .inl (by omega)⟩
    rcases h.2.2 q qs hq hb with e | h2
    · rw [e]; exact h1
    · exact wlt_trans h1 h2
theorem cur_keep (h : Cur pr n i k m (some ps)) (hk : 1 ≤ k ∧ k ≤ 4) (hm : 1 ≤ m ∧ m ≤ 7) (hc : pr k i m = some c) (hr : Best pr (i + m.toNat) n rest) (hl : ¬ (c + pcSum rest < pcSum ps ∨ (c + pcSum rest = pcSum ps ∧ 1 + rest.length < ps.length))) : Cur pr n i k (m + 1) (some ps) := by
  obtain ⟨hc0, ⟨p, r, e, hb0⟩, h⟩ := h
  refine ⟨hc0, ⟨p, r, e, bef_up hb0⟩, fun q qs hq hb => ?_⟩
  rcases bef_next hb with hb | ⟨h1, h2⟩
  · exact h q qs hq hb
  · have hs : StepOk pr i ⟨k, m, c⟩ := ⟨hk.1, hk.2, hm.1, hm.2, hc⟩
    have eq : q = ⟨k, m, c⟩ := step_eq hq.1 hs h1 h2
    subst eq
    refine .inr ?_
    have h3 : WLt ps (⟨k, m, c⟩ :: rest) := by
      unfold WLt; simp only [pcSum, List.length_cons]
      by_cases h4 : pcSum ps < c + pcSum rest
      · exact .inl h4
      · refine .inr ⟨by omega, ?_⟩
        by_cases h5 : ps.length < rest.length + 1
        · exact .inl h5
        · refine .inr ⟨by omega, ?_⟩
          rw [e]; exact .inl hb0
    rcases hr.2 qs hq.2 with e2 | h4
    · rw [e2]; exact h3
    · exact wlt_trans h3 (wlt_cons _ h4)
theorem cur_kind {s : Option (List Pc)} (h : Cur pr n i k m s) (hm : 7 < m ∨ (n : Int) - i < m) : Cur pr n i (k + 1) 1 s := by
  have hq : ∀ q qs, Chain pr i n (q :: qs) → Bef q (k + 1) 1 → Bef q k m := fun q qs hc hb => by
    have h1 := hc.1.2.2.1; have h2 := hc.1.2.2.2.1; have h3 := chain_head hc
    unfold Bef at hb ⊢; omega
  cases s with
  | none => exact fun q qs hc hb => h q qs hc (hq q qs hc hb)
  | some ps =>
    obtain ⟨hc0, ⟨p, r, e, hb0⟩, h⟩ := h
    exact ⟨hc0, ⟨p, r, e, by unfold Bef at hb0 ⊢; omega⟩, fun q qs hc hb => h q qs hc (hq q qs hc hb)⟩
theorem cur_done {s : Option (List Pc)} (h : Cur pr n i 5 1 s) (hi : i < n) : RestOk pr n i s := by
  have hb : ∀ q qs, Chain pr i n (q :: qs) → Bef q 5 1 := fun q qs hc => by
    have := hc.1.2.1; unfold Bef; omega
  cases s with
  | none =>
    intro qs hc
    cases qs with
    | nil => simp only [Chain] at hc; omega
    | cons q r => exact h q r hc (hb q r hc)
  | some ps =>
    refine ⟨h.1, fun qs hc => ?_⟩
    cases qs with
    | nil => simp only [Chain] at hc; omega
    | cons q r => exact h.2.2 q r hc (hb q r hc)

/-! From the start. -/
def FBef (i : Nat) (q : Pc) (i0 : Nat) (k m : Int) : Prop := i < i0 ∨ (i = i0 ∧ Bef q k m)
def FCur (pr : Int → Nat → Int → Option Int) (i0 : Nat) (k m : Int) (j : Nat) : Option (List Pc) → Prop
  | none => 0 < j ∧ ∀ a qs q, Chain pr 0 a qs → StepOk pr a q → a + q.days.toNat = j → ¬ FBef a q i0 k m
  | some ps => Chain pr 0 j ps ∧ ∀ a qs q, Chain pr 0 a qs → StepOk pr a q → a + q.days.toNat = j → FBef a q i0 k m → qs ++ [q] = ps ∨ WLt ps (qs ++ [q])
variable {j : Nat} {s : Option (List Pc)}
theorem fcur_zero : FCur pr 0 1 1 0 (some []) := ⟨rfl, fun a qs q _ hs he _ => by have := hs.2.2.1; omega⟩
theorem fcur_start (h : 0 < j) : FCur pr 0 1 1 j none := ⟨h, fun a qs q _ hs he hb => by
  have := hs.2.2.1; have := hs.1
  unfold FBef Bef at hb; omega⟩
theorem fcur_mono {i1 : Nat} {k1 m1 : Int} (h : FCur pr i k m j s) (hb : ∀ a qs q, Chain pr 0 a qs → StepOk pr a q → a + q.days.toNat = j → FBef a q i1 k1 m1 → FBef a q i k m) : FCur pr i1 k1 m1 j s := by
  cases s with
  | none => exact ⟨h.1, fun a qs q h1 h2 h3 h4 => h.2 a qs q h1 h2 h3 (hb a qs q h1 h2 h3 h4)⟩
  | some ps => exact ⟨h.1, fun a qs q h1 h2 h3 h4 => h.2 a qs q h1 h2 h3 (hb a qs q h1 h2 h3 h4)⟩
theorem fcur_none (h : FCur pr i k m j s) (hno : pr k i m = none) : FCur pr i k (m + 1) j s := fcur_mono h fun a qs q _ hs _ hb => by
  by_cases h1 : a = i ∧ q.kind = k ∧ q.days = m
  · obtain ⟨rfl, h2, h3⟩ := h1
    have h4 := hs.2.2.2.2
    rw [h2, h3, hno] at h4; cases h4
  · unfold FBef Bef at hb ⊢; omega
theorem fcur_other (h : FCur pr i k m j s) (hj : j ≠ i + m.toNat) : FCur pr i k (m + 1) j s := fcur_mono h fun a qs q _ hs he hb => by
  by_cases h1 : a = i ∧ q.kind = k ∧ q.days = m
  · obtain ⟨rfl, h2, h3⟩ := h1
    rw [h3] at he; omega
  · unfold FBef Bef at hb ⊢; omega
theorem fcur_kind (h : FCur pr i k 8 j s) : FCur pr i (k + 1) 1 j s := fcur_mono h fun a qs q _ hs he hb => by
  have := hs.2.2.2.1; have := hs.2.2.1
  unfold FBef Bef at hb ⊢; omega
theorem fcur_next (h : FCur pr i 5 1 j s) : FCur pr (i + 1) 1 1 j s := fcur_mono h fun a qs q _ hs he hb => by
  have := hs.2.1; have := hs.1; have := hs.2.2.1
  unfold FBef Bef at hb ⊢; omega
/-- What is found for i when its turn comes is the least. -/
theorem fcur_best (h : FCur pr i 1 1 i s) : (s = none → ∀ qs, ¬ Chain pr 0 i qs) ∧ ∀ ps, s = some ps → Best pr 0 i ps := by
  refine ⟨fun e qs hc => ?_, fun ps e => ?_⟩
  · subst e
    cases qs with
    | nil => have := h.1; simp only [Chain] at hc; omega
    | cons q r =>
      obtain ⟨b, a, p, e, hb, hs, he⟩ := chain_unsnoc hc (by simp)
      have h1 := hs.2.2.1
      exact h.2 a b p hb hs he (.inl (by omega))
  · subst e
    refine ⟨h.1, fun qs hc => ?_⟩
    cases qs with
    | nil =>
      simp only [Chain] at hc
      subst hc
      cases ps with
      | nil => exact .inl rfl
      | cons p r => have := chain_le h.1; simp only [List.length_cons] at this; omega
    | cons q r =>
      obtain ⟨b, a, p, e, hb, hs, he⟩ := chain_unsnoc hc (by simp)
      have h1 := hs.2.2.1
      rw [e]
      exact h.2 a b p hb hs he (.inl (by omega))
theorem fcur_dead (h : FCur pr i 1 1 j s) (hd : ∀ qs, ¬ Chain pr 0 i qs) : FCur pr (i + 1) 1 1 j s := fcur_mono h fun a qs q hc hs he hb => by
  have h1 := hs.1; have h2 := hs.2.2.1
  by_cases hai : a = i
  · subst hai; exact absurd hc (hd qs)
  · unfold FBef Bef at hb ⊢; omega
variable {pi pj : List Pc}
theorem fcur_put (hk : 1 ≤ k ∧ k ≤ 4) (hm : 1 ≤ m ∧ m ≤ 7) (hc : pr k i m = some c) (hb : Best pr 0 i pi) (hj : i + m.toNat = j)
    (hall : ∀ a qs q, Chain pr 0 a qs → StepOk pr a q → a + q.days.toNat = j → FBef a q i k m → WLt (pi ++ [⟨k, m, c⟩]) (qs ++ [q])) : FCur pr i k (m + 1) j (some (pi ++ [⟨k, m, c⟩])) := by
  have hs : StepOk pr i ⟨k, m, c⟩ := ⟨hk.1, hk.2, hm.1, hm.2, hc⟩
  refine ⟨chain_snoc hb.1 hs hj, fun a qs q h1 h2 h3 h4 => ?_⟩
  by_cases h5 : a = i ∧ q.kind = k ∧ q.days = m
  · obtain ⟨rfl, h6, h7⟩ := h5
    have e : q = ⟨k, m, c⟩ := step_eq h2 hs h6 h7
    subst e
    rcases hb.2 qs h1 with e | hl
    · exact .inl (by rw [e])
    · exact .inr (wlt_snoc _ hl)
  · exact .inr (hall a qs q h1 h2 h3 (by unfold FBef Bef at h4 ⊢; omega))
theorem fcur_first (h : FCur pr i k m j none) (hk : 1 ≤ k ∧ k ≤ 4) (hm : 1 ≤ m ∧ m ≤ 7) (hc : pr k i m = some c) (hb : Best pr 0 i pi) (hj : i + m.toNat = j) : FCur pr i k (m + 1) j (some (pi ++ [⟨k, m, c⟩])) :=
  fcur_put hk hm hc hb hj fun a qs q h1 h2 h3 h4 => absurd h4 (h.2 a qs q h1 h2 h3)
theorem fcur_better (h : FCur pr i k m j (some pj)) (hk : 1 ≤ k ∧ k ≤ 4) (hm : 1 ≤ m ∧ m ≤ 7) (hc : pr k i m = some c) (hb : Best pr 0 i pi) (hj : i + m.toNat = j) (hl : WLt (pi ++ [⟨k, m, c⟩]) pj) : FCur pr i k (m + 1) j (some (pi ++ [⟨k, m, c⟩])) :=
  fcur_put hk hm hc hb hj fun a qs q h1 h2 h3 h4 => by
    rcases h.2 a qs q h1 h2 h3 h4 with e | h5
    · rw [e]; exact hl
    · exact wlt_trans hl h5
theorem fcur_keep (h : FCur pr i k m j (some pj)) (hk : 1 ≤ k ∧ k ≤ 4) (hm : 1 ≤ m ∧ m ≤ 7) (hc : pr k i m = some c) (hb : Best pr 0 i pi) (hj : i + m.toNat = j) (hl : ¬ WLt (pi ++ [⟨k, m, c⟩]) pj) : FCur pr i k (m + 1) j (some pj) := by
  have hs : StepOk pr i ⟨k, m, c⟩ := ⟨hk.1, hk.2, hm.1, hm.2, hc⟩
  have hx : Chain pr 0 j (pi ++ [⟨k, m, c⟩]) := chain_snoc hb.1 hs hj
  refine ⟨h.1, fun a qs q h1 h2 h3 h4 => ?_⟩
  by_cases h5 : a = i ∧ q.kind = k ∧ q.days = m
  · obtain ⟨rfl, h6, h7⟩ := h5
    have e : q = ⟨k, m, c⟩ := step_eq h2 hs h6 h7
    subst e
    have h8 : pi ++ [⟨k, m, c⟩] = pj ∨ WLt pj (pi ++ [⟨k, m, c⟩]) := by
      rcases wlt_tri hx h.1 with e | h9 | h9
      · exact .inl e
      · exact absurd h9 hl
      · exact .inr h9
    rcases hb.2 qs h1 with e | h9
    · rw [e]; exact h8
    · have h10 := wlt_snoc ⟨k, m, c⟩ h9
      rcases h8 with e | h8
      · exact .inr (e ▸ h10)
      · exact .inr (wlt_trans h8 h10)
  · exact h.2 a qs q h1 h2 h3 (by unfold FBef Bef at h4 ⊢; omega)
/-- Both ways find the same. -/
theorem both_ways {n : Nat} {s t : Option (List Pc)} (h : RestOk pr n 0 s) (g : FCur pr n 1 1 n t) : s = t := by
  obtain ⟨g1, g2⟩ := fcur_best g
  cases s with
  | none =>
    cases t with
    | none => rfl
    | some ps => exact absurd (g2 ps rfl).1 (h ps)
  | some ps =>
    cases t with
    | none => exact absurd h.1 (g1 rfl ps)
    | some qs => rw [best_one h (g2 qs rfl)]
end

end Go.Proofs.YtcggbojhalbkjaaGreatDoor
