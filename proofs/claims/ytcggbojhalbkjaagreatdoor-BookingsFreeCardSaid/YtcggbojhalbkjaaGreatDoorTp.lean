/- Plain definitions of rates, seasons and prices. -/
import Derived.Test.YtcggbojhalbkjaaGreatDoorDp
namespace Go.Proofs.YtcggbojhalbkjaaGreatDoor

/-! The order of strings. -/
theorem bl_irrefl : ∀ (x : List UInt8), Go.Op.bytesLess x x = false
  | [] => rfl
  | a :: x => by
    unfold Go.Op.bytesLess
    rw [bl_irrefl x]
    have h : ¬ a < a := fun h => absurd (UInt8.lt_iff_toNat_lt.1 h) (by omega)
    simp [h]
theorem bl_cons {a b : UInt8} {x y : List UInt8} : Go.Op.bytesLess (a :: x) (b :: y) = true ↔ a.toNat < b.toNat ∨ (a = b ∧ Go.Op.bytesLess x y = true) := by
  rw [Go.Op.bytesLess]
  simp [UInt8.lt_iff_toNat_lt]
theorem bl_trans : ∀ {x y z : List UInt8}, Go.Op.bytesLess x y = true → Go.Op.bytesLess y z = true → Go.Op.bytesLess x z = true
  | _, [], _, h, _ => by cases ‹List UInt8› <;> simp [Go.Op.bytesLess] at h
  | _, _ :: _, [], _, h => by simp [Go.Op.bytesLess] at h
  | [], _ :: _, _ :: _, _, _ => rfl
  | a :: x, b :: y, c :: z, h, g => by
    rw [bl_cons] at h g ⊢
    rcases h with h | ⟨rfl, h⟩ <;> rcases g with g | ⟨rfl, g⟩
    · left; omega
    · left; exact h
    · left; exact g
    · right; exact ⟨rfl, bl_trans h g⟩
theorem bl_tri : ∀ {x y : List UInt8}, Go.Op.bytesLess x y = false → Go.Op.bytesLess y x = false → x = y
  | [], [], _, _ => rfl
  | [], _ :: _, h, _ => by simp [Go.Op.bytesLess] at h
  | _ :: _, [], _, h => by simp [Go.Op.bytesLess] at h
  | a :: x, b :: y, h, g => by
    have h1 : ¬ (a.toNat < b.toNat ∨ (a = b ∧ Go.Op.bytesLess x y = true)) := fun e => by rw [bl_cons.2 e] at h; cases h
    have g1 : ¬ (b.toNat < a.toNat ∨ (b = a ∧ Go.Op.bytesLess y x = true)) := fun e => by rw [bl_cons.2 e] at g; cases g
    have e : a = b := by
      have : ¬ a.toNat < b.toNat := fun e => h1 (.inl e)
      have : ¬ b.toNat < a.toNat := fun e => g1 (.inl e)
      exact UInt8.toNat_inj.1 (by omega)
    subst e
    have h2 : Go.Op.bytesLess x y = false := by
      cases hb : Go.Op.bytesLess x y
      · rfl
      · exact absurd (.inr ⟨rfl, hb⟩) h1
    have g2 : Go.Op.bytesLess y x = false := by
      cases hb : Go.Op.bytesLess y x
      · rfl
      · exact absurd (.inr ⟨rfl, hb⟩) g1
    rw [bl_tri h2 g2]
theorem bl_asymm {x y : List UInt8} (h : Go.Op.bytesLess x y = true) : Go.Op.bytesLess y x = false := by
  cases hb : Go.Op.bytesLess y x
  · rfl
  · have := bl_trans h hb
    rw [bl_irrefl] at this; cases this
theorem bl_ne {x y : List UInt8} (h : Go.Op.bytesLess x y = true) : x ≠ y := fun e => by subst e; rw [bl_irrefl] at h; cases h

/-! Rates. -/
structure Rt where
  cls : ByteArray
  fr : Int
  to_ : Int
  hr : Int
  dy : Int
  we : Int
  wk : Int
def RtOk (r : Rt) : Prop := r.cls.size ≤ 1000000
def ltS (a b : ByteArray) : Bool := Go.Op.bytesLess a.toList b.toList
/-- The order of rates. -/
def rtLt (q r : Rt) : Bool := ltS q.cls r.cls || (eqS q.cls r.cls && decide (q.fr < r.fr))
theorem rtLt_trans {a b c : Rt} (h : rtLt a b = true) (g : rtLt b c = true) : rtLt a c = true := by
  unfold rtLt ltS eqS at h g ⊢
  simp only [Bool.or_eq_true, Bool.and_eq_true, decide_eq_true_eq, beq_iff_eq] at h g ⊢
  rcases h with h | ⟨h1, h⟩ <;> rcases g with g | ⟨g1, g⟩
  · exact .inl (bl_trans h g)
  · exact .inl (g1 ▸ h)
  · exact .inl (h1 ▸ g)
  · exact .inr ⟨h1.trans g1, by omega⟩
theorem rtLt_irrefl (a : Rt) : rtLt a a = false := by
  unfold rtLt ltS
  rw [bl_irrefl]; simp
def rateE (p : Option Rt) (r : Rt) : Int :=
  if keyB r.cls = false then 5 else if r.fr < 0 ∨ r.to_ ≤ r.fr ∨ 4001 < r.to_ then 1 else
  if inB r.hr (-1) 1000000 = false ∨ inB r.dy (-1) 1000000 = false ∨ inB r.we (-1) 1000000 = false ∨ inB r.wk (-1) 1000000 = false then 1 else
  match p with
  | none => 0
  | some q => if rtLt q r = false then 7 else if (eqS q.cls r.cls && decide (r.fr < q.to_)) = true then 13 else 0
def ratesE (l : List Rt) : Int := if 200 < l.length then 2 else scanE rateE none l
theorem rateE_ok {p : Option Rt} {r : Rt} (h : rateE p r = 0) : keyB r.cls = true ∧ (0 ≤ r.fr ∧ r.fr < r.to_ ∧ r.to_ ≤ 4001) ∧ (-1 ≤ r.hr ∧ r.hr ≤ 1000000) ∧ (-1 ≤ r.dy ∧ r.dy ≤ 1000000) ∧ (-1 ≤ r.we ∧ r.we ≤ 1000000) ∧ (-1 ≤ r.wk ∧ r.wk ≤ 1000000) ∧ ∀ q, p = some q → rtLt q r = true ∧ (eqS q.cls r.cls = true → q.to_ ≤ r.fr) := by
  unfold rateE at h
  split at h
  · cases h
  · split at h
    · cases h
    · split at h
      · cases h
      · rename_i h1 h2 h3
        simp only [not_or, Bool.not_eq_false, inB_iff] at h1 h3
        refine ⟨h1, by omega, h3.1, h3.2.1, h3.2.2.1, h3.2.2.2, fun q e => ?_⟩
        subst e
        dsimp only at h
        split at h
        · cases h
        · split at h
          · cases h
          · rename_i h4 h5
            refine ⟨by simpa using h4, fun h6 => ?_⟩
            rw [h6] at h5
            simp at h5; omega
theorem scan_pair {α : Type} {f : Option α → α → Int} {R : α → α → Prop} (hR : ∀ q x, f (some q) x = 0 → R q x) (ht : ∀ a b c, R a b → R b c → R a c) : ∀ {l : List α} {p : Option α}, scanE f p l = 0 → l.Pairwise R ∧ ∀ q, p = some q → ∀ x ∈ l, R q x
  | [], _, _ => ⟨List.Pairwise.nil, fun _ _ _ h => by cases h⟩
  | x :: r, p, h => by
    unfold scanE at h
    split at h
    · rename_i h0
      obtain ⟨h1, h2⟩ := scan_pair hR ht h
      refine ⟨List.Pairwise.cons (h2 x rfl) h1, fun q e y hy => ?_⟩
      subst e
      rcases List.mem_cons.1 hy with rfl | hy
      · exact hR _ _ h0
      · exact ht _ _ _ (hR _ _ h0) (h2 x rfl y hy)
    · exact absurd h ‹_›
theorem scan_each {α : Type} {f : Option α → α → Int} : ∀ {l : List α} {p : Option α}, scanE f p l = 0 → ∀ x ∈ l, ∃ q, f q x = 0
  | [], _, _, x, hx => by cases hx
  | y :: t, p, h, x, hx => by
    unfold scanE at h
    by_cases h0 : f p y = 0
    · rw [if_pos h0] at h
      rcases List.mem_cons.1 hx with rfl | hx
      · exact ⟨p, h0⟩
      · exact scan_each h x hx
    · rw [if_neg h0] at h; exact absurd h h0
theorem ratesE_ok {l : List Rt} (h : ratesE l = 0) : l.length ≤ 200 ∧ l.Pairwise (fun q r => rtLt q r = true) ∧ ∀ r ∈ l, keyB r.cls = true ∧ (0 ≤ r.fr ∧ r.fr < r.to_ ∧ r.to_ ≤ 4001) ∧ (-1 ≤ r.hr ∧ r.hr ≤ 1000000) ∧ (-1 ≤ r.dy ∧ r.dy ≤ 1000000) ∧ (-1 ≤ r.we ∧ r.we ≤ 1000000) ∧ (-1 ≤ r.wk ∧ r.wk ≤ 1000000) := by
  unfold ratesE at h
  split at h
  · cases h
  · refine ⟨by omega, (scan_pair (R := fun q r => rtLt q r = true) (fun q x hq => ((rateE_ok hq).2.2.2.2.2.2 q rfl).1) (fun _ _ _ => rtLt_trans) h).1, fun r hr => ?_⟩
    obtain ⟨q, hq⟩ := scan_each h r hr
    obtain ⟨h1, h2, h3, h4, h5, h6, _⟩ := rateE_ok hq
    exact ⟨h1, h2, h3, h4, h5, h6⟩

/-! The place of the first element that has a property. -/
def ixP {α : Type} (p : α → Bool) : List α → Nat → Int
  | [], _ => -1
  | x :: r, k => if p x = true then (k : Int) else ixP p r (k + 1)
theorem ixP_at {α : Type} {p : α → Bool} {l : List α} {k : Nat} {x : α} (h : l[k]? = some x) : ixP p (l.drop k) k = if p x = true then (k : Int) else ixP p (l.drop (k + 1)) (k + 1) := by
  obtain ⟨hk, rfl⟩ := List.getElem?_eq_some_iff.1 h
  rw [List.drop_eq_getElem_cons hk]; rfl
theorem ixP_end {α : Type} {p : α → Bool} {l : List α} {k : Nat} (h : l.length ≤ k) : ixP p (l.drop k) k = -1 := by
  rw [List.drop_eq_nil_of_le h]; rfl
theorem ixP_spec {α : Type} {p : α → Bool} : ∀ (l : List α) (k : Nat), (ixP p l k = -1 ∧ ∀ x ∈ l, p x = false) ∨ ∃ j x, ixP p l k = ((k + j : Nat) : Int) ∧ l[j]? = some x ∧ p x = true ∧ ∀ i, i < j → ∀ y, l[i]? = some y → p y = false
  | [], k => .inl ⟨rfl, fun _ h => by cases h⟩
  | x :: r, k => by
    unfold ixP
    cases hp : p x
    · rw [if_neg (by simp)]
      rcases ixP_spec (p := p) r (k + 1) with ⟨h1, h2⟩ | ⟨j, y, h1, h2, h3, h4⟩
      · refine .inl ⟨h1, fun y hy => ?_⟩
        rcases List.mem_cons.1 hy with rfl | hy
        · exact hp
        · exact h2 y hy
      · refine .inr ⟨j + 1, y, by rw [h1]; omega, by simpa using h2, h3, fun i hi z hz => ?_⟩
        cases i with
        | zero => simp at hz; rw [← hz]; exact hp
        | succ i => exact h4 i (by omega) z (by simpa using hz)
    · rw [if_pos rfl]
      exact .inr ⟨0, x, by omega, rfl, hp, fun i hi => by omega⟩
theorem ixP_bound {α : Type} {p : α → Bool} (l : List α) : -1 ≤ ixP p l 0 ∧ ixP p l 0 < (l.length : Int) := by
  rcases ixP_spec (p := p) l 0 with ⟨h, _⟩ | ⟨j, x, h, hj, _⟩
  · rw [h]; omega
  · obtain ⟨hk, _⟩ := List.getElem?_eq_some_iff.1 hj
    rw [h]; omega
theorem ixP_get {α : Type} {p : α → Bool} {l : List α} (h : 0 ≤ ixP p l 0) : ∃ x, l[(ixP p l 0).toNat]? = some x ∧ p x = true := by
  rcases ixP_spec (p := p) l 0 with ⟨h1, _⟩ | ⟨j, x, h1, hj, hp, _⟩
  · omega
  · rw [h1]; exact ⟨x, by simpa using hj, hp⟩

/-! Seasons. -/
def rateP (c : ByteArray) (d : Int) (r : Rt) : Bool := r.cls.toList == c.toList && inB d r.fr (r.to_ - 1)
def begV (fr : Int) (i : Nat) : Int := fr + (i : Int) * 1440
def endV (fr to_ : Int) (i : Nat) : Int := min (fr + ((i : Int) + 1) * 1440) to_
def seaV (l : List Rt) (c : ByteArray) (fr : Int) (i : Nat) : Int := ixP (rateP c (begV fr i / 1440)) l 0
def seasons (l : List Rt) (c : ByteArray) (fr : Int) (n : Nat) : List Int := (List.range n).map (seaV l c fr)
theorem seasons_len (l : List Rt) (c : ByteArray) (fr : Int) (n : Nat) : (seasons l c fr n).length = n := by simp [seasons]
theorem seasons_succ (l : List Rt) (c : ByteArray) (fr : Int) (n : Nat) : seasons l c fr (n + 1) = seasons l c fr n ++ [seaV l c fr n] := by simp [seasons, List.range_succ]
theorem seasons_get {l : List Rt} {c : ByteArray} {fr : Int} {n i : Nat} (h : i < n) : (seasons l c fr n)[i]? = some (seaV l c fr i) := by simp [seasons, h]
/-- The end of the weekend in which a moment is. -/
def wkE (m : Int) : Int := if m % 10080 ≤ 719 then m - m % 10080 + 720 else if 6480 ≤ m % 10080 then m - m % 10080 + 10800 else -1
/-- The price of a piece that begins in the season r. -/
def priceK (r : Rt) (sea : List Int) (fr to_ kind : Int) (i : Nat) (m : Int) : Option Int :=
  if kind = 1 then (if m = 1 ∧ sea.length = i + 1 ∧ 0 ≤ r.hr then some (r.hr * ((endV fr to_ i - begV fr i + 59) / 60)) else none)
  else if kind = 2 then (if m = 1 ∧ 0 ≤ r.dy then some r.dy else none)
  else if kind = 3 then (if (0 ≤ wkE (begV fr i) ∧ endV fr to_ (i + m.toNat - 1) ≤ wkE (begV fr i)) ∧ 0 ≤ r.we then some r.we else none)
  else if kind = 4 then (if (m = min 7 ((sea.length : Int) - i) ∧ ∀ x ∈ (sea.drop i).take m.toNat, sea[i]? = some x) ∧ 0 ≤ r.wk then some r.wk else none)
  else none
/-- The price of a piece. -/
def priceO (l : List Rt) (sea : List Int) (fr to_ : Int) (kind : Int) (i : Nat) (m : Int) : Option Int :=
  if m < 1 ∨ (sea.length : Int) - (i : Int) < m ∨ (-1 : Int) ∈ (sea.drop i).take m.toNat then none else
  match sea[i]?.bind (fun k => l[k.toNat]?) with
  | none => none
  | some r => priceK r sea fr to_ kind i m
theorem price_no {l : List Rt} {sea : List Int} {fr to_ kind : Int} {i : Nat} {m : Int} (h : m < 1 ∨ (sea.length : Int) - (i : Int) < m ∨ (-1 : Int) ∈ (sea.drop i).take m.toNat) : priceO l sea fr to_ kind i m = none := by
  unfold priceO; rw [if_pos h]
theorem price_go {l : List Rt} {sea : List Int} {fr to_ kind k : Int} {i : Nat} {m : Int} {r : Rt} (h : ¬ (m < 1 ∨ (sea.length : Int) - (i : Int) < m ∨ (-1 : Int) ∈ (sea.drop i).take m.toNat)) (hk : sea[i]? = some k) (hr : l[k.toNat]? = some r) : priceO l sea fr to_ kind i m = priceK r sea fr to_ kind i m := by
  unfold priceO; rw [if_neg h, hk]
  simp only [Option.bind_some, hr]
theorem price_some {l : List Rt} {sea : List Int} {fr to_ kind : Int} {i : Nat} {m v : Int} (h : priceO l sea fr to_ kind i m = some v) : 1 ≤ m ∧ (i : Int) + m ≤ (sea.length : Int) ∧ ¬ (-1 : Int) ∈ (sea.drop i).take m.toNat ∧ ∃ k r, sea[i]? = some k ∧ l[k.toNat]? = some r := by
  unfold priceO at h
  split at h
  · cases h
  · rename_i h1
    refine ⟨by omega, by omega, fun e => h1 (.inr (.inr e)), ?_⟩
    split at h
    · cases h
    · rename_i r hr
      obtain ⟨k, hk, hr⟩ := Option.bind_eq_some_iff.1 hr
      exact ⟨k, r, hk, hr⟩
theorem price_bound {l : List Rt} {sea : List Int} {fr to_ kind : Int} {i : Nat} {m v : Int} (hl : ∀ r ∈ l, (-1 ≤ r.hr ∧ r.hr ≤ 1000000) ∧ (-1 ≤ r.dy ∧ r.dy ≤ 1000000) ∧ (-1 ≤ r.we ∧ r.we ≤ 1000000) ∧ (-1 ≤ r.wk ∧ r.wk ≤ 1000000)) (hto : begV fr i ≤ to_) (h : priceO l sea fr to_ kind i m = some v) : 0 ≤ v ∧ v ≤ 24000000 := by
  unfold priceO at h
  split at h
  · cases h
  · split at h
    · cases h
    · rename_i r hr
      obtain ⟨k, hk, hr⟩ := Option.bind_eq_some_iff.1 hr
      obtain ⟨h1, h2, h3, h4⟩ := hl r (List.mem_of_getElem? hr)
      unfold priceK at h
      split at h
      · split at h
        · rename_i hc
          simp only [Option.some.injEq] at h
          subst h
          have e1 : (endV fr to_ i - begV fr i + 59) / 60 ≤ 24 := by unfold endV begV; omega
          have e0 : 0 ≤ (endV fr to_ i - begV fr i + 59) / 60 := by unfold endV; unfold begV at hto ⊢; omega
          refine ⟨Int.mul_nonneg hc.2.2 e0, ?_⟩
          have := Int.mul_le_mul h1.2 e1 e0 (by omega)
          omega
        · cases h
      · split at h
        · split at h
          · simp only [Option.some.injEq] at h; omega
          · cases h
        · split at h
          · split at h
            · simp only [Option.some.injEq] at h; omega
            · cases h
          · split at h
            · split at h
              · simp only [Option.some.injEq] at h; omega
              · cases h
            · cases h

theorem pv_zero {α : Type} {l : List α} {k : Nat} (h : k = 0) : prevOf l k = none := by unfold prevOf; rw [if_pos h]
theorem pv_pos {α : Type} {l : List α} {k : Nat} {y : α} (h : ¬ k = 0) (hy : l[k - 1]? = some y) : prevOf l k = some y := by unfold prevOf; rw [if_neg h, hy]
/-! Comparisons. -/
def cmpS (a b : ByteArray) : Int := if Go.Op.bytesLess a.toList b.toList = true then -1 else if (Go.Op.bytesLess a.toList b.toList || a.toList == b.toList) = false then 1 else 0
def cmpI (a b : Int) : Int := if a < b then -1 else if b < a then 1 else 0
theorem cmpS_zero {a b : ByteArray} : cmpS a b = 0 ↔ (Go.Op.bytesLess a.toList b.toList = false ∧ a.toList = b.toList) := by
  unfold cmpS
  cases h : Go.Op.bytesLess a.toList b.toList
  · by_cases e : a.toList = b.toList
    · simp [e]
    · have : (a.toList == b.toList) = false := by simpa using e
      simp [this, e]
  · simp
theorem firstE_pair (a b : Int) : firstE [a, b] = if a = 0 then b else a := by
  simp only [firstE]
  by_cases h : a = 0
  · rw [if_pos h, if_pos h]
    by_cases h2 : b = 0
    · rw [if_pos h2, h2]
    · rw [if_neg h2]
  · rw [if_neg h, if_neg h]
theorem or_rt' (q r : Rt) : 0 ≤ firstE [cmpS q.cls r.cls, cmpI q.fr r.fr] ↔ rtLt q r = false := by
  unfold rtLt ltS eqS
  rw [firstE_pair]
  by_cases h : cmpS q.cls r.cls = 0
  · rw [if_pos h]
    obtain ⟨h1, h2⟩ := cmpS_zero.1 h
    rw [h1, h2]
    unfold cmpI
    by_cases h3 : q.fr < r.fr
    · simp [h3]
    · by_cases h4 : r.fr < q.fr <;> simp [h3, h4]
  · rw [if_neg h]
    unfold cmpS at h ⊢
    cases h1 : Go.Op.bytesLess q.cls.toList r.cls.toList
    · cases h2 : (q.cls.toList == r.cls.toList)
      · simp
      · rw [h1, h2] at h; simp at h
    · simp
theorem or_rt (q r : Rt) : decide (0 ≤ firstE [cmpS q.cls r.cls, cmpI q.fr r.fr]) = !rtLt q r := by
  cases h : rtLt q r
  · exact decide_eq_true ((or_rt' q r).2 h)
  · exact decide_eq_false fun e => by rw [(or_rt' q r).1 e] at h; cases h
theorem lt_rt (q r : Rt) : (Go.Op.bytesLess r.cls.toList q.cls.toList || (r.cls.toList == q.cls.toList && decide (r.fr ≤ q.fr))) = !rtLt q r := by
  unfold rtLt ltS eqS
  cases h1 : Go.Op.bytesLess r.cls.toList q.cls.toList
  · cases h2 : Go.Op.bytesLess q.cls.toList r.cls.toList
    · have e := bl_tri h1 h2
      rw [e]; simp
      by_cases h3 : q.fr < r.fr
      · simp [h3]
      · simp [h3]; omega
    · have e := bl_ne h2
      have e2 : (r.cls.toList == q.cls.toList) = false := by simpa using fun h => e h.symm
      rw [e2]; simp
  · have e := bl_ne h1
    have e2 : (q.cls.toList == r.cls.toList) = false := by simpa using fun h => e h.symm
    rw [bl_asymm h1, e2]; simp

theorem ix_mem {x : Int} {l : List Int} : decide (0 ≤ ixP (fun y => decide (x = y)) l 0) = decide (x ∈ l) := by
  rcases ixP_spec (p := fun y => decide (x = y)) l 0 with ⟨h, h2⟩ | ⟨j, y, h, hj, hp, _⟩
  · rw [h, decide_eq_false (by omega)]
    exact (decide_eq_false fun e => by simpa using h2 x e).symm
  · rw [h, decide_eq_true (by omega)]
    have e : x = y := by simpa using hp
    exact (decide_eq_true (e ▸ List.mem_of_getElem? hj)).symm
/-- The rate of a class on a day. -/
def rateZ : Rt := ⟨⟨#[]⟩, 0, 0, 0, 0, 0, 0⟩
def rateV (l : List Rt) (c : ByteArray) (d : Int) : Rt := if ixP (rateP c d) l 0 < 0 then rateZ else (l[(ixP (rateP c d) l 0).toNat]?).getD rateZ
theorem rateV_no {l : List Rt} {c : ByteArray} {d : Int} (h : ixP (rateP c d) l 0 < 0) : rateV l c d = rateZ := if_pos h
theorem rateV_at {l : List Rt} {c : ByteArray} {d : Int} {k : Nat} {r : Rt} (h : ixP (rateP c d) l 0 = (k : Int)) (hr : l[k]? = some r) : rateV l c d = r := by
  unfold rateV
  rw [if_neg (by omega), h]
  simp [hr]

end Go.Proofs.YtcggbojhalbkjaaGreatDoor
