/- Rows of a call's own, as lists of structs: what a clone gives, and a store into one element. -/
import Derived.Test.YtcggbojhalbkjaaGreatDoorBase
namespace Go.Proofs.YtcggbojhalbkjaaGreatDoor
open Go.RowKit

theorem flat_at {α : Type} (enc : α → List Value) (k : Nat) (hk : ∀ x, (enc x).length = k) : ∀ (l : List α) (j : Nat) (u : Value), (l.flatMap enc)[j]? = some u →
    ∃ i x r, l[i]? = some x ∧ (enc x)[r]? = some u ∧ j = i * k + r
  | [], j, u, h => by simp at h
  | y :: t, j, u, h => by
    rw [List.flatMap_cons] at h
    by_cases hj : j < (enc y).length
    · rw [List.getElem?_append_left hj] at h
      exact ⟨0, y, j, rfl, h, by omega⟩
    · rw [List.getElem?_append_right (by omega), hk] at h
      obtain ⟨i, x, r, h1, h2, h3⟩ := flat_at enc k hk t (j - k) u h
      refine ⟨i + 1, x, r, by simpa using h1, h2, ?_⟩
      rw [hk] at hj
      rw [Nat.add_mul]; omega

theorem flat_len {α : Type} (enc : α → List Value) (k : Nat) (hk : ∀ x, (enc x).length = k) : ∀ l : List α, (l.flatMap enc).length = l.length * k
  | [] => by simp
  | y :: t => by rw [List.flatMap_cons, List.length_append, hk, flat_len enc k hk t, List.length_cons, Nat.add_mul]; omega

theorem flat_one {α : Type} (enc : α → List Value) (h : ∀ x, ∀ v ∈ enc x, v.oneCell' = true) (l : List α) : ∀ v ∈ l.flatMap enc, v.oneCell' = true := by
  intro v hv
  obtain ⟨x, _, hx⟩ := List.mem_flatMap.1 hv
  exact h x v hx

/-- The cells that a slice of structs leads to, one after the other. -/
theorem SlT.flat {α : Type} {enc : α → List Value} {k : Nat} {T : TypeId} {w : World} {A : Option Addr} {n : Nat} {l : List α} (hl : SlT enc k T w A n l) (hk : ∀ x, (enc x).length = k) (hn : 0 < n) :
    ∃ b off, A = some ⟨b, off, none⟩ ∧ b < w.heap.size ∧ ∀ j u, (l.flatMap enc)[j]? = some u → w.cell? ((⟨b, off, none⟩ : Addr).add j) = some u := by
  obtain ⟨b, off, hA, hb, hr⟩ := hl.get hn
  refine ⟨b, off, hA, hb, fun j u hj => ?_⟩
  obtain ⟨i, x, r, h1, h2, h3⟩ := flat_at enc k hk l j u hj
  have := hr i x h1 r u h2
  have ha : (⟨b, off, none⟩ : Addr).add j = ⟨b, off + i * k + r, none⟩ := by
    unfold Addr.add
    split
    · rename_i h0
      have e : off = off + i * k + r := by omega
      rw [← e]
    · simp; omega
  rw [ha]; exact this

theorem splice_low {α : Type} {cs : List α} {o : Nat} {vs : List α} {m : Nat} (ho : o ≤ cs.length) (h : m < o) : (splice cs o vs)[m]? = cs[m]? := by
  unfold splice
  rw [List.append_assoc]
  have hl : m < (cs.take o).length := by simp; omega
  rw [List.getElem?_append_left hl, List.getElem?_take, if_pos h]
theorem splice_mid {α : Type} {cs : List α} {o : Nat} {vs : List α} {m : Nat} (ho : o ≤ cs.length) (h : m < vs.length) : (splice cs o vs)[o + m]? = vs[m]? := by
  unfold splice
  have hl : (cs.take o).length = o := by simp; omega
  rw [List.append_assoc, List.getElem?_append_right (by omega), hl, Nat.add_sub_cancel_left, List.getElem?_append_left h]

theorem info_parts {P : Program} {T : TypeId} {s b c : Nat} (h : (P.info? T).map (fun i => (i.zero.map fun z => z.cells.size, i.size, i.bytes)) = some (some c, s, b)) :
    ∃ i z, P.info? T = some i ∧ i.zero = some z ∧ i.size = s ∧ i.bytes = b ∧ z.cells.size = c := by
  cases hi : P.info? T with
  | none => rw [hi] at h; cases h
  | some i =>
    rw [hi] at h
    simp only [Option.map_some, Option.some.injEq, Prod.mk.injEq] at h
    obtain ⟨h1, h2, h3⟩ := h
    cases hz : i.zero with
    | none => rw [hz] at h1; cases h1
    | some z =>
      rw [hz] at h1
      exact ⟨i, z, rfl, hz, h2, h3, by simpa using h1⟩

/-- A row of the call's own reads as the list. -/
def OwnT {α : Type} (enc : α → List Value) (k : Nat) (T : TypeId) (w : World) (base g n c : Nat) (l : List α) : Prop := base ≤ g ∧ w.ownsRow base T k (.slice (some ⟨g, 0, none⟩) n c) n (l.flatMap enc)

theorem OwnT.kept {α : Type} {enc : α → List Value} {k : Nat} {T : TypeId} {w w' : World} {base base' g n c : Nat} {l : List α} (h : OwnT enc k T w base g n c l) (hb : w'.heap[g]? = w.heap[g]?) (hle : base' ≤ base) : OwnT enc k T w' base' g n c l := by
  obtain ⟨h0, h1, h2⟩ := h
  refine ⟨by omega, h1, ?_⟩
  rcases h2 with ⟨h2, _⟩ | ⟨g', cap, cur, hv, hbase, hh, hle2, hcap, hsz, htk⟩
  · cases h2
  · injection hv with hA hn hc
    injection hA with hA
    injection hA with hg _ _
    subst hg
    exact .inr ⟨g, cap, cur, by rw [hc], by omega, hb.trans hh, hle2, hcap, hsz, htk⟩
theorem OwnT.lt {α : Type} {enc : α → List Value} {k : Nat} {T : TypeId} {w : World} {base g n c : Nat} {l : List α} (h : OwnT enc k T w base g n c l) : g < w.heap.size := by
  obtain ⟨h0, h1, h2⟩ := h
  rcases h2 with ⟨h2, _⟩ | ⟨g', cap, cur, hv, hbase, hh, _⟩
  · cases h2
  · injection hv with hA hn hc
    injection hA with hA
    injection hA with hg _ _
    subst hg
    exact lt_of_block hh
theorem OwnT.slt {α : Type} {enc : α → List Value} {k : Nat} {T : TypeId} {w : World} {base g n c : Nat} {l : List α} (h : OwnT enc k T w base g n c l) (hk : ∀ x, (enc x).length = k) (hn : l.length = n) : SlT enc k T w (some ⟨g, 0, none⟩) n l := SlT.ofOwn hk h.2 hn

theorem splice_high {α : Type} {cs : List α} {o : Nat} {vs : List α} {m : Nat} (ho : o ≤ cs.length) (h : o + vs.length ≤ m) : (splice cs o vs)[m]? = cs[m]? := by
  unfold splice
  have hl : (cs.take o ++ vs).length = o + vs.length := by simp; omega
  rw [List.getElem?_append_right (by omega), hl, List.getElem?_drop]
  congr 1
  omega

theorem OwnT.blk {α : Type} {enc : α → List Value} {k : Nat} {T : TypeId} {w : World} {base g n c : Nat} {l : List α} (h : OwnT enc k T w base g n c l) :
    ∃ cs, Blk w g T cs ∧ n * k ≤ cs.length ∧ cs.take (n * k) = l.flatMap enc := by
  obtain ⟨h0, h1, h2⟩ := h
  rcases h2 with ⟨h2, _⟩ | ⟨g', cap, cur, hv, hbase, hh, hle, _, hsz, htk⟩
  · cases h2
  · injection hv with hA hn hc
    injection hA with hA
    injection hA with hg _ _
    subst hg
    refine ⟨cur.toList, by unfold Blk; rw [Array.toArray_toList]; exact hh, ?_, htk⟩
    have := Nat.mul_le_mul_right k hle
    simp [hsz]; exact this

/-- One element's cells are stored anew: the list with that element set. -/
theorem SlT.spliced {α : Type} {enc : α → List Value} {k : Nat} {T : TypeId} {w' : World} {g n : Nat} {l : List α} {cs : List Value} (hk : ∀ x, (enc x).length = k) (hcs : n * k ≤ cs.length) (htk : cs.take (n * k) = l.flatMap enc) (hl : l.length = n)
    {i0 r : Nat} {x y : α} {vs : List Value} (hx : l[i0]? = some x) (hy : enc y = splice (enc x) r vs) (hr : r + vs.length ≤ k) (hb : Blk w' g T (splice cs (i0 * k + r) vs)) :
    SlT enc k T w' (some ⟨g, 0, none⟩) n (l.set i0 y) := by
  have hi0 : i0 < n := by have := (List.getElem?_eq_some_iff.1 hx).1; omega
  have hik : i0 * k + k ≤ n * k := by
    have := Nat.mul_le_mul_right k (show i0 + 1 ≤ n by omega)
    rw [Nat.add_mul] at this; omega
  have hold : ∀ i z, l[i]? = some z → ∀ j v, (enc z)[j]? = some v → cs[i * k + j]? = some v := fun i z hz j v hv => by
    have := flat_get enc k hk l i z hz j v hv
    rw [← htk, List.getElem?_take] at this
    split at this
    · exact this
    · cases this
  refine ⟨by simpa using hl, fun _ => ⟨g, 0, _, _, rfl, hb, fun i z hz j v hv => ?_⟩⟩
  rw [List.getElem?_toArray, Nat.zero_add]
  have hj : j < k := by have := (List.getElem?_eq_some_iff.1 hv).1; rw [hk] at this; exact this
  rw [List.getElem?_set] at hz
  split at hz
  · rename_i he
    subst he
    split at hz
    · obtain rfl := Option.some.inj hz
      rw [hy] at hv
      have hex := hk x
      by_cases h1 : j < r
      · rw [splice_low (by omega) h1] at hv
        rw [splice_low (by omega) (by omega)]
        exact hold _ _ hx _ _ hv
      · by_cases h2 : j < r + vs.length
        · obtain ⟨m, rfl⟩ : ∃ m, j = r + m := ⟨j - r, by omega⟩
          rw [splice_mid (by omega) (by omega)] at hv
          rw [← Nat.add_assoc, splice_mid (by omega) (by omega)]
          exact hv
        · rw [splice_high (by omega) (by omega)] at hv
          rw [splice_high (by omega) (by omega)]
          exact hold _ _ hx _ _ hv
    · cases hz
  · rename_i hne
    have ho := hold _ _ hz _ _ hv
    rcases Nat.lt_or_ge i i0 with h | h
    · have : i * k + k ≤ i0 * k := by
        have := Nat.mul_le_mul_right k (show i + 1 ≤ i0 by omega)
        rw [Nat.add_mul] at this; omega
      rw [splice_low (by omega) (by omega)]
      exact ho
    · have : i0 * k + k ≤ i * k := by
        have := Nat.mul_le_mul_right k (show i0 + 1 ≤ i by omega)
        rw [Nat.add_mul] at this; omega
      rw [splice_high (by omega) (by omega)]
      exact ho

end Go.Proofs.YtcggbojhalbkjaaGreatDoor
