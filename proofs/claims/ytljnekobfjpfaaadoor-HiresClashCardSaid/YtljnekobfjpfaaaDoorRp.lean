/- An element of an owned row is stored anew; the walk of what ExchangeOf hands to changed. -/
import Derived.Test.YtljnekobfjpfaaaDoorRo
namespace Go.Proofs.YtljnekobfjpfaaaDoor
open Go.RowKit

theorem splice_app_right {α : Type} (a b : List α) (o : Nat) (vs : List α) : splice (a ++ b) (a.length + o) vs = a ++ splice b o vs := by
  simp [splice, List.take_append, List.drop_append, Nat.add_assoc, List.take_of_length_le, List.drop_of_length_le]
theorem splice_app_left {α : Type} (a b : List α) (o : Nat) (vs : List α) (h : o + vs.length ≤ a.length) : splice (a ++ b) o vs = splice a o vs ++ b := by
  have h1 : o - a.length = 0 := by omega
  have h2 : o + vs.length - a.length = 0 := by omega
  simp [splice, List.take_append, List.drop_append, h1, h2]
theorem flat_set {α : Type} (enc : α → List Value) (k : Nat) (hk : ∀ x, (enc x).length = k) {x y : α} {r : Nat} {vs : List Value} (hy : enc y = splice (enc x) r vs) (hr : r + vs.length ≤ k) :
    ∀ (l : List α) (i : Nat), l[i]? = some x → splice (l.flatMap enc) (i * k + r) vs = (l.set i y).flatMap enc
  | [], i, h => by simp at h
  | z :: t, 0, h => by
    simp at h; subst h
    rw [List.flatMap_cons, Nat.zero_mul, Nat.zero_add, splice_app_left _ _ _ _ (by rw [hk]; exact hr), ← hy, List.set_cons_zero, List.flatMap_cons]
  | z :: t, i + 1, h => by
    have ih := flat_set enc k hk hy hr t i (by simpa using h)
    rw [List.flatMap_cons, show (i + 1) * k + r = (enc z).length + (i * k + r) by rw [hk, Nat.add_mul]; omega, splice_app_right, ih, List.set_cons_succ, List.flatMap_cons]
theorem take_splice {α : Type} (cs : List α) (o m : Nat) (vs : List α) (h : o + vs.length ≤ m) (hm : m ≤ cs.length) : (splice cs o vs).take m = splice (cs.take m) o vs := by
  obtain ⟨a, b, rfl, hl⟩ : ∃ a b, cs = a ++ b ∧ a.length = m := ⟨cs.take m, cs.drop m, (List.take_append_drop m cs).symm, by simp; omega⟩
  have h2 : (splice a o vs).length = m := by rw [splice_length _ _ _ (by rw [hl]; exact h), hl]
  rw [splice_app_left _ _ _ _ (by rw [hl]; exact h), List.take_append_of_le_length (by omega), List.take_of_length_le (by omega), List.take_append_of_le_length (by omega), List.take_of_length_le (by omega)]

/-- One element's cells of an owned row are stored anew: it is owned still, with that element set. -/
theorem OwnT.spliced {α : Type} {enc : α → List Value} {k : Nat} {T : TypeId} {w w' : World} {base g n c : Nat} {l : List α} {cs : List Value} (h : OwnT enc k T w base g n c l) (hk : ∀ x, (enc x).length = k) (hcs : Blk w g T cs)
    {i0 r : Nat} {x y : α} {vs : List Value} (hx : l[i0]? = some x) (hy : enc y = splice (enc x) r vs) (hr : r + vs.length ≤ k) (hn : l.length = n) (hb : Blk w' g T (splice cs (i0 * k + r) vs)) : OwnT enc k T w' base g n c (l.set i0 y) := by
  obtain ⟨h0, h1, h2⟩ := h
  refine ⟨h0, by rw [flat_len enc k hk, List.length_set, hn], ?_⟩
  have hi0 : i0 < n := by have := (List.getElem?_eq_some_iff.1 hx).1; omega
  have hik : i0 * k + k ≤ n * k := by
    have := Nat.mul_le_mul_right k (show i0 + 1 ≤ n by omega)
    rw [Nat.add_mul] at this; omega
  rcases h2 with ⟨h2, _⟩ | ⟨g', cap, cur, hv, hbase, hh, hle2, hcap, hsz, htk⟩
  · cases h2
  · have hv' := hv
    injection hv with hA hn' hc'
    injection hA with hA
    injection hA with hg _ _
    subst hg
    unfold Blk at hcs
    rw [hcs] at hh
    injection hh with hh
    injection hh with hh _ _
    have hcur : cur.toList = cs := by rw [← hh]
    have hlen : n * k ≤ cs.length := by
      have := Nat.mul_le_mul_right k hle2
      rw [← hcur, Array.length_toList]; simp [hsz]; omega
    refine .inr ⟨g, cap, (splice cs (i0 * k + r) vs).toArray, hv', hbase, hb, hle2, hcap, ?_, ?_⟩
    · have : (splice cs (i0 * k + r) vs).length = cs.length := splice_length _ _ _ (by omega)
      rw [List.size_toArray, this, ← hcur, Array.length_toList]; exact hsz
    · show ((splice cs (i0 * k + r) vs).toArray).toList.take (n * k) = _
      rw [hcur] at htk
      rw [List.toList_toArray, take_splice _ _ _ _ (by omega) hlen, htk]
      exact flat_set enc k hk hy hr l i0 hx

end Go.Proofs.YtljnekobfjpfaaaDoor
