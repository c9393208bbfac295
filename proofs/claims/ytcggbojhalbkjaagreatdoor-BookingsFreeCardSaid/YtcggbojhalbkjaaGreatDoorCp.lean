/- The plain law of classes: the classes above one, loops. -/
import Derived.Test.YtcggbojhalbkjaaGreatDoorTl
namespace Go.Proofs.YtcggbojhalbkjaaGreatDoor

structure Cs where
  key : ByteArray
  up : ByteArray
def csEnc (x : Cs) : List Value := [.string x.key, .string x.up]
theorem cs_len (x : Cs) : (csEnc x).length = 2 := rfl
def CsOk (x : Cs) : Prop := x.key.size ≤ 1000000 ∧ x.up.size ≤ 1000000
def csP (k : ByteArray) (x : Cs) : Bool := x.key.toList == k.toList
/-- Where a class leads up to; nothing: nowhere. -/
def upOf (l : List Cs) (k : ByteArray) : ByteArray := if ixP (csP k) l 0 < 0 then ⟨#[]⟩ else match l[(ixP (csP k) l 0).toNat]? with
  | some x => x.up
  | none => ⟨#[]⟩
/-- At most n classes to which one comes. -/
def pathN (l : List Cs) : Nat → ByteArray → List ByteArray
  | 0, _ => []
  | n + 1, k => if emptyS (upOf l k) = true then [] else upOf l k :: pathN l n (upOf l k)
theorem ba_ext {a b : ByteArray} (h : a.toList = b.toList) : a = b := by
  rw [ByteArray.toList_eq, ByteArray.toList_eq] at h
  cases a; cases b
  simp only at h
  exact congrArg ByteArray.mk (Array.toList_inj.1 h)
theorem upOf_at {l : List Cs} {k : ByteArray} {i : Nat} {x : Cs} (h : ixP (csP k) l 0 = (i : Int)) (hx : l[i]? = some x) : upOf l k = x.up := by
  unfold upOf
  rw [if_neg (by omega), h, Int.toNat_natCast, hx]
theorem upOf_no {l : List Cs} {k : ByteArray} (h : ixP (csP k) l 0 < 0) : emptyS (upOf l k) = true := by
  unfold upOf
  rw [if_pos h]
  unfold emptyS; simp
theorem pathN_len (l : List Cs) : ∀ (n : Nat) (k : ByteArray), (pathN l n k).length ≤ n
  | 0, _ => Nat.le_refl _
  | n + 1, k => by
    unfold pathN
    split
    · exact Nat.zero_le _
    · have := pathN_len l n (upOf l k)
      simp only [List.length_cons]; omega
theorem pathN_take (l : List Cs) : ∀ (n : Nat) (k : ByteArray), pathN l n k = (pathN l (n + 1) k).take n
  | 0, _ => by simp [pathN]
  | n + 1, k => by
    rw [pathN, pathN]
    split
    · simp
    · rw [List.take_succ_cons, ← pathN_take l n]
theorem pathN_more (l : List Cs) (n : Nat) (k : ByteArray) : ∀ d, pathN l n k = (pathN l (n + d) k).take n
  | 0 => by rw [Nat.add_zero, List.take_of_length_le (pathN_len l n k)]
  | d + 1 => by
    rw [pathN_more l n k d, ← Nat.add_assoc, pathN_take l (n + d) k, List.take_take, Nat.min_eq_left (by omega)]
/-- From the i-th of those on. -/
theorem pathN_drop (l : List Cs) : ∀ (i n : Nat) (k u : ByteArray), (pathN l n k)[i]? = some u → (pathN l n k).drop (i + 1) = pathN l (n - (i + 1)) u
  | _, 0, _, _, h => by simp [pathN] at h
  | 0, n + 1, k, u, h => by
    rw [pathN] at h ⊢
    split at h
    · simp at h
    · rename_i hu
      rw [if_neg hu]
      simp only [List.getElem?_cons_zero, Option.some.injEq] at h
      subst h
      simp
  | i + 1, n + 1, k, u, h => by
    rw [pathN] at h ⊢
    split at h
    · simp at h
    · rename_i hu
      rw [if_neg hu]
      simp only [List.getElem?_cons_succ] at h
      rw [List.drop_succ_cons, pathN_drop l i n _ u h, Nat.add_sub_add_right]
/-- More than n numbers below n: two are the same. -/
theorem pigeon : ∀ (n : Nat) (l : List Nat), (∀ x ∈ l, x < n) → l.Pairwise (fun a b => a ≠ b) → l.length ≤ n
  | 0, l, h, _ => by
    cases l with
    | nil => exact Nat.le_refl _
    | cons x r => exact absurd (h x (List.mem_cons_self ..)) (Nat.not_lt_zero x)
  | n + 1, l, h, hp => by
    by_cases hn : n ∈ l
    · obtain ⟨a, b, rfl⟩ := List.append_of_mem hn
      rw [List.pairwise_append] at hp
      obtain ⟨h1, h2, h3⟩ := hp
      rw [List.pairwise_cons] at h2
      have := pigeon n (a ++ b) (fun x hx => by
        rcases List.mem_append.1 hx with hx | hx
        · have g1 := h x (List.mem_append_left _ hx)
          have g2 := h3 x hx n (List.mem_cons_self ..)
          omega
        · have g1 := h x (List.mem_append_right _ (List.mem_cons_of_mem _ hx))
          have g2 := h2.1 x hx
          omega) (List.pairwise_append.2 ⟨h1, h2.2, fun x hx y hy => h3 x hx y (List.mem_cons_of_mem _ hy)⟩)
      simp only [List.length_append, List.length_cons] at this ⊢
      omega
    · have := pigeon n l (fun x hx => by
        have g1 := h x hx
        have g2 : x ≠ n := fun e => hn (e ▸ hx)
        omega) hp
      omega
def Closed (l : List Cs) : Prop := ∀ x ∈ l, emptyS x.up = false → 0 ≤ ixP (csP x.up) l 0
theorem upOf_in {l : List Cs} (hc : Closed l) {k : ByteArray} (h : emptyS (upOf l k) = false) : 0 ≤ ixP (csP (upOf l k)) l 0 := by
  by_cases hk : ixP (csP k) l 0 < 0
  · rw [upOf_no hk] at h; cases h
  · obtain ⟨x, hx, _⟩ := ixP_get (p := csP k) (l := l) (by omega)
    have e : upOf l k = x.up := upOf_at (i := (ixP (csP k) l 0).toNat) (by omega) hx
    rw [e] at h ⊢
    exact hc x (List.mem_of_getElem? hx) h
theorem path_in {l : List Cs} (hc : Closed l) : ∀ (n : Nat) (k u : ByteArray), u ∈ pathN l n k → 0 ≤ ixP (csP u) l 0
  | 0, _, _, h => by simp [pathN] at h
  | n + 1, k, u, h => by
    rw [pathN] at h
    split at h
    · simp at h
    · rename_i hu
      rcases List.mem_cons.1 h with rfl | h
      · exact upOf_in hc (by simpa using hu)
      · exact path_in hc n _ u h
def inK (k : ByteArray) (l : List ByteArray) : Bool := l.any (fun y => k.toList == y.toList)
theorem inK_mem {k : ByteArray} {l : List ByteArray} : inK k l = true ↔ k ∈ l := by
  unfold inK
  rw [List.any_eq_true]
  constructor
  · rintro ⟨y, hy, h⟩
    rw [ba_ext (by simpa using h : k.toList = y.toList)]; exact hy
  · exact fun h => ⟨k, h, by simp⟩
def loopB (l : List Cs) (n : Nat) : Bool := l.any (fun x => inK x.key (pathN l n x.key))
theorem ix_key {l : List Cs} {u : ByteArray} (h : 0 ≤ ixP (csP u) l 0) : ∃ x, l[(ixP (csP u) l 0).toNat]? = some x ∧ x ∈ l ∧ x.key = u := by
  obtain ⟨x, hx, hp⟩ := ixP_get h
  exact ⟨x, hx, List.mem_of_getElem? hx, ba_ext (by simpa [csP] using hp)⟩
/-- Without loops a way has at most as many steps as there are classes. -/
theorem path_short {l : List Cs} (hc : Closed l) (hl : loopB l l.length = false) (k : ByteArray) : (pathN l (l.length + 1) k).length ≤ l.length := by
  have hno : ∀ x ∈ l, ¬ x.key ∈ pathN l l.length x.key := fun x hx hm => by
    have : loopB l l.length = true := List.any_eq_true.2 ⟨x, hx, inK_mem.2 hm⟩
    rw [hl] at this; cases this
  have hbound : ∀ x ∈ (pathN l (l.length + 1) k).map (fun u => (ixP (csP u) l 0).toNat), x < l.length := fun x hx => by
    obtain ⟨u, hu, rfl⟩ := List.mem_map.1 hx
    have h1 := path_in hc _ _ u hu
    have h2 := ixP_bound (p := csP u) l
    omega
  have hpair : ((pathN l (l.length + 1) k).map (fun u => (ixP (csP u) l 0).toNat)).Pairwise (fun a b => a ≠ b) := by
    rw [List.pairwise_map, List.pairwise_iff_getElem]
    intro i j hi hj hij he
    have hxi : (pathN l (l.length + 1) k)[i]? = some ((pathN l (l.length + 1) k)[i]) := List.getElem?_eq_getElem hi
    have hxj : (pathN l (l.length + 1) k)[j]? = some ((pathN l (l.length + 1) k)[j]) := List.getElem?_eq_getElem hj
    generalize (pathN l (l.length + 1) k)[i] = u at *
    generalize (pathN l (l.length + 1) k)[j] = v at *
    have hu0 := path_in hc _ _ u (List.mem_of_getElem? hxi)
    have hv0 := path_in hc _ _ v (List.mem_of_getElem? hxj)
    obtain ⟨x, hx, hxl, hxu⟩ := ix_key hu0
    obtain ⟨y, hy, _, hyv⟩ := ix_key hv0
    rw [he, hy] at hx
    injection hx with hx
    subst hx
    have huv : u = v := hxu.symm.trans hyv
    subst huv
    have hd := pathN_drop l i _ _ u hxi
    have hmem : u ∈ pathN l (l.length + 1 - (i + 1)) u := by
      rw [← hd]
      refine List.mem_of_getElem? (i := j - (i + 1)) ?_
      rw [List.getElem?_drop, show i + 1 + (j - (i + 1)) = j by omega]; exact hxj
    have hmore := pathN_more l (l.length + 1 - (i + 1)) u (i)
    rw [show l.length + 1 - (i + 1) + i = l.length by have := pathN_len l (l.length + 1) k; omega] at hmore
    rw [hmore] at hmem
    subst hxu
    exact hno y hxl (List.mem_of_mem_take hmem)
  have := pigeon _ _ hbound hpair
  rw [List.length_map] at this
  exact this
theorem path_same {l : List Cs} (hc : Closed l) (hl : loopB l l.length = false) (k : ByteArray) : pathN l (l.length + 1) k = pathN l l.length k := by
  rw [pathN_take l l.length k, List.take_of_length_le (path_short hc hl k)]
theorem loop_same {l : List Cs} (hc : Closed l) : loopB l (l.length + 1) = loopB l l.length := by
  cases hl : loopB l l.length with
  | false =>
    unfold loopB at hl ⊢
    rw [← hl]
    congr 1
    funext x
    rw [path_same hc (by unfold loopB; exact hl)]
  | true =>
    unfold loopB at hl ⊢
    rw [List.any_eq_true] at hl ⊢
    obtain ⟨x, hx, h⟩ := hl
    refine ⟨x, hx, ?_⟩
    rw [inK_mem] at h ⊢
    rw [pathN_take l l.length x.key] at h
    exact List.mem_of_mem_take h
def leCs (p : Option Cs) (b : Cs) : Bool := match p with
  | none => false
  | some q => leB b.key q.key
def csE (p : Option Cs) (b : Cs) : Int := if !keyB b.key then 5 else if leCs p b then 7 else if !emptyS b.up && !keyB b.up then 5 else 0
def upB (l : List Cs) (x : Cs) : Bool := !emptyS x.up && decide (ixP (csP x.up) l 0 < 0)
/-- The error of classes. -/
def classesE (l : List Cs) : Int := if 30 < l.length then 2 else if scanE csE none l ≠ 0 then scanE csE none l else if l.any (upB l) = true then 8 else if loopB l l.length = true then 14 else 0
def prevCs (l : List Cs) (k : Nat) : ByteArray := match prevOf l k with
  | none => ⟨#[]⟩
  | some q => q.key
theorem prevCs_succ {l : List Cs} {k : Nat} {x : Cs} (h : l[k]? = some x) : prevCs l (k + 1) = x.key := by
  unfold prevCs prevOf; rw [if_neg (by omega), Nat.add_sub_cancel, h]
theorem closed_of {l : List Cs} (h : l.any (upB l) = false) : Closed l := fun x hx he => by
  rw [List.any_eq_false] at h
  have := h x hx
  unfold upB at this
  rw [he] at this
  simp at this
  omega
theorem classesE_ok {l : List Cs} (h : classesE l = 0) : l.length ≤ 30 ∧ Closed l ∧ loopB l l.length = false := by
  unfold classesE at h
  split at h
  · cases h
  · split at h
    · rename_i h2; exact absurd h h2
    · split at h
      · cases h
      · rename_i h3
        split at h
        · cases h
        · rename_i h4
          exact ⟨by omega, closed_of (by simpa using h3), by simpa using h4⟩

end Go.Proofs.YtcggbojhalbkjaaGreatDoor
