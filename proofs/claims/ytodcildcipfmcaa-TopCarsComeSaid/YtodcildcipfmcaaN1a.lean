/- Several texts as one: Spec Dp Tp Base Ga Wa Wkey Tl Cp Sh Dl Hc Rk Fl Fv Cells Lst Sx So Sc Sd Own Se Run Sg Si Zk Sj Su Sw Mp Md Ev Sz Ty Pv Tw Sv Aw -/
import GoSem.Op.String
import Derived.WalkKit
import Derived.WalkSpells
import Derived.WalkLawsBesides
import Derived.Deep.Draws
import Derived.Lib.Hide
import Derived.Deep.MidRow
import Derived.Laws.CopyRow
import Derived.Deep.QuietTactic
import Derived.BigQuiet
import Derived.Deep.RegionWith
import Derived.Deep.RegionLaw
import Derived.Deep.AppendLies
import Derived.Deep.RegionHeld3
import Derived.Deep.LoopGhost
import Derived.Deep.DeepCutAuto
import Derived.StillTailTactics
import Derived.Deep.DeepMust
import Derived.Deep.DeepFit
import Derived.Deep.Light
import Derived.Lib.Strings
import Derived.Maps.AppendAt
import Derived.Test.YtodcildcipfmcaaChecked
import Derived.Test.YtodcildcipfmcaaProg
import Derived.Ground.NamesProg
import Derived.Shelf.Strings.SlTrimAscii
import Derived.Lib.SlTrimSet
import Derived.Laws.Tables
import Derived.IntWalk
import Derived.Laws.Small
import Derived.Laws.ResultCell
import Derived.Laws.Rows
import Derived.OwnWalk
import Derived.LoopN
import Derived.Laws.StructEq
import Derived.Deep.OwnRows
import Derived.Maps.Own
import Derived.MapKept
import Derived.Laws.AppendOwnNone
set_option maxRecDepth 100000
set_option maxHeartbeats 4000000
namespace Go.Proofs.Ytodcildcipfmcaa
def inB (n lo hi : Int) : Bool := decide (lo ≤ n) && decide (n ≤ hi)
def whenE (b : Bool) (e : Int) : Int := bif b then e else 0
def firstE : List Int → Int
  | [] => 0
  | e :: r => if e = 0 then firstE r else e
theorem inB_iff {n lo hi : Int} : inB n lo hi = true ↔ lo ≤ n ∧ n ≤ hi := by simp [inB]
/-- The letters of a key: a small letter; the others also digits, - and _. -/
def smallB (c : UInt8) : Bool := decide (97 ≤ c.toNat) && decide (c.toNat ≤ 122)
def keyCharB (c : UInt8) : Bool := smallB c || (decide (48 ≤ c.toNat) && decide (c.toNat ≤ 57)) || decide (c.toNat = 45) || decide (c.toNat = 95)
def keyRestB (l : List UInt8) : Bool := l.all keyCharB
def keyLB : List UInt8 → Bool
  | [] => false
  | c :: r => smallB c && keyRestB r && decide (r.length < 40)
def keyB (s : ByteArray) : Bool := keyLB s.data.toList
/-- A check over a list, with the element before: the first error. -/
def scanE {α : Type} (f : Option α → α → Int) : Option α → List α → Int
  | _, [] => 0
  | p, x :: r => if f p x = 0 then scanE f (some x) r else f p x
def prevOf {α : Type} (l : List α) (k : Nat) : Option α := if k = 0 then none else l[k - 1]?
theorem scanE_at {α : Type} (f : Option α → α → Int) (l : List α) (k : Nat) (x : α) (h : l[k]? = some x) :
    scanE f (prevOf l k) (l.drop k) = if f (prevOf l k) x = 0 then scanE f (prevOf l (k + 1)) (l.drop (k + 1)) else f (prevOf l k) x := by
  obtain ⟨hk, rfl⟩ := List.getElem?_eq_some_iff.1 h
  rw [List.drop_eq_getElem_cons hk]
  simp [scanE, prevOf, hk]
  rfl
theorem scanE_end {α : Type} (f : Option α → α → Int) (p : Option α) (l : List α) (k : Nat) (h : l.length ≤ k) : scanE f p (l.drop k) = 0 := by
  rw [List.drop_eq_nil_of_le h]; rfl
/-- a <= b on strings, as the model says it. -/
def leB (a b : ByteArray) : Bool := Go.Op.bytesLess a.toList b.toList || a.toList == b.toList
/-- A station: its key, and from and to of seven days. -/
structure St where
  key : ByteArray
  hs : List Int
def frAt (hs : List Int) (i : Nat) : Int := hs.getD (i * 2) 0
def toAt (hs : List Int) (i : Nat) : Int := hs.getD (i * 2 + 1) 0
def winBad (f t : Int) : Bool := !inB f 0 t || decide (1440 < t)
def hoursBad (hs : List Int) : Bool := (List.range 7).any fun i => winBad (frAt hs i) (toAt hs i)
def prevB {α : Type} (p : Option α) (f : α → Bool) : Bool :=
  match p with
  | none => false
  | some q => f q
def stationE (p : Option St) (s : St) : Int :=
  if keyB s.key = false then 5 else
  if prevB p (fun q => leB s.key q.key) then 7 else
  if hoursBad s.hs then 1 else 0
def stationsE (l : List St) : Int := if 50 < l.length then 2 else scanE stationE none l
def momentE (n : Int) : Int := whenE (!inB n 0 5761439) 1
theorem momentE_ok {n : Int} (h : momentE n = 0) : 0 ≤ n ∧ n ≤ 5761439 := by
  unfold momentE whenE at h
  cases hb : inB n 0 5761439
  · simp [hb] at h
  · exact inB_iff.1 hb
theorem firstE_two {a b : Int} (h : firstE [a, b] = 0) : a = 0 ∧ b = 0 := by
  simp only [firstE] at h
  split at h
  · split at h
    · exact ⟨‹_›, ‹_›⟩
    · exact absurd h ‹_›
  · exact absurd h ‹_›
end Go.Proofs.Ytodcildcipfmcaa
namespace Go.Proofs.Ytodcildcipfmcaa
theorem bl_irrefl : ∀ (x : List UInt8), Go.Op.bytesLess x x = false
  | [] => rfl
  | a :: x => by
    unfold Go.Op.bytesLess
    rw [bl_irrefl x]
    have h : ¬ a < a := fun h => absurd (UInt8.lt_iff_toNat_lt.1 h) (by omega)
    simp [h]
theorem bl_cons {a b : UInt8} {x y : List UInt8} : Go.Op.bytesLess (a :: x) (b :: y) = true ↔ a.toNat < b.toNat ∨ (a = b ∧ Go.Op.bytesLess x y = true) := by
  rw [Go.Op.bytesLess]
  simp [UInt8.lt_iff_toNat_lt]
theorem bl_trans : ∀ {x y z : List UInt8}, Go.Op.bytesLess x y = true → Go.Op.bytesLess y z = true → Go.Op.bytesLess x z = true
  | _, [], _, h, _ => by cases ‹List UInt8› <;> simp [Go.Op.bytesLess] at h
  | _, _ :: _, [], _, h => by simp [Go.Op.bytesLess] at h
  | [], _ :: _, _ :: _, _, _ => rfl
  | a :: x, b :: y, c :: z, h, g => by
    rw [bl_cons] at h g ⊢
    rcases h with h | ⟨rfl, h⟩ <;> rcases g with g | ⟨rfl, g⟩
    · left; omega
    · left; exact h
    · left; exact g
    · right; exact ⟨rfl, bl_trans h g⟩
theorem bl_tri : ∀ {x y : List UInt8}, Go.Op.bytesLess x y = false → Go.Op.bytesLess y x = false → x = y
  | [], [], _, _ => rfl
  | [], _ :: _, h, _ => by simp [Go.Op.bytesLess] at h
  | _ :: _, [], _, h => by simp [Go.Op.bytesLess] at h
  | a :: x, b :: y, h, g => by
    have h1 : ¬ (a.toNat < b.toNat ∨ (a = b ∧ Go.Op.bytesLess x y = true)) := fun e => by rw [bl_cons.2 e] at h; cases h
    have g1 : ¬ (b.toNat < a.toNat ∨ (b = a ∧ Go.Op.bytesLess y x = true)) := fun e => by rw [bl_cons.2 e] at g; cases g
    have e : a = b := by
      have : ¬ a.toNat < b.toNat := fun e => h1 (.inl e)
      have : ¬ b.toNat < a.toNat := fun e => g1 (.inl e)
      exact UInt8.toNat_inj.1 (by omega)
    subst e
    have h2 : Go.Op.bytesLess x y = false := by
      cases hb : Go.Op.bytesLess x y
      · rfl
      · exact absurd (.inr ⟨rfl, hb⟩) h1
    have g2 : Go.Op.bytesLess y x = false := by
      cases hb : Go.Op.bytesLess y x
      · rfl
      · exact absurd (.inr ⟨rfl, hb⟩) g1
    rw [bl_tri h2 g2]
theorem bl_ne {x y : List UInt8} (h : Go.Op.bytesLess x y = true) : x ≠ y := fun e => by subst e; rw [bl_irrefl] at h; cases h
def ixP {α : Type} (p : α → Bool) : List α → Nat → Int
  | [], _ => -1
  | x :: r, k => if p x = true then (k : Int) else ixP p r (k + 1)
theorem ixP_at {α : Type} {p : α → Bool} {l : List α} {k : Nat} {x : α} (h : l[k]? = some x) : ixP p (l.drop k) k = if p x = true then (k : Int) else ixP p (l.drop (k + 1)) (k + 1) := by
  obtain ⟨hk, rfl⟩ := List.getElem?_eq_some_iff.1 h
  rw [List.drop_eq_getElem_cons hk]; rfl
theorem ixP_spec {α : Type} {p : α → Bool} : ∀ (l : List α) (k : Nat), (ixP p l k = -1 ∧ ∀ x ∈ l, p x = false) ∨ ∃ j x, ixP p l k = ((k + j : Nat) : Int) ∧ l[j]? = some x ∧ p x = true ∧ ∀ i, i < j → ∀ y, l[i]? = some y → p y = false
  | [], k => .inl ⟨rfl, fun _ h => by cases h⟩
  | x :: r, k => by
    unfold ixP
    cases hp : p x
    · rw [if_neg (by simp)]
      rcases ixP_spec (p := p) r (k + 1) with ⟨h1, h2⟩ | ⟨j, y, h1, h2, h3, h4⟩
      · refine .inl ⟨h1, fun y hy => ?_⟩
        rcases List.mem_cons.1 hy with rfl | hy
        · exact hp
        · exact h2 y hy
      · refine .inr ⟨j + 1, y, by rw [h1]; omega, by simpa using h2, h3, fun i hi z hz => ?_⟩
        cases i with
        | zero => simp at hz; rw [← hz]; exact hp
        | succ i => exact h4 i (by omega) z (by simpa using hz)
    · rw [if_pos rfl]
      exact .inr ⟨0, x, by omega, rfl, hp, fun i hi => by omega⟩
theorem ixP_bound {α : Type} {p : α → Bool} (l : List α) : -1 ≤ ixP p l 0 ∧ ixP p l 0 < (l.length : Int) := by
  rcases ixP_spec (p := p) l 0 with ⟨h, _⟩ | ⟨j, x, h, hj, _⟩
  · rw [h]; omega
  · obtain ⟨hk, _⟩ := List.getElem?_eq_some_iff.1 hj
    rw [h]; omega
theorem ixP_get {α : Type} {p : α → Bool} {l : List α} (h : 0 ≤ ixP p l 0) : ∃ x, l[(ixP p l 0).toNat]? = some x ∧ p x = true := by
  rcases ixP_spec (p := p) l 0 with ⟨h1, _⟩ | ⟨j, x, h1, hj, hp, _⟩
  · omega
  · rw [h1]; exact ⟨x, by simpa using hj, hp⟩
def cmpS (a b : ByteArray) : Int := if Go.Op.bytesLess a.toList b.toList = true then -1 else if (Go.Op.bytesLess a.toList b.toList || a.toList == b.toList) = false then 1 else 0
def cmpI (a b : Int) : Int := if a < b then -1 else if b < a then 1 else 0
theorem cmpS_zero {a b : ByteArray} : cmpS a b = 0 ↔ (Go.Op.bytesLess a.toList b.toList = false ∧ a.toList = b.toList) := by
  unfold cmpS
  cases h : Go.Op.bytesLess a.toList b.toList
  · by_cases e : a.toList = b.toList
    · simp [e]
    · have : (a.toList == b.toList) = false := by simpa using e
      simp [this, e]
  · simp
theorem firstE_pair (a b : Int) : firstE [a, b] = if a = 0 then b else a := by
  simp only [firstE]
  by_cases h : a = 0
  · rw [if_pos h, if_pos h]
    by_cases h2 : b = 0
    · rw [if_pos h2, h2]
    · rw [if_neg h2]
  · rw [if_neg h, if_neg h]
end Go.Proofs.Ytodcildcipfmcaa
namespace Go.Proofs.Ytodcildcipfmcaa
open Go.RowKit
/-- A stream of numbers: block sb is the struct; its list lies below B; it has handed out at most m numbers. -/
structure Strm (TS : TypeId) (w : World) (B sb m : Nat) : Prop where
  base : B ≤ sb
  pos : ∃ (A : Option Addr) (n c : Nat) (k : Int), w.heap[sb]? = some (.cells #[.slice A n c, .int .i64 k] TS (0, 0)) ∧ 0 ≤ k ∧ k ≤ m ∧ n ≤ 9223372036854775807 ∧
    (0 < n → ∃ b off, A = some ⟨b, off, none⟩ ∧ b < B ∧ ∀ i, i < n → ∃ z : Int, -9223372036854775808 ≤ z ∧ z ≤ 9223372036854775807 ∧ w.cell? ⟨b, off + i, none⟩ = some (.int .i64 z))
theorem Strm.lt {TS : TypeId} {w : World} {B sb m : Nat} (h : Strm TS w B sb m) : sb < w.heap.size := by
  obtain ⟨_, _, _, _, hh, _⟩ := h.pos
  rcases Nat.lt_or_ge sb w.heap.size with hl | hg
  · exact hl
  · rw [Array.getElem?_eq_none hg] at hh; cases hh
theorem Strm.kept {TS : TypeId} {w w' : World} {B sb m : Nat} (h : Strm TS w B sb m) (hb : ∀ k, k < B → w'.heap[k]? = w.heap[k]?) (hs : w'.heap[sb]? = w.heap[sb]?) : Strm TS w' B sb m := by
  refine ⟨h.base, ?_⟩
  obtain ⟨A, n, c, k, hh, h0, h1, h2, h3⟩ := h.pos
  refine ⟨A, n, c, k, hs.trans hh, h0, h1, h2, fun hn => ?_⟩
  obtain ⟨b, off, e, hbB, hc⟩ := h3 hn
  refine ⟨b, off, e, hbB, fun i hi => ?_⟩
  obtain ⟨z, z1, z2, hz⟩ := hc i hi
  exact ⟨z, z1, z2, (World.cell?_of_block (hb b hbB)).trans hz⟩
theorem Strm.more {TS : TypeId} {w : World} {B sb m m' : Nat} (h : Strm TS w B sb m) (hm : m ≤ m') : Strm TS w B sb m' := by
  refine ⟨h.base, ?_⟩
  obtain ⟨A, n, c, k, hh, h0, h1, h2, h3⟩ := h.pos
  exact ⟨A, n, c, k, hh, h0, by omega, h2, h3⟩
/-- A change that leaves all old blocks but one row. -/
theorem grow_trans {a b c : World} {row : Option Nat} (h : a.grownBy b row) (k : b.grownBy c row) : a.grownBy c row :=
  ⟨k.os.trans h.os, k.tape.trans h.tape, k.output.trans h.output, Nat.le_trans h.size k.size, fun i hi hne => (k.block i (Nat.lt_of_lt_of_le hi h.size) hne).trans (h.block i hi hne)⟩
theorem grow_weak {a b : World} {row : Option Nat} (h : a.grownBy b none) : a.grownBy b row := ⟨h.os, h.tape, h.output, h.size, fun i hi _ => h.block i hi (by simp)⟩
theorem below_of_grow {a b : World} (h : a.grownBy b none) : Below a.heap.size a b := ⟨h.os, h.tape, h.output, h.size, fun i hi => h.block i hi (by simp)⟩
theorem grow_drew {a w : World} {row : Option Nat} (h : a.grownBy w row) : a.grownBy w.drew row := ⟨h.os, h.tape, h.output, h.size, h.block⟩
theorem grow_drewN {a w : World} {row : Option Nat} (h : a.grownBy w row) (n : Nat) : a.grownBy (w.drewN n) row := ⟨h.os, h.tape, h.output, h.size, h.block⟩
theorem grow_alloc {a w : World} {row : Option Nat} (h : a.grownBy w row) (o : Obj) : a.grownBy (w.alloc o) row :=
  ⟨h.os, h.tape, h.output, Nat.le_trans h.size (by simp), fun i hi hne => (Below.heap_alloc w o i (Nat.lt_of_lt_of_le hi h.size)).trans (h.block i hi hne)⟩
theorem grow_setCell {a w : World} {row : Option Nat} (h : a.grownBy w row) {p : Addr} (hp : row = some p.block ∨ a.heap.size ≤ p.block) (u : Value) : a.grownBy (w.setCell p u) row :=
  ⟨h.os, h.tape, h.output, by simpa [World.setCell] using h.size, fun i hi hne => (Below.heap_setCell w p u i (by
    rintro rfl
    rcases hp with hp | hp
    · exact hne hp.symm
    · omega)).trans (h.block i hi hne)⟩
/-- Behind an append or a make onto a row of the call's own. -/
theorem grow_own {a w w' : World} {row r : Option Nat} (h : a.grownBy w row) (hg : w.grownBy w' r) (hr : ∀ k, r = some k → a.heap.size ≤ k) : a.grownBy w' row :=
  ⟨hg.os.trans h.os, hg.tape.trans h.tape, hg.output.trans h.output, Nat.le_trans h.size hg.size, fun i hi hne => (hg.block i (Nat.lt_of_lt_of_le hi h.size) (fun e => by have := hr i e.symm; omega)).trans (h.block i hi hne)⟩
theorem Strm.drewN {TS : TypeId} {w : World} {B sb m : Nat} (h : Strm TS w B sb m) (n : Nat) : Strm TS (w.drewN n) B sb m := h.kept (fun _ _ => rfl) rfl
theorem Strm.alloc {TS : TypeId} {w : World} {B sb m : Nat} (h : Strm TS w B sb m) (o : Obj) : Strm TS (w.alloc o) B sb m :=
  h.kept (fun k hk => Below.heap_alloc w o k (by have := h.lt; have := h.base; omega)) (Below.heap_alloc w o sb h.lt)
theorem Strm.setCell {TS : TypeId} {w : World} {B sb m : Nat} (h : Strm TS w B sb m) {p : Addr} (hp : sb < p.block) (u : Value) : Strm TS (w.setCell p u) B sb m :=
  h.kept (fun k hk => Below.heap_setCell w p u k (by have := h.base; omega)) (Below.heap_setCell w p u sb (by omega))
theorem Strm.grown {TS : TypeId} {w w' : World} {B sb m : Nat} (h : Strm TS w B sb m) {r : Option Nat} (hg : w.grownBy w' r) (hr : ∀ k, r = some k → sb < k) : Strm TS w' B sb m :=
  h.kept (fun k hk => hg.block k (by have := h.lt; have := h.base; omega) (fun e => by have := hr k e.symm; have := h.base; omega)) (hg.block sb h.lt (fun e => by have := hr sb e.symm; omega))
/-- The next number has been handed out. -/
theorem Strm.step {TS : TypeId} {w : World} {B sb m : Nat} {A : Option Addr} {n c : Nat} {k : Int} (h : Strm TS w B sb m) (hh : w.heap[sb]? = some (.cells #[.slice A n c, .int .i64 k] TS (0, 0))) (h0 : 0 ≤ k) (h1 : k ≤ m) :
    Strm TS (w.setCell ⟨sb, 1, none⟩ (.int .i64 (k + 1))) B sb (m + 1) := by
  refine ⟨h.base, ?_⟩
  obtain ⟨A', n', c', k', hh', _, _, h2, h3⟩ := h.pos
  rw [hh] at hh'
  simp only [Option.some.injEq, Obj.cells.injEq, Array.mk.injEq, List.cons.injEq, Value.slice.injEq] at hh'
  obtain ⟨⟨⟨rfl, rfl, rfl⟩, _⟩, _⟩ := hh'
  refine ⟨A, n, c, k + 1, ?_, by omega, by omega, h2, fun hn => ?_⟩
  · simp [World.setCell, Array.getElem?_modify, hh]
  · obtain ⟨b, off, e, hbB, hc⟩ := h3 hn
    refine ⟨b, off, e, hbB, fun i hi => ?_⟩
    obtain ⟨z, z1, z2, hz⟩ := hc i hi
    exact ⟨z, z1, z2, (World.cell?_of_block (Below.heap_setCell w _ _ b (by have := h.base; simp; omega))).trans hz⟩
/-- A number of which P holds, and the stream goes on by d. -/
def GotInt (TS : TypeId) (w : World) (B sb m : Nat) (P : Int → Prop) (e : Ending) (w' : World) : Prop :=
  ∃ v : Int, P v ∧ e = .returned (.int .i64 v) ∧ Strm TS w' B sb m ∧ w.grownBy w' (some sb)
/-- A Boolean, and the stream goes on. -/
def GotBool (TS : TypeId) (w : World) (B sb m : Nat) (e : Ending) (w' : World) : Prop :=
  ∃ v : Bool, e = .returned (.bool v) ∧ Strm TS w' B sb m ∧ w.grownBy w' (some sb)
/-- A string of which P holds, and the stream goes on. -/
def GotStr (TS : TypeId) (w : World) (B sb m : Nat) (P : ByteArray → Prop) (e : Ending) (w' : World) : Prop :=
  ∃ v : ByteArray, P v ∧ e = .returned (.string v) ∧ Strm TS w' B sb m ∧ w.grownBy w' (some sb)
theorem ret_int {k : IntKind} {a b : Int} (h : a = b) : Ending.returned (.int k a) = .returned (.int k b) := by rw [h]
theorem ret_bool {a b : Bool} (h : a = b) : Ending.returned (.bool a) = .returned (.bool b) := by rw [h]
theorem ret_be {b b' : Bool} {x x' : Int} (h : b = b') (k : x = x') : Ending.returned (.tuple #[.bool b, .int .i64 x]) = .returned (.tuple #[.bool b', .int .i64 x']) := by rw [h, k]
/-- A block that holds just these cells. -/
def Blk (w : World) (g : Nat) (t : TypeId) (cs : List Value) : Prop := w.heap[g]? = some (.cells cs.toArray t (0, 0))
section
variable {w w' : World} {g : Nat} {t : TypeId} {cs : List Value}
theorem Blk.lt (h : Blk w g t cs) : g < w.heap.size := by
  rcases Nat.lt_or_ge g w.heap.size with hlt | hge
  · exact hlt
  · unfold Blk at h; rw [Array.getElem?_eq_none hge] at h; cases h
theorem Blk.cell (h : Blk w g t cs) (i : Nat) : w.cell? ⟨g, i, none⟩ = cs[i]? := by rw [cell_of_row w g i _ t (0, 0) h]; simp
theorem Blk.cell_of (h : Blk w g t cs) {i : Nat} {v : Value} (hv : cs[i]? = some v) : w.cell? ⟨g, i, none⟩ = some v := (h.cell i).trans hv
theorem Blk.frozen (h : Blk w g t cs) (i : Nat) : w.frozen? ⟨g, i, none⟩ = false := by
  unfold Blk at h
  simp [World.frozen?, h]
theorem Blk.new (w : World) (t : TypeId) (cs : List Value) : Blk (w.alloc (.cells cs.toArray t)) w.heap.size t cs := heap_alloc_new w _
theorem Blk.at_ (w : World) {g : Nat} (hg : w.heap.size = g) (t : TypeId) (cs : List Value) : Blk (w.alloc (.cells cs.toArray t)) g t cs := by subst hg; exact heap_alloc_new w _
theorem Blk.drew (h : Blk w g t cs) : Blk w.drew g t cs := h
theorem Blk.drewN (h : Blk w g t cs) (n : Nat) : Blk (w.drewN n) g t cs := h
theorem Blk.alloc (h : Blk w g t cs) (o : Obj) : Blk (w.alloc o) g t cs := (Below.heap_alloc w o g h.lt).trans h
theorem Blk.set_ (h : Blk w g t cs) (i : Nat) (u : Value) : Blk (w.setCell ⟨g, i, none⟩ u) g t (cs.set i u) := by
  unfold Blk at h ⊢
  simp [World.setCell, Array.getElem?_modify, h]
theorem Blk.far (h : Blk w g t cs) {p : Addr} (hp : g ≠ p.block) (u : Value) : Blk (w.setCell p u) g t cs := (Below.heap_setCell w p u g hp).trans h
theorem Blk.kept (h : Blk w g t cs) (hb : w'.heap[g]? = w.heap[g]?) : Blk w' g t cs := hb.trans h
theorem Blk.grown {row : Option Nat} (h : Blk w g t cs) (hb : w.grownBy w' row) (hg : some g ≠ row) : Blk w' g t cs := (hb.block g h.lt hg).trans h
end
/-- What a store of the cells vs from place o on makes of a row. -/
def splice {α : Type} (cs : List α) (o : Nat) (vs : List α) : List α := cs.take o ++ vs ++ cs.drop (o + vs.length)
theorem splice_length {α : Type} (cs : List α) (o : Nat) (vs : List α) (h : o + vs.length ≤ cs.length) : (splice cs o vs).length = cs.length := by
  simp [splice]; omega
theorem ints_one (l : List Int) : ∀ v ∈ l.map (Value.int .i64), v.oneCell' = true := by
  intro v hv
  simp at hv
  obtain ⟨_, _, rfl⟩ := hv
  rfl
section
variable {P : Program}
/-- A struct or an array is stored into a known block: the new world is any one that holds the new row, all else as it was. -/
theorem wpList_store_blk {ops : Array Oper} {rest : List Oper} {op : Oper} {a : Act} {w : World} {Q : Exit → Act → World → Prop} (hgd : op.guard = none) (ty : TypeId) (x y : Operand) (ho : op.op = .store ty x y)
    (g off : Nat) (t : TypeId) (cs vs : List Value) (hb : Blk w g t cs) (hx : a.eval x = .pointer (some ⟨g, off, none⟩)) (hy : a.eval y = .agg vs.toArray)
    (n : Nat) (hi : (P.info? ty).map (·.size) = some n) (hn : vs.length = n) (hfit : off + n ≤ cs.length) (h1 : ∀ v ∈ vs, v.oneCell' = true)
    (h : ∀ w', Blk w' g t (splice cs off vs) → w.grownBy w' (some g) → wpList P ops Q rest (a.put op.dst undef) w') : wpList P ops Q (op :: rest) a w := by
  subst hn
  refine wpList_plain hgd fun K hK => ?_
  have hr := run_storeCells_at (P := P) g off t vs 0 cs.toArray w hb (by simpa using hfit) h1
  unfold Oper.wp execOp
  cases hq : P.info? ty with
  | none => simp [hq] at hi
  | some i =>
    have hs : i.size = vs.length := by simpa [hq] using hi
    simp only [ho, hx, hy, Instr.storeAt, Instr.sureAddr, Sem.run_bind, Sem.run_pure, Result.andThen_ok, storeVar, sizeOf, typeInfo, Value.cells, List.size_toArray]
    simp only [Nat.add_zero] at hr
    simp [hr, hq, hs]
    refine hK _ _ (h _ ?_ ?_)
    · unfold Blk
      rw [setRow_heap w g cs.toArray _ t (0, 0) hb]
      simp [splice]
    · refine ⟨rfl, rfl, rfl, by simp [World.setRow], fun k _ hne => ?_⟩
      simp only [World.setRow, Array.getElem?_modify]
      rw [if_neg (fun e => hne (by rw [e]))]
/-- A struct or an array is loaded out of a known block. -/
theorem wpList_load_blk {ops : Array Oper} {rest : List Oper} {op : Oper} {a : Act} {w : World} {Q : Exit → Act → World → Prop} (hgd : op.guard = none) (ty : TypeId) (x : Operand) (ho : op.op = .load ty x)
    (g off : Nat) (t : TypeId) (cs vs : List Value) (d : TypeDesc) (hb : Blk w g t cs) (hx : a.eval x = .pointer (some ⟨g, off, none⟩))
    (hu : P.underlying ty = some d) (hd : d.isRow = true) (n : Nat) (hi : (P.info? ty).map (·.size) = some n) (hn : vs.length = n) (hv : ∀ j v, vs[j]? = some v → cs[off + j]? = some v)
    (h : wpList P ops Q rest (a.put op.dst (.agg vs.toArray)) w) : wpList P ops Q (op :: rest) a w :=
  wpList_load_mid hgd ty x ho g off hx vs d (fun j v hj => (hb.cell _).trans (hv j v hj)) hu hd (by rw [hn]; exact hi) h
end
/-- The whole of a known block is loaded. -/
theorem wpList_load_all {P : Program} {ops : Array Oper} {rest : List Oper} {op : Oper} {a : Act} {w : World} {Q : Exit → Act → World → Prop} (hgd : op.guard = none) (ty : TypeId) (x : Operand) (ho : op.op = .load ty x)
    (g : Nat) (t : TypeId) (cs : List Value) (d : TypeDesc) (hb : Blk w g t cs) (hx : a.eval x = .pointer (some ⟨g, 0, none⟩))
    (hu : P.underlying ty = some d) (hd : d.isRow = true) (n : Nat) (hi : (P.info? ty).map (·.size) = some n) (hn : cs.length = n)
    (h : wpList P ops Q rest (a.put op.dst (.agg cs.toArray)) w) : wpList P ops Q (op :: rest) a w :=
  wpList_load_blk hgd ty x ho g 0 t cs cs d hb hx hu hd n hi hn (fun j v hv => by simpa using hv) h
/-- The whole of a known block is stored anew. -/
theorem wpList_store_all {P : Program} {ops : Array Oper} {rest : List Oper} {op : Oper} {a : Act} {w : World} {Q : Exit → Act → World → Prop} (hgd : op.guard = none) (ty : TypeId) (x y : Operand) (ho : op.op = .store ty x y)
    (g : Nat) (t : TypeId) (cs vs : List Value) (hb : Blk w g t cs) (hx : a.eval x = .pointer (some ⟨g, 0, none⟩)) (hy : a.eval y = .agg vs.toArray)
    (n : Nat) (hi : (P.info? ty).map (·.size) = some n) (hn : vs.length = n) (hfit : cs.length = n) (h1 : ∀ v ∈ vs, v.oneCell' = true)
    (h : ∀ w', Blk w' g t vs → w.grownBy w' (some g) → wpList P ops Q rest (a.put op.dst undef) w') : wpList P ops Q (op :: rest) a w :=
  wpList_store_blk hgd ty x y ho g 0 t cs vs hb hx hy n hi hn (by omega) h1 (fun w' hb' hg => h w' (by
    have : splice cs 0 vs = vs := by simp [splice, hfit, hn]
    rwa [this] at hb') hg)
/-- A slice that reads as a list: element i lies in k cells, as enc says; its block's elements are of type T. -/
structure SlT {α : Type} (enc : α → List Value) (k : Nat) (T : TypeId) (w : World) (A : Option Addr) (n : Nat) (l : List α) : Prop where
  len : l.length = n
  at_ : 0 < n → ∃ b off cells fz, A = some ⟨b, off, none⟩ ∧ w.heap[b]? = some (.cells cells T fz) ∧ ∀ i x, l[i]? = some x → ∀ j v, (enc x)[j]? = some v → cells[off + i * k + j]? = some v
section
variable {α : Type} {enc : α → List Value} {k : Nat} {T : TypeId} {w w' : World} {A : Option Addr} {n : Nat} {l : List α}
theorem SlT.nil_ (w : World) (A : Option Addr) : SlT enc k T w A 0 ([] : List α) := ⟨rfl, fun h => absurd h (by omega)⟩
theorem SlT.get (h : SlT enc k T w A n l) (hn : 0 < n) : ∃ b off, A = some ⟨b, off, none⟩ ∧ b < w.heap.size ∧ ∀ i x, l[i]? = some x → w.rangeAt b (off + i * k) (enc x) := by
  obtain ⟨b, off, cells, fz, e, hh, hc⟩ := h.at_ hn
  refine ⟨b, off, e, lt_of_block hh, fun i x hx j v hv => ?_⟩
  rw [cell_of_row w b _ cells T fz hh]
  exact hc i x hx j v hv
theorem SlT.kept (h : SlT enc k T w A n l) (hb : ∀ b, b < w.heap.size → (∃ c fz, w.heap[b]? = some (.cells c T fz)) → w'.heap[b]? = w.heap[b]?) : SlT enc k T w' A n l := by
  refine ⟨h.len, fun hn => ?_⟩
  obtain ⟨b, off, cells, fz, e, hh, hc⟩ := h.at_ hn
  exact ⟨b, off, cells, fz, e, (hb b (lt_of_block hh) ⟨cells, fz, hh⟩).trans hh, hc⟩
theorem SlT.grow0 (h : SlT enc k T w A n l) (hg : w.grownBy w' none) : SlT enc k T w' A n l := h.kept fun b hb _ => hg.block b hb (by simp)
theorem SlT.alloc (h : SlT enc k T w A n l) (o : Obj) : SlT enc k T (w.alloc o) A n l := h.kept fun b hb _ => Below.heap_alloc w o b hb
theorem SlT.drewN (h : SlT enc k T w A n l) (m : Nat) : SlT enc k T (w.drewN m) A n l := h.kept fun _ _ _ => rfl
/-- Kept while another block is written whose elements are of another type. -/
theorem SlT.grown (h : SlT enc k T w A n l) {r : Nat} (hg : w.grownBy w' (some r)) {T' : TypeId} {c : Array Value} {fz : Nat × Nat} (hr : w.heap[r]? = some (.cells c T' fz)) (hT : T ≠ T') : SlT enc k T w' A n l :=
  h.kept fun b hb ⟨c', fz', hh⟩ => hg.block b hb (by
    rintro e
    injection e with e
    subst e
    rw [hr] at hh
    injection hh with hh
    injection hh with _ ht _
    exact hT ht.symm)
/-- Kept while the only old block that turns lies from base on. -/
theorem SlT.own (h : SlT enc k T w A n l) {a : World} {row : Option Nat} (hg : w.grownBy a row) (hr : ∀ g, row = some g → w.heap.size ≤ g) : SlT enc k T a A n l :=
  h.kept fun b hb _ => hg.block b hb (fun e => by have := hr b e.symm; omega)
theorem SlT.take (h : SlT enc k T w A n l) (m : Nat) (hm : m ≤ n) : SlT enc k T w A m (l.take m) := by
  refine ⟨by have := h.len; simp; omega, fun hn => ?_⟩
  obtain ⟨b, off, cells, fz, e, hh, hc⟩ := h.at_ (by omega)
  exact ⟨b, off, cells, fz, e, hh, fun i x hx => hc i x (by
    rw [List.getElem?_take] at hx
    split at hx
    · exact hx
    · cases hx)⟩
theorem flat_get (enc : α → List Value) (k : Nat) (hk : ∀ x, (enc x).length = k) : ∀ (l : List α) (i : Nat) (x : α), l[i]? = some x → ∀ j v, (enc x)[j]? = some v → (l.flatMap enc)[i * k + j]? = some v
  | [], i, x, h, _, _, _ => by simp at h
  | y :: r, 0, x, h, j, v, hv => by
    simp at h; subst h
    have hj : j < (enc y).length := (List.getElem?_eq_some_iff.1 hv).1
    rw [Nat.zero_mul, Nat.zero_add, List.flatMap_cons, List.getElem?_append_left hj]; exact hv
  | y :: r, i + 1, x, h, j, v, hv => by
    have ih := flat_get enc k hk r i x (by simpa using h) j v hv
    rw [List.flatMap_cons, List.getElem?_append_right (by rw [hk, Nat.add_mul]; omega), hk]
    rw [show (i + 1) * k + j - k = i * k + j by rw [Nat.add_mul]; omega]
    exact ih
theorem SlT.ofBlk {g : Nat} (hk : ∀ x, (enc x).length = k) (h : Blk w g T (l.flatMap enc)) : SlT enc k T w (some ⟨g, 0, none⟩) l.length l :=
  ⟨rfl, fun _ => ⟨g, 0, _, _, rfl, h, fun i x hx j v hv => by
    have := flat_get enc k hk l i x hx j v hv
    simpa using this⟩⟩
theorem SlT.ofOwn {base : Nat} {c : Nat} (hk : ∀ x, (enc x).length = k) (h : w.ownsRow base T k (.slice A n c) n (l.flatMap enc)) (hn : l.length = n) : SlT enc k T w A n l := by
  refine ⟨hn, fun hn0 => ?_⟩
  obtain ⟨h1, h2⟩ := h
  rcases h2 with ⟨h2, h3⟩ | ⟨g, cap, cur, hv, _, hh, hle, _, hcs, htk⟩
  · omega
  · injection hv with hA _ _
    refine ⟨g, 0, cur, _, hA, hh, fun i x hx j v hv => ?_⟩
    have := flat_get enc k hk l i x hx j v hv
    rw [← htk] at this
    rw [List.getElem?_take] at this
    split at this
    · simpa using this
    · cases this
end
/-- A row out of an array of rows that is a value. -/
theorem wpList_index_row {P : Program} {ops : Array Oper} {rest : List Oper} {op : Oper} {a : Act} {w : World} {Q : Exit → Act → World → Prop} (hgd : op.guard = none) (t : TypeId) (x y : Operand) (ho : op.op = .index t x y)
    (cs : List Value) (i : Nat) (hx : a.eval x = .agg cs.toArray) (hy : a.eval y = .int .i64 (i : Int)) (len : Nat) (e : TypeId) (ht : P.underlying t = some (.array len e)) (d : TypeDesc) (he : P.underlying e = some d) (hd : d.isRow = true)
    (sz : Nat) (hi : (P.info? e).map (·.size) = some sz) (hlt : i < len) (vs : List Value) (hv : (cs.drop (i * sz)).take sz = vs)
    (h : wpList P ops Q rest (a.put op.dst (.agg vs.toArray)) w) : wpList P ops Q (op :: rest) a w := by
  refine wpList_plain hgd fun K hK => ?_
  unfold Oper.wp execOp
  cases hq : P.info? e with
  | none => simp [hq] at hi
  | some inf =>
    have hs : inf.size = sz := by simpa [hq] using hi
    have hagg : (isAgg e).run P w = .ok true w := by
      unfold isAgg
      rw [Sem.run_bind, run_underlying he w]
      cases d <;> simp_all
    have hr : (Instr.index t (.agg cs.toArray) (.int .i64 (i : Int))).run P w = .ok (.agg vs.toArray) w := by
      have hb : 0 ≤ (i : Int) ∧ (i : Int) < (len : Int) := ⟨by omega, by omega⟩
      subst hv
      simp [Instr.index, asIntOf, run_underlying ht, sizeOf, typeInfo, hq, hs, part, hagg]
      omega
    simp only [ho, hx, hy, hr, Sem.run_bind, Result.andThen_ok]
    exact hK _ _ h
/-- A number, and nothing that was there has turned. -/
def GotE (w : World) (x : Int) (e : Ending) (w' : World) : Prop := e = .returned (.int .i64 x) ∧ w.grownBy w' none
/-- Two results: a Boolean and an error. -/
def RetBE (w : World) (b : Bool) (x : Int) (e : Ending) (w' : World) : Prop := e = .returned (.tuple #[.bool b, .int .i64 x]) ∧ w.grownBy w' none
end Go.Proofs.Ytodcildcipfmcaa
namespace Go.Proofs.Ytodcildcipfmcaa
open Go.RowKit
def IsBelow (n : Int) (v : Int) : Prop := 0 ≤ v ∧ (v < n ∨ v = 0)
def belowV (x n : Int) : Int := if n < 1 then 0 else if x.tmod n < 0 then x.tmod n + n else x.tmod n
theorem belowV_is (x n : Int) : IsBelow n (belowV x n) := by
  unfold IsBelow belowV
  by_cases h : n < 1
  · simp [h]
  · have h1 : x.tmod n < n := Int.tmod_lt_of_pos _ (by omega)
    have h2 : -n < x.tmod n := by
      have := Int.lt_tmod_of_pos x (show 0 < n by omega)
      omega
    simp only [h, if_false]
    split <;> omega
set_option maxHeartbeats 400000 in
theorem below_val (x n : Int) (w : World) (hn1 : -9223372036854775808 ≤ n) (hn2 : n ≤ 9223372036854775807) :
    Calls Try.prog 31 #[.int .i64 x, .int .i64 n] w fun e w' => e = .returned (.int .i64 (belowV x n)) ∧ w = w' := by
  have hm : -n < x.tmod n ∨ n < 1 := by
    by_cases h : n < 1
    · exact .inr h
    · exact .inl (Int.lt_tmod_of_pos x (by omega))
  go_enter Try.func31, Try.ntmps31
  go_wp2
  · go_ret
    have h : n < 1 := by assumption
    exact ⟨by simp [belowV, h], rfl⟩
  · go_ret
    have h : 1 ≤ n := by assumption
    have h1 : x.tmod n < 0 := by assumption
    exact ⟨by simp [belowV, h1, show ¬ n < 1 by omega], rfl⟩
  · go_ret
    have h : 1 ≤ n := by assumption
    have h1 : 0 ≤ x.tmod n := by assumption
    exact ⟨by simp [belowV, show ¬ n < 1 by omega, show ¬ x.tmod n < 0 by omega], rfl⟩
theorem below_any (x n : Int) (w : World) (hn1 : -9223372036854775808 ≤ n) (hn2 : n ≤ 9223372036854775807) :
    Calls Try.prog 31 #[.int .i64 x, .int .i64 n] w fun e w' => ∃ v, IsBelow n v ∧ e = .returned (.int .i64 v) ∧ w = w' :=
  (below_val x n w hn1 hn2).mono fun _ _ ⟨he, hw⟩ => ⟨_, belowV_is x n, he, hw⟩
set_option maxHeartbeats 400000 in
theorem next_any (n : Int) (w : World) (B sb m : Nat) (hS : Strm 25 w B sb m) (hm : m ≤ 1000000000000) (hn1 : -9223372036854775808 ≤ n) (hn2 : n ≤ 9223372036854775807) :
    Calls Try.prog 10 #[.pointer (some ⟨sb, 0, none⟩), .int .i64 n] w (GotInt 25 w B sb (m + 1) (IsBelow n)) := by
  obtain ⟨A, len, c, k, hh, h0, h1, h2, h3⟩ := hS.pos
  have hf : ∀ i, w.frozen? ⟨sb, i, none⟩ = false := fun i => frozen_of_row w sb i _ _ hh
  have hc0 : w.cell? ⟨sb, 0, none⟩ = some (.slice A len c) := by rw [cell_of_row w sb 0 _ _ _ hh]; rfl
  have hc1 : w.cell? ⟨sb, 1, none⟩ = some (.int .i64 k) := by rw [cell_of_row w sb 1 _ _ _ hh]; rfl
  have hst := hS.step hh h0 h1
  by_cases hlen : len = 0
  · subst hlen
    go_enter Try.func10, Try.ntmps10
    go_wp2_with (go_at_call 31; refine (below_any _ _ _ hn1 hn2).mono ?_; rintro e w1 ⟨v, hv, rfl, rfl⟩)
    go_ret
    exact ⟨v, hv, rfl, hst, grow_setCell (World.grownBy.refl _ _) (.inl rfl) _⟩
  · obtain ⟨b, off, rfl, hbB, hz⟩ := h3 (by omega)
    have hne : ((len : Int) == 0) = false := by simp; omega
    have hmod : (k + 1 - 1).tmod (len : Int) = k % (len : Int) := by rw [Int.tmod_eq_emod_of_nonneg (by omega)]; congr 1; omega
    have hi0 : 0 ≤ k % (len : Int) := Int.emod_nonneg _ (by omega)
    have hi1 : k % (len : Int) < len := Int.emod_lt_of_pos _ (by omega)
    obtain ⟨i, hi⟩ : ∃ i : Nat, (i : Int) = k % (len : Int) := ⟨(k % (len : Int)).toNat, by omega⟩
    obtain ⟨z, z1, z2, hcz⟩ := hz i (by omega)
    have hi' : k % (len : Int) = (i : Int) := hi.symm
    have hil : (i : Int) < (len : Int) := by omega
    have hcz' : ∀ u, (w.setCell ⟨sb, 1, none⟩ u).cell? ⟨b, off + i, none⟩ = some (.int .i64 z) := fun u =>
      (World.cell?_of_block (Below.heap_setCell w _ _ b (by have := hS.base; simp; omega))).trans hcz
    clear hmod hi0 hi1 hi hz h3
    go_enter Try.func10, Try.ntmps10
    go_wp2_with fail
    go_quiet (fail)
    go_wp2_with fail
    go_quiet (fail)
    go_wp2_with fail
    refine (below_any _ _ _ (by omega) (by omega)).mono ?_
    rintro e w1 ⟨v1, hv1, rfl, rfl⟩
    go_wp2_with fail
    refine (below_any _ _ _ hn1 hn2).mono ?_
    rintro e w1 ⟨v, hv, rfl, rfl⟩
    go_wp2_with fail
    go_ret
    exact ⟨v, hv, rfl, hst.drewN _, grow_drewN (grow_setCell (World.grownBy.refl _ _) (.inl rfl) _) _⟩
end Go.Proofs.Ytodcildcipfmcaa
namespace Go.Proofs.Ytodcildcipfmcaa
open Go.RowKit
set_option maxHeartbeats 400000 in
theorem in_any (n lo hi : Int) (w : World) :
    Calls Try.prog 55 #[.int .i64 n, .int .i64 lo, .int .i64 hi] w fun e w' => e = .returned (.bool (inB n lo hi)) ∧ w = w' := by
  by_cases h1 : lo ≤ n <;> by_cases h2 : n ≤ hi
  all_goals
    have h3 : inB n lo hi = (decide (lo ≤ n) && decide (n ≤ hi)) := rfl
    have H3 := Lib.hid h3; clear h3
    go_enter Try.func55, Try.ntmps55
    go_wp2
    go_ret
    exact ⟨by rw [H3.out]; simp [h1, h2], rfl⟩
set_option maxHeartbeats 400000 in
theorem when_any (b : Bool) (e : Int) (w : World) :
    Calls Try.prog 21 #[.bool b, .int .i64 e] w fun r w' => r = .returned (.int .i64 (whenE b e)) ∧ w = w' := by
  cases b
  all_goals
    go_enter Try.func21, Try.ntmps21
    go_wp2
    go_ret
    exact ⟨rfl, rfl⟩
theorem firstE_drop (es : List Int) (k : Nat) (h : k < es.length) : firstE (es.drop k) = if es[k] = 0 then firstE (es.drop (k + 1)) else es[k] := by
  rw [List.drop_eq_getElem_cons h]; rfl
set_option maxHeartbeats 400000 in
theorem or_any (es : List Int) (g c : Nat) (T : TypeId) (w : World) (hg : Blk w g T (es.map (Value.int .i64))) (hn : es.length ≤ 1000000) :
    Calls Try.prog 43 #[.slice (some ⟨g, 0, none⟩) es.length c] w fun r w' => r = .returned (.int .i64 (firstE es)) ∧ w = w' := by
  obtain ⟨n, hN⟩ : ∃ n, n = es.length := ⟨_, rfl⟩
  rw [← hN] at hn ⊢
  have HN := Lib.hid hN; clear hN
  go_enter Try.func43, Try.ntmps43
  go_wp2
  go_loop [8] (fun i => ∃ k : Nat, k ≤ n ∧ i = .int .i64 k ∧ firstE es = firstE (es.drop k)) (fun i => n - (intOf i).toNat)
  case atStart => exact ⟨0, Nat.zero_le _, rfl, rfl⟩
  case round =>
    obtain ⟨k, hk, rfl, hf⟩ := hrel
    have Hf := Lib.hid hf; clear hf
    by_cases hlt : k < n
    · have hk' : k < es.length := by have := HN.out; omega
      obtain ⟨x, hx⟩ : ∃ x, es[k] = x := ⟨_, rfl⟩
      have hc : w.cell? ⟨g, k, none⟩ = some (.int .i64 x) := hg.cell_of (by simp [hk', hx])
      have hd := firstE_drop es k hk'
      rw [hx] at hd
      have Hd := Lib.hid hd; clear hd hx
      by_cases h0 : x = 0
      · subst h0
        go_wp2
        go_round
        case rel => exact ⟨k + 1, by omega, by go_num, by rw [Hf.out, Hd.out]; rfl⟩
        case measure => simp [intOf]; omega
      · have hne : (x != 0) = true := by simpa using h0
        go_wp2
        go_ret
        exact ⟨by rw [Hf.out, Hd.out, if_neg h0]; rfl, rfl⟩
    · have hd : es.drop k = [] := List.drop_eq_nil_of_le (by have := HN.out; omega)
      have Hd := Lib.hid hd; clear hd
      go_wp2
      go_ret
      exact ⟨by rw [Hf.out, Hd.out]; rfl, rfl⟩
set_option maxHeartbeats 400000 in
theorem first_any (es : List Int) (g c : Nat) (T : TypeId) (w : World) (hg : Blk w g T (es.map (Value.int .i64))) (hn : es.length ≤ 1000000) :
    Calls Try.prog 20 #[.slice (some ⟨g, 0, none⟩) es.length c] w fun r w' => r = .returned (.int .i64 (firstE es)) ∧ w = w' := by
  have hc := fun c => or_any es g c T w hg hn
  have HC := Lib.hid hc; clear hc
  obtain ⟨n, hN⟩ : ∃ n, n = es.length := ⟨_, rfl⟩
  rw [← hN] at hn HC ⊢
  clear hN
  go_enter Try.func20, Try.ntmps20
  go_wp2_with fail
  refine (HC.out _).mono ?_
  rintro e w1 ⟨rfl, rfl⟩
  go_wp2_with fail
  go_ret
  exact ⟨rfl, rfl⟩
set_option maxHeartbeats 400000 in
theorem isMoment_any (n : Int) (w : World) :
    Calls Try.prog 48 #[.int .i64 n] w fun e w' => e = .returned (.bool (inB n 0 5761439)) ∧ w = w' := by
  go_enter Try.func48, Try.ntmps48
  go_wp2_with fail
  refine (in_any _ _ _ _).mono ?_
  rintro e w1 ⟨rfl, rfl⟩
  go_wp2_with fail
  go_ret
  exact ⟨rfl, rfl⟩
set_option maxHeartbeats 400000 in
theorem moment_any (n : Int) (w : World) :
    Calls Try.prog 24 #[.int .i64 n] w fun e w' => e = .returned (.int .i64 (momentE n)) ∧ w = w' := by
  go_enter Try.func24, Try.ntmps24
  go_wp2_with fail
  refine (isMoment_any _ _).mono ?_
  rintro e w1 ⟨rfl, rfl⟩
  go_wp2_with fail
  refine (when_any _ _ _).mono ?_
  rintro e w1 ⟨rfl, rfl⟩
  go_wp2_with fail
  go_ret
  exact ⟨rfl, rfl⟩
end Go.Proofs.Ytodcildcipfmcaa
namespace Go.Proofs.Ytodcildcipfmcaa
open Go.RowKit
/-- The letter at place j of a key. -/
def okAtB (j : Nat) (c : UInt8) : Bool := smallB c || (decide (j ≠ 0) && keyCharB c)
def okUptoB (l : List UInt8) (k : Nat) : Bool := (l.take k).zipIdx.all fun x => okAtB x.2 x.1
theorem okUpto_succ (l : List UInt8) (k : Nat) (h : k < l.length) : okUptoB l (k + 1) = (okUptoB l k && okAtB k l[k]) := by
  unfold okUptoB
  rw [List.take_succ_eq_append_getElem h, List.zipIdx_append, List.all_append]
  simp [Nat.min_eq_left (Nat.le_of_lt h)]
theorem okUpto_false (l : List UInt8) (k : Nat) (h : k < l.length) (hk : okAtB k l[k] = false) : okUptoB l l.length = false := by
  unfold okUptoB
  rw [List.take_length, List.all_eq_false]
  exact ⟨(l[k], k), by rw [List.mem_zipIdx_iff_getElem?]; simp [List.getElem?_eq_getElem h], by simp [hk]⟩
theorem all_from (r : List UInt8) (j : Nat) (hj : j ≠ 0) : ((r.zipIdx j).all fun x => okAtB x.2 x.1) = keyRestB r := by
  induction r generalizing j with
  | nil => rfl
  | cons c r ih =>
    have : okAtB j c = keyCharB c := by
      have hd : decide (j ≠ 0) = true := by simpa using hj
      simp only [okAtB, keyCharB, hd]
      cases smallB c <;> simp
    simp [List.zipIdx_cons, ih (j + 1) (by omega), keyRestB, this]
theorem keyLB_eq (l : List UInt8) : keyLB l = (okUptoB l l.length && !l.isEmpty && decide (l.length ≤ 40)) := by
  cases l with
  | nil => rfl
  | cons c r =>
    unfold okUptoB
    rw [List.take_length, List.zipIdx_cons]
    have h1 := all_from r 1 (by omega)
    have h2 : okAtB 0 c = smallB c := by simp [okAtB]
    have h3 : decide (r.length < 40) = decide (r.length + 1 ≤ 40) := by congr 1
    simp [keyLB, h1, h2, h3]
theorem okAt_small {k : Nat} {c : UInt8} (h1 : (97 : Int) ≤ (c.toNat : Int)) (h2 : (c.toNat : Int) ≤ 122) : okAtB k c = true := by
  have : smallB c = true := by simp [smallB]; omega
  simp [okAtB, this]
theorem okAt_no0 {k : Nat} {c : UInt8} (hk : k = 0) (h1 : (c.toNat : Int) < 97 ∨ (122 : Int) < (c.toNat : Int)) : okAtB k c = false := by
  subst hk; simp [okAtB, smallB]; omega
theorem okAt_more {k : Nat} {c : UInt8} (hk : k ≠ 0) (h : ((48 : Int) ≤ (c.toNat : Int) ∧ (c.toNat : Int) ≤ 57) ∨ (c.toNat : Int) = 45 ∨ (c.toNat : Int) = 95) : okAtB k c = true := by
  have : keyCharB c = true := by simp [keyCharB]; omega
  simp [okAtB, hk, this]
theorem okAt_no {k : Nat} {c : UInt8} (h1 : (c.toNat : Int) < 97 ∨ (122 : Int) < (c.toNat : Int)) (h2 : (c.toNat : Int) < 48 ∨ (57 : Int) < (c.toNat : Int)) (h3 : (c.toNat : Int) ≠ 45) (h4 : (c.toNat : Int) ≠ 95) : okAtB k c = false := by
  simp [okAtB, smallB, keyCharB]; omega
set_option maxHeartbeats 1000000 in
theorem isKey_any (s : ByteArray) (w : World) (hs : s.size ≤ 9223372036854775807) :
    Calls Try.prog 54 #[.string s] w fun e w' => e = .returned (.bool (keyB s)) ∧ w = w' := by
  have hkl : keyB s = (okUptoB s.data.toList s.data.toList.length && !s.data.toList.isEmpty && decide (s.data.toList.length ≤ 40)) := keyLB_eq _
  have HK := Lib.hid hkl; clear hkl
  go_enter Try.func54, Try.ntmps54
  go_wp2
  go_loop [8] (fun i => ∃ k : Nat, k ≤ s.size ∧ i = .int .i64 k ∧ okUptoB s.data.toList k = true) (fun i => s.size - (intOf i).toNat)
  case atStart => exact ⟨0, Nat.zero_le _, rfl, by simp [okUptoB]⟩
  case round =>
    obtain ⟨k, hk, rfl, hf⟩ := hrel
    have Hf := Lib.hid hf; clear hf
    by_cases hlt : k < s.size
    · have hl : k < s.data.toList.length := by simpa using hlt
      have hsucc := okUpto_succ s.data.toList k hl
      have hno := okUpto_false s.data.toList k hl
      have heq : s.data.toList[k] = s[k] := rfl
      rw [heq] at hsucc hno
      have Hs := Lib.hid hsucc
      have Hn := Lib.hid hno
      clear hsucc hno heq
      have fin : okAtB k s[k] = true → okUptoB s.data.toList (k + 1) = true := fun h => by rw [Hs.out, Hf.out, h]; rfl
      have bad : okAtB k s[k] = false → keyB s = false := fun h => by rw [HK.out, Hn.out h]; rfl
      have Fin := Lib.hid fin
      have Bad := Lib.hid bad
      clear fin bad
      by_cases hc : (97 : Int) ≤ (s[k].toNat : Int) ∧ (s[k].toNat : Int) ≤ 122
      · obtain ⟨c1, c2⟩ := hc
        go_wp2
        go_round
        case rel => exact ⟨k + 1, by omega, by go_num, Fin.out (okAt_small c1 c2)⟩
        case measure => simp [intOf]; omega
      · have hc' : (s[k].toNat : Int) < 97 ∨ (122 : Int) < (s[k].toNat : Int) := by omega
        clear hc
        by_cases h0 : k = 0
        · subst h0
          have hbad : keyB s = false := Bad.out (okAt_no0 rfl hc')
          have Hbad := Lib.hid hbad
          clear hbad
          rcases hc' with hc' | hc'
          · go_wp2
            go_ret
            exact ⟨ret_bool Hbad.out.symm, rfl⟩
          · have hd : decide ((s[0].toNat : Int) ≤ 122) = false := by simp; omega
            go_wp2
            go_ret
            exact ⟨ret_bool Hbad.out.symm, rfl⟩
        · have h0' : ((k : Int) == 0) = false := by simp; omega
          by_cases hd : ((48 : Int) ≤ (s[k].toNat : Int) ∧ (s[k].toNat : Int) ≤ 57) ∨ (s[k].toNat : Int) = 45 ∨ (s[k].toNat : Int) = 95
          · have hok := Lib.hid (Fin.out (okAt_more h0 hd))
            clear h0
            rcases hc' with hc' | hc'
            · rcases hd with ⟨d1, d2⟩ | hd | hd
              · go_wp2
                go_round
                case rel => exact ⟨k + 1, by omega, by go_num, hok.out⟩
                case measure => simp [intOf]; omega
              · have q1 : ((s[k].toNat : Int) == 45) = true := by simpa using hd
                have q2 : (s[k].toNat : Int) < 48 := by omega
                clear hd
                go_wp2
                go_round
                case rel => exact ⟨k + 1, by omega, by go_num, hok.out⟩
                case measure => simp [intOf]; omega
              · have q1 : ((s[k].toNat : Int) == 95) = true := by simpa using hd
                have q2 : (57 : Int) < (s[k].toNat : Int) := by omega
                have q3 : ((s[k].toNat : Int) == 45) = false := by simp; omega
                clear hd
                go_wp2
                go_round
                case rel => exact ⟨k + 1, by omega, by go_num, hok.out⟩
                case measure => simp [intOf]; omega
            · exfalso; omega
          · have hno := Lib.hid (Bad.out (okAt_no (k := k) hc' (by omega) (by omega) (by omega)))
            clear h0
            have q1 : ((s[k].toNat : Int) == 45) = false := by simp; omega
            have q2 : ((s[k].toNat : Int) == 95) = false := by simp; omega
            have q3 : (s[k].toNat : Int) < 48 ∨ (57 : Int) < (s[k].toNat : Int) := by omega
            clear hd
            rcases hc' with hc' | hc'
            · rcases q3 with q3 | q3
              · go_wp2
                go_ret
                exact ⟨ret_bool hno.out.symm, rfl⟩
              · have d57 : decide ((s[k].toNat : Int) ≤ 57) = false := by simp; omega
                go_wp2
                go_ret
                exact ⟨ret_bool hno.out.symm, rfl⟩
            · have q4 : (57 : Int) < (s[k].toNat : Int) := by omega
              have d57 : decide ((s[k].toNat : Int) ≤ 57) = false := by simp; omega
              have d122 : decide ((s[k].toNat : Int) ≤ 122) = false := by simp; omega
              clear q3
              go_wp2
              go_ret
              exact ⟨ret_bool hno.out.symm, rfl⟩
    · have hks : k = s.size := by omega
      have hf := Hf.out
      rw [hks] at hf
      have hK := HK.out
      have hl : s.data.toList.length = s.size := by simp
      rw [hl, hf] at hK
      have hem : s.data.toList.isEmpty = decide (s.size = 0) := by
        rw [← hl]; cases s.data.toList <;> simp
      rw [hem] at hK
      have HK' := Lib.hid hK
      clear hK hl hem hf hks
      by_cases he : s.size = 0
      · have hk0 : keyB s = false := by rw [HK'.out]; simp [he]
        have Hk0 := Lib.hid hk0
        have hemp : s.toList = [] := by rw [Go.Lib.toList_data]; exact List.eq_nil_of_length_eq_zero (by simpa using he)
        clear he hk0
        go_wp2
        go_ret
        exact ⟨ret_bool Hk0.out.symm, rfl⟩
      · have hemp : ¬ s.toList = [] := by
          rw [Go.Lib.toList_data]; intro h; apply he; simpa using congrArg List.length h
        have hemp' : s.toList.isEmpty = false := by simpa using hemp
        by_cases h40 : s.size ≤ 40
        · have hk0 : keyB s = true := by rw [HK'.out]; simp [he, h40]
          have Hk0 := Lib.hid hk0
          clear he hk0
          go_wp2
          go_ret
          exact ⟨ret_bool (by rw [Hk0.out]; simp; omega), rfl⟩
        · have hk0 : keyB s = false := by rw [HK'.out]; simp [h40]
          have Hk0 := Lib.hid hk0
          clear he hk0
          go_wp2
          go_ret
          exact ⟨ret_bool (by rw [Hk0.out]; simp; omega), rfl⟩
end Go.Proofs.Ytodcildcipfmcaa
namespace Go.Proofs.Ytodcildcipfmcaa
def emptyS (s : ByteArray) : Bool := s.toList == (⟨#[]⟩ : ByteArray).toList
theorem leB_lt {a b : ByteArray} (h : leB b a = false) : Go.Op.bytesLess a.toList b.toList = true := by
  unfold leB at h
  simp only [Bool.or_eq_false_iff] at h
  cases h2 : Go.Op.bytesLess a.toList b.toList
  · have e := bl_tri h2 h.1
    rw [e] at h; simp at h
  · rfl
theorem ix_any {α : Type} {p : α → Bool} {l : List α} : decide (0 ≤ ixP p l 0) = l.any p := by
  rcases ixP_spec (p := p) l 0 with ⟨h, h2⟩ | ⟨j, y, h, hj, hp, _⟩
  · rw [h, decide_eq_false (by omega)]
    exact (List.any_eq_false.2 fun x hx => by simpa using h2 x hx).symm
  · rw [h, decide_eq_true (by omega)]
    exact (List.any_eq_true.2 ⟨y, List.mem_of_getElem? hj, hp⟩).symm
end Go.Proofs.Ytodcildcipfmcaa
namespace Go.Proofs.Ytodcildcipfmcaa
structure Cs where
  key : ByteArray
  up : ByteArray
def csEnc (x : Cs) : List Value := [.string x.key, .string x.up]
theorem cs_len (x : Cs) : (csEnc x).length = 2 := rfl
def CsOk (x : Cs) : Prop := x.key.size ≤ 1000000 ∧ x.up.size ≤ 1000000
def csP (k : ByteArray) (x : Cs) : Bool := x.key.toList == k.toList
/-- Where a class leads up to; nothing: nowhere. -/
def upOf (l : List Cs) (k : ByteArray) : ByteArray := if ixP (csP k) l 0 < 0 then ⟨#[]⟩ else match l[(ixP (csP k) l 0).toNat]? with
  | some x => x.up
  | none => ⟨#[]⟩
/-- At most n classes to which one comes. -/
def pathN (l : List Cs) : Nat → ByteArray → List ByteArray
  | 0, _ => []
  | n + 1, k => if emptyS (upOf l k) = true then [] else upOf l k :: pathN l n (upOf l k)
theorem ba_ext {a b : ByteArray} (h : a.toList = b.toList) : a = b := by
  rw [ByteArray.toList_eq, ByteArray.toList_eq] at h
  cases a; cases b
  simp only at h
  exact congrArg ByteArray.mk (Array.toList_inj.1 h)
theorem upOf_at {l : List Cs} {k : ByteArray} {i : Nat} {x : Cs} (h : ixP (csP k) l 0 = (i : Int)) (hx : l[i]? = some x) : upOf l k = x.up := by
  unfold upOf
  rw [if_neg (by omega), h, Int.toNat_natCast, hx]
theorem upOf_no {l : List Cs} {k : ByteArray} (h : ixP (csP k) l 0 < 0) : emptyS (upOf l k) = true := by
  unfold upOf
  rw [if_pos h]
  unfold emptyS; simp
theorem pathN_len (l : List Cs) : ∀ (n : Nat) (k : ByteArray), (pathN l n k).length ≤ n
  | 0, _ => Nat.le_refl _
  | n + 1, k => by
    unfold pathN
    split
    · exact Nat.zero_le _
    · have := pathN_len l n (upOf l k)
      simp only [List.length_cons]; omega
theorem pathN_take (l : List Cs) : ∀ (n : Nat) (k : ByteArray), pathN l n k = (pathN l (n + 1) k).take n
  | 0, _ => by simp [pathN]
  | n + 1, k => by
    rw [pathN, pathN]
    split
    · simp
    · rw [List.take_succ_cons, ← pathN_take l n]
theorem pathN_more (l : List Cs) (n : Nat) (k : ByteArray) : ∀ d, pathN l n k = (pathN l (n + d) k).take n
  | 0 => by rw [Nat.add_zero, List.take_of_length_le (pathN_len l n k)]
  | d + 1 => by
    rw [pathN_more l n k d, ← Nat.add_assoc, pathN_take l (n + d) k, List.take_take, Nat.min_eq_left (by omega)]
/-- From the i-th of those on. -/
theorem pathN_drop (l : List Cs) : ∀ (i n : Nat) (k u : ByteArray), (pathN l n k)[i]? = some u → (pathN l n k).drop (i + 1) = pathN l (n - (i + 1)) u
  | _, 0, _, _, h => by simp [pathN] at h
  | 0, n + 1, k, u, h => by
    rw [pathN] at h ⊢
    split at h
    · simp at h
    · rename_i hu
      rw [if_neg hu]
      simp only [List.getElem?_cons_zero, Option.some.injEq] at h
      subst h
      simp
  | i + 1, n + 1, k, u, h => by
    rw [pathN] at h ⊢
    split at h
    · simp at h
    · rename_i hu
      rw [if_neg hu]
      simp only [List.getElem?_cons_succ] at h
      rw [List.drop_succ_cons, pathN_drop l i n _ u h, Nat.add_sub_add_right]
/-- More than n numbers below n: two are the same. -/
theorem pigeon : ∀ (n : Nat) (l : List Nat), (∀ x ∈ l, x < n) → l.Pairwise (fun a b => a ≠ b) → l.length ≤ n
  | 0, l, h, _ => by
    cases l with
    | nil => exact Nat.le_refl _
    | cons x r => exact absurd (h x (List.mem_cons_self ..)) (Nat.not_lt_zero x)
  | n + 1, l, h, hp => by
    by_cases hn : n ∈ l
    · obtain ⟨a, b, rfl⟩ := List.append_of_mem hn
      rw [List.pairwise_append] at hp
      obtain ⟨h1, h2, h3⟩ := hp
      rw [List.pairwise_cons] at h2
      have := pigeon n (a ++ b) (fun x hx => by
        rcases List.mem_append.1 hx with hx | hx
        · have g1 := h x (List.mem_append_left _ hx)
          have g2 := h3 x hx n (List.mem_cons_self ..)
          omega
        · have g1 := h x (List.mem_append_right _ (List.mem_cons_of_mem _ hx))
          have g2 := h2.1 x hx
          omega) (List.pairwise_append.2 ⟨h1, h2.2, fun x hx y hy => h3 x hx y (List.mem_cons_of_mem _ hy)⟩)
      simp only [List.length_append, List.length_cons] at this ⊢
      omega
    · have := pigeon n l (fun x hx => by
        have g1 := h x hx
        have g2 : x ≠ n := fun e => hn (e ▸ hx)
        omega) hp
      omega
def Closed (l : List Cs) : Prop := ∀ x ∈ l, emptyS x.up = false → 0 ≤ ixP (csP x.up) l 0
theorem upOf_in {l : List Cs} (hc : Closed l) {k : ByteArray} (h : emptyS (upOf l k) = false) : 0 ≤ ixP (csP (upOf l k)) l 0 := by
  by_cases hk : ixP (csP k) l 0 < 0
  · rw [upOf_no hk] at h; cases h
  · obtain ⟨x, hx, _⟩ := ixP_get (p := csP k) (l := l) (by omega)
    have e : upOf l k = x.up := upOf_at (i := (ixP (csP k) l 0).toNat) (by omega) hx
    rw [e] at h ⊢
    exact hc x (List.mem_of_getElem? hx) h
theorem path_in {l : List Cs} (hc : Closed l) : ∀ (n : Nat) (k u : ByteArray), u ∈ pathN l n k → 0 ≤ ixP (csP u) l 0
  | 0, _, _, h => by simp [pathN] at h
  | n + 1, k, u, h => by
    rw [pathN] at h
    split at h
    · simp at h
    · rename_i hu
      rcases List.mem_cons.1 h with rfl | h
      · exact upOf_in hc (by simpa using hu)
      · exact path_in hc n _ u h
def inK (k : ByteArray) (l : List ByteArray) : Bool := l.any (fun y => k.toList == y.toList)
theorem inK_mem {k : ByteArray} {l : List ByteArray} : inK k l = true ↔ k ∈ l := by
  unfold inK
  rw [List.any_eq_true]
  constructor
  · rintro ⟨y, hy, h⟩
    rw [ba_ext (by simpa using h : k.toList = y.toList)]; exact hy
  · exact fun h => ⟨k, h, by simp⟩
def loopB (l : List Cs) (n : Nat) : Bool := l.any (fun x => inK x.key (pathN l n x.key))
theorem ix_key {l : List Cs} {u : ByteArray} (h : 0 ≤ ixP (csP u) l 0) : ∃ x, l[(ixP (csP u) l 0).toNat]? = some x ∧ x ∈ l ∧ x.key = u := by
  obtain ⟨x, hx, hp⟩ := ixP_get h
  exact ⟨x, hx, List.mem_of_getElem? hx, ba_ext (by simpa [csP] using hp)⟩
def leCs (p : Option Cs) (b : Cs) : Bool := match p with
  | none => false
  | some q => leB b.key q.key
def csE (p : Option Cs) (b : Cs) : Int := if !keyB b.key then 5 else if leCs p b then 7 else if !emptyS b.up && !keyB b.up then 5 else 0
def upB (l : List Cs) (x : Cs) : Bool := !emptyS x.up && decide (ixP (csP x.up) l 0 < 0)
/-- The error of classes. -/
def classesE (l : List Cs) : Int := if 30 < l.length then 2 else if scanE csE none l ≠ 0 then scanE csE none l else if l.any (upB l) = true then 8 else if loopB l l.length = true then 14 else 0
theorem closed_of {l : List Cs} (h : l.any (upB l) = false) : Closed l := fun x hx he => by
  rw [List.any_eq_false] at h
  have := h x hx
  unfold upB at this
  rw [he] at this
  simp at this
  omega
theorem classesE_ok {l : List Cs} (h : classesE l = 0) : l.length ≤ 30 ∧ Closed l ∧ loopB l l.length = false := by
  unfold classesE at h
  split at h
  · cases h
  · split at h
    · rename_i h2; exact absurd h h2
    · split at h
      · cases h
      · rename_i h3
        split at h
        · cases h
        · rename_i h4
          exact ⟨by omega, closed_of (by simpa using h3), by simpa using h4⟩
end Go.Proofs.Ytodcildcipfmcaa
namespace Go.Proofs.Ytodcildcipfmcaa
open Go.RowKit
def plateCharB (c : UInt8) : Bool := (decide (65 ≤ c.toNat) && decide (c.toNat ≤ 90)) || (decide (48 ≤ c.toNat) && decide (c.toNat ≤ 57))
def plateB (s : ByteArray) : Bool := inB (s.size : Int) 2 10 && s.data.toList.all plateCharB
def plUpto (l : List UInt8) (k : Nat) : Bool := (l.take k).all plateCharB
theorem plUpto_succ (l : List UInt8) (k : Nat) (h : k < l.length) : plUpto l (k + 1) = (plUpto l k && plateCharB l[k]) := by
  unfold plUpto
  rw [List.take_succ_eq_append_getElem h, List.all_append]
  simp
theorem plate_bad {s : ByteArray} {k : Nat} (h : k < s.data.toList.length) (hk : plateCharB s.data.toList[k] = false) : plateB s = false := by
  unfold plateB
  have : s.data.toList.all plateCharB = false := List.all_eq_false.2 ⟨_, List.getElem_mem h, by rw [hk]; decide⟩
  rw [this, Bool.and_false]
theorem plateChar_up {c : UInt8} (h1 : (65 : Int) ≤ (c.toNat : Int)) (h2 : (c.toNat : Int) ≤ 90) : plateCharB c = true := by
  unfold plateCharB; simp; omega
theorem plateChar_dig {c : UInt8} (h1 : (48 : Int) ≤ (c.toNat : Int)) (h2 : (c.toNat : Int) ≤ 57) : plateCharB c = true := by
  unfold plateCharB; simp; omega
theorem plateChar_no {c : UInt8} (h1 : (c.toNat : Int) < 65 ∨ (90 : Int) < (c.toNat : Int)) (h2 : (c.toNat : Int) < 48 ∨ (57 : Int) < (c.toNat : Int)) : plateCharB c = false := by
  unfold plateCharB; simp; omega
set_option maxHeartbeats 1000000 in
theorem isPlate_any (s : ByteArray) (w : World) (hs : s.size ≤ 9223372036854775807) :
    Calls Try.prog 68 #[.string s] w fun e w' => e = .returned (.bool (plateB s)) ∧ w = w' := by
  go_enter Try.func68, Try.ntmps68
  go_wp2
  go_loop [7] (fun i => ∃ k : Nat, k ≤ s.size ∧ i = .int .i64 k ∧ plUpto s.data.toList k = true) (fun i => s.size - (intOf i).toNat)
  case atStart => exact ⟨0, Nat.zero_le _, rfl, by simp [plUpto]⟩
  case round =>
    obtain ⟨k, hk, rfl, hf⟩ := hrel
    have Hf := Lib.hid hf; clear hf
    by_cases hlt : k < s.size
    · have hl : k < s.data.toList.length := by simpa using hlt
      have hsucc := plUpto_succ s.data.toList k hl
      have hno := plate_bad hl
      have heq : s.data.toList[k] = s[k] := rfl
      rw [heq] at hsucc hno
      have Hs := Lib.hid hsucc
      have Hn := Lib.hid hno
      clear hsucc hno heq
      have fin : plateCharB s[k] = true → plUpto s.data.toList (k + 1) = true := fun h => by rw [Hs.out, Hf.out, h]; rfl
      have Fin := Lib.hid fin
      clear fin
      by_cases hc : (65 : Int) ≤ (s[k].toNat : Int) ∧ (s[k].toNat : Int) ≤ 90
      · obtain ⟨c1, c2⟩ := hc
        have hok := Lib.hid (Fin.out (plateChar_up c1 c2))
        go_wp2
        go_round
        case rel => exact ⟨k + 1, by omega, by go_num, hok.out⟩
        case measure => simp [intOf]; omega
      · have hc' : (s[k].toNat : Int) < 65 ∨ (90 : Int) < (s[k].toNat : Int) := by omega
        clear hc
        by_cases hd : (48 : Int) ≤ (s[k].toNat : Int) ∧ (s[k].toNat : Int) ≤ 57
        · obtain ⟨d1, d2⟩ := hd
          have hok := Lib.hid (Fin.out (plateChar_dig d1 d2))
          have hc2 : (s[k].toNat : Int) < 65 := by omega
          clear hc'
          go_wp2
          go_round
          case rel => exact ⟨k + 1, by omega, by go_num, hok.out⟩
          case measure => simp [intOf]; omega
        · have hd' : (s[k].toNat : Int) < 48 ∨ (57 : Int) < (s[k].toNat : Int) := by omega
          clear hd
          have hbad := Lib.hid (Hn.out (plateChar_no hc' hd'))
          rcases hc' with hc' | hc'
          · rcases hd' with hd' | hd'
            · go_wp2
              go_ret
              exact ⟨ret_bool hbad.out.symm, rfl⟩
            · have d57 : decide ((s[k].toNat : Int) ≤ 57) = false := by simp; omega
              go_wp2
              go_ret
              exact ⟨ret_bool hbad.out.symm, rfl⟩
          · have q4 : (57 : Int) < (s[k].toNat : Int) := by omega
            have d57 : decide ((s[k].toNat : Int) ≤ 57) = false := by simp; omega
            have d90 : decide ((s[k].toNat : Int) ≤ 90) = false := by simp; omega
            clear hd'
            go_wp2
            go_ret
            exact ⟨ret_bool hbad.out.symm, rfl⟩
    · have hks : k = s.size := by omega
      have hf := Hf.out
      rw [hks] at hf
      have hall : s.data.toList.all plateCharB = true := by
        unfold plUpto at hf
        rwa [List.take_of_length_le (by simp)] at hf
      have hP : plateB s = (decide (2 ≤ (s.size : Int)) && decide ((s.size : Int) ≤ 10)) := by unfold plateB inB; rw [hall, Bool.and_true]
      have HP := Lib.hid hP
      clear hP hall hf
      by_cases h2 : 2 ≤ s.size
      · have e2 : decide (2 ≤ (s.size : Int)) = true := by simp; omega
        have HP2 := Lib.hid (show plateB s = decide ((s.size : Int) ≤ 10) by rw [HP.out, e2, Bool.true_and])
        clear e2
        go_wp2
        go_ret
        exact ⟨ret_bool (by rw [HP2.out]), rfl⟩
      · have HP2 := Lib.hid (show plateB s = false by rw [HP.out, show decide (2 ≤ (s.size : Int)) = false by simp; omega, Bool.false_and])
        go_wp2
        go_ret
        exact ⟨ret_bool (by rw [HP2.out]), rfl⟩
end Go.Proofs.Ytodcildcipfmcaa
namespace Go.Proofs.Ytodcildcipfmcaa
open Go.RowKit
structure Vh where
  key : ByteArray
  cls : ByteArray
def vhEnc (x : Vh) : List Value := [.string x.key, .string x.cls]
theorem vh_len (x : Vh) : (vhEnc x).length = 2 := rfl
structure Pl where
  fr : Int
  veh : ByteArray
  plate : ByteArray
def plEnc (x : Pl) : List Value := [.int .i64 x.fr, .string x.veh, .string x.plate]
def VhOk (x : Vh) : Prop := x.key.size ≤ 1000000 ∧ x.cls.size ≤ 1000000
def PlOk (x : Pl) : Prop := (-4000000000000000000 ≤ x.fr ∧ x.fr ≤ 4000000000000000000) ∧ x.veh.size ≤ 1000000 ∧ x.plate.size ≤ 1000000
def vhP (k : ByteArray) (x : Vh) : Bool := x.key.toList == k.toList
/-- The keys rise. -/
def Rise (l : List Vh) : Prop := l.Pairwise fun q r => Go.Op.bytesLess q.key.toList r.key.toList = true
theorem cmpS_neg {a b : ByteArray} : cmpS a b < 0 ↔ Go.Op.bytesLess a.toList b.toList = true := by
  unfold cmpS
  constructor
  · intro h
    by_cases h1 : Go.Op.bytesLess a.toList b.toList = true
    · exact h1
    · rw [if_neg h1] at h
      split at h <;> omega
  · intro h; rw [if_pos h]; decide
theorem rise_lt {l : List Vh} (h : Rise l) {i j : Nat} {x y : Vh} (hij : i < j) (hx : l[i]? = some x) (hy : l[j]? = some y) : Go.Op.bytesLess x.key.toList y.key.toList = true := by
  obtain ⟨hi, rfl⟩ := List.getElem?_eq_some_iff.1 hx
  obtain ⟨hj, rfl⟩ := List.getElem?_eq_some_iff.1 hy
  exact List.pairwise_iff_getElem.1 h i j hi hj hij
def Low (l : List Vh) (k : ByteArray) (a : Nat) : Prop := ∀ i, i < a → ∀ x, l[i]? = some x → Go.Op.bytesLess x.key.toList k.toList = true
def High (l : List Vh) (k : ByteArray) (b : Nat) : Prop := ∀ i, b ≤ i → ∀ x, l[i]? = some x → Go.Op.bytesLess x.key.toList k.toList = false
theorem low_next {l : List Vh} (h : Rise l) {k : ByteArray} {m : Nat} {x : Vh} (hx : l[m]? = some x) (hl : cmpS x.key k < 0) : Low l k (m + 1) := fun i hi y hy => by
  have h2 := cmpS_neg.1 hl
  rcases Nat.lt_or_ge i m with h3 | h3
  · exact bl_trans (rise_lt h h3 hy hx) h2
  · obtain rfl : i = m := by omega
    rw [hx] at hy; cases hy; exact h2
theorem high_next {l : List Vh} (h : Rise l) {k : ByteArray} {m : Nat} {x : Vh} (hx : l[m]? = some x) (hl : ¬ cmpS x.key k < 0) : High l k m := fun i hi y hy => by
  have h2 : Go.Op.bytesLess x.key.toList k.toList = false := by
    cases hb : Go.Op.bytesLess x.key.toList k.toList with
    | false => rfl
    | true => exact absurd (cmpS_neg.2 hb) hl
  rcases Nat.lt_or_ge m i with h3 | h3
  · cases hb : Go.Op.bytesLess y.key.toList k.toList with
    | false => rfl
    | true => rw [bl_trans (rise_lt h h3 hx hy) hb] at h2; cases h2
  · obtain rfl : i = m := by omega
    rw [hx] at hy; cases hy; exact h2
theorem bs_no {l : List Vh} {k : ByteArray} {a : Nat} (h : Rise l) (hl : Low l k a) (hh : High l k a) (hn : ∀ x, l[a]? = some x → cmpS x.key k ≠ 0) : ixP (vhP k) l 0 = -1 := by
  rcases ixP_spec (p := vhP k) l 0 with ⟨h1, _⟩ | ⟨j, x, _, hx, hp, _⟩
  · exact h1
  · have he : x.key.toList = k.toList := by unfold vhP at hp; simpa using hp
    exfalso
    rcases Nat.lt_trichotomy j a with h2 | rfl | h2
    · exact bl_ne (hl j h2 x hx) he
    · exact hn x hx (cmpS_zero.2 ⟨by rw [he]; exact bl_irrefl _, he⟩)
    · cases hy : l[a]? with
      | none =>
        have := (List.getElem?_eq_some_iff.1 hx).1
        have := List.getElem?_eq_none_iff.1 hy
        omega
      | some y =>
        have h3 := rise_lt h h2 hy hx
        rw [he] at h3
        have h4 := hh a (Nat.le_refl _) y hy
        rw [h3] at h4; cases h4
theorem bs_yes {l : List Vh} {k : ByteArray} {a : Nat} {x : Vh} (hl : Low l k a) (hx : l[a]? = some x) (hz : cmpS x.key k = 0) : ixP (vhP k) l 0 = (a : Int) := by
  have he := (cmpS_zero.1 hz).2
  have hp : vhP k x = true := by unfold vhP; simp [he]
  rcases ixP_spec (p := vhP k) l 0 with ⟨_, h1⟩ | ⟨j, y, h1, hy, hpy, hf⟩
  · have := h1 x (List.mem_of_getElem? hx)
    rw [hp] at this; cases this
  · rw [h1]
    have hye : y.key.toList = k.toList := by unfold vhP at hpy; simpa using hpy
    rcases Nat.lt_trichotomy j a with h2 | rfl | h2
    · exact absurd hye (bl_ne (hl j h2 y hy))
    · simp
    · have := hf a h2 x hx
      rw [hp] at this; cases this
/-- The error of a vehicle behind another one; of vehicles. -/
def leVh (p : Option Vh) (b : Vh) : Bool := match p with
  | none => false
  | some q => leB b.key q.key
def vhE (cs : List Cs) (p : Option Vh) (b : Vh) : Int := if !keyB b.key then 5 else if leVh p b then 7 else if ixP (csP b.cls) cs 0 < 0 then 8 else 0
def vehsE (cs : List Cs) (l : List Vh) : Int := if 500 < l.length then 2 else scanE (vhE cs) none l
def plOrd (a b : Pl) : Int := firstE [cmpI a.fr b.fr, cmpS a.veh b.veh, cmpS a.plate b.plate]
def plTwin (p o : Pl) : Bool := decide (o.fr = p.fr) && (o.veh.toList == p.veh.toList || o.plate.toList == p.plate.toList)
def plE (vs : List Vh) (pre : List Pl) (p : Pl) : Int :=
  if (!inB p.fr 0 5761439) = true then 1 else if ixP (vhP p.veh) vs 0 < 0 then 8 else if (!plateB p.plate) = true then 3 else if (match pre.getLast? with | none => false | some q => decide (0 ≤ plOrd q p)) = true then 7 else if pre.any (plTwin p) = true then 6 else 0
def plG (vs : List Vh) : List Pl → List Pl → Int
  | _, [] => 0
  | pre, p :: r => if plE vs pre p = 0 then plG vs (pre ++ [p]) r else plE vs pre p
def platesE (vs : List Vh) (l : List Pl) : Int := if 1000 < l.length then 2 else plG vs [] l
def fleetE (st : List St) (cs : List Cs) (vs : List Vh) (ps : List Pl) : Int := firstE [stationsE st, classesE cs, vehsE cs vs, platesE vs ps]
theorem rise_of {cs : List Cs} : ∀ {l : List Vh} {p : Option Vh}, scanE (vhE cs) p l = 0 → Rise l ∧ (∀ q, p = some q → ∀ x ∈ l, Go.Op.bytesLess q.key.toList x.key.toList = true) ∧ ∀ x ∈ l, keyB x.key = true ∧ 0 ≤ ixP (csP x.cls) cs 0
  | [], _, _ => ⟨List.Pairwise.nil, (fun _ _ x hx => by cases hx), (fun x hx => by cases hx)⟩
  | b :: r, p, h => by
    unfold scanE at h
    by_cases hb : vhE cs p b = 0
    · rw [if_pos hb] at h
      obtain ⟨h1, h2, h3⟩ := rise_of h
      have hb2 := hb
      unfold vhE at hb2
      by_cases k1 : (!keyB b.key) = true
      · rw [if_pos k1] at hb2; cases hb2
      · rw [if_neg k1] at hb2
        by_cases k2 : leVh p b = true
        · rw [if_pos k2] at hb2; cases hb2
        · rw [if_neg k2] at hb2
          by_cases k3 : ixP (csP b.cls) cs 0 < 0
          · rw [if_pos k3] at hb2; cases hb2
          · have hk : keyB b.key = true := by simpa using k1
            refine ⟨List.Pairwise.cons (fun x hx => h2 b rfl x hx) h1, fun q hq x hx => ?_, fun x hx => ?_⟩
            · subst hq
              have hlt : Go.Op.bytesLess q.key.toList b.key.toList = true := leB_lt (by simpa [leVh] using k2)
              rcases List.mem_cons.1 hx with rfl | hx
              · exact hlt
              · exact bl_trans hlt (h2 b rfl x hx)
            · rcases List.mem_cons.1 hx with rfl | hx
              · exact ⟨hk, by omega⟩
              · exact h3 x hx
    · rw [if_neg hb] at h
      exact absurd h hb
theorem vehs_rise {cs : List Cs} {l : List Vh} (h : vehsE cs l = 0) : l.length ≤ 500 ∧ Rise l := by
  unfold vehsE at h
  split at h
  · cases h
  · exact ⟨by omega, (rise_of h).1⟩
end Go.Proofs.Ytodcildcipfmcaa
namespace Go.Proofs.Ytodcildcipfmcaa
open Go.RowKit
/-- A station as cells: a key and fourteen numbers. -/
def stCells (key : ByteArray) (hs : List Int) : List Value := .string key :: hs.map (Value.int .i64)
theorem st_one (key : ByteArray) (hs : List Int) : ∀ v ∈ stCells key hs, v.oneCell' = true := by
  intro v hv
  simp only [stCells, List.mem_cons] at hv
  rcases hv with rfl | hv
  · rfl
  · exact ints_one _ v hv
theorem info_st : (Try.prog.info? 41).map (·.size) = some 15 := by kernel_rfl
theorem info_win : (Try.prog.info? 38).map (·.size) = some 2 := by kernel_rfl
theorem st_len (key : ByteArray) (hs : List Int) (h : hs.length = 14) : (stCells key hs).length = 15 := by simp [stCells, h]
theorem info_hours : (Try.prog.info? 39).map (·.size) = some 14 := by kernel_rfl
end Go.Proofs.Ytodcildcipfmcaa
namespace Go.Proofs.Ytodcildcipfmcaa
open Go.RowKit
def stEnc (s : St) : List Value := stCells s.key s.hs
def StOk (s : St) : Prop := s.hs.length = 14 ∧ s.key.size ≤ 1000000 ∧ ∀ h ∈ s.hs, -9223372036854775808 ≤ h ∧ h ≤ 9223372036854775807
theorem hrs_pair (hs : List Int) (j : Nat) (h : j * 2 + 1 < hs.length) : ((hs.map (Value.int .i64)).drop (j * 2)).take 2 = [.int .i64 (frAt hs j), .int .i64 (toAt hs j)] := by
  have h0 : j * 2 < (hs.map (Value.int .i64)).length := by simp; omega
  have h1 : j * 2 + 1 < (hs.map (Value.int .i64)).length := by simp; omega
  rw [List.drop_eq_getElem_cons h0, List.drop_eq_getElem_cons h1]
  simp [frAt, toAt, List.getD_eq_getElem?_getD, List.getElem?_eq_getElem (show j * 2 < hs.length by omega), List.getElem?_eq_getElem h]
set_option maxRecDepth 100000 in
set_option maxHeartbeats 1000000 in
theorem checkStations_any (l : List St) (A : Option Addr) (n c : Nat) (w : World) (hl : SlT stEnc 15 41 w A n l) (hok : ∀ s ∈ l, StOk s) (hn : n ≤ 1000000) :
    Calls Try.prog 57 #[.slice A n c] w fun e w' => e = .returned (.int .i64 (stationsE l)) ∧ w.grownBy w' none := by
  by_cases h50 : 50 < n
  · have hsp : stationsE l = 2 := by simp [stationsE, hl.len, h50]
    have Hsp := Lib.hid hsp; clear hsp
    go_enter Try.func57, Try.ntmps57
    go_wp2_with fail
    go_ret
    exact ⟨by rw [Hsp.out]; rfl, World.grownBy.refl _ _⟩
  · have hsp : stationsE l = scanE stationE (prevOf l 0) (l.drop 0) := by simp [stationsE, hl.len, h50, prevOf]
    have Hsp := Lib.hid hsp; clear hsp
    have hd : decide ((50 : Int) < (n : Int)) = false := by simp; omega
    go_enter Try.func57, Try.ntmps57
    go_wp2_with fail
    go_loopw [12] (fun i wr => ∃ k : Nat, k ≤ n ∧ i = .int .i64 k ∧ stationsE l = scanE stationE (prevOf l k) (l.drop k) ∧ w.grownBy wr none) (fun i _ => n - (intOf i).toNat)
    case atStart => exact ⟨0, Nat.zero_le _, rfl, Hsp.out, World.grownBy.refl _ _⟩
    case round =>
      obtain ⟨k, hk, rfl, hE, hgr⟩ := hrel
      have HE := Lib.hid hE; clear hE
      by_cases hlt : k < n
      · have hlr := hl.grow0 hgr
        obtain ⟨b, off, rfl, hbl, hrg⟩ := hlr.get (by omega)
        obtain ⟨x, hx⟩ : ∃ x, l[k]? = some x := ⟨_, List.getElem?_eq_getElem (by have := hl.len; omega)⟩
        have hxo := hok x (List.mem_of_getElem? hx)
        have hrx := hrg k x hx
        have hat := scanE_at stationE l k x hx
        have Hat := Lib.hid hat; clear hat
        have Hrg := Lib.hid hrg; clear hrg
        obtain ⟨key, hs⟩ := x
        have hrx : wr.rangeAt b (off + k * 15) (stCells key hs) := hrx
        have hl14 := Lib.hid (show hs.length = 14 from hxo.1)
        have hks : key.size ≤ 1000000 := hxo.2.1
        have hhb : ∀ h ∈ hs, -9223372036854775808 ≤ h ∧ h ≤ 9223372036854775807 := hxo.2.2
        have hln := fun (_ : True) => (st_len key hs hl14.out)
        have hst : (Try.prog.info? 41).map (·.size) = some (stCells key hs).length := by rw [hln trivial]; exact info_st
        have Hst := Lib.hid hst; clear hst hxo hln
        have hnew : Blk (wr.alloc (.cells #[.string ⟨#[]⟩, .int .i64 0, .int .i64 0, .int .i64 0, .int .i64 0, .int .i64 0, .int .i64 0, .int .i64 0, .int .i64 0, .int .i64 0, .int .i64 0, .int .i64 0, .int .i64 0, .int .i64 0, .int .i64 0] 41)) wr.heap.size 41 (stCells (⟨#[]⟩ : ByteArray) (List.replicate 14 0)) := Blk.at_ wr rfl _ _
        go_wp2_with (first
          | (with_reducible refine wpList_load_mid rfl 41 (.tmp 15) rfl b (off + k * 15) rfl (stCells key hs) _ hrx Try.underlying41 rfl Hst.out ?_)
          | (with_reducible refine wpList_store_all rfl 41 (.tmp 4) (.tmp 16) rfl wr.heap.size _ _ (stCells key hs) hnew rfl rfl 15 info_st (st_len _ _ hl14.out) (st_len _ _ (by simp)) (st_one _ _) ?_
             intro w1 hb1 hg1
             have hk1 : w1.cell? ⟨wr.heap.size, 0, none⟩ = some (.string key) := hb1.cell_of rfl))
        refine (isKey_any key _ (by omega)).mono ?_
        rintro e w2 ⟨rfl, rfl⟩
        have hgr1 : w.grownBy w1 none := grow_own (grow_alloc hgr _) hg1 (by simpa using hgr.size)
        have hgw : wr.grownBy w1 none := grow_own (grow_alloc (World.grownBy.refl _ _) _) hg1 (by simp)
        clear hrx hnew hg1
        by_cases hkey : keyB key = false
        · have h5 : stationE (prevOf l k) ⟨key, hs⟩ = 5 := by simp [stationE, hkey]
          have H5 := Lib.hid h5; clear h5
          go_wp2_with fail
          go_ret
          exact ⟨by rw [HE.out, Hat.out, if_neg (by rw [H5.out]; decide), H5.out]; rfl, hgr1⟩
        · have hkey : keyB key = true := by simpa using hkey
          obtain ⟨o8, ho8⟩ : ∃ o, o = prevB (prevOf l k) (fun q => leB key q.key) := ⟨_, rfl⟩
          have Ho8 := Lib.hid ho8; clear ho8
          go_upto_region 8 with fail
          go_cut [22] (fun v wx => v = .bool o8 ∧ ∃ nq, wx = w1.drewN nq)
          case first =>
            by_cases hk0 : k = 0
            · have hz : decide ((0 : Int) < (k : Int)) = false := by simp; omega
              have hz2 : decide (0 < k) = false := by simp; omega
              have ho : o8 = false := by rw [Ho8.out]; simp [prevB, prevOf, hk0]
              have Ho := Lib.hid ho
              clear ho hk0
              go_quiet (fail)
              go_wp2_with fail
              go_meet
              exact ⟨by rw [Ho.out], _, rfl⟩
            · have hz : (0 : Int) < (k : Int) := by omega
              have hz2 : decide (0 < k) = true := decide_eq_true (by omega)
              obtain ⟨q, hq⟩ : ∃ q, l[k - 1]? = some q := ⟨_, List.getElem?_eq_getElem (by have := hl.len; omega)⟩
              have hrq := Hrg.out (k - 1) q hq
              have ho : o8 = leB key q.key := by rw [Ho8.out]; simp [prevB, prevOf, hk0, hq]
              have Ho := Lib.hid ho
              have hqk : wr.cell? ⟨b, off + (k - 1) * 15, none⟩ = some (.string q.key) := hrq 0 _ rfl
              have hki : (k : Int) - 1 = ((k - 1 : Nat) : Int) := by omega
              have hk1n : (k : Int) - 1 < (n : Int) := by omega
              have hqk1 : w1.cell? ⟨b, off + (k - 1) * 15, none⟩ = some (.string q.key) := (World.cell?_of_block (hgw.block b hbl (by simp))).trans hqk
              clear ho hk0 hq hrq
              go_quiet (fail)
              go_wp2_with fail
              go_meet
              exact ⟨by rw [Ho.out]; rfl, _, rfl⟩
          case rest =>
            obtain ⟨rfl, nq, rfl⟩ := hcut
            have hb2 : Blk (w1.drewN nq) wr.heap.size 41 (stCells key hs) := hb1.drewN nq
            have hgr2 : w.grownBy (w1.drewN nq) none := grow_drewN hgr1 nq
            clear hb1 hgr1 hgw
            obtain ⟨w2, hw2⟩ : ∃ w2, w2 = w1.drewN nq := ⟨_, rfl⟩
            rw [← hw2] at hb2 hgr2 ⊢
            clear hw2
            cases o8
            · have hE1 : stationE (prevOf l k) ⟨key, hs⟩ = if hoursBad hs then 1 else 0 := by
                have ho := Ho8.out
                unfold stationE
                rw [if_neg (by simp [hkey]), show prevB (prevOf l k) (fun q => leB (⟨key, hs⟩ : St).key q.key) = _ from ho.symm]
                rfl
              have HE1 := Lib.hid hE1; clear hE1
              have hvv : ∀ j v, (hs.map (Value.int .i64))[j]? = some v → (stCells key hs)[1 + j]? = some v := fun j v hv => by rw [Nat.add_comm]; exact hv
              have Hvv := Lib.hid hvv; clear hvv
              go_wp2_with (with_reducible refine wpList_load_blk rfl 39 (.tmp 36) rfl wr.heap.size 1 _ (stCells key hs) (hs.map (Value.int .i64)) _ hb2 rfl Try.underlying39 rfl 14 info_hours (by simpa using hl14.out) Hvv.out ?_)
              obtain ⟨wo, hwo⟩ : ∃ wo : World, wo = wr := ⟨_, rfl⟩
              rw [← hwo] at hb2 ⊢
              clear hwo
              go_loopw [38] (fun i wr => ∃ j : Nat, j ≤ 7 ∧ i = .int .i64 j ∧ (∀ t, t < j → winBad (frAt hs t) (toAt hs t) = false) ∧ w.grownBy wr none) (fun i _ => 7 - (intOf i).toNat)
              case atStart => exact ⟨0, by omega, rfl, fun t ht => absurd ht (by omega), hgr2⟩
              case round =>
                obtain ⟨j, hj, rfl, hJ, hgj⟩ := hrel
                have HJ := Lib.hid hJ; clear hJ
                by_cases hj7 : j < 7
                · have hvs : ((hs.map (Value.int .i64)).drop (j * 2)).take 2 = [.int .i64 (frAt hs j), .int .i64 (toAt hs j)] := hrs_pair hs j (by have := hl14.out; omega)
                  have Hvs := Lib.hid hvs; clear hvs
                  obtain ⟨f, hf⟩ : ∃ f, f = frAt hs j := ⟨_, rfl⟩
                  obtain ⟨t, ht⟩ : ∃ t, t = toAt hs j := ⟨_, rfl⟩
                  rw [← hf, ← ht] at Hvs
                  have Hf := Lib.hid hf
                  have Ht := Lib.hid ht
                  clear hf ht
                  go_wp2_with (with_reducible refine wpList_index_row rfl 39 (.tmp 37) (.tmp 38) rfl (hs.map (Value.int .i64)) j rfl rfl 7 _ Try.underlying39 _ Try.underlying38 rfl 2 info_win hj7 [.int .i64 f, .int .i64 t] Hvs.out ?_)
                  refine (in_any _ _ _ _).mono ?_
                  rintro e w3 ⟨rfl, rfl⟩
                  obtain ⟨x, hx⟩ : ∃ x, inB f 0 t = x := ⟨_, rfl⟩
                  rw [hx]
                  have Hx := Lib.hid hx; clear hx
                  by_cases hbad : winBad f t = true
                  · have hany : hoursBad hs = true := by
                      simp only [hoursBad, List.any_eq_true, List.mem_range]
                      exact ⟨j, hj7, by rw [← Hf.out, ← Ht.out]; exact hbad⟩
                    have Hfin := Lib.hid (show stationE (prevOf l k) ⟨key, hs⟩ = 1 by rw [HE1.out, if_pos hany])
                    have Hb := Lib.hid hbad
                    clear hany hbad
                    cases x
                    · go_wp2_with fail
                      go_ret
                      exact ⟨by rw [HE.out, Hat.out, if_neg (by rw [Hfin.out]; decide), Hfin.out]; rfl, grow_alloc hgj _⟩
                    · have h14 : (1440 : Int) < t := by have := Hb.out; simp [winBad, Hx.out] at this; exact this
                      go_wp2_with fail
                      go_ret
                      exact ⟨by rw [HE.out, Hat.out, if_neg (by rw [Hfin.out]; decide), Hfin.out]; rfl, grow_alloc hgj _⟩
                  · have hx1 : x = true := by have := Hx.out; simp only [winBad, this] at hbad; cases x <;> simp_all
                    have h14 : ¬ (1440 : Int) < t := by intro h; apply hbad; simp [winBad, h]
                    have Hb := Lib.hid (show winBad f t = false by simpa using hbad)
                    subst hx1
                    clear hbad
                    go_wp2_with fail
                    go_roundw
                    case rel => exact ⟨j + 1, by omega, by go_num, fun i hi => by
                      rcases Nat.lt_or_ge i j with h | h
                      · exact HJ.out i h
                      · obtain rfl : i = j := by omega
                        rw [← Hf.out, ← Ht.out]; exact Hb.out, grow_alloc hgj _⟩
                    case measure => simp [intOf]; omega
                · have hno : hoursBad hs = false := by
                    simp only [hoursBad, List.any_eq_false, List.mem_range]
                    intro i hi
                    rw [HJ.out i (by omega)]
                    decide
                  have Hfin := Lib.hid (show stationE (prevOf l k) ⟨key, hs⟩ = 0 by rw [HE1.out, if_neg (by simp [hno])])
                  clear hno
                  go_wp2_with fail
                  go_roundw
                  case rel => exact ⟨k + 1, by omega, by go_num, by rw [HE.out, Hat.out, if_pos Hfin.out], hgj⟩
                  case measure => simp [intOf]; omega
            · have hE1 : stationE (prevOf l k) ⟨key, hs⟩ = 7 := by
                have ho := Ho8.out
                unfold stationE
                rw [if_neg (by simp [hkey]), show prevB (prevOf l k) (fun q => leB (⟨key, hs⟩ : St).key q.key) = _ from ho.symm]
                rfl
              have Hfin := Lib.hid hE1; clear hE1
              go_wp2_with fail
              go_ret
              exact ⟨by rw [HE.out, Hat.out, if_neg (by rw [Hfin.out]; decide), Hfin.out]; rfl, hgr2⟩
      · go_wp2_with fail
        go_ret
        exact ⟨by rw [HE.out, scanE_end _ _ _ _ (by have := hl.len; omega)]; rfl, hgr⟩
end Go.Proofs.Ytodcildcipfmcaa
namespace Go.Proofs.Ytodcildcipfmcaa
open Go.RowKit
/-- What is known of the slots. -/
def look : List (Nat × Value) → Nat → Option Value
  | [], _ => none
  | (k, v) :: r, t => bif Nat.beq k t then some v else look r t
def rd (S : List (Nat × Value)) : Operand → Option Value
  | .tmp t => look S t
  | .const v => some v
  | .global g => some (.pointer (some ⟨g, 0, none⟩))
  | .func f => some (.func (.func f) #[] #[])
structure Has (S : List (Nat × Value)) (n : Nat) (a : Act) : Prop where
  size : a.tmps.size = n
  val : ∀ t v, look S t = some v → a.tmps[t]? = some v
  df : a.defers = []
theorem Has.eval {S : List (Nat × Value)} {n : Nat} {a : Act} (h : Has S n a) {x : Operand} {v : Value} (hx : rd S x = some v) : a.eval x = v := by
  cases x with
  | tmp t => simp [Act.eval, Array.getD_eq_getD_getElem?, h.val t v hx]
  | const u => simpa [rd, Act.eval] using hx
  | global g => simpa [rd, Act.eval] using hx
  | func f => simpa [rd, Act.eval] using hx
theorem beq_look {k t : Nat} {v u : Value} {r : List (Nat × Value)} (h : look ((k, v) :: r) t = some u) : (k = t ∧ v = u) ∨ (k ≠ t ∧ look r t = some u) := by
  unfold look at h
  cases hb : Nat.beq k t
  · rw [hb] at h
    exact .inr ⟨fun e => by subst e; simp at hb, h⟩
  · rw [hb] at h
    exact .inl ⟨Nat.eq_of_beq_eq_true hb, by simpa using h⟩
theorem Has.put {S : List (Nat × Value)} {n : Nat} {a : Act} (h : Has S n a) {d : Nat} (hd : Nat.ble (d + 1) n = true) (v : Value) : Has ((d, v) :: S) n (a.put (some d) v) := by
  have hlt : d < n := Nat.le_of_ble_eq_true hd
  refine ⟨by simp [Act.put, h.size], fun t u hu => ?_, by simpa [Act.put] using h.df⟩
  rcases beq_look hu with ⟨rfl, rfl⟩ | ⟨hne, hu⟩
  · simp only [Act.put]
    rw [Array.getElem?_setIfInBounds]
    simp [h.size, hlt]
  · simp only [Act.put]
    rw [Array.getElem?_setIfInBounds]
    rw [if_neg hne]
    exact h.val t u hu
theorem Has.sub {S S' : List (Nat × Value)} {n : Nat} {a : Act} (h : Has S n a) (hs : ∀ t v, look S' t = some v → look S t = some v) : Has S' n a := ⟨h.size, fun t v ht => h.val t v (hs t v ht), h.df⟩
/-- A shorter list of slots. -/
def Sub (S : List (Nat × Value)) : List (Nat × Value) → Prop
  | [] => True
  | (k, v) :: r => look S k = some v ∧ Sub S r
theorem Sub.look {S : List (Nat × Value)} : ∀ {S' : List (Nat × Value)}, Sub S S' → ∀ t v, look S' t = some v → look S t = some v
  | [], _, t, v, h => by simp [Proofs.Ytodcildcipfmcaa.look] at h
  | (k, u) :: r, hs, t, v, h => by
    rcases beq_look h with ⟨rfl, rfl⟩ | ⟨_, h⟩
    · exact hs.1
    · exact Sub.look hs.2 t v h
def argSlots : Nat → List Value → List (Nat × Value)
  | _, [] => []
  | i, v :: r => (i, v) :: argSlots (i + 1) r
theorem argSlots_look : ∀ (l : List Value) (i t : Nat) (v : Value), look (argSlots i l) t = some v → i ≤ t ∧ l[t - i]? = some v
  | [], i, t, v, h => by simp [argSlots, look] at h
  | u :: r, i, t, v, h => by
    rcases beq_look h with ⟨rfl, rfl⟩ | ⟨hne, h⟩
    · simp
    · have := argSlots_look r (i + 1) t v h
      refine ⟨by omega, ?_⟩
      rw [show t - i = (t - (i + 1)) + 1 by omega]
      simpa using this.2
/-- What never changes during a walk: how many slots, the world at the start, the one old block that may turn, the types whose blocks the call does not write. -/
structure Cx where
  n : Nat
  w0 : World
  row : Option Nat
  Tt : List TypeId
/-- A fact that lasts: while nothing old turns, and while a block from N on (or the row) of a type that is not among Tt is written. -/
structure Lasts2 (N : Nat) (row : Option Nat) (Tt : List TypeId) (X : World → Prop) : Prop where
  gr : ∀ w w', w.grownBy w' none → X w → X w'
  st : ∀ (w w' : World) (r : Nat) (T : TypeId) (c : Array Value), w.heap[r]? = some (.cells c T (0, 0)) → T ∉ Tt → (N ≤ r ∨ row = some r) → w.grownBy w' (some r) → X w → X w'
theorem Lasts2.true_ {N : Nat} {row : Option Nat} {Tt : List TypeId} : Lasts2 N row Tt (fun _ => True) := ⟨fun _ _ _ _ => trivial, fun _ _ _ _ _ _ _ _ _ _ => trivial⟩
theorem Lasts2.and_ {N : Nat} {row : Option Nat} {Tt : List TypeId} {X Y : World → Prop} (hX : Lasts2 N row Tt X) (hY : Lasts2 N row Tt Y) : Lasts2 N row Tt (fun w => X w ∧ Y w) :=
  ⟨fun w w' h ⟨x, y⟩ => ⟨hX.gr w w' h x, hY.gr w w' h y⟩, fun w w' r T c h1 h2 h3 h4 ⟨x, y⟩ => ⟨hX.st w w' r T c h1 h2 h3 h4 x, hY.st w w' r T c h1 h2 h3 h4 y⟩⟩
/-- A slice of a type among Tt. -/
theorem SlT.lasts2 {α : Type} {enc : α → List Value} {k : Nat} {T : TypeId} {N : Nat} {row : Option Nat} {Tt : List TypeId} {A : Option Addr} {n : Nat} {l : List α} (hT : Tt.contains T = true) : Lasts2 N row Tt (fun w => SlT enc k T w A n l) :=
  ⟨fun _ _ h hx => hx.grow0 h, fun _ _ _ _ _ h1 h2 _ h3 hx => hx.grown h3 h1 (fun e => h2 (by subst e; simpa using hT))⟩
/-- The stream's own fact lasts while blocks of the call's own are written. -/
structure Keeps (N : Nat) (K : World → Prop) : Prop where
  gr : ∀ w w', w.grownBy w' none → K w → K w'
  st : ∀ (w w' : World) (r : Nat), N ≤ r → w.grownBy w' (some r) → K w → K w'
theorem Keeps.true_ {N : Nat} : Keeps N (fun _ => True) := ⟨fun _ _ _ _ => trivial, fun _ _ _ _ _ _ => trivial⟩
theorem Keeps.strm {TS : TypeId} {N B sb m : Nat} (h : sb < N) : Keeps N (fun w => Strm TS w B sb m) :=
  ⟨fun _ _ hg hs => hs.grown hg (fun k e => by cases e), fun _ _ r hr hg hs => hs.grown hg (fun k e => by cases e; omega)⟩
/-- A row of the call's own: a slice value that grows by appends; n elements of sz cells each, of type e, are xs. -/
structure Own where
  v : Value
  e : TypeId
  sz : Nat
  n : Nat
  xs : List Value
structure Mem (c : Cx) (K : World → Prop) (L : List (Nat × TypeId × List Value)) (O : List Own) (X : List (World → Prop)) (w : World) : Prop where
  g : c.w0.grownBy w c.row
  k : K w
  b : ∀ x ∈ L, c.w0.heap.size ≤ x.1 ∧ Blk w x.1 x.2.1 x.2.2
  nd : L.Pairwise (fun x y => x.1 ≠ y.1)
  o : ∀ r ∈ O, w.ownsRow c.w0.heap.size r.e r.sz r.v r.n r.xs
  od : ∀ r ∈ O, ∀ x ∈ L, r.v.ownBlock ≠ some x.1
  oo : O.Pairwise (fun r s => ∀ g, r.v.ownBlock = some g → s.v.ownBlock ≠ some g)
  x : ∀ A ∈ X, A w
  kk : Keeps c.w0.heap.size K
  l : ∀ A ∈ X, Lasts2 c.w0.heap.size c.row c.Tt A
  rs : ∀ r, c.row = some r → r < c.w0.heap.size
section
variable {c : Cx} {K : World → Prop} {L : List (Nat × TypeId × List Value)} {O : List Own} {X : List (World → Prop)} {Y : World → Prop} {w w' : World}
theorem Mem.lt (h : Mem c K L O X w) {g : Nat} {T : TypeId} {cs : List Value} (hm : (g, T, cs) ∈ L) : g < w.heap.size := (h.b _ hm).2.lt
theorem Mem.blk (h : Mem c K L O X w) {g : Nat} {T : TypeId} {cs : List Value} (hm : (g, T, cs) ∈ L) : Blk w g T cs := (h.b _ hm).2
theorem Mem.far (h : Mem c K L O X w) {g : Nat} {T : TypeId} {cs : List Value} (hm : (g, T, cs) ∈ L) : c.row ≠ some g := fun e => by have h1 := h.rs g e; have h2 : c.w0.heap.size ≤ g := (h.b _ hm).1; omega
theorem Mem.grow (h : Mem c K L O X w) (hg : w.grownBy w' none) : Mem c K L O X w' :=
  ⟨grow_trans h.g (grow_weak hg), h.kk.gr _ _ hg h.k, fun x hx => ⟨(h.b x hx).1, (h.b x hx).2.grown hg (by simp)⟩, h.nd, fun r hr => (h.o r hr).kept hg (by cases hv : r.v.ownBlock <;> simp), h.od, h.oo, fun A hA => (h.l A hA).gr _ _ hg (h.x A hA), h.kk, h.l, h.rs⟩
theorem Mem.new (h : Mem c K L O X w) (T : TypeId) (cs : List Value) : Mem c K ((w.heap.size, T, cs) :: L) O X (w.alloc (.cells cs.toArray T)) := by
  have h2 := h.grow (grow_alloc (World.grownBy.refl w none) (.cells cs.toArray T))
  refine ⟨h2.g, h2.k, fun x hx => ?_, List.Pairwise.cons (fun y hy e => by have h3 := (h.b y hy).2.lt; have e2 : w.heap.size = y.1 := e; omega) h.nd, h2.o, fun r hr x hx => ?_, h.oo, h2.x, h.kk, h.l, h.rs⟩
  · rcases List.mem_cons.1 hx with rfl | hx
    · exact ⟨h.g.size, Blk.at_ w rfl T cs⟩
    · exact h2.b x hx
  · rcases List.mem_cons.1 hx with rfl | hx
    · intro e
      have h1 := ((h.o r hr).lt _ e).2
      have h2 : w.heap.size < w.heap.size := h1
      omega
    · exact h.od r hr x hx
theorem Mem.also (h : Mem c K L O X w) (hl : Lasts2 c.w0.heap.size c.row c.Tt Y) (hy : Y w) : Mem c K L O (Y :: X) w := ⟨h.g, h.k, h.b, h.nd, h.o, h.od, h.oo, fun A hA => by
    rcases List.mem_cons.1 hA with rfl | hA
    · exact hy
    · exact h.x A hA, h.kk, fun A hA => by
    rcases List.mem_cons.1 hA with rfl | hA
    · exact hl
    · exact h.l A hA, h.rs⟩
theorem Mem.fact (h : Mem c K L O X w) (i : Nat) {A : World → Prop} (hi : X[i]? = some A) : A w := h.x A (List.mem_of_getElem? hi)
/-- Some of the facts. -/
def pickI {α : Type} (l : List α) : List Nat → List α
  | [] => []
  | i :: r => match l[i]? with
    | some x => x :: pickI l r
    | none => pickI l r
theorem pickI_mem {α : Type} {l : List α} : ∀ {is : List Nat} {x : α}, x ∈ pickI l is → ∃ i ∈ is, l[i]? = some x
  | [], x, h => by simp [pickI] at h
  | i :: r, x, h => by
    simp only [pickI] at h
    split at h
    · rename_i y hy
      rcases List.mem_cons.1 h with rfl | h
      · exact ⟨i, List.mem_cons_self .., hy⟩
      · obtain ⟨j, hj, hx⟩ := pickI_mem h
        exact ⟨j, List.mem_cons_of_mem _ hj, hx⟩
    · obtain ⟨j, hj, hx⟩ := pickI_mem h
      exact ⟨j, List.mem_cons_of_mem _ hj, hx⟩
/-- All these numbers differ. -/
def allNe : List Nat → Bool
  | [] => true
  | i :: r => r.all (fun j => !Nat.beq i j) && allNe r
theorem pickI_pair {α : Type} {R : α → α → Prop} (hs : ∀ x y, R x y → R y x) {l : List α} (hp : l.Pairwise R) : ∀ {is : List Nat}, allNe is = true → (pickI l is).Pairwise R
  | [], _ => List.Pairwise.nil
  | i :: r, h => by
    simp only [allNe, Bool.and_eq_true] at h
    simp only [pickI]
    split
    · rename_i x hx
      refine List.Pairwise.cons (fun y hy => ?_) (pickI_pair hs hp h.2)
      obtain ⟨j, hj, hy⟩ := pickI_mem hy
      have hne : i ≠ j := fun e => by
        have := List.all_eq_true.1 h.1 j hj
        subst e
        simp at this
      obtain ⟨hi, rfl⟩ := List.getElem?_eq_some_iff.1 hx
      obtain ⟨hj', rfl⟩ := List.getElem?_eq_some_iff.1 hy
      rcases Nat.lt_or_ge i j with h' | h'
      · exact List.pairwise_iff_getElem.1 hp i j hi hj' h'
      · exact hs _ _ (List.pairwise_iff_getElem.1 hp j i hj' hi (by omega))
    · exact pickI_pair hs hp h.2
theorem Mem.pickX (h : Mem c K L O X w) (is : List Nat) : Mem c K L O (pickI X is) w := ⟨h.g, h.k, h.b, h.nd, h.o, h.od, h.oo, fun A hA => by obtain ⟨i, _, hi⟩ := pickI_mem hA; exact h.fact i hi, h.kk, fun A hA => by obtain ⟨i, _, hi⟩ := pickI_mem hA; exact h.l A (List.mem_of_getElem? hi), h.rs⟩
theorem Mem.pickL (h : Mem c K L O X w) (is : List Nat) (hn : allNe is = true) : Mem c K (pickI L is) O X w := ⟨h.g, h.k, fun x hx => by obtain ⟨i, _, hi⟩ := pickI_mem hx; exact h.b x (List.mem_of_getElem? hi), pickI_pair (fun _ _ hr => hr.symm) h.nd hn, h.o, fun r hr x hx => by obtain ⟨i, _, hi⟩ := pickI_mem hx; exact h.od r hr x (List.mem_of_getElem? hi), h.oo, h.x, h.kk, h.l, h.rs⟩
theorem Mem.pickO (h : Mem c K L O X w) (is : List Nat) (hn : allNe is = true) : Mem c K L (pickI O is) X w := ⟨h.g, h.k, h.b, h.nd, fun r hr => by obtain ⟨i, _, hi⟩ := pickI_mem hr; exact h.o r (List.mem_of_getElem? hi), fun r hr => by obtain ⟨i, _, hi⟩ := pickI_mem hr; exact h.od r (List.mem_of_getElem? hi), pickI_pair (fun _ _ hr g hg e => hr g e hg) h.oo hn, h.x, h.kk, h.l, h.rs⟩
/-- Blocks, rows and facts by their places. -/
theorem Mem.pick (h : Mem c K L O X w) (ls os xs : List Nat) (hl : allNe ls = true) (ho : allNe os = true) : Mem c K (pickI L ls) (pickI O os) (pickI X xs) w := ((h.pickL ls hl).pickO os ho).pickX xs
theorem Mem.sub {L' : List (Nat × TypeId × List Value)} (h : Mem c K L O X w) (hs : L'.Sublist L) : Mem c K L' O X w := ⟨h.g, h.k, fun x hx => h.b x (hs.subset hx), h.nd.sublist hs, h.o, fun r hr x hx => h.od r hr x (hs.subset hx), h.oo, h.x, h.kk, h.l, h.rs⟩
/-- A block of the list turns: its new cells stand in its place. -/
def setBlk (g : Nat) (cs : List Value) : List (Nat × TypeId × List Value) → Nat → List (Nat × TypeId × List Value)
  | [], _ => []
  | x :: r, 0 => (g, x.2.1, cs) :: r
  | x :: r, i + 1 => x :: setBlk g cs r i
theorem setBlk_mem {g : Nat} {cs : List Value} : ∀ {i : Nat} {L : List (Nat × TypeId × List Value)} {T : TypeId} {cs0 : List Value}, L[i]? = some (g, T, cs0) → L.Pairwise (fun x y => x.1 ≠ y.1) → ∀ x ∈ setBlk g cs L i, x = (g, T, cs) ∨ (x ∈ L ∧ x.1 ≠ g)
  | _, [], _, _, h, _, x, hx => by simp [setBlk] at hx
  | 0, y :: r, T, cs0, h, hp, x, hx => by
    simp at h; subst h
    rcases List.mem_cons.1 hx with rfl | hx
    · exact .inl rfl
    · exact .inr ⟨List.mem_cons_of_mem _ hx, fun e => (List.pairwise_cons.1 hp).1 x hx e.symm⟩
  | i + 1, y :: r, T, cs0, h, hp, x, hx => by
    have hr : r[i]? = some (g, T, cs0) := by simpa using h
    rcases List.mem_cons.1 hx with rfl | hx
    · exact .inr ⟨List.mem_cons_self .., (List.pairwise_cons.1 hp).1 _ (List.mem_of_getElem? hr)⟩
    · rcases setBlk_mem hr (List.pairwise_cons.1 hp).2 x hx with h1 | ⟨h1, h2⟩
      · exact .inl h1
      · exact .inr ⟨List.mem_cons_of_mem _ h1, h2⟩
theorem setBlk_map {g : Nat} {cs : List Value} : ∀ {i : Nat} {L : List (Nat × TypeId × List Value)} {T : TypeId} {cs0 : List Value}, L[i]? = some (g, T, cs0) → (setBlk g cs L i).map (·.1) = L.map (·.1)
  | _, [], _, _, h => by rfl
  | 0, y :: r, T, cs0, h => by simp at h; subst h; rfl
  | i + 1, y :: r, T, cs0, h => by simp only [setBlk, List.map_cons]; rw [setBlk_map (by simpa using h)]
theorem pairwise_map {L L' : List (Nat × TypeId × List Value)} (h : L'.map (·.1) = L.map (·.1)) (hp : L.Pairwise (fun x y => x.1 ≠ y.1)) : L'.Pairwise (fun x y => x.1 ≠ y.1) := by
  have h1 : (L.map (·.1)).Pairwise (· ≠ ·) := List.pairwise_map.2 hp
  rw [← h] at h1
  exact List.pairwise_map.1 h1
theorem Mem.store (h : Mem c K L O X w) {i g : Nat} {T : TypeId} {cs cs' : List Value} (hm : L[i]? = some (g, T, cs)) (hT : c.Tt.contains T = false) (hg : w.grownBy w' (some g)) (hb : Blk w' g T cs') : Mem c K (setBlk g cs' L i) O X w' := by
  have hmem := List.mem_of_getElem? hm
  have hz : c.w0.heap.size ≤ g := (h.b _ hmem).1
  refine ⟨grow_own h.g hg (fun k e => by cases e; exact hz), h.kk.st _ _ g hz hg h.k, fun x hx => ?_, pairwise_map (setBlk_map hm) h.nd, fun r hr => (h.o r hr).kept hg (.inr (h.od r hr _ hmem)), fun r hr x hx => ?_, h.oo, fun A hA => (h.l A hA).st w w' g T _ (h.blk hmem) (fun e => by simp [e] at hT) (.inl hz) hg (h.x A hA), h.kk, h.l, h.rs⟩
  · rcases setBlk_mem hm h.nd x hx with rfl | ⟨h1, h2⟩
    · exact ⟨hz, hb⟩
    · exact ⟨(h.b x h1).1, (h.b x h1).2.grown hg (fun e => h2 (Option.some.inj e))⟩
  · rcases setBlk_mem hm h.nd x hx with rfl | ⟨h1, h2⟩
    · exact h.od r hr (g, T, cs) hmem
    · exact h.od r hr x h1
/-- A row of the call's own turns: its value, its elements. -/
def setOwn (r : Own) : List Own → Nat → List Own
  | [], _ => []
  | _ :: l, 0 => r :: l
  | x :: l, i + 1 => x :: setOwn r l i
theorem setOwn_mem {r : Own} : ∀ {O : List Own} {i : Nat} {r0 : Own}, O[i]? = some r0 → O.Pairwise (fun r s => ∀ g, r.v.ownBlock = some g → s.v.ownBlock ≠ some g) → ∀ x ∈ setOwn r O i, x = r ∨ (x ∈ O ∧ ∀ g, r0.v.ownBlock = some g → x.v.ownBlock ≠ some g)
  | [], _, _, h, _, x, hx => by simp [setOwn] at hx
  | y :: l, 0, r0, h, hp, x, hx => by
    simp at h; subst h
    rcases List.mem_cons.1 hx with rfl | hx
    · exact .inl rfl
    · exact .inr ⟨List.mem_cons_of_mem _ hx, (List.pairwise_cons.1 hp).1 x hx⟩
  | y :: l, i + 1, r0, h, hp, x, hx => by
    have hr : l[i]? = some r0 := by simpa using h
    rcases List.mem_cons.1 hx with rfl | hx
    · exact .inr ⟨List.mem_cons_self .., fun g hg e => (List.pairwise_cons.1 hp).1 _ (List.mem_of_getElem? hr) g e hg⟩
    · rcases setOwn_mem hr (List.pairwise_cons.1 hp).2 x hx with h1 | ⟨h1, h2⟩
      · exact .inl h1
      · exact .inr ⟨List.mem_cons_of_mem _ h1, h2⟩
theorem setOwn_pair {r : Own} : ∀ {O : List Own} {i : Nat} {r0 : Own}, O[i]? = some r0 → O.Pairwise (fun r s => ∀ g, r.v.ownBlock = some g → s.v.ownBlock ≠ some g) → (∀ x ∈ O, (∀ g, r0.v.ownBlock = some g → x.v.ownBlock ≠ some g) → ∀ g, r.v.ownBlock = some g → x.v.ownBlock ≠ some g) →
    (setOwn r O i).Pairwise (fun r s => ∀ g, r.v.ownBlock = some g → s.v.ownBlock ≠ some g)
  | [], _, _, h, _, _ => by simp at h
  | y :: l, 0, r0, h, hp, hn => by
    simp at h; subst h
    exact List.Pairwise.cons (fun x hx => hn x (List.mem_cons_of_mem _ hx) ((List.pairwise_cons.1 hp).1 x hx)) (List.pairwise_cons.1 hp).2
  | y :: l, i + 1, r0, h, hp, hn => by
    have hr : l[i]? = some r0 := by simpa using h
    refine List.Pairwise.cons (fun x hx => ?_) (setOwn_pair hr (List.pairwise_cons.1 hp).2 fun x hx => hn x (List.mem_cons_of_mem _ hx))
    rcases setOwn_mem hr (List.pairwise_cons.1 hp).2 x hx with rfl | ⟨h1, h2⟩
    · intro g hg e
      exact hn y (List.mem_cons_self ..) (fun g' hg' e' => (List.pairwise_cons.1 hp).1 _ (List.mem_of_getElem? hr) g' e' hg') g e hg
    · exact (List.pairwise_cons.1 hp).1 x h1
/-- Behind an append onto a row of the call's own. -/
theorem Mem.append (h : Mem c K L O X w) {i : Nat} {r : Own} {v' : Value} {n' : Nat} {xs' : List Value} (hm : O[i]? = some r) (hT : c.Tt.contains r.e = false) (hown : w'.ownsRow c.w0.heap.size r.e r.sz v' n' xs') (hg : w.grownBy w' r.v.ownBlock) (hb : v'.ownBlock = r.v.ownBlock ∨ v'.ownBlock = some w.heap.size) :
    Mem c K L (setOwn ⟨v', r.e, r.sz, n', xs'⟩ O i) X w' := by
  have hmem := List.mem_of_getElem? hm
  have hr := h.o r hmem
  have hnew : ∀ x ∈ L, v'.ownBlock ≠ some x.1 := fun x hx => by
    rcases hb with hb | hb
    · rw [hb]; exact h.od r hmem x hx
    · rw [hb]; intro e; have := (h.b x hx).2.lt; injection e with e; omega
  have hfar : ∀ x ∈ O, (∀ g, r.v.ownBlock = some g → x.v.ownBlock ≠ some g) → ∀ g, v'.ownBlock = some g → x.v.ownBlock ≠ some g := fun x hx hne g hg' e => by
    rcases hb with hb | hb
    · exact hne g (hb ▸ hg') e
    · have h1 := ((h.o x hx).lt _ e).2
      rw [hb] at hg'
      injection hg' with hg'
      omega
  have hX : (∀ A ∈ X, A w') ∧ K w' ∧ c.w0.grownBy w' c.row := by
    cases hv : r.v.ownBlock with
    | none =>
      rw [hv] at hg
      exact ⟨fun A hA => (h.l A hA).gr _ _ hg (h.x A hA), h.kk.gr _ _ hg h.k, grow_trans h.g (grow_weak hg)⟩
    | some g =>
      rw [hv] at hg
      have hz := (hr.lt g hv).1
      rcases hr.2 with ⟨e, _⟩ | ⟨g', cap, cur, e, _, hh, _⟩
      · rw [e] at hv; cases hv
      · rw [e] at hv
        have hgg : g' = g := Option.some.inj hv
        subst hgg
        exact ⟨fun A hA => (h.l A hA).st w w' g' r.e cur hh (fun e => by simp [e] at hT) (.inl hz) hg (h.x A hA), h.kk.st _ _ _ hz hg h.k, grow_own h.g hg (fun k e => by cases e; exact hz)⟩
  refine ⟨hX.2.2, hX.2.1, fun x hx => ⟨(h.b x hx).1, (h.b x hx).2.grown hg (fun e => h.od r hmem x hx e.symm)⟩, h.nd, fun s hs => ?_, fun s hs x hx => ?_, setOwn_pair hm h.oo hfar, hX.1, h.kk, h.l, h.rs⟩
  · rcases setOwn_mem hm h.oo s hs with rfl | ⟨h1, h2⟩
    · exact hown
    · refine (h.o s h1).kept hg ?_
      cases hv : s.v.ownBlock with
      | none => exact .inl rfl
      | some g => exact .inr (fun e => h2 g e.symm hv)
  · rcases setOwn_mem hm h.oo s hs with rfl | ⟨h1, _⟩
    · exact hnew x hx
    · exact h.od s h1 x hx
/-- A row of the call's own begins: nil. -/
theorem Mem.nilOwn (h : Mem c K L O X w) (e : TypeId) (sz : Nat) : Mem c K L (⟨.slice none 0 0, e, sz, 0, []⟩ :: O) X w :=
  ⟨h.g, h.k, h.b, h.nd, fun r hr => by
    rcases List.mem_cons.1 hr with rfl | hr
    · exact ⟨by simp, .inl ⟨rfl, rfl⟩⟩
    · exact h.o r hr, fun r hr x hx => by
    rcases List.mem_cons.1 hr with rfl | hr
    · simp [Value.ownBlock]
    · exact h.od r hr x hx, List.Pairwise.cons (fun x _ g hg => by cases hg) h.oo, h.x, h.kk, h.l, h.rs⟩
/-- A row that has just been made becomes one of the call's own. -/
theorem Mem.newOwn (h : Mem c K L O X w) (hg : w.grownBy w' none) {v : Value} {e : TypeId} {sz n : Nat} {xs : List Value} (hown : w'.ownsRow w.heap.size e sz v n xs) : Mem c K L (⟨v, e, sz, n, xs⟩ :: O) X w' := by
  have h2 := h.grow hg
  refine ⟨h2.g, h2.k, h2.b, h2.nd, fun r hr => ?_, fun r hr x hx => ?_, List.Pairwise.cons (fun x hx g hg' e' => ?_) h.oo, h2.x, h.kk, h.l, h.rs⟩
  · rcases List.mem_cons.1 hr with rfl | hr
    · refine ⟨hown.1, ?_⟩
      rcases hown.2 with hn | ⟨g, cap, cur, h1, h3, h4⟩
      · exact .inl hn
      · exact .inr ⟨g, cap, cur, h1, Nat.le_trans h.g.size h3, h4⟩
    · exact h2.o r hr
  · rcases List.mem_cons.1 hr with rfl | hr
    · intro e'
      have h3 := (hown.lt _ e').1
      have h4 := (h.b x hx).2.lt
      omega
    · exact h.od r hr x hx
  · have h3 := (hown.lt _ hg').1
    have h4 := ((h.o x hx).lt _ e').2
    omega
end
section
variable {P : Program} {c : Cx} {ops : Array Oper} {Q : Exit → Act → World → Prop} {rest : List Oper} {S : List (Nat × Value)} {K : World → Prop} {L : List (Nat × TypeId × List Value)} {O : List Own} {X : List (World → Prop)}
/-- The operations l are still to come. -/
def WL (P : Program) (c : Cx) (ops : Array Oper) (Q : Exit → Act → World → Prop) (l : List Oper) (S : List (Nat × Value)) (K : World → Prop) (L : List (Nat × TypeId × List Value)) (O : List Own) (X : List (World → Prop)) : Prop :=
  ∀ a w, Has S c.n a → Mem c K L O X w → wpList P ops Q l a w
/-- Code is still to come. -/
def Gw (P : Program) (c : Cx) (Q : Exit → Act → World → Prop) (code : Code) (S : List (Nat × Value)) (K : World → Prop) (L : List (Nat × TypeId × List Value)) (O : List Own) (X : List (World → Prop)) : Prop :=
  ∀ a w, Has S c.n a → Mem c K L O X w → code.wp P Q a w
/-- An exit has been reached. -/
def Nx (c : Cx) (Q : Exit → Act → World → Prop) (e : Exit) (S : List (Nat × Value)) (K : World → Prop) (L : List (Nat × TypeId × List Value)) (O : List Own) (X : List (World → Prop)) : Prop :=
  ∀ a w, Has S c.n a → Mem c K L O X w → Q e a w
theorem gw_seq {x y : Code} (h : Gw P c (Exit.then (y.wp P Q) Q) x S K L O X) : Gw P c Q (.seq x y) S K L O X := fun a w ha hm => wp_seq (h a w ha hm)
theorem gw_region {id : Nat} {l : List Oper} (h : WL P c l.toArray Q l S K L O X) : Gw P c Q (.region id l.toArray false) S K L O X := fun a w ha hm => wp_region_lit (h a w ha hm)
theorem wl_nil (h : Nx c Q .normal S K L O X) : WL P c ops Q [] S K L O X := fun a w ha hm => wpList_nil (h a w ha hm)
theorem gw_skip (h : Nx c Q .normal S K L O X) : Gw P c Q .skip S K L O X := fun a w ha hm => wp_skip (h a w ha hm)
theorem gw_ret (h : Nx c Q .ret S K L O X) : Gw P c Q .ret S K L O X := fun a w ha hm => wp_ret (h a w ha hm)
theorem gw_exit {id : Nat} (h : Nx c Q (.exit id) S K L O X) : Gw P c Q (.exit id) S K L O X := fun a w ha hm => wp_exit (h a w ha hm)
theorem gw_block {id : Nat} {x : Code} (h : Gw P c (Exit.inBlock id Q) x S K L O X) : Gw P c Q (.block id x) S K L O X := fun a w ha hm => wp_block (h a w ha hm)
theorem gw_cond {x : Operand} {y z : Code} {b : Bool} (hx : rd S x = some (.bool b)) (ht : b = true → Gw P c Q y S K L O X) (hf : b = false → Gw P c Q z S K L O X) : Gw P c Q (.cond x y z) S K L O X :=
  fun a w ha hm => wp_cond_split (ha.eval hx) (fun h => ht h a w ha hm) (fun h => hf h a w ha hm)
theorem nx_then {y : Code} (h : Gw P c Q y S K L O X) : Nx c (Exit.then (y.wp P Q) Q) .normal S K L O X := h
theorem nx_then_ret {Y : Act → World → Prop} (h : Nx c Q .ret S K L O X) : Nx c (Exit.then Y Q) .ret S K L O X := h
theorem nx_then_exit {Y : Act → World → Prop} {id : Nat} (h : Nx c Q (.exit id) S K L O X) : Nx c (Exit.then Y Q) (.exit id) S K L O X := h
theorem nx_blk_ret {id : Nat} (h : Nx c Q .ret S K L O X) : Nx c (Exit.inBlock id Q) .ret S K L O X := h
theorem nx_blk_nrm {id : Nat} (h : Nx c Q .normal S K L O X) : Nx c (Exit.inBlock id Q) .normal S K L O X := h
theorem nx_blk_here {id : Nat} (h : Nx c Q .normal S K L O X) : Nx c (Exit.inBlock id Q) (.exit id) S K L O X := fun a w ha hm => by
  simp only [Exit.inBlock, if_true]; exact h a w ha hm
theorem nx_blk_on {id id' : Nat} (hne : Nat.beq id' id = false) (h : Nx c Q (.exit id') S K L O X) : Nx c (Exit.inBlock id Q) (.exit id') S K L O X := fun a w ha hm => by
  have : id' ≠ id := fun e => by subst e; simp at hne
  simp only [Exit.inBlock, if_neg this]; exact h a w ha hm
/-- A fact about the world at hand is looked at. -/
theorem gw_look {code : Code} {R : Prop} (hr : ∀ w, Mem c K L O X w → R) (h : R → Gw P c Q code S K L O X) : Gw P c Q code S K L O X := fun a w ha hm => h (hr w hm) a w ha hm
theorem wl_look {l : List Oper} {R : Prop} (hr : ∀ w, Mem c K L O X w → R) (h : R → WL P c ops Q l S K L O X) : WL P c ops Q l S K L O X := fun a w ha hm => h (hr w hm) a w ha hm
/-- A loop: what holds at its head is a family of states. -/
theorem gw_loop {γ : Type} {code : Code} (I : γ → Prop) (S' : γ → List (Nat × Value)) (K' : γ → World → Prop) (L' : γ → List (Nat × TypeId × List Value)) (O' : γ → List Own) (X' : γ → List (World → Prop)) (μ : γ → Nat)
    (g0 : γ) (h0 : I g0) (hs : Sub S (S' g0)) (hM : ∀ w, Mem c K L O X w → Mem c (K' g0) (L' g0) (O' g0) (X' g0) w)
    (h : ∀ g, I g → Gw P c (Exit.then (fun a w => ∃ g', (I g' ∧ Has (S' g') c.n a ∧ Mem c (K' g') (L' g') (O' g') (X' g') w) ∧ μ g' < μ g) Q) code (S' g) (K' g) (L' g) (O' g) (X' g)) : Gw P c Q (.loop code) S K L O X := by
  intro a w ha hm
  intro b k cs
  have key : ∀ n a w, (∃ g, I g ∧ Has (S' g) c.n a ∧ Mem c (K' g) (L' g) (O' g) (X' g) w ∧ μ g = n) →
      ∃ e a' w', Q e a' w' ∧ Arrives P (lone (b.at a (.code code :: .inLoop code :: k)) cs w) b k cs e a' w' := by
    intro n
    induction n using Nat.strongRecOn with
    | _ n ih =>
      intro a w ⟨g, hI, hS, hmm, hk⟩
      obtain ⟨e, a₁, w₁, hq, harr⟩ := h g hI a w hS hmm b (.inLoop code :: k) cs
      cases e with
      | normal =>
        obtain ⟨g', ⟨hI', hS', hm'⟩, hlt⟩ := hq
        obtain ⟨e₂, a₂, w₂, hq₂, harr₂⟩ := ih (μ g') (hk ▸ hlt) a₁ w₁ ⟨g', hI', hS', hm', rfl⟩
        exact ⟨e₂, a₂, w₂, hq₂, .of_steps (Steps.trans harr (.one step_inLoop)) harr₂⟩
      | exit id => exact ⟨_, a₁, w₁, hq, .pass (x := .inLoop code) rfl (fun _ _ => .inl (by simp)) harr⟩
      | goto l => exact ⟨_, a₁, w₁, hq, .pass (x := .inLoop code) rfl (fun _ _ => .inl (by simp)) harr⟩
      | ret => exact ⟨_, a₁, w₁, hq, .pass (x := .inLoop code) rfl (fun _ _ => .inl (by simp)) harr⟩
      | panic ch => exact ⟨_, a₁, w₁, hq, .pass (x := .inLoop code) rfl (fun _ _ => .inl (by simp)) harr⟩
      | outgrown => exact ⟨_, a₁, w₁, hq, .pass (x := .inLoop code) rfl (fun _ _ => .inl (by simp)) harr⟩
  obtain ⟨e, a', w', hq, harr⟩ := key _ a w ⟨g0, h0, ha.sub hs.look, hM w hm, rfl⟩
  exact ⟨e, a', w', hq, .of_steps (.one step_loop) harr⟩
end
end Go.Proofs.Ytodcildcipfmcaa
namespace Go.Proofs.Ytodcildcipfmcaa
open Go.RowKit
def scalarB (P : Program) (t : TypeId) : Bool :=
  match P.underlying t with
  | none | some (.struct _) | some (.array ..) => false
  | _ => match P.info? t with
    | some i => i.size == 1
    | none => false
def rowSz (P : Program) (t : TypeId) : Option Nat :=
  match P.underlying t with
  | some (.struct _) | some (.array ..) => (P.info? t).map (·.size)
  | _ => none
def fieldOff (P : Program) (t : TypeId) (i : Nat) : Option Nat :=
  match P.underlying t with
  | some (.struct fs) => match fs[i]? with
    | some f => match P.info? f.type with
      | some inf => if inf.size = 0 then none else some f.offset
      | none => none
    | none => none
  | _ => none
def elemSz (P : Program) (t : TypeId) : Option (TypeId × Nat) :=
  match P.underlying t with
  | some (.slice e) => (P.info? e).map fun i => (e, i.size)
  | _ => none
def zeroCs (P : Program) (t : TypeId) : Option (List Value) := ((P.info? t).bind (·.zero)).map (·.cells.toList)
def callableB (P : Program) (f : FuncId) : Bool :=
  match P.funcs[f]? with
  | some fn => !(fn.name == "runtime.NumGoroutine") && fn.body.isSome
  | none => false
def builtRow (P : Program) (t : TypeId) (len : Nat) (parts : List (Nat × Value)) : Option (TypeId × List Value) :=
  match P.underlying t with
  | some (.slice e) => match P.info? e with
    | some i => match i.zero with
      | some z => if len * i.size > 2 ^ 24 ∨ len * i.size = 0 then none else
        (Instr.fill (fun k => some (k * i.size, i.size)) ((Array.range (len * i.size)).map (z.cells[· % z.cells.size]!)) parts).map fun cs => (e, cs.toList)
      | none => none
    | none => none
  | _ => none
section
variable {P : Program} {c : Cx} {ops : Array Oper} {Q : Exit → Act → World → Prop} {rest : List Oper} {S : List (Nat × Value)} {K : World → Prop} {L : List (Nat × TypeId × List Value)} {O : List Own} {X : List (World → Prop)}
variable {nn : Nat} {Z : World → Prop} {d : Nat} {ty : TypeId} {pos : String} {aft : Array Edge}
/-- An operation that yields a value and leaves the world alone. -/
theorem wl_run {op : Op} {v : Value} (hd : Nat.ble (d + 1) c.n = true) (hrun : ∀ a w, Has S c.n a → Mem c K L O X w → (execOp a.eval ⟨some d, op, ty, pos, aft, none⟩).run P w = .ok (.value v) w)
    (h : WL P c ops Q rest ((d, v) :: S) K L O X) : WL P c ops Q (⟨some d, op, ty, pos, aft, none⟩ :: rest) S K L O X := by
  intro a w ha hm
  refine wpList_plain rfl fun K' hK => ?_
  unfold Oper.wp
  rw [hrun a w ha hm]
  exact hK _ _ (h _ _ (ha.put hd v) hm)
/-- An operation that yields the value v in every world of which Z holds, and leaves it alone. -/
def OV (P : Program) (nn : Nat) (S : List (Nat × Value)) (Z : World → Prop) (o : Oper) (v : Value) : Prop := ∀ a w, Has S nn a → Z w → (execOp a.eval o).run P w = .ok (.value v) w
theorem wl_ov {op : Op} {v : Value} (ho : OV P c.n S (Mem c K L O X) ⟨some d, op, ty, pos, aft, none⟩ v) (hd : Nat.ble (d + 1) c.n = true) (h : WL P c ops Q rest ((d, v) :: S) K L O X) : WL P c ops Q (⟨some d, op, ty, pos, aft, none⟩ :: rest) S K L O X := wl_run hd ho h
theorem ov_move {x : Operand} {v : Value} (hx : rd S x = some v) : OV P nn S Z ⟨some d, .move x, ty, pos, aft, none⟩ (v) :=
  (fun a w ha hm => by simp [execOp, ha.eval hx])
theorem ov_assign {x : Operand} {v : Value} (hx : rd S x = some v) : OV P nn S Z ⟨some d, .assign x, ty, pos, aft, none⟩ (v) :=
  (fun a w ha hm => by simp [execOp, ha.eval hx])
theorem ov_pick_t {x y z : Operand} {v : Value} (hx : rd S x = some (.bool true)) (hy : rd S y = some v) : OV P nn S Z ⟨some d, .pick x y z, ty, pos, aft, none⟩ (v) :=
  (fun a w ha hm => by simp [execOp, ha.eval hx, ha.eval hy, asBool])
theorem ov_pick_f {x y z : Operand} {v : Value} (hx : rd S x = some (.bool false)) (hz : rd S z = some v) : OV P nn S Z ⟨some d, .pick x y z, ty, pos, aft, none⟩ (v) :=
  (fun a w ha hm => by simp [execOp, ha.eval hx, ha.eval hz, asBool])
/-- A guard that is met; one that is not. -/
theorem wl_guard_on {o : Oper} {j : Nat} {b : Bool} {t : Nat} {op : Op} {dst : Option Nat} (ho : o = ⟨dst, op, ty, pos, aft, some (j, b)⟩) (hj : (ops[j]?).bind (·.dst) = some t) (hb : look S t = some (.bool b)) (h : WL P c ops Q (⟨dst, op, ty, pos, aft, none⟩ :: rest) S K L O X) : WL P c ops Q (o :: rest) S K L O X := by
  subst ho
  intro a w ha hm
  have h1 := h a w ha hm
  unfold wpList at h1 ⊢
  have hy : yielded ops a.tmps j = some b := by
    unfold yielded
    rw [hj]
    simp [ha.val t _ hb]
  rw [if_pos (by simp [Region.wanted, hy])]
  rw [if_pos (by simp [Region.wanted])] at h1
  exact h1
theorem wl_guard_off {o : Oper} {j : Nat} {b b' : Bool} {t : Nat} {op : Op} (ho : o = ⟨some d, op, ty, pos, aft, some (j, b)⟩) (hj : (ops[j]?).bind (·.dst) = some t) (hb : look S t = some (.bool b')) (hne : b' ≠ b) (hd : Nat.ble (d + 1) c.n = true) (h : WL P c ops Q rest ((d, undef) :: S) K L O X) : WL P c ops Q (o :: rest) S K L O X := by
  subst ho
  intro a w ha hm
  unfold wpList
  have hy : yielded ops a.tmps j = some b' := by
    unfold yielded
    rw [hj]
    simp [ha.val t _ hb]
  rw [if_neg (by simp [Region.wanted, hy, hne])]
  exact h _ _ (ha.put hd _) hm
theorem ov_un_not {x : Operand} {b : Bool} (hx : rd S x = some (.bool b)) {t : TypeId} : OV P nn S Z ⟨some d, .unOp .not t x, ty, pos, aft, none⟩ (.bool (!b)) :=
  (fun a w ha hm => by simp [execOp, ha.eval hx, Op.unary])
theorem ov_neg {x : Operand} {m : Int} (hx : rd S x = some (.int .i64 m)) (h0 : -9223372036854775807 ≤ m) (h1 : m ≤ 9223372036854775807) {t : TypeId} : OV P nn S Z ⟨some d, .unOp .neg t x, ty, pos, aft, none⟩ (.int .i64 (-m)) :=
  (fun a w ha hm => by
    have : IntKind.i64.wrap (-m) = -m := IntWalk.i64_in _ (by omega)
    simp [execOp, ha.eval hx, Op.unary, Op.intArith, this])
theorem ov_bin {op : BinOp} {t t' : TypeId} {x y : Operand} {vx vy v : Value} (hx : rd S x = some vx) (hy : rd S y = some vy) (hrun : ∀ w, (do eqGuard op t x y vx vy; binOp op t vx vy : Sem Value).run P w = .ok v w) : OV P nn S Z ⟨some d, .binOp op t x y t', ty, pos, aft, none⟩ (v) :=
  (fun a w ha hm => by
    have := hrun w
    simp only [execOp, ha.eval hx, ha.eval hy]
    rw [Sem.run_bind, this]
    rfl)
theorem ov_add {t t' : TypeId} {x y : Operand} {m n : Int} (hx : rd S x = some (.int .i64 m)) (hy : rd S y = some (.int .i64 n)) (h0 : -9223372036854775808 ≤ m + n) (h1 : m + n ≤ 9223372036854775807) : OV P nn S Z ⟨some d, .binOp .add t x y t', ty, pos, aft, none⟩ (.int .i64 (m + n)) :=
  ov_bin hx hy (fun w => by have : IntKind.i64.wrap (m + n) = m + n := IntWalk.i64_in _ (by omega)
                            simp [binOp_add, Op.intArith, this, go_sem])
theorem ov_sub {t t' : TypeId} {x y : Operand} {m n : Int} (hx : rd S x = some (.int .i64 m)) (hy : rd S y = some (.int .i64 n)) (h0 : -9223372036854775808 ≤ m - n) (h1 : m - n ≤ 9223372036854775807) : OV P nn S Z ⟨some d, .binOp .sub t x y t', ty, pos, aft, none⟩ (.int .i64 (m - n)) :=
  ov_bin hx hy (fun w => by have : IntKind.i64.wrap (m - n) = m - n := IntWalk.i64_in _ (by omega)
                            simp [binOp_sub, Op.intArith, this, go_sem])
theorem ov_mul {t t' : TypeId} {x y : Operand} {m n : Int} (hx : rd S x = some (.int .i64 m)) (hy : rd S y = some (.int .i64 n)) (h0 : -9223372036854775808 ≤ m * n) (h1 : m * n ≤ 9223372036854775807) : OV P nn S Z ⟨some d, .binOp .mul t x y t', ty, pos, aft, none⟩ (.int .i64 (m * n)) :=
  ov_bin hx hy (fun w => by have : IntKind.i64.wrap (m * n) = m * n := IntWalk.i64_in _ (by omega)
                            simp [binOp_mul, Op.intArith, this, go_sem])
theorem ov_lss {t t' : TypeId} {x y : Operand} {k : IntKind} {m n : Int} (hx : rd S x = some (.int k m)) (hy : rd S y = some (.int k n)) : OV P nn S Z ⟨some d, .binOp .lss t x y t', ty, pos, aft, none⟩ (.bool (decide (m < n))) :=
  ov_bin hx hy (fun w => by simp [go_sem])
theorem ov_leq {t t' : TypeId} {x y : Operand} {k : IntKind} {m n : Int} (hx : rd S x = some (.int k m)) (hy : rd S y = some (.int k n)) : OV P nn S Z ⟨some d, .binOp .leq t x y t', ty, pos, aft, none⟩ (.bool (decide (m ≤ n))) :=
  ov_bin hx hy (fun w => by simp [go_sem])
theorem ov_gtr {t t' : TypeId} {x y : Operand} {k : IntKind} {m n : Int} (hx : rd S x = some (.int k m)) (hy : rd S y = some (.int k n)) : OV P nn S Z ⟨some d, .binOp .gtr t x y t', ty, pos, aft, none⟩ (.bool (decide (n < m))) :=
  ov_bin hx hy (fun w => by simp [go_sem])
theorem ov_geq {t t' : TypeId} {x y : Operand} {k : IntKind} {m n : Int} (hx : rd S x = some (.int k m)) (hy : rd S y = some (.int k n)) : OV P nn S Z ⟨some d, .binOp .geq t x y t', ty, pos, aft, none⟩ (.bool (decide (n ≤ m))) :=
  ov_bin hx hy (fun w => by simp [go_sem])
theorem ov_eql {t t' : TypeId} {x y : Operand} {k : IntKind} {m n : Int} (hx : rd S x = some (.int k m)) (hy : rd S y = some (.int k n)) : OV P nn S Z ⟨some d, .binOp .eql t x y t', ty, pos, aft, none⟩ (.bool (decide (m = n))) :=
  ov_bin hx hy (fun w => by simp [go_sem]; rfl)
theorem ov_neq {t t' : TypeId} {x y : Operand} {k : IntKind} {m n : Int} (hx : rd S x = some (.int k m)) (hy : rd S y = some (.int k n)) : OV P nn S Z ⟨some d, .binOp .neq t x y t', ty, pos, aft, none⟩ (.bool (!decide (m = n))) :=
  ov_bin hx hy (fun w => by simp [go_sem]; rfl)
theorem ov_seql {t t' : TypeId} {x y : Operand} {m n : ByteArray} (hx : rd S x = some (.string m)) (hy : rd S y = some (.string n)) : OV P nn S Z ⟨some d, .binOp .eql t x y t', ty, pos, aft, none⟩ (.bool (m.toList == n.toList)) :=
  ov_bin hx hy (fun w => by simp [go_sem])
theorem ov_sneq {t t' : TypeId} {x y : Operand} {m n : ByteArray} (hx : rd S x = some (.string m)) (hy : rd S y = some (.string n)) : OV P nn S Z ⟨some d, .binOp .neq t x y t', ty, pos, aft, none⟩ (.bool (!(m.toList == n.toList))) :=
  ov_bin hx hy (fun w => by simp [go_sem])
theorem ov_sleq {t t' : TypeId} {x y : Operand} {m n : ByteArray} (hx : rd S x = some (.string m)) (hy : rd S y = some (.string n)) : OV P nn S Z ⟨some d, .binOp .leq t x y t', ty, pos, aft, none⟩ (.bool (Op.bytesLess m.toList n.toList || m.toList == n.toList)) :=
  ov_bin hx hy (fun w => by simp [go_sem])
theorem ov_extract {x : Operand} {i : Nat} {vs : List Value} {v : Value} (hx : rd S x = some (.tuple vs.toArray)) (hv : vs[i]? = some v) : OV P nn S Z ⟨some d, .extract x i, ty, pos, aft, none⟩ (v) :=
  (fun a w ha hm => by simp [execOp, ha.eval hx, Instr.extract, hv])
theorem run_field {t : TypeId} {i off g o : Nat} (hf : fieldOff P t i = some off) (w : World) : (Instr.fieldAt t (.pointer (some ⟨g, o, none⟩)) i).run P w = .ok (.pointer (some ⟨g, o + off, none⟩)) w := by
  unfold fieldOff at hf
  split at hf
  · rename_i fs hu
    split at hf
    · rename_i f hfi
      split at hf
      · rename_i inf hi
        split at hf
        · cases hf
        · rename_i hz
          simp only [Option.some.injEq] at hf
          subst hf
          have : (⟨g, o, none⟩ : Addr).add f.offset = ⟨g, o + f.offset, none⟩ := by
            unfold Addr.add
            split
            · rename_i e; rw [e]; rfl
            · rfl
          simp [Instr.fieldAt, run_underlying hu, hfi, Instr.sureAddr, fieldPlace, sizeOf, typeInfo, hi, hz, this]
      · cases hf
    · cases hf
  · cases hf
theorem ov_field {t : TypeId} {x : Operand} {i off g o o' : Nat} (hf : fieldOff P t i = some off) (hx : rd S x = some (.pointer (some ⟨g, o, none⟩))) (ho : o + off = o') : OV P nn S Z ⟨some d, .fieldAddr t x i, ty, pos, aft, none⟩ (.pointer (some ⟨g, o', none⟩)) :=
  (fun a w ha hm => by subst ho; simp only [execOp, ha.eval hx]; rw [Sem.run_bind, run_field hf]; rfl)
theorem add_addr (b off n : Nat) : (⟨b, off, none⟩ : Addr).add n = ⟨b, off + n, none⟩ := by
  unfold Addr.add
  split
  · rename_i h; subst h; rfl
  · rfl
theorem run_index {t e : TypeId} {sz b off n cap j : Nat} (he : elemSz P t = some (e, sz)) (hj : j < n) (w : World) : (Instr.indexAt t (.slice (some ⟨b, off, none⟩) n cap) (.int .i64 (j : Int))).run P w = .ok (.pointer (some ⟨b, off + j * sz, none⟩)) w := by
  unfold elemSz at he
  split at he
  · rename_i e' hu
    cases hi : P.info? e' with
    | none => simp [hi] at he
    | some inf =>
      simp only [hi, Option.map_some, Option.some.injEq, Prod.mk.injEq] at he
      obtain ⟨rfl, rfl⟩ := he
      have hlt : (0 : Int) ≤ (j : Int) ∧ (j : Int) < (n : Int) := ⟨by omega, by omega⟩
      simp [Instr.indexAt, run_underlying hu, asIntOf, sizeOf, typeInfo, hi, add_addr]
      omega
  · cases he
theorem ov_index {t e : TypeId} {x y : Operand} {sz b off n cap j : Nat} (he : elemSz P t = some (e, sz)) (hx : rd S x = some (.slice (some ⟨b, off, none⟩) n cap)) (hy : rd S y = some (.int .i64 (j : Int))) (hj : j < n) : OV P nn S Z ⟨some d, .indexAddr t x y, ty, pos, aft, none⟩ (.pointer (some ⟨b, off + j * sz, none⟩)) :=
  (fun a w ha hm => by simp only [execOp, ha.eval hx, ha.eval hy]; rw [Sem.run_bind, run_index he hj]; rfl)
theorem run_scalar {t : TypeId} (hs : scalarB P t = true) (w : World) : (isAgg t).run P w = .ok false w ∧ (sizeOf t).run P w = .ok 1 w := by
  unfold scalarB at hs
  cases hu : P.underlying t with
  | none => simp [hu] at hs
  | some dd =>
    cases hi : P.info? t with
    | none => cases dd <;> simp [hu, hi] at hs
    | some inf =>
      have h1 : inf.size = 1 := by cases dd <;> simp_all
      refine ⟨?_, by simp [sizeOf, typeInfo, hi, h1]⟩
      unfold isAgg
      rw [Sem.run_bind, run_underlying hu]
      cases dd <;> simp_all
theorem ov_load_at {t : TypeId} {x : Operand} {g o : Nat} {v : Value} (hs : scalarB P t = true) (hx : rd S x = some (.pointer (some ⟨g, o, none⟩))) (hc : ∀ w, Z w → w.cell? ⟨g, o, none⟩ = some v) : OV P nn S Z ⟨some d, .load t x, ty, pos, aft, none⟩ (v) :=
  (fun a w ha hm => by
    simp only [execOp, ha.eval hx, Instr.loadAt, Instr.sureAddr, loadVar]
    simp [(run_scalar hs w).1, hc w hm])
theorem ov_load {t : TypeId} {x : Operand} {g o : Nat} {v : Value} {T : TypeId} {cs : List Value} (hs : scalarB P t = true) (hx : rd S x = some (.pointer (some ⟨g, o, none⟩))) (hb : ∀ w, Z w → Blk w g T cs) (hv : cs[o]? = some v) : OV P nn S Z ⟨some d, .load t x, ty, pos, aft, none⟩ v :=
  ov_load_at hs hx (fun w hm => (hb w hm).cell_of hv)
theorem run_row {t : TypeId} {n : Nat} (hs : rowSz P t = some n) : ∃ dd, P.underlying t = some dd ∧ dd.isRow = true ∧ (P.info? t).map (·.size) = some n := by
  unfold rowSz at hs
  cases hu : P.underlying t with
  | none => simp [hu] at hs
  | some dd =>
    cases dd <;> simp [hu] at hs <;> exact ⟨_, rfl, rfl, by simpa using hs⟩
theorem ov_load_rows {t : TypeId} {x : Operand} {g o k : Nat} {vs : List Value} (hs : rowSz P t = some k) (hx : rd S x = some (.pointer (some ⟨g, o, none⟩))) (hc : ∀ w, Z w → w.rangeAt g o vs) (hn : vs.length = k) : OV P nn S Z ⟨some d, .load t x, ty, pos, aft, none⟩ (.agg vs.toArray) := by
  intro a w ha hm
  obtain ⟨dd, hu, hr, hi⟩ := run_row hs
  simp only [execOp, ha.eval hx]
  rw [Sem.run_bind, run_loadAt_mid w g o t vs dd (hc w hm) hu hr (by rw [hn]; exact hi)]
  rfl
theorem range_blk {w : World} {g : Nat} {T : TypeId} {cs vs : List Value} {o n : Nat} (hb : Blk w g T cs) (hv : (cs.drop o).take n = vs) : w.rangeAt g o vs := by
  intro j v hj
  rw [hb.cell]
  subst hv
  rw [List.getElem?_take] at hj
  split at hj
  · rwa [List.getElem?_drop] at hj
  · cases hj
/-- A struct or an array in a known block is loaded. -/
theorem ov_loads {t : TypeId} {x : Operand} {g o k : Nat} {vs : List Value} {T : TypeId} {cs : List Value} (hs : rowSz P t = some k) (hx : rd S x = some (.pointer (some ⟨g, o, none⟩))) (hb : ∀ w, Z w → Blk w g T cs) (hv : (cs.drop o).take k = vs) (hn : vs.length = k) : OV P nn S Z ⟨some d, .load t x, ty, pos, aft, none⟩ (.agg vs.toArray) :=
  ov_load_rows hs hx (fun w hm => range_blk (hb w hm) hv) hn
theorem slt_range {α : Type} {enc : α → List Value} {sz : Nat} {T : TypeId} {l : List α} {xx : α} {b off n j : Nat} {w : World} (hsl : SlT enc sz T w (some ⟨b, off, none⟩) n l) (hj : l[j]? = some xx) : w.rangeAt b (off + j * sz) (enc xx) := by
  have hlt := (List.getElem?_eq_some_iff.1 hj).1
  obtain ⟨_, _, he, _, hr⟩ := hsl.get (by have := hsl.len; omega)
  injection he with he
  injection he with e1 e2 _
  subst e1; subst e2
  exact hr j xx hj
/-- A struct out of a slice that reads as a list. -/
theorem ov_elem {α : Type} {enc : α → List Value} {sz : Nat} {T : TypeId} {l : List α} {xx : α} {t : TypeId} {x : Operand} {b off m j : Nat} {vs : List Value} (hs : rowSz P t = some sz) (hx : rd S x = some (.pointer (some ⟨b, off + j * sz, none⟩)))
    (hX : ∀ w, Z w → SlT enc sz T w (some ⟨b, off, none⟩) m l) (hj : l[j]? = some xx) (hv : enc xx = vs) (hn : vs.length = sz) : OV P nn S Z ⟨some d, .load t x, ty, pos, aft, none⟩ (.agg vs.toArray) :=
  ov_load_rows hs hx (fun w hm => hv ▸ slt_range (hX w hm) hj) hn
/-- A scalar out of an element of a slice that reads as a list. -/
theorem ov_elem1 {α : Type} {enc : α → List Value} {sz k : Nat} {T : TypeId} {l : List α} {xx : α} {t : TypeId} {x : Operand} {b off m j o : Nat} {v : Value} (hs : scalarB P t = true) (hx : rd S x = some (.pointer (some ⟨b, o, none⟩)))
    (hX : ∀ w, Z w → SlT enc sz T w (some ⟨b, off, none⟩) m l) (hj : l[j]? = some xx) (ho : off + j * sz + k = o) (hv : (enc xx)[k]? = some v) : OV P nn S Z ⟨some d, .load t x, ty, pos, aft, none⟩ v :=
  ov_load_at hs hx (fun w hm => by subst ho; exact slt_range (hX w hm) hj k v hv)
/-- A scalar is stored into a block of the list. -/
theorem wl_store {t : TypeId} {x y : Operand} {g o : Nat} {v : Value} (i : Nat) {T : TypeId} {cs : List Value} (hs : scalarB P t = true) (hx : rd S x = some (.pointer (some ⟨g, o, none⟩))) (hy : rd S y = some v) (h1 : v.oneCell' = true) (hL : L[i]? = some (g, T, cs)) (ho : Nat.ble (o + 1) cs.length = true)
    (hT : c.Tt.contains T = false) (h : WL P c ops Q rest S K (setBlk g (cs.set o v) L i) O X) : WL P c ops Q (⟨none, .store t x y, ty, pos, aft, none⟩ :: rest) S K L O X := by
  intro a w ha hm
  refine wpList_plain rfl fun K' hK => ?_
  have hb := hm.blk (List.mem_of_getElem? hL)
  have hlt : o < cs.length := Nat.le_of_ble_eq_true ho
  have hc : w.cell? ⟨g, o, none⟩ = some cs[o] := hb.cell_of (by simp [hlt])
  have hst : (store ⟨g, o, none⟩ v).run P w = .ok () (w.setCell ⟨g, o, none⟩ v) := by
    rw [run_store P w _ _ _ h1]
    simp [hc, hb.frozen]
  have hv1 : v.cells = #[v] := by cases v <;> simp_all [Value.cells, Value.oneCell']
  unfold Oper.wp
  have : (execOp a.eval ⟨none, .store t x y, ty, pos, aft, none⟩).run P w = .ok .skip (w.setCell ⟨g, o, none⟩ v) := by
    simp only [execOp, ha.eval hx, ha.eval hy, Instr.storeAt, Instr.sureAddr, storeVar, hv1]
    simp [(run_scalar hs w).2, storeCells, add_addr, hst]
  rw [this]
  exact hK _ _ (h _ _ ⟨ha.size, ha.val, ha.df⟩ (hm.store hL hT (grow_setCell (World.grownBy.refl _ _) (.inl rfl) _) (hb.set_ o v)))
/-- A struct or an array is stored into a block of the list. -/
theorem wl_stores {t : TypeId} {x y : Operand} {g o n : Nat} {vs : List Value} (i : Nat) {T : TypeId} {cs cs' : List Value} (hs : rowSz P t = some n) (hx : rd S x = some (.pointer (some ⟨g, o, none⟩))) (hy : rd S y = some (.agg vs.toArray)) (h1 : vs.all (·.oneCell') = true) (hn : vs.length = n) (hL : L[i]? = some (g, T, cs)) (ho : Nat.ble (o + n) cs.length = true)
    (hT : c.Tt.contains T = false) (hcs : splice cs o vs = cs') (h : WL P c ops Q rest S K (setBlk g cs' L i) O X) : WL P c ops Q (⟨none, .store t x y, ty, pos, aft, none⟩ :: rest) S K L O X := by
  intro a w ha hm
  have hb := hm.blk (List.mem_of_getElem? hL)
  obtain ⟨dd, hu, hr, hi⟩ := run_row hs
  subst hcs
  refine wpList_store_blk rfl t x y rfl g o T cs vs hb (ha.eval hx) (ha.eval hy) n hi hn (Nat.le_of_ble_eq_true ho) (by simpa using h1) fun w' hb' hg => ?_
  exact h _ _ ⟨ha.size, ha.val, ha.df⟩ (hm.store hL hT hg hb')
/-- A new block. -/
theorem wl_alloc {t : TypeId} {cs : List Value} (hz : zeroCs P t = some cs) (hd : Nat.ble (d + 1) c.n = true) (h : ∀ g, WL P c ops Q rest ((d, .pointer (some ⟨g, 0, none⟩)) :: S) K ((g, t, cs) :: L) O X) : WL P c ops Q (⟨some d, .alloc t, ty, pos, aft, none⟩ :: rest) S K L O X := by
  intro a w ha hm
  refine wpList_plain rfl fun K' hK => ?_
  unfold zeroCs at hz
  cases hi : P.info? t with
  | none => simp [hi] at hz
  | some inf =>
    cases hzz : inf.zero with
    | none => simp [hi, hzz] at hz
    | some z =>
      simp only [hi, hzz, Option.bind_some, Option.map_some, Option.some.injEq] at hz
      unfold Oper.wp
      have : (execOp a.eval ⟨some d, .alloc t, ty, pos, aft, none⟩).run P w = .ok (.value (.pointer (some ⟨w.heap.size, 0, none⟩))) (w.alloc (.cells cs.toArray t)) := by
        subst hz
        simp [execOp, Instr.alloc, zeroValue, typeInfo, hi, hzz, newVar, newRow]
      rw [this]
      exact hK _ _ (h _ _ _ (ha.put hd _) (hm.new t cs))
theorem wl_box {t : TypeId} {x : Operand} {v : Value} {cs : List Value} (hx : rd S x = some v) (hcs : v.cells = cs.toArray) (hd : Nat.ble (d + 1) c.n = true) (h : ∀ g, WL P c ops Q rest ((d, .pointer (some ⟨g, 0, none⟩)) :: S) K ((g, t, cs) :: L) O X) : WL P c ops Q (⟨some d, .box t x, ty, pos, aft, none⟩ :: rest) S K L O X := by
  intro a w ha hm
  refine wpList_plain rfl fun K' hK => ?_
  unfold Oper.wp
  have : (execOp a.eval ⟨some d, .box t x, ty, pos, aft, none⟩).run P w = .ok (.value (.pointer (some ⟨w.heap.size, 0, none⟩))) (w.alloc (.cells cs.toArray t)) := by
    simp [execOp, ha.eval hx, Instr.box, newVar, newRow, hcs]
  rw [this]
  exact hK _ _ (h _ _ _ (ha.put hd _) (hm.new t cs))
def evParts (S : List (Nat × Value)) : List (Nat × Operand) → Option (List (Nat × Value))
  | [] => some []
  | (i, x) :: r => match rd S x, evParts S r with
    | some v, some l => some ((i, v) :: l)
    | _, _ => none
theorem Has.parts {n : Nat} {a : Act} (ha : Has S n a) : ∀ {ps : List (Nat × Operand)} {l : List (Nat × Value)}, evParts S ps = some l → ps.map (fun x => (x.1, a.eval x.2)) = l
  | [], l, h => by simp [evParts] at h; simp [h]
  | (i, x) :: r, l, h => by
    simp only [evParts] at h
    split at h
    · rename_i v l' hv hl
      simp only [Option.some.injEq] at h
      subst h
      simp [ha.eval hv, Has.parts ha hl]
    · cases h
theorem ov_build {t : TypeId} {ps : List (Nat × Operand)} {l : List (Nat × Value)} {cs : List Value} (hp : evParts S ps = some l) (hb : P.built t l = some cs.toArray) : OV P nn S Z ⟨some d, .build t ps.toArray, ty, pos, aft, none⟩ (.agg cs.toArray) :=
  (fun a w ha hm => by
    have e : (ps.toArray.map fun (i, x) => (i, a.eval x)) = l.toArray := by rw [← ha.parts hp]; simp
    simp only [execOp, e]
    rw [Sem.run_bind, run_build (P := P) w t l.toArray cs.toArray (by simpa using hb)]
    rfl)
theorem wl_buildSlice {t e : TypeId} {len : Nat} {ps : List (Nat × Operand)} {l : List (Nat × Value)} {cs : List Value} (hp : evParts S ps = some l) (hb : builtRow P t len l = some (e, cs)) (hd : Nat.ble (d + 1) c.n = true)
    (h : ∀ g, WL P c ops Q rest ((d, .slice (some ⟨g, 0, none⟩) len len) :: S) K ((g, e, cs) :: L) O X) : WL P c ops Q (⟨some d, .buildSlice t len ps.toArray, ty, pos, aft, none⟩ :: rest) S K L O X := by
  intro a w ha hm
  refine wpList_plain rfl fun K' hK => ?_
  unfold Oper.wp
  have : (execOp a.eval ⟨some d, .buildSlice t len ps.toArray, ty, pos, aft, none⟩).run P w = .ok (.value (.slice (some ⟨w.heap.size, 0, none⟩) len len)) (w.alloc (.cells cs.toArray e)) := by
    have e1 : (ps.toArray.map fun (i, x) => (i, a.eval x)) = l.toArray := by rw [← ha.parts hp]; simp
    simp only [execOp, e1]
    unfold builtRow at hb
    cases hu : P.underlying t with
    | none => simp [hu] at hb
    | some dd =>
      cases dd <;> simp only [hu] at hb <;> try (simp at hb; done)
      rename_i e'
      cases hi : P.info? e' with
      | none => simp [hi] at hb
      | some inf =>
        cases hz : inf.zero with
        | none => simp [hi, hz] at hb
        | some z =>
          simp only [hi, hz] at hb
          split at hb
          · cases hb
          · rename_i hsz
            cases hf : Instr.fill (fun k => some (k * inf.size, inf.size)) ((Array.range (len * inf.size)).map (z.cells[· % z.cells.size]!)) l with
            | none => simp [hf] at hb
            | some cs2 =>
              simp only [hf, Option.map_some, Option.some.injEq, Prod.mk.injEq] at hb
              obtain ⟨rfl, rfl⟩ := hb
              have h1 : ¬ (len * inf.size > 2 ^ 24) := fun h => hsz (.inl h)
              have h2 : ¬ (len * inf.size = 0) := fun h => hsz (.inr h)
              simp [Instr.buildSlice, run_underlying hu, sizeOf, zeroValue, typeInfo, hi, hz, h1, h2, hf, newRow]
  rw [this]
  exact hK _ _ (h _ _ _ (ha.put hd _) (hm.new e cs))
end
end Go.Proofs.Ytodcildcipfmcaa
namespace Go.Proofs.Ytodcildcipfmcaa
open Go.RowKit
/-- A slice that came in. -/
def SlOld {α : Type} (enc : α → List Value) (k : Nat) (T : TypeId) (N : Nat) (row : Option Nat) (A : Option Addr) (n : Nat) (l : List α) (w : World) : Prop :=
  SlT enc k T w A n l ∧ ∀ b off, A = some ⟨b, off, none⟩ → 0 < n → b < N ∧ row ≠ some b
section
variable {α : Type} {enc : α → List Value} {k : Nat} {T : TypeId} {N : Nat} {row : Option Nat} {A : Option Addr} {n : Nat} {l : List α} {w : World}
theorem SlT.old (h : SlT enc k T w A n l) : SlOld enc k T w.heap.size none A n l w := ⟨h, fun b off e hn => by
  obtain ⟨b', off', e', hb, _⟩ := h.get hn
  rw [e] at e'
  injection e' with e'
  injection e' with e1 _ _
  subst e1
  exact ⟨hb, by simp⟩⟩
theorem SlT.oldRow (h : SlT enc k T w A n l) {sb : Nat} {TS : TypeId} {cs : Array Value} (hs : w.heap[sb]? = some (.cells cs TS (0, 0))) (hT : T ≠ TS) : SlOld enc k T w.heap.size (some sb) A n l w := ⟨h, fun b off e hn => by
  obtain ⟨b', off', cells, fz, e', hh, _⟩ := h.at_ hn
  rw [e] at e'
  injection e' with e'
  injection e' with e1 _ _
  subst e1
  refine ⟨lt_of_block hh, fun e2 => ?_⟩
  injection e2 with e2
  subst e2
  rw [hs] at hh
  injection hh with hh
  injection hh with _ h2 _
  exact hT h2.symm⟩
theorem SlOld.lasts {Tt : List TypeId} : Lasts2 N row Tt (SlOld enc k T N row A n l) :=
  ⟨fun _ _ h hx => ⟨hx.1.grow0 h, hx.2⟩, fun w w' r T' c _ _ h3 hg hx => ⟨by
    refine ⟨hx.1.len, fun hn => ?_⟩
    obtain ⟨b, off, cells, fz, e, hh, hc⟩ := hx.1.at_ hn
    have h4 := hx.2 b off e hn
    exact ⟨b, off, cells, fz, e, (hg.block b (lt_of_block hh) (fun e2 => by
      injection e2 with e2
      subst e2
      rcases h3 with h3 | h3
      · omega
      · exact h4.2 h3)).trans hh, hc⟩, hx.2⟩⟩
end
section
variable {P : Program} {c : Cx} {ops : Array Oper} {Q : Exit → Act → World → Prop} {rest : List Oper} {S : List (Nat × Value)} {K : World → Prop} {L : List (Nat × TypeId × List Value)} {O : List Own} {X : List (World → Prop)}
variable {nn : Nat} {Z : World → Prop} {d : Nat} {ty : TypeId} {pos : String} {aft : Array Edge}
/-- A call begins. -/
theorem gw_enter {f : FuncId} {fn : Func} {code : Code} {args : List Value} {w : World} {R : Ending → World → Prop} (c : Cx) (hf : P.funcs[f]? = some fn) (hb : fn.body = some code) (hn : fn.ntmps = c.n) (hsz : Nat.ble args.length c.n = true) (hm : Mem c K L O X w) (h : Gw P c (bodyPost P fn R) code (argSlots 0 args) K L O X) :
    Calls P f args.toArray w R := by
  have hle : args.length ≤ c.n := Nat.le_of_ble_eq_true hsz
  refine calls_of_wp hf hb (h _ w ⟨?_, fun t v ht => ?_, rfl⟩ hm)
  · simp [hn]; omega
  · have h1 := argSlots_look args 0 t v ht
    have h2 : args[t]? = some v := by simpa using h1.2
    have hlt := (List.getElem?_eq_some_iff.1 h2).1
    rw [Array.getElem?_append_left (by simpa using hlt)]
    simpa using h2
theorem mem0 {n : Nat} {Tt : List TypeId} {w : World} (hX : ∀ A ∈ X, A w) (hl : ∀ A ∈ X, Lasts2 w.heap.size none Tt A) : Mem ⟨n, w, none, Tt⟩ (fun _ => True) [] [] X w :=
  ⟨World.grownBy.refl _ _, trivial, (fun _ hx => by cases hx), List.Pairwise.nil, (fun _ hx => by cases hx), (fun _ hx => by cases hx), List.Pairwise.nil, hX, Keeps.true_, hl, (fun _ hr => by cases hr)⟩
theorem memS {n : Nat} {Tt : List TypeId} {w : World} {TS : TypeId} {B sb m : Nat} (hS : Strm TS w B sb m) (hX : ∀ A ∈ X, A w) (hl : ∀ A ∈ X, Lasts2 w.heap.size (some sb) Tt A) : Mem ⟨n, w, some sb, Tt⟩ (fun w => Strm TS w B sb m) [] [] X w :=
  ⟨World.grownBy.refl _ _, hS, (fun _ hx => by cases hx), List.Pairwise.nil, (fun _ hx => by cases hx), (fun _ hx => by cases hx), List.Pairwise.nil, hX, Keeps.strm hS.lt, hl, (fun _ hr => by cases hr; exact hS.lt)⟩
section
variable {fn : Func} {R : Ending → World → Prop}
theorem nx_ret0 (hr : fn.results = #[]) (h : ∀ w, Mem c K L O X w → R (.returned (.tuple #[])) w) : Nx c (bodyPost P fn R) .normal S K L O X := fun _ w ha hm => bodyPost_end (results_none hr _ _ _) ha.df (h w hm)
theorem nx_ret1 {t : Nat} {v : Value} (hr : fn.results = #[.tmp t]) (hv : look S t = some v) (h : ∀ w, Mem c K L O X w → R (.returned v) w) : Nx c (bodyPost P fn R) .ret S K L O X := fun a w ha hm =>
  bodyPost_ret (by rw [results_tmp hr]; simp [Array.getD_eq_getD_getElem?, ha.val t v hv]) ha.df (h w hm)
theorem nx_ret2 {t u : Nat} {v v' : Value} (hr : fn.results = #[.tmp t, .tmp u]) (hv : look S t = some v) (hv' : look S u = some v') (h : ∀ w, Mem c K L O X w → R (.returned (.tuple #[v, v'])) w) : Nx c (bodyPost P fn R) .ret S K L O X := fun a w ha hm =>
  bodyPost_ret (by rw [results_tmp2 hr]; simp [Array.getD_eq_getD_getElem?, ha.val t v hv, ha.val u v' hv']) ha.df (h w hm)
theorem nx_retct {p u : Nat} {t T : TypeId} {g n : Nat} {cs : List Value} {v : Value} (i : Nat) (hr : fn.results = #[.cell p t, .tmp u]) (hs : rowSz P t = some n) (hp : look S p = some (.pointer (some ⟨g, 0, none⟩))) (hv : look S u = some v) (hL : L[i]? = some (g, T, cs)) (hn : cs.length = n)
    (h : ∀ w, Mem c K L O X w → R (.returned (.tuple #[.agg cs.toArray, v])) w) : Nx c (bodyPost P fn R) .ret S K L O X := fun a w ha hm => by
  obtain ⟨dd, hu, hd, hi⟩ := run_row hs
  refine bodyPost_ret (?_ : (results fn a.tmps).run P w = .ok (.tuple #[.agg cs.toArray, v]) w) ha.df (h w hm)
  have hl := run_loadVar_row (P := P) w g T t cs.toArray (0, 0) dd (hm.blk (List.mem_of_getElem? hL)) hu (by cases dd <;> simp_all [TypeDesc.isRow]) (by simpa [hn] using hi)
  rw [results_cell_tmp hr]
  simp [Array.getD_eq_getD_getElem?, ha.val p _ hp, ha.val u _ hv, asAddr, hl]
end
def evArgs (S : List (Nat × Value)) : List Operand → Option (List Value)
  | [] => some []
  | x :: r => match rd S x, evArgs S r with
    | some v, some l => some (v :: l)
    | _, _ => none
theorem Has.args {n : Nat} {a : Act} (ha : Has S n a) : ∀ {ps : List Operand} {l : List Value}, evArgs S ps = some l → ps.map a.eval = l
  | [], l, h => by simp [evArgs] at h; simp [h]
  | x :: r, l, h => by
    simp only [evArgs] at h
    split at h
    · rename_i v l' hv hl
      simp only [Option.some.injEq] at h
      subst h
      simp [ha.eval hv, Has.args ha hl]
    · cases h
theorem run_callable {f : FuncId} (hf : callableB P f = true) (args : Array Value) (w : World) : (callFunc f args).run P w = .ok (.enter f args) w := by
  unfold callableB at hf
  cases h : P.funcs[f]? with
  | none => simp [h] at hf
  | some fn =>
    simp only [h, Bool.and_eq_true, Bool.not_eq_true'] at hf
    obtain ⟨h1, h2⟩ := hf
    have h3 : fn.body.isNone = false := by cases hb : fn.body <;> simp_all
    unfold callFunc
    rw [Sem.run_bind]
    simp only [run_program, Result.andThen_ok, h, h1, h3, Bool.false_eq_true, if_false]
    rfl
theorem wl_callG {γ : Type} {f : FuncId} {x : Operand} {ags : List Operand} {ats : Array TypeId} {vs fs cs : List Value} {val : γ → Value} {φ : γ → Prop} {K' : γ → World → Prop} {L' : γ → List (Nat × TypeId × List Value)} {O' : γ → List Own} {X' : γ → List (World → Prop)} (hx : rd S x = some (.func (.func f) fs.toArray cs.toArray)) (hf : callableB P f = true) (ha : evArgs S ags = some vs) (hd : Nat.ble (d + 1) c.n = true)
    (hC : ∀ w, Mem c K L O X w → Calls P f (fs ++ vs ++ cs).toArray w (fun e w' => ∃ g, e = .returned (val g) ∧ φ g ∧ Mem c (K' g) (L' g) (O' g) (X' g) w')) (h : ∀ g, φ g → WL P c ops Q rest ((d, val g) :: S) (K' g) (L' g) (O' g) (X' g)) :
    WL P c ops Q (⟨some d, .call ⟨.value x, ags.toArray, ats⟩, ty, pos, aft, none⟩ :: rest) S K L O X := by
  intro a w hh hm
  refine wpList_plain rfl fun K'' hK => ?_
  unfold Oper.wp
  have : (execOp a.eval ⟨some d, .call ⟨.value x, ags.toArray, ats⟩, ty, pos, aft, none⟩).run P w = .ok (.enter f (fs ++ vs ++ cs).toArray) w := by
    have e : ags.toArray.map a.eval = vs.toArray := by rw [← hh.args ha]; simp
    simp only [execOp, resolve, hh.eval hx, e, Deferred.ofValue, Sem.run_bind, Sem.run_pure, Result.andThen_ok, invoke]
    rw [run_callable hf]
    simp
  rw [this]
  refine (hC w hm).mono ?_
  rintro e w' ⟨g, rfl, hφ, hm'⟩
  exact hK _ _ (h g hφ _ _ (hh.put hd _) hm')
/-- A call whose result is known, and that turns nothing old. -/
theorem wl_callv {f : FuncId} {x : Operand} {ags : List Operand} {ats : Array TypeId} {vs fs cs : List Value} {v : Value} (hx : rd S x = some (.func (.func f) fs.toArray cs.toArray)) (hf : callableB P f = true) (ha : evArgs S ags = some vs) (hd : Nat.ble (d + 1) c.n = true)
    (hC : ∀ w, Mem c K L O X w → Calls P f (fs ++ vs ++ cs).toArray w (fun e w' => e = .returned v ∧ w.grownBy w' none)) (h : WL P c ops Q rest ((d, v) :: S) K L O X) :
    WL P c ops Q (⟨some d, .call ⟨.value x, ags.toArray, ats⟩, ty, pos, aft, none⟩ :: rest) S K L O X :=
  wl_callG (γ := Unit) (val := fun _ => v) (φ := fun _ => True) (K' := fun _ => K) (L' := fun _ => L) (O' := fun _ => O) (X' := fun _ => X) hx hf ha hd (fun w hm => (hC w hm).mono fun _ _ ⟨he, hg⟩ => ⟨(), he, trivial, hm.grow hg⟩) (fun _ _ => h)
/-- A call that leaves the world as it was. -/
theorem wl_callw {f : FuncId} {x : Operand} {ags : List Operand} {ats : Array TypeId} {vs fs cs : List Value} {v : Value} (hx : rd S x = some (.func (.func f) fs.toArray cs.toArray)) (hf : callableB P f = true) (ha : evArgs S ags = some vs) (hd : Nat.ble (d + 1) c.n = true)
    (hC : ∀ w, Mem c K L O X w → Calls P f (fs ++ vs ++ cs).toArray w (fun e w' => e = .returned v ∧ w = w')) (h : WL P c ops Q rest ((d, v) :: S) K L O X) :
    WL P c ops Q (⟨some d, .call ⟨.value x, ags.toArray, ats⟩, ty, pos, aft, none⟩ :: rest) S K L O X :=
  wl_callv hx hf ha hd (fun w hm => (hC w hm).mono fun _ _ ⟨he, hg⟩ => ⟨he, hg ▸ World.grownBy.refl _ _⟩) h
/-- A call that turns nothing old; of its result some facts are known, which last. -/
theorem wl_callx {γ : Type} {f : FuncId} {x : Operand} {ags : List Operand} {ats : Array TypeId} {vs fs cs : List Value} {val : γ → Value} {φ : γ → Prop} {Y : γ → World → Prop} (hx : rd S x = some (.func (.func f) fs.toArray cs.toArray)) (hf : callableB P f = true) (ha : evArgs S ags = some vs) (hd : Nat.ble (d + 1) c.n = true)
    (hC : ∀ w, Mem c K L O X w → Calls P f (fs ++ vs ++ cs).toArray w (fun e w' => ∃ g, e = .returned (val g) ∧ φ g ∧ w.grownBy w' none ∧ Y g w')) (hl : ∀ g, Lasts2 c.w0.heap.size c.row c.Tt (Y g)) (h : ∀ g, φ g → WL P c ops Q rest ((d, val g) :: S) K L O (Y g :: X)) :
    WL P c ops Q (⟨some d, .call ⟨.value x, ags.toArray, ats⟩, ty, pos, aft, none⟩ :: rest) S K L O X :=
  wl_callG (γ := γ) (val := val) (φ := φ) (K' := fun _ => K) (L' := fun _ => L) (O' := fun _ => O) (X' := fun g => Y g :: X) hx hf ha hd (fun w hm => (hC w hm).mono fun _ _ ⟨g, he, hφ, hg, hy⟩ => ⟨g, he, hφ, (hm.grow hg).also (hl g) hy⟩) h
/-- A call that draws from the stream. -/
theorem Mem.strm {TS : TypeId} {B sb m m' : Nat} {w w' : World} {Y : World → Prop} (h : Mem c (fun w => Strm TS w B sb m) L O X w) (hrow : c.row = some sb) (hT : c.Tt.contains TS = false) (hS : Strm TS w' B sb m') (hg : w.grownBy w' (some sb)) (hl : Lasts2 c.w0.heap.size c.row c.Tt Y) (hy : Y w') : Mem c (fun w => Strm TS w B sb m') L O (Y :: X) w' := by
  obtain ⟨A, n, cc, k, hh, _⟩ := h.k.pos
  have hlt := h.rs sb hrow
  refine ⟨grow_trans h.g (hrow ▸ hg), hS, fun x hx => ⟨(h.b x hx).1, (h.b x hx).2.grown hg (fun e => ?_)⟩, h.nd, fun r hr => (h.o r hr).kept hg ?_, h.od, h.oo, fun A hA => ?_, Keeps.strm hlt, fun A hA => ?_, h.rs⟩
  · have := (h.b x hx).1; injection e with e; omega
  · cases hv : r.v.ownBlock with
    | none => exact .inl rfl
    | some g => exact .inr (fun e => by have := ((h.o r hr).lt g hv).1; injection e with e; omega)
  · rcases List.mem_cons.1 hA with rfl | hA
    · exact hy
    · exact (h.l A hA).st w w' sb TS _ hh (fun e => by simp [e] at hT) (.inr hrow) hg (h.x A hA)
  · rcases List.mem_cons.1 hA with rfl | hA
    · exact hl
    · exact h.l A hA
theorem wl_calls {γ : Type} {TS : TypeId} {B sb m m' : Nat} {f : FuncId} {x : Operand} {ags : List Operand} {ats : Array TypeId} {vs fs cs : List Value} {val : γ → Value} {φ : γ → Prop} {Y : γ → World → Prop} (hx : rd S x = some (.func (.func f) fs.toArray cs.toArray)) (hf : callableB P f = true) (ha : evArgs S ags = some vs) (hd : Nat.ble (d + 1) c.n = true) (hrow : c.row = some sb) (hT : c.Tt.contains TS = false)
    (hC : ∀ w, Mem c (fun w => Strm TS w B sb m) L O X w → Calls P f (fs ++ vs ++ cs).toArray w (fun e w' => ∃ g, e = .returned (val g) ∧ φ g ∧ Strm TS w' B sb m' ∧ w.grownBy w' (some sb) ∧ Y g w')) (hl : ∀ g, Lasts2 c.w0.heap.size c.row c.Tt (Y g)) (h : ∀ g, φ g → WL P c ops Q rest ((d, val g) :: S) (fun w => Strm TS w B sb m') L O (Y g :: X)) :
    WL P c ops Q (⟨some d, .call ⟨.value x, ags.toArray, ats⟩, ty, pos, aft, none⟩ :: rest) S (fun w => Strm TS w B sb m) L O X :=
  wl_callG (γ := γ) (val := val) (φ := φ) (K' := fun _ w => Strm TS w B sb m') (L' := fun _ => L) (O' := fun _ => O) (X' := fun g => Y g :: X) hx hf ha hd (fun w hm => (hC w hm).mono fun _ _ ⟨g, he, hφ, hS, hg, hy⟩ => ⟨g, he, hφ, hm.strm hrow hT hS hg (hl g) hy⟩) h
theorem ov_len {t e : TypeId} {sz : Nat} {x : Operand} {A : Option Addr} {n cap : Nat} (he : elemSz P t = some (e, sz)) (hx : rd S x = some (.slice A n cap)) : OV P nn S Z ⟨some d, .call ⟨.builtin .len, #[x], #[t]⟩, ty, pos, aft, none⟩ (.int .i64 (n : Int)) :=
  (fun a w ha hm => by
    have hu : ∃ e', P.underlying t = some (.slice e') := by
      unfold elemSz at he
      split at he
      · exact ⟨_, by assumption⟩
      · cases he
    obtain ⟨e', hu⟩ := hu
    simp [execOp, resolve, invoke, builtin, ha.eval hx, Builtin.len_, run_underlying hu, goInt])
theorem ov_max {ts : Array TypeId} {x y : Operand} {m n : Int} (hx : rd S x = some (.int .i64 m)) (hy : rd S y = some (.int .i64 n)) : OV P nn S Z ⟨some d, .call ⟨.builtin .max, #[x, y], ts⟩, ty, pos, aft, none⟩ (.int .i64 (max m n)) :=
  (fun a w ha hm => by
    have e : (if n > m then n else m) = max m n := by split <;> omega
    simp only [execOp, resolve, invoke, builtin, List.map_toArray, List.map_cons, List.map_nil, ha.eval hx, ha.eval hy, Sem.run_bind, Sem.run_pure, Result.andThen_ok, run_max_int2, e])
theorem ov_min {ts : Array TypeId} {x y : Operand} {m n : Int} (hx : rd S x = some (.int .i64 m)) (hy : rd S y = some (.int .i64 n)) : OV P nn S Z ⟨some d, .call ⟨.builtin .min, #[x, y], ts⟩, ty, pos, aft, none⟩ (.int .i64 (min m n)) :=
  (fun a w ha hm => by
    have e : (if n < m then n else m) = min m n := by split <;> omega
    simp only [execOp, resolve, invoke, builtin, List.map_toArray, List.map_cons, List.map_nil, ha.eval hx, ha.eval hy, Sem.run_bind, Sem.run_pure, Result.andThen_ok, run_min_int2, e])
def appB (P : Program) (t : TypeId) : Option (TypeId × Nat × Nat) :=
  match P.underlying t with
  | some (.slice e) => match P.info? e with
    | some i => match i.zero with
      | some z => if z.cells.size = i.size ∧ 0 < i.size then some (e, i.size, i.bytes) else none
      | none => none
    | none => none
  | _ => none
/-- append onto a row of the call's own; what is appended lies in a block of the list. -/
theorem wl_append {t e : TypeId} {sz by_ : Nat} {x y : Operand} {g m n cap : Nat} {v : Value} {xs cs news : List Value} {T : TypeId} (i j : Nat) (ht : appB P t = some (e, sz, by_)) (hx : rd S x = some v) (hO : O[i]? = some ⟨v, e, sz, n, xs⟩) (hy : rd S y = some (.slice (some ⟨g, 0, none⟩) m cap)) (hL : L[j]? = some (g, T, cs)) (hnews : cs.take (m * sz) = news) (hln : news.length = m * sz)
    (h1 : news.all (·.oneCell') = true) (hb : (n + m) * by_ ≤ 140737488355328) (h63 : n + m ≤ maxLen) (hT : c.Tt.contains e = false) (hd : Nat.ble (d + 1) c.n = true)
    (h : ∀ v', (v' = .slice none 0 0 ↔ v = .slice none 0 0 ∧ m = 0) → WL P c ops Q rest ((d, v') :: S) K L (setOwn ⟨v', e, sz, n + m, xs ++ news⟩ O i) X) : WL P c ops Q (⟨some d, .call ⟨.builtin .append, #[x, y], #[t, t]⟩, ty, pos, aft, none⟩ :: rest) S K L O X := by
  intro a w ha hm
  unfold appB at ht
  split at ht
  · rename_i e' hu
    split at ht
    · rename_i inf hi
      split at ht
      · rename_i z hz
        split at ht
        · rename_i hzz
          simp only [Option.some.injEq, Prod.mk.injEq] at ht
          obtain ⟨rfl, rfl, rfl⟩ := ht
          have hown := hm.o _ (List.mem_of_getElem? hO)
          have hblk := hm.blk (List.mem_of_getElem? hL)
          refine wpList_append_own_at _ rfl x y t rfl c.w0.heap.size e' inf z inf.size inf.bytes hu hi hz rfl rfl hzz.1 hzz.2 v n xs (ha.eval hx) hown ⟨g, 0, none⟩ m cap news (ha.eval hy) hln (fun k u hk => ?_) (by simpa using h1) h63 hb hm.g.size fun v' w' h2 h3 h4 h5 => ?_
          · rw [add_addr, Nat.zero_add]
            refine hblk.cell_of ?_
            subst hnews
            rw [List.getElem?_take] at hk
            split at hk
            · exact hk
            · cases hk
          · exact h v' h4 _ _ (ha.put hd _) (hm.append hO hT h2 h3 h5)
        · cases ht
      · cases ht
    · cases ht
  · cases ht
theorem gw_cut {γ : Type} {x y : Code} {I : γ → Prop} {S' : γ → List (Nat × Value)} {K' : γ → World → Prop} {L' : γ → List (Nat × TypeId × List Value)} {O' : γ → List Own} {X' : γ → List (World → Prop)}
    (h1 : Gw P c (Exit.then (fun a w => ∃ g, I g ∧ Has (S' g) c.n a ∧ Mem c (K' g) (L' g) (O' g) (X' g) w) Q) x S K L O X) (h2 : ∀ g, I g → Gw P c Q y (S' g) (K' g) (L' g) (O' g) (X' g)) : Gw P c Q (.seq x y) S K L O X := fun a w ha hm =>
  wp_seq (Code.wp_mono (fun e a' w' hq => by
    cases e with
    | normal => obtain ⟨g, hI, hs, hmm⟩ := hq; exact h2 g hI a' w' hs hmm
    | _ => exact hq) (h1 a w ha hm))
/-- The end of a piece that was cut. -/
theorem nx_meet {γ : Type} {I : γ → Prop} {S' : γ → List (Nat × Value)} {K' : γ → World → Prop} {L' : γ → List (Nat × TypeId × List Value)} {O' : γ → List Own} {X' : γ → List (World → Prop)} (g : γ) (hI : I g) (hs : Sub S (S' g)) (hM : ∀ w, Mem c K L O X w → Mem c (K' g) (L' g) (O' g) (X' g) w) :
    Nx c (Exit.then (fun a w => ∃ g, I g ∧ Has (S' g) c.n a ∧ Mem c (K' g) (L' g) (O' g) (X' g) w) Q) .normal S K L O X := fun _ w ha hm => ⟨g, hI, ha.sub hs.look, hM w hm⟩
/-- The end of a round. -/
theorem nx_round {γ : Type} {μ : γ → Nat} {k : Nat} {I : γ → Prop} {S' : γ → List (Nat × Value)} {K' : γ → World → Prop} {L' : γ → List (Nat × TypeId × List Value)} {O' : γ → List Own} {X' : γ → List (World → Prop)} (g : γ) (hI : I g) (hlt : μ g < k) (hs : Sub S (S' g)) (hM : ∀ w, Mem c K L O X w → Mem c (K' g) (L' g) (O' g) (X' g) w) :
    Nx c (Exit.then (fun a w => ∃ g', (I g' ∧ Has (S' g') c.n a ∧ Mem c (K' g') (L' g') (O' g') (X' g') w) ∧ μ g' < k) Q) .normal S K L O X := fun _ w ha hm => ⟨g, ⟨hI, ha.sub hs.look, hM w hm⟩, hlt⟩
theorem Mem.blkI {w : World} (h : Mem c K L O X w) (i : Nat) {g : Nat} {T : TypeId} {cs : List Value} (hi : L[i]? = some (g, T, cs)) : Blk w g T cs := h.blk (List.mem_of_getElem? hi)
theorem Mem.more {TS : TypeId} {B sb m m' : Nat} {w : World} (h : Mem c (fun w => Strm TS w B sb m) L O X w) (hrow : c.row = some sb) (hm : m ≤ m') : Mem c (fun w => Strm TS w B sb m') L O X w := ⟨h.g, h.k.more hm, h.b, h.nd, h.o, h.od, h.oo, h.x, Keeps.strm (h.rs sb hrow), h.l, h.rs⟩
/-- A call that draws from the stream, of whose result a fact is known. -/
theorem wl_got {γ : Type} {TS : TypeId} {B sb m m' : Nat} {f : FuncId} {x : Operand} {ags : List Operand} {ats : Array TypeId} {vs fs cs : List Value} {val : γ → Value} {φ : γ → Prop} (hx : rd S x = some (.func (.func f) fs.toArray cs.toArray)) (hf : callableB P f = true) (ha : evArgs S ags = some vs) (hd : Nat.ble (d + 1) c.n = true) (hrow : c.row = some sb) (hT : c.Tt.contains TS = false)
    (hC : ∀ w, Mem c (fun w => Strm TS w B sb m) L O X w → Calls P f (fs ++ vs ++ cs).toArray w (fun e w' => ∃ g, φ g ∧ e = .returned (val g) ∧ Strm TS w' B sb m' ∧ w.grownBy w' (some sb))) (h : ∀ g, φ g → WL P c ops Q rest ((d, val g) :: S) (fun w => Strm TS w B sb m') L O X) :
    WL P c ops Q (⟨some d, .call ⟨.value x, ags.toArray, ats⟩, ty, pos, aft, none⟩ :: rest) S (fun w => Strm TS w B sb m) L O X :=
  wl_callG (γ := γ) (val := val) (φ := φ) (K' := fun _ w => Strm TS w B sb m') (L' := fun _ => L) (O' := fun _ => O) (X' := fun _ => X) hx hf ha hd (fun w hm => (hC w hm).mono fun _ _ ⟨g, hφ, he, hS, hg⟩ => ⟨g, he, hφ, (by
    have h1 := hm.strm hrow hT hS hg (Y := fun _ => True) Lasts2.true_ trivial
    exact ⟨h1.g, h1.k, h1.b, h1.nd, h1.o, h1.od, h1.oo, fun A hA => h1.x A (List.mem_cons_of_mem _ hA), h1.kk, hm.l, h1.rs⟩)⟩) h
/-- What a slot holds is written otherwise. -/
theorem wl_set {l : List Oper} {v v' : Value} (t : Nat) (hv : look S t = some v) (e : v = v') (h : WL P c ops Q l ((t, v') :: S) K L O X) : WL P c ops Q l S K L O X := fun a w ha hm =>
  h a w ⟨ha.size, fun t' u hu => by
    rcases beq_look hu with ⟨rfl, rfl⟩ | ⟨_, hu⟩
    · exact e ▸ ha.val _ _ hv
    · exact ha.val t' u hu, ha.df⟩ hm
theorem gw_set {code : Code} {v v' : Value} (t : Nat) (hv : look S t = some v) (e : v = v') (h : Gw P c Q code ((t, v') :: S) K L O X) : Gw P c Q code S K L O X := fun a w ha hm =>
  h a w ⟨ha.size, fun t' u hu => by
    rcases beq_look hu with ⟨rfl, rfl⟩ | ⟨_, hu⟩
    · exact e ▸ ha.val _ _ hv
    · exact ha.val t' u hu, ha.df⟩ hm
theorem allF_nil {w : World} : ∀ A ∈ ([] : List (World → Prop)), A w := fun _ h => by cases h
theorem allF_cons {w : World} {A : World → Prop} {l : List (World → Prop)} (h : A w) (t : ∀ B ∈ l, B w) : ∀ B ∈ A :: l, B w := fun B hB => by
  rcases List.mem_cons.1 hB with rfl | hB
  · exact h
  · exact t B hB
theorem allL_nil {N : Nat} {row : Option Nat} {Tt : List TypeId} : ∀ A ∈ ([] : List (World → Prop)), Lasts2 N row Tt A := fun _ h => by cases h
theorem allL_cons {N : Nat} {row : Option Nat} {Tt : List TypeId} {A : World → Prop} {l : List (World → Prop)} (h : Lasts2 N row Tt A) (t : ∀ B ∈ l, Lasts2 N row Tt B) : ∀ B ∈ A :: l, Lasts2 N row Tt B := fun B hB => by
  rcases List.mem_cons.1 hB with rfl | hB
  · exact h
  · exact t B hB
theorem some_int {k : IntKind} {a b : Int} (h : a = b) : some (Value.int k a) = some (.int k b) := by rw [h]
/-- A loop of at most m rounds, each walked. -/
def Gr (P : Program) (c : Cx) (code : Code) (Q : Exit → Act → World → Prop) (m : Nat) (S : List (Nat × Value)) (K : World → Prop) (L : List (Nat × TypeId × List Value)) (O : List Own) (X : List (World → Prop)) : Prop :=
  ∀ a w, Has S c.n a → Mem c K L O X w → Code.rounds P code Q m a w
theorem gw_rounds {code : Code} (m : Nat) (h : Gr P c code Q m S K L O X) : Gw P c Q (.loop code) S K L O X := fun a w ha hm => wp_loop_rounds m (h a w ha hm)
theorem gr_next {code : Code} {m : Nat} (h : Gw P c (Exit.then (Code.rounds P code Q m) Q) code S K L O X) : Gr P c code Q (m + 1) S K L O X := fun a w ha hm => by rw [rounds_succ]; exact h a w ha hm
theorem nx_next {code : Code} {m : Nat} (h : Gr P c code Q m S K L O X) : Nx c (Exit.then (Code.rounds P code Q m) Q) .normal S K L O X := h
/-- nil becomes a row of the call's own. -/
theorem wl_nilOwn {l : List Oper} (e : TypeId) (sz : Nat) (h : WL P c ops Q l S K L (⟨.slice none 0 0, e, sz, 0, []⟩ :: O) X) : WL P c ops Q l S K L O X := fun a w ha hm => h a w ha (hm.nilOwn e sz)
theorem gw_nilOwn {code : Code} (e : TypeId) (sz : Nat) (h : Gw P c Q code S K L (⟨.slice none 0 0, e, sz, 0, []⟩ :: O) X) : Gw P c Q code S K L O X := fun a w ha hm => h a w ha (hm.nilOwn e sz)
theorem Mem.ownI {w : World} (h : Mem c K L O X w) (i : Nat) {v : Value} {e : TypeId} {sz n : Nat} {xs : List Value} (hi : O[i]? = some ⟨v, e, sz, n, xs⟩) : w.ownsRow c.w0.heap.size e sz v n xs := h.o _ (List.mem_of_getElem? hi)
theorem own_slice {w : World} {base : Nat} {e : TypeId} {sz n : Nat} {v : Value} {xs : List Value} (h : w.ownsRow base e sz v n xs) : ∃ A cc, v = .slice A n cc := by
  rcases h.2 with ⟨rfl, rfl⟩ | ⟨g, cap, cur, rfl, _⟩
  · exact ⟨none, 0, rfl⟩
  · exact ⟨_, _, rfl⟩
end
end Go.Proofs.Ytodcildcipfmcaa
namespace Go.Proofs.Ytodcildcipfmcaa
open Go.RowKit
section
variable {P : Program} {c : Cx} {ops : Array Oper} {Q : Exit → Act → World → Prop} {S : List (Nat × Value)} {K : World → Prop} {L : List (Nat × TypeId × List Value)} {O : List Own} {X : List (World → Prop)} {Z : World → Prop}
variable {d : Nat} {ty : TypeId} {pos : String} {aft : Array Edge}
/-- The operations that are not listed are still to come, in whatever order; Z holds all the time. -/
def WA (P : Program) (c : Cx) (ops : Array Oper) (Q : Exit → Act → World → Prop) (Z : World → Prop) (fuel : Nat) (listed : Array Bool) (S : List (Nat × Value)) (K : World → Prop) (L : List (Nat × TypeId × List Value)) (O : List Own) (X : List (World → Prop)) : Prop :=
  ∀ a w, Has S c.n a → Mem c K L O X w → wpAnyH P .any ops Q Z fuel listed a w
theorem gw_draw {id : Nat} {l : List Oper} (Z : World → Prop) (hm : P.follows .mixedOrders = true) (h : WA P c l.toArray Q Z l.length (Array.replicate l.length false) S K L O X) : Gw P c Q (.region id l.toArray true) S K L O X :=
  fun a w ha hmm => wp_region_held (S := Z) hm (by simpa using h a _ ha (hmm.grow (grow_drew (World.grownBy.refl w none))))
/-- An operation that yields a value is taken first. -/
theorem wa_take {op : Op} {v : Value} {fuel : Nat} {listed listed' : Array Bool} (i : Nat) (hi : ops[i]? = some ⟨some d, op, ty, pos, aft, none⟩) (hs : Region.noSelect ops = true) (hf : Region.free .any ops listed i = true) (hr : (Region.ready .any ops listed).contains i = true) (hl : listed.setIfInBounds i true = listed')
    (hQ : ∀ cc a w, Q (.panic cc) (a.put (some d) v) w → Q (.panic cc) a w) (hZ : ∀ w, Mem c K L O X w → Z w) (ho : OV P c.n S Z ⟨some d, op, ty, pos, aft, none⟩ v) (hd : Nat.ble (d + 1) c.n = true) (h : WA P c ops Q Z fuel listed' ((d, v) :: S) K L O X) : WA P c ops Q Z (fuel + 1) listed S K L O X := by
  intro a w ha hm
  subst hl
  exact wpAnyH_take hi hs hf hr hQ (.inl ⟨by simp [Region.wanted], fun w' hz => ho a w' ha hz⟩) (hZ w hm) (h _ _ (ha.put hd v) hm)
theorem wa_take_on {op : Op} {v : Value} {fuel : Nat} {listed listed' : Array Bool} {j t : Nat} {b : Bool} (i : Nat) (hi : ops[i]? = some ⟨some d, op, ty, pos, aft, some (j, b)⟩) (hj : (ops[j]?).bind (·.dst) = some t) (hb : look S t = some (.bool b)) (hs : Region.noSelect ops = true) (hf : Region.free .any ops listed i = true) (hr : (Region.ready .any ops listed).contains i = true) (hl : listed.setIfInBounds i true = listed')
    (hQ : ∀ cc a w, Q (.panic cc) (a.put (some d) v) w → Q (.panic cc) a w) (hZ : ∀ w, Mem c K L O X w → Z w) (ho : OV P c.n S Z ⟨some d, op, ty, pos, aft, none⟩ v) (hd : Nat.ble (d + 1) c.n = true) (h : WA P c ops Q Z fuel listed' ((d, v) :: S) K L O X) : WA P c ops Q Z (fuel + 1) listed S K L O X := by
  intro a w ha hm
  subst hl
  have hy : yielded ops a.tmps j = some b := by
    unfold yielded
    rw [hj]
    simp [ha.val t _ hb]
  exact wpAnyH_take hi hs hf hr hQ (.inl ⟨by simp [Region.wanted, hy], fun w' hz => ho a w' ha hz⟩) (hZ w hm) (h _ _ (ha.put hd v) hm)
theorem wa_take_off {op : Op} {fuel : Nat} {listed listed' : Array Bool} {j t : Nat} {b b' : Bool} (i : Nat) (hi : ops[i]? = some ⟨some d, op, ty, pos, aft, some (j, b)⟩) (hj : (ops[j]?).bind (·.dst) = some t) (hb : look S t = some (.bool b')) (hne : b' ≠ b) (hs : Region.noSelect ops = true) (hf : Region.free .any ops listed i = true) (hr : (Region.ready .any ops listed).contains i = true) (hl : listed.setIfInBounds i true = listed')
    (hQ : ∀ cc a w, Q (.panic cc) (a.put (some d) undef) w → Q (.panic cc) a w) (hZ : ∀ w, Mem c K L O X w → Z w) (hd : Nat.ble (d + 1) c.n = true) (h : WA P c ops Q Z fuel listed' ((d, undef) :: S) K L O X) : WA P c ops Q Z (fuel + 1) listed S K L O X := by
  intro a w ha hm
  subst hl
  have hy : yielded ops a.tmps j = some b' := by
    unfold yielded
    rw [hj]
    simp [ha.val t _ hb]
  exact wpAnyH_take hi hs hf hr hQ (.inr ⟨by simp [Region.wanted, hy, hne], rfl⟩) (hZ w hm) (h _ _ (ha.put hd undef) hm)
theorem wpOp_of_list {i : Nat} {o : Oper} {KK : Act → World → Prop} {a : Act} {w : World} (hi : ops[i]? = some o) (h : wpList P ops (Exit.then KK Q) [o] a w) : wpOp P ops Q i KK a w := by
  unfold wpOp
  simp only [hi]
  unfold wpList at h
  split at h
  · rename_i hw
    rw [if_pos hw]
    rcases h with h | ⟨h1, h2⟩
    · refine .inl ?_
      unfold Oper.wp at *
      generalize (execOp a.eval o).run P w = r at *
      cases r with
      | ok n w' =>
        cases n <;> simp only [Oper.upon] at h ⊢ <;> exact h
      | halt x w' => cases x <;> simp only [Oper.upon] at h ⊢ <;> exact h
    · exact .inr ⟨h1, h2⟩
  · rename_i hw
    rw [if_neg hw]
    exact h
/-- Each of those that may come up comes up. -/
def Evs (P : Program) (c : Cx) (ops : Array Oper) (Q : Exit → Act → World → Prop) (Z : World → Prop) (fuel : Nat) (listed : Array Bool) (S : List (Nat × Value)) (K : World → Prop) (L : List (Nat × TypeId × List Value)) (O : List Own) (X : List (World → Prop)) : List Nat → Prop
  | [] => True
  | i :: r => (∃ o, ops[i]? = some o ∧ WL P c ops (Exit.then (fun a w => Z w ∧ wpAnyH P .any ops Q Z fuel (listed.setIfInBounds i true) a w) Q) [o] S K L O X) ∧ Evs P c ops Q Z fuel listed S K L O X r
theorem Evs.get {fuel : Nat} {listed : Array Bool} : ∀ {rs : List Nat}, Evs P c ops Q Z fuel listed S K L O X rs → ∀ i ∈ rs, ∃ o, ops[i]? = some o ∧ WL P c ops (Exit.then (fun a w => Z w ∧ wpAnyH P .any ops Q Z fuel (listed.setIfInBounds i true) a w) Q) [o] S K L O X
  | [], _, i, hi => by cases hi
  | j :: r, h, i, hi => by
    rcases List.mem_cons.1 hi with rfl | hi
    · exact h.1
    · exact Evs.get h.2 i hi
theorem wa_all {fuel : Nat} {listed : Array Bool} (rs : List Nat) (hr : Region.ready .any ops listed = rs) (hne : rs.isEmpty = false) (h : Evs P c ops Q Z fuel listed S K L O X rs) : WA P c ops Q Z (fuel + 1) listed S K L O X := by
  intro a w ha hm
  refine wpAnyH_all hr (fun e => by subst e; simp at hne) fun i hi => ?_
  obtain ⟨o, ho, hwl⟩ := h.get i hi
  exact wpOp_of_list ho (hwl a w ha hm)
theorem wa_done {fuel : Nat} {listed : Array Bool} (hr : Region.ready .any ops listed = []) (h : Nx c Q .normal S K L O X) : WA P c ops Q Z fuel listed S K L O X := fun a w ha hm => wpAnyH_done hr (h a w ha hm) _
theorem nx_wa0 {fuel : Nat} {listed : Array Bool} {listed' : Array Bool} (hl : listed = listed') (hZ : ∀ w, Mem c K L O X w → Z w) (J : WA P c ops Q Z fuel listed' S K L O X) :
    Nx c (Exit.then (fun a w => Z w ∧ wpAnyH P .any ops Q Z fuel listed a w) Q) .normal S K L O X := fun a w ha hm => by subst hl; exact ⟨hZ w hm, J a w ha hm⟩
theorem wa_set {fuel : Nat} {listed : Array Bool} {v v' : Value} (t : Nat) (hv : look S t = some v) (e : v = v') (h : WA P c ops Q Z fuel listed ((t, v') :: S) K L O X) : WA P c ops Q Z fuel listed S K L O X := fun a w ha hm =>
  h a w ⟨ha.size, fun t' u hu => by
    rcases beq_look hu with ⟨rfl, rfl⟩ | ⟨_, hu⟩
    · exact e ▸ ha.val _ _ hv
    · exact ha.val t' u hu, ha.df⟩ hm
/-- The operations listed, as a number's bits. -/
def lb (n m : Nat) : Array Bool := ((List.range n).map fun i => m.testBit i).toArray
def tk (ops : Array Oper) (listed : Array Bool) (i : Nat) (listed' : Array Bool) : Bool := Region.noSelect ops && Region.free .any ops listed i && (Region.ready .any ops listed).contains i && decide (listed.setIfInBounds i true = listed')
theorem tk_all {listed listed' : Array Bool} {i : Nat} (h : tk ops listed i listed' = true) : Region.noSelect ops = true ∧ Region.free .any ops listed i = true ∧ (Region.ready .any ops listed).contains i = true ∧ listed.setIfInBounds i true = listed' := by
  unfold tk at h
  simp only [Bool.and_eq_true, decide_eq_true_eq] at h
  exact ⟨h.1.1.1, h.1.1.2, h.1.2, h.2⟩
theorem gd {id : Nat} {l : List Oper} (Z : World → Prop) (hm : P.follows .mixedOrders = true) (hZ : ∀ w, Mem c K L O X w → Z w) (h : (∀ w, Mem c K L O X w → Z w) → WA P c l.toArray Q Z l.length (Array.replicate l.length false) S K L O X) : Gw P c Q (.region id l.toArray true) S K L O X := gw_draw Z hm (h hZ)
theorem wt {op : Op} {v : Value} {fuel : Nat} {listed : Array Bool} (i n m : Nat) (hi : ops[i]? = some ⟨some d, op, ty, pos, aft, none⟩) (hZ : ∀ w, Mem c K L O X w → Z w) (ho : OV P c.n S Z ⟨some d, op, ty, pos, aft, none⟩ v) (h : WA P c ops Q Z fuel (lb n m) ((d, v) :: S) K L O X) (hk : tk ops listed i (lb n m) = true := by kernel_rfl) (hQ : ∀ cc a w, Q (.panic cc) (a.put (some d) v) w → Q (.panic cc) a w := by exact fun _ _ _ h => h) (hd : Nat.ble (d + 1) c.n = true := by exact rfl) : WA P c ops Q Z (fuel + 1) listed S K L O X :=
  have ⟨h1, h2, h3, h4⟩ := tk_all hk
  wa_take i hi h1 h2 h3 h4 hQ hZ ho hd h
theorem wto {op : Op} {v : Value} {fuel : Nat} {listed : Array Bool} {j t : Nat} {b : Bool} (i n m : Nat) (hi : ops[i]? = some ⟨some d, op, ty, pos, aft, some (j, b)⟩) (hj : (ops[j]?).bind (·.dst) = some t) (hb : look S t = some (.bool b)) (hZ : ∀ w, Mem c K L O X w → Z w) (ho : OV P c.n S Z ⟨some d, op, ty, pos, aft, none⟩ v) (h : WA P c ops Q Z fuel (lb n m) ((d, v) :: S) K L O X) (hk : tk ops listed i (lb n m) = true := by kernel_rfl) (hQ : ∀ cc a w, Q (.panic cc) (a.put (some d) v) w → Q (.panic cc) a w := by exact fun _ _ _ h => h) (hd : Nat.ble (d + 1) c.n = true := by exact rfl) : WA P c ops Q Z (fuel + 1) listed S K L O X :=
  have ⟨h1, h2, h3, h4⟩ := tk_all hk
  wa_take_on i hi hj hb h1 h2 h3 h4 hQ hZ ho hd h
theorem wtf {op : Op} {fuel : Nat} {listed : Array Bool} {j t : Nat} {b b' : Bool} (i n m : Nat) (hi : ops[i]? = some ⟨some d, op, ty, pos, aft, some (j, b)⟩) (hj : (ops[j]?).bind (·.dst) = some t) (hb : look S t = some (.bool b')) (hZ : ∀ w, Mem c K L O X w → Z w) (h : WA P c ops Q Z fuel (lb n m) ((d, undef) :: S) K L O X) (hne : b' ≠ b := by decide) (hk : tk ops listed i (lb n m) = true := by kernel_rfl) (hQ : ∀ cc a w, Q (.panic cc) (a.put (some d) undef) w → Q (.panic cc) a w := by exact fun _ _ _ h => h) (hd : Nat.ble (d + 1) c.n = true := by exact rfl) : WA P c ops Q Z (fuel + 1) listed S K L O X :=
  have ⟨h1, h2, h3, h4⟩ := tk_all hk
  wa_take_off i hi hj hb hne h1 h2 h3 h4 hQ hZ hd h
theorem nw {fuel : Nat} {listed : Array Bool} (n m : Nat) (hZ : ∀ w, Mem c K L O X w → Z w) (J : (∀ w, Mem c K L O X w → Z w) → WA P c ops Q Z fuel (lb n m) S K L O X) (hl : listed = lb n m := by kernel_rfl) :
    Nx c (Exit.then (fun a w => Z w ∧ wpAnyH P .any ops Q Z fuel listed a w) Q) .normal S K L O X := nx_wa0 hl hZ (J hZ)
theorem wa1 {fuel : Nat} {listed : Array Bool} (i : Nat) {o : Oper} (ho : ops[i]? = some o) (h : WL P c ops (Exit.then (fun a w => Z w ∧ wpAnyH P .any ops Q Z fuel (listed.setIfInBounds i true) a w) Q) [o] S K L O X) (hr : Region.ready .any ops listed = [i] := by kernel_rfl) : WA P c ops Q Z (fuel + 1) listed S K L O X := wa_all [i] hr rfl ⟨⟨o, ho, h⟩, trivial⟩
end
end Go.Proofs.Ytodcildcipfmcaa
namespace Go.Proofs.Ytodcildcipfmcaa
open Go.RowKit
theorem flat_at {α : Type} (enc : α → List Value) (k : Nat) (hk : ∀ x, (enc x).length = k) : ∀ (l : List α) (j : Nat) (u : Value), (l.flatMap enc)[j]? = some u →
    ∃ i x r, l[i]? = some x ∧ (enc x)[r]? = some u ∧ j = i * k + r
  | [], j, u, h => by simp at h
  | y :: t, j, u, h => by
    rw [List.flatMap_cons] at h
    by_cases hj : j < (enc y).length
    · rw [List.getElem?_append_left hj] at h
      exact ⟨0, y, j, rfl, h, by omega⟩
    · rw [List.getElem?_append_right (by omega), hk] at h
      obtain ⟨i, x, r, h1, h2, h3⟩ := flat_at enc k hk t (j - k) u h
      refine ⟨i + 1, x, r, by simpa using h1, h2, ?_⟩
      rw [hk] at hj
      rw [Nat.add_mul]; omega
theorem flat_len {α : Type} (enc : α → List Value) (k : Nat) (hk : ∀ x, (enc x).length = k) : ∀ l : List α, (l.flatMap enc).length = l.length * k
  | [] => by simp
  | y :: t => by rw [List.flatMap_cons, List.length_append, hk, flat_len enc k hk t, List.length_cons, Nat.add_mul]; omega
theorem flat_one {α : Type} (enc : α → List Value) (h : ∀ x, ∀ v ∈ enc x, v.oneCell' = true) (l : List α) : ∀ v ∈ l.flatMap enc, v.oneCell' = true := by
  intro v hv
  obtain ⟨x, _, hx⟩ := List.mem_flatMap.1 hv
  exact h x v hx
/-- The cells that a slice of structs leads to, one after the other. -/
theorem SlT.flat {α : Type} {enc : α → List Value} {k : Nat} {T : TypeId} {w : World} {A : Option Addr} {n : Nat} {l : List α} (hl : SlT enc k T w A n l) (hk : ∀ x, (enc x).length = k) (hn : 0 < n) :
    ∃ b off, A = some ⟨b, off, none⟩ ∧ b < w.heap.size ∧ ∀ j u, (l.flatMap enc)[j]? = some u → w.cell? ((⟨b, off, none⟩ : Addr).add j) = some u := by
  obtain ⟨b, off, hA, hb, hr⟩ := hl.get hn
  refine ⟨b, off, hA, hb, fun j u hj => ?_⟩
  obtain ⟨i, x, r, h1, h2, h3⟩ := flat_at enc k hk l j u hj
  have := hr i x h1 r u h2
  have ha : (⟨b, off, none⟩ : Addr).add j = ⟨b, off + i * k + r, none⟩ := by
    unfold Addr.add
    split
    · rename_i h0
      have e : off = off + i * k + r := by omega
      rw [← e]
    · simp; omega
  rw [ha]; exact this
theorem info_parts {P : Program} {T : TypeId} {s b c : Nat} (h : (P.info? T).map (fun i => (i.zero.map fun z => z.cells.size, i.size, i.bytes)) = some (some c, s, b)) :
    ∃ i z, P.info? T = some i ∧ i.zero = some z ∧ i.size = s ∧ i.bytes = b ∧ z.cells.size = c := by
  cases hi : P.info? T with
  | none => rw [hi] at h; cases h
  | some i =>
    rw [hi] at h
    simp only [Option.map_some, Option.some.injEq, Prod.mk.injEq] at h
    obtain ⟨h1, h2, h3⟩ := h
    cases hz : i.zero with
    | none => rw [hz] at h1; cases h1
    | some z =>
      rw [hz] at h1
      exact ⟨i, z, rfl, hz, h2, h3, by simpa using h1⟩
/-- A row of the call's own reads as the list. -/
def OwnT {α : Type} (enc : α → List Value) (k : Nat) (T : TypeId) (w : World) (base g n c : Nat) (l : List α) : Prop := base ≤ g ∧ w.ownsRow base T k (.slice (some ⟨g, 0, none⟩) n c) n (l.flatMap enc)
theorem OwnT.kept {α : Type} {enc : α → List Value} {k : Nat} {T : TypeId} {w w' : World} {base base' g n c : Nat} {l : List α} (h : OwnT enc k T w base g n c l) (hb : w'.heap[g]? = w.heap[g]?) (hle : base' ≤ base) : OwnT enc k T w' base' g n c l := by
  obtain ⟨h0, h1, h2⟩ := h
  refine ⟨by omega, h1, ?_⟩
  rcases h2 with ⟨h2, _⟩ | ⟨g', cap, cur, hv, hbase, hh, hle2, hcap, hsz, htk⟩
  · cases h2
  · injection hv with hA hn hc
    injection hA with hA
    injection hA with hg _ _
    subst hg
    exact .inr ⟨g, cap, cur, by rw [hc], by omega, hb.trans hh, hle2, hcap, hsz, htk⟩
theorem OwnT.lt {α : Type} {enc : α → List Value} {k : Nat} {T : TypeId} {w : World} {base g n c : Nat} {l : List α} (h : OwnT enc k T w base g n c l) : g < w.heap.size := by
  obtain ⟨h0, h1, h2⟩ := h
  rcases h2 with ⟨h2, _⟩ | ⟨g', cap, cur, hv, hbase, hh, _⟩
  · cases h2
  · injection hv with hA hn hc
    injection hA with hA
    injection hA with hg _ _
    subst hg
    exact lt_of_block hh
theorem OwnT.blk {α : Type} {enc : α → List Value} {k : Nat} {T : TypeId} {w : World} {base g n c : Nat} {l : List α} (h : OwnT enc k T w base g n c l) :
    ∃ cs, Blk w g T cs ∧ n * k ≤ cs.length ∧ cs.take (n * k) = l.flatMap enc := by
  obtain ⟨h0, h1, h2⟩ := h
  rcases h2 with ⟨h2, _⟩ | ⟨g', cap, cur, hv, hbase, hh, hle, _, hsz, htk⟩
  · cases h2
  · injection hv with hA hn hc
    injection hA with hA
    injection hA with hg _ _
    subst hg
    refine ⟨cur.toList, by unfold Blk; rw [Array.toArray_toList]; exact hh, ?_, htk⟩
    have := Nat.mul_le_mul_right k hle
    simp [hsz]; exact this
end Go.Proofs.Ytodcildcipfmcaa
namespace Go.Proofs.Ytodcildcipfmcaa
open Go.RowKit
theorem Mem.neRow {c : Cx} {K : World → Prop} {L : List (Nat × TypeId × List Value)} {O : List Own} {X : List (World → Prop)} {w : World} (h : Mem c K L O X w) (i : Nat) {g sb : Nat} {T : TypeId} {cs : List Value} (hi : L[i]? = some (g, T, cs)) (hrow : c.row = some sb) : g ≠ sb := by
  have h1 := (h.b _ (List.mem_of_getElem? hi)).1
  have h2 := h.rs sb hrow
  have h3 : c.w0.heap.size ≤ g := h1
  omega
theorem mem_rng {xs : List Int} {v lo hi : Int} (h : v ∈ xs) (hb : ∀ x ∈ xs, lo ≤ x ∧ x ≤ hi) : lo ≤ v ∧ v ≤ hi := hb v h
theorem mem_sz {xs : List ByteArray} {v : ByteArray} (hv : v ∈ xs) (h : ∀ x ∈ xs, x.size ≤ 100) : v.size ≤ 100 := h v hv
section
variable {P : Program} {c : Cx} {ops : Array Oper} {Q : Exit → Act → World → Prop} {rest : List Oper} {S : List (Nat × Value)} {K : World → Prop} {L : List (Nat × TypeId × List Value)} {O : List Own} {X : List (World → Prop)}
variable {nn : Nat} {Z : World → Prop} {d : Nat} {ty : TypeId} {pos : String} {aft : Array Edge}
theorem ov_nilcheck {x : Operand} {a : Addr} (hx : rd S x = some (.pointer (some a))) : OV P nn S Z ⟨some d, .nilCheck x, ty, pos, aft, none⟩ (.pointer (some a)) := fun a w ha hm => by
  simp [execOp, ha.eval hx]
theorem flat_set1 {α : Type} (enc : α → List Value) (k : Nat) (hk : ∀ x, (enc x).length = k) {x' : α} {r : Nat} {v : Value} : ∀ {l : List α} {j : Nat} {x : α}, l[j]? = some x → (enc x).set r v = enc x' → r < k → (l.flatMap enc).set (j * k + r) v = (l.set j x').flatMap enc
  | [], j, x, h, _, _ => by simp at h
  | y :: t, 0, x, h, he, hr => by
    simp at h; subst h
    rw [Nat.zero_mul, Nat.zero_add, List.flatMap_cons, List.set_cons_zero, List.flatMap_cons, List.set_append_left _ _ (by rw [hk]; exact hr), he]
  | y :: t, j + 1, x, h, he, hr => by
    have ih := flat_set1 enc k hk (l := t) (j := j) (by simpa using h) he hr
    rw [List.flatMap_cons, List.set_cons_succ, List.flatMap_cons, List.set_append_right _ _ (by rw [hk, Nat.add_mul]; omega), hk]
    rw [show (j + 1) * k + r - k = j * k + r by rw [Nat.add_mul]; omega, ih]
/-- A cell of an element of a row of the call's own is written. -/
theorem wl_storeE {α : Type} {enc : α → List Value} {t : TypeId} {x y : Operand} {g n cap sz o j r : Nat} {e : TypeId} {v : Value} {l : List α} {el el' : α} (i : Nat) (hs : scalarB P t = true) (hx : rd S x = some (.pointer (some ⟨g, o, none⟩))) (hy : rd S y = some v) (h1 : v.oneCell' = true) (hO : O[i]? = some ⟨.slice (some ⟨g, 0, none⟩) n cap, e, sz, n, l.flatMap enc⟩)
    (hk : ∀ x, (enc x).length = sz) (ho : 0 + j * sz + r = o) (hj : l[j]? = some el) (hl : l.length = n) (hr : r < sz) (he : (enc el).set r v = enc el') (hT : c.Tt.contains e = false)
    (h : WL P c ops Q rest S K L (setOwn ⟨.slice (some ⟨g, 0, none⟩) n cap, e, sz, n, (l.set j el').flatMap enc⟩ O i) X) : WL P c ops Q (⟨none, .store t x y, ty, pos, aft, none⟩ :: rest) S K L O X := by
  intro a w ha hm
  refine wpList_plain rfl fun K' hK => ?_
  have hown := hm.ownI i hO
  have hjl := (List.getElem?_eq_some_iff.1 hj).1
  have hlt : j * sz + r < n * sz := by
    have : (j + 1) * sz ≤ n * sz := Nat.mul_le_mul_right sz (by omega)
    rw [Nat.add_mul] at this
    omega
  have ho' : o = j * sz + r := by omega
  obtain ⟨u, hu⟩ : ∃ u, (l.flatMap enc)[o]? = some u := ⟨_, List.getElem?_eq_getElem (by rw [hown.1]; omega)⟩
  have hc : w.cell? ⟨g, o, none⟩ = some u := by rw [hown.cellAt o (by omega)]; exact hu
  have hst : (store ⟨g, o, none⟩ v).run P w = .ok () (w.setCell ⟨g, o, none⟩ v) := by
    rw [run_store P w _ _ _ h1]
    simp [hc, hown.frozenAt]
  have hv1 : v.cells = #[v] := by cases v <;> simp_all [Value.cells, Value.oneCell']
  unfold Oper.wp
  have : (execOp a.eval ⟨none, .store t x y, ty, pos, aft, none⟩).run P w = .ok .skip (w.setCell ⟨g, o, none⟩ v) := by
    simp only [execOp, ha.eval hx, ha.eval hy, Instr.storeAt, Instr.sureAddr, storeVar, hv1]
    simp [(run_scalar hs w).2, storeCells, add_addr, hst]
  rw [this]
  have hs2 := hown.stored o v
  rw [ho', flat_set1 enc sz hk hj he hr, ← ho'] at hs2
  exact hK _ _ (h _ _ ⟨ha.size, ha.val, ha.df⟩ (hm.append hO hT hs2.1 hs2.2 (.inl rfl)))
end
theorem own_addr {w : World} {base : Nat} {e : TypeId} {sz n : Nat} {A : Option Addr} {cc : Nat} {xs : List Value} (h : w.ownsRow base e sz (.slice A n cc) n xs) (hn : 0 < n) : ∃ g, A = some ⟨g, 0, none⟩ := by
  rcases h.2 with ⟨_, h0⟩ | ⟨g, cap, cur, h1, _⟩
  · omega
  · injection h1 with h1 _ _
    exact ⟨g, h1⟩
end Go.Proofs.Ytodcildcipfmcaa
namespace Go.Proofs.Ytodcildcipfmcaa
open Go.RowKit
/-- A slice of integers that came in. -/
def RowIn (w : World) (a : Option Addr) (len cap : Nat) (zs : List Int) : Prop :=
  (a = none ∧ len = 0 ∧ cap = 0 ∧ zs = []) ∨
  ∃ x, a = some x ∧ len ≤ cap ∧ cap ≤ maxLen ∧ zs.length = cap ∧ (∀ i, i < zs.length → w.cell? (x.add i) = some (.int .i64 (zs.getD i 0))) ∧ ∀ n ∈ zs, (Lit.int .i64 n).wf = true
theorem wf_range {n : Int} (h : (Lit.int .i64 n).wf = true) : -9223372036854775808 ≤ n ∧ n ≤ 9223372036854775807 := by
  simp [Lit.wf, IntKind.min, IntKind.max, IntKind.signed, IntKind.bits] at h
  omega
theorem Strm.start {TS : TypeId} {w : World} {A : Option Addr} {n c : Nat} {zs : List Int} (h : RowIn w A n c zs) :
    Strm TS (w.alloc (.cells #[.slice A n c, .int .i64 0] TS)) w.heap.size w.heap.size 0 := by
  refine ⟨Nat.le_refl _, A, n, c, 0, heap_alloc_new w _, Int.le_refl _, Int.le_refl _, ?_, fun hn => ?_⟩
  · rcases h with ⟨_, rfl, _⟩ | ⟨x, _, h1, h2, _⟩
    · omega
    · unfold maxLen at h2; omega
  · rcases h with ⟨_, rfl, _⟩ | ⟨x, rfl, h1, h2, h3, h4, h5⟩
    · omega
    · have h0 := h4 0 (by omega)
      have hx : x.spot = none := by
        have : x.add 0 = x := rfl
        rw [this] at h0
        unfold World.cell? at h0
        split at h0
        · cases hs : x.spot with
          | none => rfl
          | some y => rw [hs] at h0; simp at h0
        · cases h0
      obtain ⟨b, off, sp⟩ := x
      subst hx
      refine ⟨b, off, rfl, World.block_lt_of_cell? w _ h0, fun i hi => ?_⟩
      have hz := h4 i (by omega)
      have hm : zs.getD i 0 ∈ zs := by
        rw [List.getD_eq_getElem?_getD, List.getElem?_eq_getElem (by omega)]
        exact List.getElem_mem _
      have hr := wf_range (h5 _ hm)
      refine ⟨zs.getD i 0, hr.1, hr.2, ?_⟩
      have ha : (⟨b, off, none⟩ : Addr).add i = ⟨b, off + i, none⟩ := by
        unfold Addr.add
        split
        · rename_i h; subst h; rfl
        · rfl
      rw [ha] at hz
      exact (World.cell?_of_block (Below.heap_alloc w _ b (World.block_lt_of_cell? w _ h0))).trans hz
end Go.Proofs.Ytodcildcipfmcaa
namespace Go.Proofs.Ytodcildcipfmcaa
open Go.RowKit
theorem Strm.ofBlk {TS : TypeId} {w w1 : World} {A : Option Addr} {n c sb : Nat} {zs : List Int} (h : RowIn w A n c zs) (hg : w.grownBy w1 none) (hb : Blk w1 sb TS [.slice A n c, .int .i64 0]) (hsb : w.heap.size ≤ sb) : Strm TS w1 w.heap.size sb 0 := by
  obtain ⟨_, A', n', c', k, hh, h0, h1, h2, h3⟩ := Strm.start (TS := TS) h
  rw [heap_alloc_new] at hh
  simp only [Option.some.injEq, Obj.cells.injEq, Array.mk.injEq, List.cons.injEq, Value.slice.injEq, Value.int.injEq, true_and, and_true] at hh
  obtain ⟨⟨rfl, rfl, rfl⟩, rfl⟩ := hh
  refine ⟨hsb, A, n, c, 0, hb, Int.le_refl _, Int.le_refl _, h2, fun hn => ?_⟩
  obtain ⟨b, off, e, hbB, hc⟩ := h3 hn
  refine ⟨b, off, e, hbB, fun i hi => ?_⟩
  obtain ⟨z, z1, z2, hz⟩ := hc i hi
  refine ⟨z, z1, z2, ?_⟩
  rw [World.cell?_of_block (hg.block b hbB (by simp)), ← hz]
  exact (World.cell?_of_block (Below.heap_alloc w _ b hbB)).symm
theorem law_end {w w1 w' : World} {sb : Nat} (h1 : w.grownBy w1 none) (hs : w.heap.size ≤ sb) (hg : w1.grownBy w' (some sb)) : Below w.heap.size w w' :=
  below_of_grow (grow_own h1 hg (fun k h => by cases h; exact hs))
section
variable {P : Program} {ops : Array Oper} {Q : Exit → Act → World → Prop} {S : List (Nat × Value)} {K : World → Prop} {L : List (Nat × TypeId × List Value)} {O : List Own} {X : List (World → Prop)}
theorem gw_law {TS : TypeId} {code : Code} {n : Nat} {w : World} {T0 : List TypeId} {A : Option Addr} {len cap sb : Nat} {zs : List Int} (Tt : List TypeId) (h0 : RowIn w A len cap zs) (i : Nat) (hi : L[i]? = some (sb, TS, [.slice A len cap, .int .i64 0]))
    (h : ∀ (w1 : World) (B : Nat), w.grownBy w1 none → w.heap.size ≤ sb → Gw P ⟨n, w1, some sb, Tt⟩ Q code S (fun w => Strm TS w B sb 0) [] [] []) : Gw P ⟨n, w, none, T0⟩ Q code S K L O X := fun a w1 ha hm => by
  have hb := hm.b _ (List.mem_of_getElem? hi)
  have hb1 : w.heap.size ≤ sb := hb.1
  have hS := Strm.ofBlk h0 hm.g hb.2 hb1
  exact h w1 w.heap.size hm.g hb1 a w1 ha (memS hS allF_nil allL_nil)
end
end Go.Proofs.Ytodcildcipfmcaa
namespace Go.Proofs.Ytodcildcipfmcaa
open Go.RowKit
theorem own_splice_left {α : Type} {cs ds : List α} {o : Nat} {vs : List α} (ho : o + vs.length ≤ cs.length) : splice (cs ++ ds) o vs = splice cs o vs ++ ds := by
  unfold splice
  rw [List.take_append_of_le_length (by omega), List.drop_append_of_le_length (by omega)]
  simp [List.append_assoc]
theorem own_splice_right {α : Type} {cs ds : List α} {o : Nat} {vs : List α} : splice (cs ++ ds) (cs.length + o) vs = cs ++ splice ds o vs := by
  unfold splice
  rw [List.take_length_add_append, show cs.length + o + vs.length = cs.length + (o + vs.length) by omega, List.drop_length_add_append]
  simp [List.append_assoc]
theorem own_flat_splice {α : Type} (enc : α → List Value) (k : Nat) (hk : ∀ x, (enc x).length = k) {x' : α} {r : Nat} {vs : List Value} : ∀ {l : List α} {j : Nat} {x : α}, l[j]? = some x → splice (enc x) r vs = enc x' → r + vs.length ≤ k → splice (l.flatMap enc) (j * k + r) vs = (l.set j x').flatMap enc
  | [], j, x, h, _, _ => by simp at h
  | y :: t, 0, x, h, he, hr => by
    simp at h; subst h
    rw [Nat.zero_mul, Nat.zero_add, List.flatMap_cons, List.set_cons_zero, List.flatMap_cons, own_splice_left (by rw [hk]; exact hr), he]
  | y :: t, j + 1, x, h, he, hr => by
    have ih := own_flat_splice enc k hk (l := t) (j := j) (by simpa using h) he hr
    rw [List.flatMap_cons, List.set_cons_succ, List.flatMap_cons, show (j + 1) * k + r = (enc y).length + (j * k + r) by rw [hk, Nat.add_mul]; omega, own_splice_right, ih]
theorem own_take_splice {α : Type} {cs : List α} {o m : Nat} {vs : List α} (hm : m ≤ cs.length) (ho : o + vs.length ≤ m) : (splice cs o vs).take m = splice (cs.take m) o vs := by
  have h : cs = cs.take m ++ cs.drop m := (List.take_append_drop m cs).symm
  have hl : (cs.take m).length = m := by simp; omega
  conv => lhs; rw [h]
  rw [own_splice_left (by omega)]
  have h2 := splice_length (cs.take m) o vs (by omega)
  rw [List.take_append_of_le_length (by omega), List.take_of_length_le (by omega)]
section
variable {P : Program} {c : Cx} {ops : Array Oper} {Q : Exit → Act → World → Prop} {rest : List Oper} {S : List (Nat × Value)} {K : World → Prop} {L : List (Nat × TypeId × List Value)} {O : List Own} {X : List (World → Prop)}
variable {ty : TypeId} {pos : String} {aft : Array Edge}
/-- Some cells of an element of a row of the call's own are written: a struct. -/
theorem wl_storesE {α : Type} {enc : α → List Value} {t : TypeId} {x y : Operand} {g n cap sz o j r m : Nat} {e : TypeId} {vs : List Value} {l : List α} {el el' : α} (i : Nat) (hs : rowSz P t = some m) (hx : rd S x = some (.pointer (some ⟨g, o, none⟩))) (hy : rd S y = some (.agg vs.toArray)) (h1 : vs.all (·.oneCell') = true) (hn : vs.length = m)
    (hO : O[i]? = some ⟨.slice (some ⟨g, 0, none⟩) n cap, e, sz, n, l.flatMap enc⟩)
    (hk : ∀ x, (enc x).length = sz) (ho : 0 + j * sz + r = o) (hj : l[j]? = some el) (hl : l.length = n) (hr : r + m ≤ sz) (he : splice (enc el) r vs = enc el') (hT : c.Tt.contains e = false)
    (h : WL P c ops Q rest S K L (setOwn ⟨.slice (some ⟨g, 0, none⟩) n cap, e, sz, n, (l.set j el').flatMap enc⟩ O i) X) : WL P c ops Q (⟨none, .store t x y, ty, pos, aft, none⟩ :: rest) S K L O X := by
  intro a w ha hm
  have hown := hm.ownI i hO
  have hjl := (List.getElem?_eq_some_iff.1 hj).1
  have hlt : o + m ≤ n * sz := by
    have : (j + 1) * sz ≤ n * sz := Nat.mul_le_mul_right sz (by omega)
    rw [Nat.add_mul] at this
    omega
  obtain ⟨dd, hu, _, hi⟩ := run_row hs
  rcases hown.2 with ⟨h', _⟩ | ⟨g', cap', cur, h', hb, hg, hnc, hcm, hcs, htake⟩
  · simp at h'
  · simp only [Value.slice.injEq, Option.some.injEq, Addr.mk.injEq, and_true, true_and] at h'
    obtain ⟨rfl, rfl⟩ := h'
    have hbk : Blk w g e cur.toList := by unfold Blk; rw [Array.toArray_toList]; exact hg
    have hcl : n * sz ≤ cur.toList.length := by
      have := Nat.mul_le_mul_right sz hnc
      simp [hcs]; exact this
    refine wpList_store_blk rfl t x y rfl g o e cur.toList vs hbk (ha.eval hx) (ha.eval hy) m hi hn (by omega) (by simpa using h1) fun w' hb' hgr => ?_
    have hsl := splice_length cur.toList o vs (by omega)
    have hfl := flat_len enc sz hk (l.set j el')
    rw [List.length_set, hl] at hfl
    refine h _ _ ⟨ha.size, ha.val, ha.df⟩ (hm.append hO hT ⟨hfl, .inr ⟨g, cap, (splice cur.toList o vs).toArray, rfl, hb, hb', hnc, hcm, by simpa [hsl] using hcs, ?_⟩⟩ hgr (.inl rfl))
    rw [List.toList_toArray, own_take_splice hcl (by omega), htake, ← ho, Nat.zero_add, own_flat_splice enc sz hk hj he (by omega)]
section
variable {d nn : Nat} {Z : World → Prop}
theorem wl_guard_undef {o : Oper} {j : Nat} {b : Bool} {t : Nat} {op : Op} (ho : o = ⟨some d, op, ty, pos, aft, some (j, b)⟩) (hj : (ops[j]?).bind (·.dst) = some t) (hb : look S t = some undef) (hd : Nat.ble (d + 1) c.n = true) (h : WL P c ops Q rest ((d, undef) :: S) K L O X) : WL P c ops Q (o :: rest) S K L O X := by
  subst ho
  intro a w ha hm
  unfold wpList
  have hy : yielded ops a.tmps j = none := by
    unfold yielded
    rw [hj]
    simp [ha.val t _ hb, undef]
  rw [if_neg (by simp [Region.wanted, hy])]
  exact h _ _ (ha.put hd _) hm
theorem wa_take_undef {Z : World → Prop} {op : Op} {fuel : Nat} {listed listed' : Array Bool} {j t : Nat} {b : Bool} (i : Nat) (hi : ops[i]? = some ⟨some d, op, ty, pos, aft, some (j, b)⟩) (hj : (ops[j]?).bind (·.dst) = some t) (hb : look S t = some undef) (hs : Region.noSelect ops = true) (hf : Region.free .any ops listed i = true) (hr : (Region.ready .any ops listed).contains i = true) (hl : listed.setIfInBounds i true = listed')
    (hQ : ∀ cc a w, Q (.panic cc) (a.put (some d) undef) w → Q (.panic cc) a w) (hZ : ∀ w, Mem c K L O X w → Z w) (hd : Nat.ble (d + 1) c.n = true) (h : WA P c ops Q Z fuel listed' ((d, undef) :: S) K L O X) : WA P c ops Q Z (fuel + 1) listed S K L O X := by
  intro a w ha hm
  subst hl
  have hy : yielded ops a.tmps j = none := by
    unfold yielded
    rw [hj]
    simp [ha.val t _ hb, undef]
  exact wpAnyH_take hi hs hf hr hQ (.inr ⟨by simp [Region.wanted, hy], rfl⟩) (hZ w hm) (h _ _ (ha.put hd undef) hm)
theorem wtu {op : Op} {fuel : Nat} {listed : Array Bool} {j t : Nat} {b : Bool} (i n m : Nat) (hi : ops[i]? = some ⟨some d, op, ty, pos, aft, some (j, b)⟩) (hj : (ops[j]?).bind (·.dst) = some t) (hb : look S t = some undef) (hZ : ∀ w, Mem c K L O X w → Z w) (h : WA P c ops Q Z fuel (lb n m) ((d, undef) :: S) K L O X) (hk : tk ops listed i (lb n m) = true := by kernel_rfl) (hQ : ∀ cc a w, Q (.panic cc) (a.put (some d) undef) w → Q (.panic cc) a w := by exact fun _ _ _ h => h) (hd : Nat.ble (d + 1) c.n = true := by exact rfl) : WA P c ops Q Z (fuel + 1) listed S K L O X :=
  have ⟨h1, h2, h3, h4⟩ := tk_all hk
  wa_take_undef i hi hj hb h1 h2 h3 h4 hQ hZ hd h
end
/-- A call whose result holds a row of the call's own. -/
theorem wl_callgo {γ : Type} {f : FuncId} {x : Operand} {ags : List Operand} {ats : Array TypeId} {vs fs cs : List Value} {d : Nat} {val : γ → Value} {φ : γ → Prop} (r : γ → Own) (hx : rd S x = some (.func (.func f) fs.toArray cs.toArray)) (hf : callableB P f = true) (ha : evArgs S ags = some vs) (hd : Nat.ble (d + 1) c.n = true)
    (hC : ∀ w, Mem c K L O X w → Calls P f (fs ++ vs ++ cs).toArray w (fun e w' => ∃ g, e = .returned (val g) ∧ φ g ∧ w'.ownsRow w.heap.size (r g).e (r g).sz (r g).v (r g).n (r g).xs ∧ w.grownBy w' none)) (h : ∀ g, φ g → WL P c ops Q rest ((d, val g) :: S) K L (r g :: O) X) :
    WL P c ops Q (⟨some d, .call ⟨.value x, ags.toArray, ats⟩, ty, pos, aft, none⟩ :: rest) S K L O X :=
  wl_callG (γ := γ) (val := val) (φ := φ) (K' := fun _ => K) (L' := fun _ => L) (O' := fun g => r g :: O) (X' := fun _ => X) hx hf ha hd (fun w hm => (hC w hm).mono fun _ _ ⟨g, he, hφ, ho, hg⟩ => ⟨g, he, hφ, hm.newOwn hg ho⟩) h
end
end Go.Proofs.Ytodcildcipfmcaa
namespace Go.Proofs.Ytodcildcipfmcaa
open Go.RowKit
section
variable {P : Program} {c : Cx} {ops : Array Oper} {Q : Exit → Act → World → Prop} {rest : List Oper} {S : List (Nat × Value)} {K : World → Prop} {L : List (Nat × TypeId × List Value)} {O : List Own} {X : List (World → Prop)} {Z : World → Prop}
variable {d : Nat} {ty : TypeId} {pos : String} {aft : Array Edge}
theorem mv_ {x : Operand} {v : Value} (hx : rd S x = some v) (h : WL P c ops Q rest ((d, v) :: S) K L O X) (hd : Nat.ble (d + 1) c.n = true := by exact rfl) : WL P c ops Q (⟨some d, .move x, ty, pos, aft, none⟩ :: rest) S K L O X := wl_ov (ov_move hx) hd h
theorem sg_ {x : Operand} {v : Value} (hx : rd S x = some v) (h : WL P c ops Q rest ((d, v) :: S) K L O X) (hd : Nat.ble (d + 1) c.n = true := by exact rfl) : WL P c ops Q (⟨some d, .assign x, ty, pos, aft, none⟩ :: rest) S K L O X := wl_ov (ov_assign hx) hd h
theorem pt_ {x y z : Operand} {v : Value} (hx : rd S x = some (.bool true)) (hy : rd S y = some v) (h : WL P c ops Q rest ((d, v) :: S) K L O X) (hd : Nat.ble (d + 1) c.n = true := by exact rfl) : WL P c ops Q (⟨some d, .pick x y z, ty, pos, aft, none⟩ :: rest) S K L O X := wl_ov (ov_pick_t hx hy) hd h
theorem pf_ {x y z : Operand} {v : Value} (hx : rd S x = some (.bool false)) (hz : rd S z = some v) (h : WL P c ops Q rest ((d, v) :: S) K L O X) (hd : Nat.ble (d + 1) c.n = true := by exact rfl) : WL P c ops Q (⟨some d, .pick x y z, ty, pos, aft, none⟩ :: rest) S K L O X := wl_ov (ov_pick_f hx hz) hd h
theorem fd_ {t : TypeId} {x : Operand} {i off g o o' : Nat} (hf : fieldOff P t i = some off) (hx : rd S x = some (.pointer (some ⟨g, o, none⟩))) (ho : o + off = o') (h : WL P c ops Q rest ((d, .pointer (some ⟨g, o', none⟩)) :: S) K L O X) (hd : Nat.ble (d + 1) c.n = true := by exact rfl) : WL P c ops Q (⟨some d, .fieldAddr t x i, ty, pos, aft, none⟩ :: rest) S K L O X := wl_ov (ov_field hf hx ho) hd h
theorem ad_ {t t' : TypeId} {x y : Operand} {m n : Int} (hx : rd S x = some (.int .i64 m)) (hy : rd S y = some (.int .i64 n)) (h : WL P c ops Q rest ((d, .int .i64 (m + n)) :: S) K L O X) (h0 : -9223372036854775808 ≤ m + n := by omega) (h1 : m + n ≤ 9223372036854775807 := by omega) (hd : Nat.ble (d + 1) c.n = true := by exact rfl) : WL P c ops Q (⟨some d, .binOp .add t x y t', ty, pos, aft, none⟩ :: rest) S K L O X := wl_ov (ov_add hx hy h0 h1) hd h
theorem lk_ {t : TypeId} {x : Operand} {g o : Nat} {v : Value} {T : TypeId} {cs : List Value} (hs : scalarB P t = true) (i : Nat) (hx : rd S x = some (.pointer (some ⟨g, o, none⟩))) (hi : L[i]? = some (g, T, cs)) (hv : cs[o]? = some v) (h : WL P c ops Q rest ((d, v) :: S) K L O X) (hd : Nat.ble (d + 1) c.n = true := by exact rfl) : WL P c ops Q (⟨some d, .load t x, ty, pos, aft, none⟩ :: rest) S K L O X := wl_ov (ov_load hs hx (fun _ hm => hm.blkI i hi) hv) hd h
theorem Mem.fa {w : World} {A : World → Prop} (h : Mem c K L O X w) (i : Nat) (hi : X[i]? = some A := by exact rfl) : A w := h.fact i hi
theorem Mem.bl {w : World} {g : Nat} {T : TypeId} {cs : List Value} (h : Mem c K L O X w) (i : Nat) (hi : L[i]? = some (g, T, cs) := by exact rfl) : Blk w g T cs := h.blkI i hi
theorem nn_ {y : Code} (h : Gw P c Q y S K L O X) : WL P c ops (Exit.then (y.wp P Q) Q) [] S K L O X := wl_nil (nx_then h)
theorem sr_ {y : Code} {id : Nat} {l : List Oper} (h : WL P c l.toArray (Exit.then (y.wp P Q) Q) l S K L O X) : Gw P c Q (.seq (.region id l.toArray false) y) S K L O X := gw_seq (gw_region h)
theorem ct_ {x : Operand} {y z : Code} (hx : rd S x = some (.bool true)) (h : Gw P c Q y S K L O X) : Gw P c Q (.cond x y z) S K L O X := gw_cond hx (fun _ => h) (fun hh => by cases hh)
theorem cf_ {x : Operand} {y z : Code} (hx : rd S x = some (.bool false)) (h : Gw P c Q z S K L O X) : Gw P c Q (.cond x y z) S K L O X := gw_cond hx (fun hh => by cases hh) (fun _ => h)
theorem goff {o : Oper} {j : Nat} {b b' : Bool} {t : Nat} {op : Op} (ho : o = ⟨some d, op, ty, pos, aft, some (j, b)⟩) (hj : (ops[j]?).bind (·.dst) = some t) (hb : look S t = some (.bool b')) (h : WL P c ops Q rest ((d, undef) :: S) K L O X) (hne : b' ≠ b := by decide) (hd : Nat.ble (d + 1) c.n = true := by exact rfl) : WL P c ops Q (o :: rest) S K L O X := wl_guard_off ho hj hb hne hd h
theorem gnd {o : Oper} {j : Nat} {b : Bool} {t : Nat} {op : Op} (ho : o = ⟨some d, op, ty, pos, aft, some (j, b)⟩) (hj : (ops[j]?).bind (·.dst) = some t) (hb : look S t = some undef) (h : WL P c ops Q rest ((d, undef) :: S) K L O X) (hd : Nat.ble (d + 1) c.n = true := by exact rfl) : WL P c ops Q (o :: rest) S K L O X := wl_guard_undef ho hj hb hd h
end
end Go.Proofs.Ytodcildcipfmcaa
namespace Go.Proofs.Ytodcildcipfmcaa
open Go.RowKit
section
variable {P : Program} {c : Cx} {ops : Array Oper} {Q : Exit → Act → World → Prop} {rest : List Oper} {S : List (Nat × Value)} {K : World → Prop} {L : List (Nat × TypeId × List Value)} {O : List Own} {X : List (World → Prop)}
variable {d : Nat} {ty : TypeId} {pos : String} {aft : Array Edge}
/-- A row of zero values. -/
theorem wl_makeO {t e : TypeId} {z : Value} {sz by_ n : Nat} {x y : Operand} {xs : List Value} {vx vy : Int} (ht : P.underlying t = some (.slice e)) (hi : (P.info? e).map (fun i => (i.zero, i.size, i.bytes)) = some (some z, sz, by_)) (hx : rd S x = some (.int .i64 vx)) (hy : rd S y = some (.int .i64 vy)) (hvx : vx = (n : Int)) (hvy : vy = (n : Int)) (hb : by_ * n ≤ 281474976710656) (h63 : n ≤ maxLen) (hxs : (madeCells z.cells (n * sz)).toList = xs) (hd : Nat.ble (d + 1) c.n = true)
    (h : ∀ g, WL P c ops Q rest ((d, .slice (some ⟨g, 0, none⟩) n n) :: S) K L (⟨.slice (some ⟨g, 0, none⟩) n n, e, sz, n, xs⟩ :: O) X) : WL P c ops Q (⟨some d, .makeSlice t x y, ty, pos, aft, none⟩ :: rest) S K L O X := by
  intro a w ha hm
  obtain ⟨i, hi', hzz⟩ := Option.map_eq_some_iff.1 hi
  simp only [Prod.mk.injEq] at hzz
  obtain ⟨hz1, hs, hb1⟩ := hzz
  refine wpList_make_full w rfl x y t rfl w.heap.size e i z sz ht hi' hz1 hs .i64 .i64 vx vy n (ha.eval hx) (ha.eval hy) hvx hvy (by rw [hb1]; exact hb) h63 (Nat.le_refl _) fun w' ho hg => ?_
  rw [hxs] at ho
  exact h _ _ _ (ha.put hd _) (hm.newOwn hg ho)
end
theorem nx_look {c : Cx} {Q : Exit → Act → World → Prop} {S : List (Nat × Value)} {K : World → Prop} {L : List (Nat × TypeId × List Value)} {O : List Own} {X : List (World → Prop)} {e : Exit} {R : Prop} (hr : ∀ w, Mem c K L O X w → R) (h : R → Nx c Q e S K L O X) : Nx c Q e S K L O X := fun a w ha hm => h (hr w hm) a w ha hm
end Go.Proofs.Ytodcildcipfmcaa
namespace Go.Proofs.Ytodcildcipfmcaa
open Go.RowKit
section
variable {P : Program} {nn : Nat} {S : List (Nat × Value)} {Z : World → Prop} {d : Nat} {ty : TypeId} {pos : String} {aft : Array Edge}
theorem ov_makeFunc {f : FuncId} {fs cs : List Operand} {vf vc : List Value} (hf : evArgs S fs = some vf) (hc : evArgs S cs = some vc) : OV P nn S Z ⟨some d, .makeFunc (.func f) fs.toArray cs.toArray, ty, pos, aft, none⟩ (.func (.func f) vf.toArray vc.toArray) := fun a w ha hm => by
  have e1 := ha.args hf
  have e2 := ha.args hc
  simp [execOp, e1, e2, Instr.makeFunc]
end
/-- A block that came in. -/
def BlkOld (N : Nat) (row : Option Nat) (g : Nat) (T : TypeId) (cs : List Value) (w : World) : Prop := (g < N ∧ row ≠ some g) ∧ Blk w g T cs
theorem BlkOld.lasts {N g : Nat} {row : Option Nat} {Tt : List TypeId} {T : TypeId} {cs : List Value} : Lasts2 N row Tt (BlkOld N row g T cs) :=
  ⟨fun _ _ h ⟨h1, h2⟩ => ⟨h1, h2.grown h (by simp)⟩, fun _ _ r _ _ _ _ h3 h4 ⟨h1, h2⟩ => ⟨h1, h2.grown h4 (fun e => by
    cases e
    rcases h3 with h3 | h3
    · omega
    · exact h1.2 h3)⟩⟩
theorem Blk.old {w : World} {g : Nat} {T : TypeId} {cs : List Value} (h : Blk w g T cs) : BlkOld w.heap.size none g T cs w := ⟨⟨h.lt, by simp⟩, h⟩
end Go.Proofs.Ytodcildcipfmcaa
namespace Go.Proofs.Ytodcildcipfmcaa
open Go.RowKit
section
variable {P : Program} {nn : Nat} {S : List (Nat × Value)} {Z : World → Prop} {d : Nat} {ty : TypeId} {pos : String} {aft : Array Edge}
theorem elemSz_parts {t e : TypeId} {sz : Nat} (h : elemSz P t = some (e, sz)) : P.underlying t = some (.slice (P.elem t)) ∧ ∀ w, (sizeOf (P.elem t)).run P w = .ok sz w := by
  unfold elemSz at h
  split at h
  · rename_i e' hu
    have he : P.elem t = e' := by simp [Program.elem, hu]
    rw [he]
    refine ⟨hu, fun w => ?_⟩
    cases hi : P.info? e' with
    | none => simp [hi] at h
    | some i =>
      simp [hi] at h
      simp [sizeOf, typeInfo, hi, h.2]
  · cases h
theorem ov_sliceLo {t e : TypeId} {sz : Nat} {x y : Operand} {A : Option Addr} {n cap lo : Nat} {v : Int} (he : elemSz P t = some (e, sz)) (hx : rd S x = some (.slice A n cap)) (hy : rd S y = some (.int .i64 v)) (hv : v = (lo : Int)) (hlo : lo ≤ n) : OV P nn S Z ⟨some d, .slice t x (some y) none none, ty, pos, aft, none⟩ (.slice (if cap = lo then A else A.map (·.add (lo * sz))) (n - lo) (cap - lo)) := fun a w ha hm => by
  obtain ⟨hu, hs⟩ := elemSz_parts he
  subst hv
  have h1 : (Instr.slice t (.slice A n cap) (some (.int .i64 (lo : Int))) none none).run P w = .ok (.slice (if cap = lo then A else A.map (·.add (lo * sz))) (n - lo) (cap - lo)) w := by
    rw [run_slice_any w t A n cap hu]
    have hb := run_sliceBound (P := P) w .i64 (lo : Int) n .sliceB (by omega) (by omega)
    simp [Instr.sliceBounds, hs, sliced, hb]
  simp [execOp, ha.eval hx, ha.eval hy, run_sliceAt_slice w t _ _ _ _ hu, h1]
theorem ov_sliceHi {t e : TypeId} {sz : Nat} {x y : Operand} {b off : Nat} {n cap hi : Nat} {v : Int} (he : elemSz P t = some (e, sz)) (hx : rd S x = some (.slice (some ⟨b, off, none⟩) n cap)) (hy : rd S y = some (.int .i64 v)) (hv : v = (hi : Int)) (hhi : hi ≤ cap) : OV P nn S Z ⟨some d, .slice t x none (some y) none, ty, pos, aft, none⟩ (.slice (some ⟨b, off, none⟩) hi cap) := fun a w ha hm => by
  obtain ⟨hu, hs⟩ := elemSz_parts he
  subst hv
  have h1 : (Instr.slice t (.slice (some ⟨b, off, none⟩) n cap) none (some (.int .i64 (hi : Int))) none).run P w = .ok (.slice (some ⟨b, off, none⟩) hi cap) w := by
    rw [run_slice_any w t _ n cap hu]
    have hb := run_sliceBound (P := P) w .i64 (hi : Int) cap .sliceAcap (by omega) (by omega)
    simp [Instr.sliceBounds, hs, sliced, hb, Addr.add]
  simp [execOp, ha.eval hx, ha.eval hy, run_sliceAt_slice w t _ _ _ _ hu, h1]
end
theorem SlT.dropS {α : Type} {enc : α → List Value} {k : Nat} {T : TypeId} {w : World} {A : Option Addr} {n c : Nat} {l : List α} (h : SlT enc k T w A n l) (lo : Nat) (hlo : lo ≤ n) (hc : n ≤ c) : SlT enc k T w (if c = lo then A else A.map (·.add (lo * k))) (n - lo) (l.drop lo) := by
  refine ⟨by rw [List.length_drop, h.len], fun hn => ?_⟩
  obtain ⟨b, off, cells, fz, rfl, hh, hr⟩ := h.at_ (by omega)
  refine ⟨b, off + lo * k, cells, fz, ?_, hh, fun i x hx j v hv => ?_⟩
  · rw [if_neg (by omega)]
    simp only [Option.map_some, Option.some.injEq]
    unfold Addr.add
    split
    · rename_i h0; rw [h0, Nat.add_zero]
    · rfl
  · rw [List.getElem?_drop] at hx
    have := hr (lo + i) x hx j v hv
    rw [Nat.add_mul] at this
    rw [show off + lo * k + i * k + j = off + (lo * k + i * k) + j by omega]
    exact this
theorem own_cap {w : World} {base : Nat} {e : TypeId} {sz n : Nat} {A : Option Addr} {cc : Nat} {xs : List Value} (h : w.ownsRow base e sz (.slice A n cc) n xs) : n ≤ cc := by
  rcases h.2 with ⟨h1, h0⟩ | ⟨g, cap, cur, h1, _, _, h2, _⟩
  · omega
  · injection h1 with _ _ h3
    omega
end Go.Proofs.Ytodcildcipfmcaa
namespace Go.Proofs.Ytodcildcipfmcaa
open Go.RowKit
open Go.ChangeMaps (setBlock)
/-- The map at block g holds es. -/
def MapAt (g : Nat) (es : Array MapEntry) (ck : Nat) (w : World) : Prop := w.heap[g]? = some (.map es ck)
theorem MapAt.lasts2 {N : Nat} {row : Option Nat} {Tt : List TypeId} {g : Nat} {es : Array MapEntry} {ck : Nat} : Lasts2 N row Tt (MapAt g es ck) :=
  ⟨fun w w' h hx => (h.block g (Array.getElem?_eq_some_iff.1 hx).1 (by simp)).trans hx,
   fun w w' r T c h1 _ _ h3 hx => (h3.block g (Array.getElem?_eq_some_iff.1 hx).1 (fun e => by
     have e2 : g = r := by injection e
     subst e2
     unfold MapAt at hx
     rw [h1] at hx; cases hx)).trans hx⟩
/-- The map at block g, one of the call's own. -/
def OwnMap (N g : Nat) (es : Array MapEntry) (ck : Nat) (w : World) : Prop := N ≤ g ∧ MapAt g es ck w
theorem OwnMap.lasts2 {N M : Nat} {row : Option Nat} {Tt : List TypeId} {g : Nat} {es : Array MapEntry} {ck : Nat} : Lasts2 N row Tt (OwnMap M g es ck) :=
  ⟨fun w w' h hx => ⟨hx.1, MapAt.lasts2.gr (N := N) (row := row) (Tt := Tt) w w' h hx.2⟩, fun w w' r T c h1 h2 h3 h4 hx => ⟨hx.1, MapAt.lasts2.st w w' r T c h1 h2 h3 h4 hx.2⟩⟩
def mapTy (P : Program) (t : TypeId) : Option (TypeId × TypeId) :=
  match P.underlying t with
  | some (.map k e) => some (k, e)
  | _ => none
theorem mapTy_u {P : Program} {t k e : TypeId} (h : mapTy P t = some (k, e)) : P.underlying t = some (.map k e) := by
  unfold mapTy at h
  cases hu : P.underlying t with
  | none => simp [hu] at h
  | some dd => cases dd <;> simp [hu] at h <;> simp [h]
def strTy (P : Program) (t : TypeId) : Bool :=
  match P.underlying t with
  | some .string => true
  | _ => false
theorem strTy_u {P : Program} {t : TypeId} (h : strTy P t = true) : P.underlying t = some .string := by
  unfold strTy at h
  cases hu : P.underlying t with
  | none => simp [hu] at h
  | some dd => cases dd <;> simp [hu] at h <;> rfl
theorem grow_set {w : World} {g : Nat} {es es' : Array MapEntry} {ck ck' : Nat} (hb : w.heap[g]? = some (.map es ck)) : w.grownBy (setBlock w g (.map es' ck')) (some g) :=
  ⟨rfl, rfl, rfl, by simp [setBlock], fun i _ hi => ChangeMaps.heap_setBlock_other hb _ (fun e => hi (by rw [e]))⟩
section
variable {P : Program} {c : Cx} {ops : Array Oper} {Q : Exit → Act → World → Prop} {rest : List Oper} {S : List (Nat × Value)} {K : World → Prop} {L : List (Nat × TypeId × List Value)} {O : List Own} {X X' : List (World → Prop)} {Z : World → Prop} {nn : Nat}
variable {d : Nat} {ty : TypeId} {pos : String} {aft : Array Edge}
theorem Mem.mapped {w : World} {g : Nat} {es es' : Array MapEntry} {ck ck' : Nat} (h : Mem c K L O X w) (hg : c.w0.heap.size ≤ g) (hb : w.heap[g]? = some (.map es ck)) (hX : ∀ A ∈ X', A (setBlock w g (.map es' ck')) ∧ Lasts2 c.w0.heap.size c.row c.Tt A) : Mem c K L O X' (setBlock w g (.map es' ck')) := by
  have hgr : w.grownBy (setBlock w g (.map es' ck')) (some g) := grow_set hb
  have hne : ∀ (k : Nat) (cs : Array Value) (T : TypeId) (fz : Nat × Nat), w.heap[k]? = some (.cells cs T fz) → k ≠ g := fun k cs T fz hk e => by
    subst e
    rw [hb] at hk; cases hk
  refine ⟨grow_own h.g hgr (fun k e => by cases e; exact hg), h.kk.st _ _ _ hg hgr h.k, fun x hx => ⟨(h.b x hx).1, (h.b x hx).2.grown hgr (fun e => hne _ _ _ _ (h.b x hx).2 (Option.some.inj e))⟩, h.nd, fun s hs => ?_, h.od, h.oo, fun A hA => (hX A hA).1, h.kk, fun A hA => (hX A hA).2, h.rs⟩
  refine (h.o s hs).kept hgr ?_
  cases hv : s.v.ownBlock with
  | none => exact .inl rfl
  | some k =>
    refine .inr (fun e => ?_)
    have e2 : k = g := by injection e
    rcases (h.o s hs).2 with ⟨hn, _⟩ | ⟨g', cap, cur, hn, _, hh, _⟩
    · rw [hn] at hv; cases hv
    · rw [hn] at hv
      have e3 : g' = k := by injection hv
      exact hne _ _ _ _ hh (e3.trans e2)
theorem check_str {k : TypeId} (hk : strTy P k = true) (b : Bool) (s : ByteArray) (w : World) : (Instr.checkKey b 10000 k (.string s)).run P w = .ok () w := by
  rw [show (10000 : Nat) = 9999 + 1 from rfl]
  unfold Instr.checkKey
  simp [run_underlying (strTy_u hk)]
theorem find_str {k : TypeId} (hk : strTy P k = true) {s : ByteArray} {es : List MapEntry} {r : Option (Nat × Value)} (hf : Instr.findNow .string (.string s) es 0 = some r) (w : World) : (Instr.findKey k (.string s) es).run P w = .ok r w := by
  simp [Instr.findKey, run_underlying (strTy_u hk), hf]
end
theorem far_nil {N g : Nat} {X : List (World → Prop)} : ∀ A ∈ ([] : List (World → Prop)), (∀ w w', N ≤ g → w.grownBy w' (some g) → A w → A w') ∧ A ∈ X := fun _ h => by cases h
theorem far_cons {N g i : Nat} {X X' : List (World → Prop)} {A0 : World → Prop} (h : ∀ w w', N ≤ g → w.grownBy w' (some g) → A0 w → A0 w') (hi : X[i]? = some A0) (hr : ∀ A ∈ X', (∀ w w', N ≤ g → w.grownBy w' (some g) → A w → A w') ∧ A ∈ X) : ∀ A ∈ A0 :: X', (∀ w w', N ≤ g → w.grownBy w' (some g) → A w → A w') ∧ A ∈ X := fun A hA => by
  rcases List.mem_cons.1 hA with rfl | hA
  · exact ⟨h, List.mem_of_getElem? hi⟩
  · exact hr A hA
theorem BlkOld.far {N g b : Nat} {row : Option Nat} {T : TypeId} {cs : List Value} : ∀ w w' : World, N ≤ g → w.grownBy w' (some g) → BlkOld N row b T cs w → BlkOld N row b T cs w' := fun _ _ h1 h2 ⟨h3, h4⟩ => ⟨h3, h4.grown h2 (fun e => by
  have e2 : b = g := by injection e
  omega)⟩
end Go.Proofs.Ytodcildcipfmcaa
namespace Go.Proofs.Ytodcildcipfmcaa
open Go.RowKit Go.MapKept
open Go.ChangeMaps (setBlock)
theorem bytes_ext {a b : ByteArray} (h : a.toList = b.toList) : a = b := by
  rw [ByteArray.toList_eq, ByteArray.toList_eq] at h
  cases a; cases b
  simp only at h
  exact congrArg ByteArray.mk (Array.toList_inj.1 h)
theorem bytes_eqb {a b : ByteArray} : (a.toList == b.toList) = true ↔ a = b :=
  ⟨fun h => bytes_ext (by simpa using h), fun h => by subst h; simp⟩
def fPut {α : Type} (f : ByteArray → Option α) (k : ByteArray) (x : α) : ByteArray → Option α := fun j => if (j.toList == k.toList) = true then some x else f j
def fDel {α : Type} (f : ByteArray → Option α) (k : ByteArray) : ByteArray → Option α := fun j => if (j.toList == k.toList) = true then none else f j
def fNil {α : Type} : ByteArray → Option α := fun _ => none
theorem fPut_same {α : Type} (f : ByteArray → Option α) (k : ByteArray) (x : α) : fPut f k x k = some x := by unfold fPut; rw [if_pos (by simp)]
theorem fPut_other {α : Type} (f : ByteArray → Option α) {k j : ByteArray} (x : α) (h : j ≠ k) : fPut f k x j = f j := by unfold fPut; rw [if_neg (fun e => h (bytes_eqb.1 e))]
theorem fDel_same {α : Type} (f : ByteArray → Option α) (k : ByteArray) : fDel f k k = none := by unfold fDel; rw [if_pos (by simp)]
theorem fDel_other {α : Type} (f : ByteArray → Option α) {k j : ByteArray} (h : j ≠ k) : fDel f k j = f j := by unfold fDel; rw [if_neg (fun e => h (bytes_eqb.1 e))]
/-- What a map's block holds, key by key. -/
def Entries {α : Type} (enc : α → Value) (f : ByteArray → Option α) (es : Array MapEntry) (ck : Nat) : Prop :=
  Stamped es ck ∧ (∀ x ∈ es.toList, IsKey .string x.key) ∧ ∀ k v, (∃ e ∈ es.toList, e.key = .string k ∧ e.val = v) ↔ ∃ x, f k = some x ∧ v = enc x
/-- The map at block g, one of the call's own, has under each key what f says. -/
def MapF {α : Type} (enc : α → Value) (N g : Nat) (f : ByteArray → Option α) (w : World) : Prop :=
  N ≤ g ∧ ∃ es ck, w.heap[g]? = some (.map es ck) ∧ Entries enc f es ck
theorem MapF.lt {α : Type} {enc : α → Value} {N g : Nat} {f : ByteArray → Option α} {w : World} (h : MapF enc N g f w) : g < w.heap.size := by
  obtain ⟨_, es, ck, hb, _⟩ := h
  exact (Array.getElem?_eq_some_iff.1 hb).1
theorem MapF.kept {α : Type} {enc : α → Value} {N g : Nat} {f : ByteArray → Option α} {w w' : World} {row : Option Nat} (h : MapF enc N g f w) (hg : w.grownBy w' row) (hne : some g ≠ row) : MapF enc N g f w' := by
  have hlt := h.lt
  obtain ⟨h0, es, ck, hb, he⟩ := h
  exact ⟨h0, es, ck, (hg.block g hlt hne).trans hb, he⟩
theorem MapF.lower {α : Type} {enc : α → Value} {N M g : Nat} {f : ByteArray → Option α} {w : World} (h : MapF enc N g f w) (hM : M ≤ N) : MapF enc M g f w := ⟨Nat.le_trans hM h.1, h.2⟩
theorem MapF.lasts2 {α : Type} {enc : α → Value} {N M : Nat} {row : Option Nat} {Tt : List TypeId} {g : Nat} {f : ByteArray → Option α} : Lasts2 N row Tt (MapF enc M g f) :=
  ⟨fun w w' h hx => hx.kept h (by simp),
   fun w w' r T c h1 _ _ h3 hx => hx.kept h3 (fun e => by
     have e2 : g = r := by injection e
     subst e2
     obtain ⟨_, es, ck, hb, _⟩ := hx
     rw [h1] at hb; cases hb)⟩
theorem MapF.far {α : Type} {enc : α → Value} {N M g g1 : Nat} {f : ByteArray → Option α} (hne : g1 ≠ g) : ∀ w w' : World, N ≤ g → w.grownBy w' (some g) → MapF enc M g1 f w → MapF enc M g1 f w' :=
  fun _ _ _ hg h => h.kept hg (fun e => hne (by injection e))
theorem SlOld.far {α : Type} {enc : α → List Value} {k N g : Nat} {T : TypeId} {row : Option Nat} {A : Option Addr} {n : Nat} {l : List α} : ∀ w w' : World, N ≤ g → w.grownBy w' (some g) → SlOld enc k T N row A n l w → SlOld enc k T N row A n l w' := fun w w' h1 h2 ⟨h3, h4⟩ => by
  refine ⟨⟨h3.len, fun hn => ?_⟩, h4⟩
  obtain ⟨b, off, cells, fz, e, hh, hr⟩ := h3.at_ hn
  exact ⟨b, off, cells, fz, e, (h2.block b (Array.getElem?_eq_some_iff.1 hh).1 (fun e2 => by
    have e3 : b = g := by injection e2
    obtain ⟨h5, _⟩ := h4 b off e hn
    omega)).trans hh, hr⟩
section
variable {α : Type} {enc : α → Value} {f : ByteArray → Option α} {es : Array MapEntry} {ck : Nat}
theorem Entries.nil : Entries enc fNil #[] 0 := ⟨stamped_empty 0, by simp, fun k v => by simp [fNil]⟩
/-- Where a key is, or that it is not there. -/
theorem Entries.find (h : Entries enc f es ck) (k : ByteArray) : (Instr.findNow .string (.string k) es.toList 0 = some none ∧ f k = none ∧ ∀ x ∈ es.toList, x.key ≠ .string k) ∨ ∃ j e x, Instr.findNow .string (.string k) es.toList 0 = some (some (j, e.val)) ∧ es[j]? = some e ∧ e.key = .string k ∧ f k = some x ∧ e.val = enc x := by
  have hk : IsKey .string (.string k) := trivial
  rcases findNow_spec hk es.toList 0 h.2.1 with ⟨h1, h2⟩ | ⟨j, e, h1, h2, h3⟩
  · left
    refine ⟨h1, ?_, h2⟩
    cases hf : f k with
    | none => rfl
    | some x =>
      obtain ⟨e, he, hek, _⟩ := (h.2.2 k (enc x)).2 ⟨x, hf, rfl⟩
      exact absurd hek (h2 e he)
  · right
    obtain ⟨x, hx, hv⟩ := (h.2.2 k e.val).1 ⟨e, List.mem_of_getElem? h2, h3, rfl⟩
    refine ⟨j, e, x, by simpa using h1, by simpa using h2, h3, hx, hv⟩
theorem Entries.push (h : Entries enc f es ck) {k : ByteArray} (x : α) (hn : ∀ y ∈ es.toList, y.key ≠ .string k) : Entries enc (fPut f k x) (es.push ⟨.string k, enc x, ck⟩) (ck + 1) := by
  refine ⟨stamped_push h.1 hn, fun y hy => ?_, fun j v => ?_⟩
  · simp only [Array.toList_push, List.mem_append, List.mem_singleton] at hy
    rcases hy with hy | rfl
    · exact h.2.1 y hy
    · trivial
  · simp only [Array.toList_push, List.mem_append, List.mem_singleton]
    by_cases hj : j = k
    · subst hj
      rw [fPut_same]
      constructor
      · rintro ⟨e, he | rfl, h1, h2⟩
        · exact absurd h1 (hn e he)
        · exact ⟨x, rfl, h2.symm⟩
      · rintro ⟨y, hy, rfl⟩
        cases hy
        exact ⟨_, .inr rfl, rfl, rfl⟩
    · rw [fPut_other _ _ hj, ← h.2.2 j v]
      constructor
      · rintro ⟨e, he | rfl, h1, h2⟩
        · exact ⟨e, he, h1, h2⟩
        · injection h1 with h1
          exact absurd h1.symm hj
      · rintro ⟨e, he, h1, h2⟩
        exact ⟨e, .inl he, h1, h2⟩
theorem nodup_at {es : Array MapEntry} (h : (es.toList.map (·.key)).Nodup) {i j : Nat} {a b : MapEntry} (ha : es[i]? = some a) (hb : es[j]? = some b) (hk : a.key = b.key) : i = j := by
  have h1 : (es.toList.map (·.key))[i]? = some a.key := by rw [List.getElem?_map]; simp [ha]
  have h2 : (es.toList.map (·.key))[j]? = some a.key := by rw [List.getElem?_map]; simp [hb, hk]
  obtain ⟨hi, e1⟩ := List.getElem?_eq_some_iff.1 h1
  obtain ⟨hj, e2⟩ := List.getElem?_eq_some_iff.1 h2
  have hp := List.pairwise_iff_getElem.1 h
  rcases Nat.lt_trichotomy i j with hlt | rfl | hlt
  · exact absurd (e1.trans e2.symm) (hp i j hi hj hlt)
  · rfl
  · exact absurd (e2.trans e1.symm) (hp j i hj hi hlt)
theorem mem_at {es : Array MapEntry} {e : MapEntry} (h : e ∈ es.toList) : ∃ i : Nat, es[i]? = some e := by
  obtain ⟨i, hi⟩ := List.getElem?_of_mem h
  exact ⟨i, by simpa using hi⟩
theorem Entries.modify (h : Entries enc f es ck) {k : ByteArray} (x : α) {j : Nat} {e : MapEntry} (he : es[j]? = some e) (hk : e.key = .string k) : Entries enc (fPut f k x) (es.modify j fun e => { e with key := .string k, val := enc x }) ck := by
  have hkey : ∀ e', es[j]? = some e' → ({ e' with key := .string k, val := enc x } : MapEntry).key = e'.key := fun e' he' => by rw [he] at he'; cases he'; exact hk.symm
  refine ⟨stamped_modify h.1 _ _ (fun _ _ => rfl) (fun e' _ he' => hkey e' he'), isKey_modify h.2.1 _ _ hkey, fun i v => ?_⟩
  have hat : ∀ q, (es.modify j fun e => { e with key := .string k, val := enc x })[q]? = if j = q then (es[q]?).map (fun e => { e with key := .string k, val := enc x }) else es[q]? := fun q => by rw [Array.getElem?_modify]
  have hmem : ∀ y, y ∈ (es.modify j fun e => { e with key := .string k, val := enc x }).toList ↔ ∃ q, (es.modify j fun e => { e with key := .string k, val := enc x })[q]? = some y := fun y =>
    ⟨fun hy => mem_at hy, fun ⟨q, hq⟩ => by
      have : (es.modify j fun e => { e with key := .string k, val := enc x }).toList[q]? = some y := by rw [Array.getElem?_toList]; exact hq
      exact List.mem_of_getElem? this⟩
  by_cases hi : i = k
  · subst hi
    rw [fPut_same]
    constructor
    · rintro ⟨y, hy, h1, h2⟩
      obtain ⟨q, hq⟩ := (hmem y).1 hy
      rw [hat] at hq
      split at hq
      · rename_i hjq
        subst hjq
        rw [he] at hq
        cases hq
        exact ⟨x, rfl, h2.symm⟩
      · rename_i hjq
        exact absurd (nodup_at h.1.2.2 he hq (hk.trans h1.symm)) hjq
    · rintro ⟨y, hy, rfl⟩
      cases hy
      exact ⟨{ e with key := .string i, val := enc x }, (hmem _).2 ⟨j, by rw [hat, if_pos rfl, he]; rfl⟩, rfl, rfl⟩
  · rw [fPut_other _ _ hi, ← h.2.2 i v]
    constructor
    · rintro ⟨y, hy, h1, h2⟩
      obtain ⟨q, hq⟩ := (hmem y).1 hy
      rw [hat] at hq
      split at hq
      · rename_i hjq
        subst hjq
        rw [he] at hq
        cases hq
        injection h1 with h1
        exact absurd h1.symm hi
      · exact ⟨y, List.mem_of_getElem? (i := q) (by simpa using hq), h1, h2⟩
    · rintro ⟨y, hy, h1, h2⟩
      obtain ⟨q, hq⟩ := mem_at hy
      refine ⟨y, (hmem y).2 ⟨q, ?_⟩, h1, h2⟩
      rw [hat, if_neg (fun e2 => ?_), hq]
      subst e2
      rw [he] at hq
      cases hq
      rw [hk] at h1
      injection h1 with h1
      exact hi h1.symm
theorem Entries.erase (h : Entries enc f es ck) {k : ByteArray} {j : Nat} {e : MapEntry} (he : es[j]? = some e) (hk : e.key = .string k) : Entries enc (fDel f k) (es.eraseIdxIfInBounds j) ck := by
  have hjlt : j < es.size := (Array.getElem?_eq_some_iff.1 he).1
  have hl : (es.eraseIdxIfInBounds j).toList = es.toList.eraseIdx j := by
    unfold Array.eraseIdxIfInBounds
    rw [dif_pos hjlt, Array.toList_eraseIdx]
  have hmem : ∀ y, y ∈ (es.eraseIdxIfInBounds j).toList ↔ ∃ q, q ≠ j ∧ es[q]? = some y := fun y => by
    rw [hl, List.mem_eraseIdx_iff_getElem?]
    simp
  have hsub : ∀ x ∈ (es.eraseIdxIfInBounds j).toList, x ∈ es.toList := fun x hx => by
    rw [hl] at hx
    exact (List.eraseIdx_sublist _ _).subset hx
  refine ⟨stamped_erase h.1 _, fun x hx => h.2.1 x (hsub x hx), fun i v => ?_⟩
  by_cases hi : i = k
  · subst hi
    rw [fDel_same]
    constructor
    · rintro ⟨y, hy, h1, h2⟩
      obtain ⟨q, hq, hy2⟩ := (hmem y).1 hy
      exact absurd (nodup_at h.1.2.2 hy2 he (h1.trans hk.symm)) hq
    · rintro ⟨y, hy, _⟩
      cases hy
  · rw [fDel_other _ hi, ← h.2.2 i v]
    constructor
    · rintro ⟨y, hy, h1, h2⟩
      exact ⟨y, hsub y hy, h1, h2⟩
    · rintro ⟨y, hy, h1, h2⟩
      obtain ⟨q, hq⟩ := mem_at hy
      refine ⟨y, (hmem y).2 ⟨q, fun e2 => ?_, hq⟩, h1, h2⟩
      subst e2
      rw [he] at hq
      cases hq
      rw [hk] at h1
      injection h1 with h1
      exact hi h1.symm
theorem Entries.same (h : Entries enc f es ck) {k : ByteArray} (hn : f k = none) : Entries enc (fDel f k) es ck := by
  have e : fDel f k = f := by
    funext j
    by_cases hj : j = k
    · subst hj; rw [fDel_same, hn]
    · rw [fDel_other _ hj]
  rw [e]; exact h
end
section
variable {P : Program} {c : Cx} {ops : Array Oper} {Q : Exit → Act → World → Prop} {rest : List Oper} {S : List (Nat × Value)} {K : World → Prop} {L : List (Nat × TypeId × List Value)} {O : List Own} {X X' : List (World → Prop)} {Z : World → Prop} {nn : Nat}
variable {d : Nat} {ty : TypeId} {pos : String} {aft : Array Edge} {α : Type} {enc : α → Value} {f : ByteArray → Option α}
theorem ov_lookF {t k e : TypeId} {x y : Operand} {N g : Nat} {s : ByteArray} (z : α) (ht : mapTy P t = some (k, e)) (hk : strTy P k = true) (hzz : (P.info? e).bind (·.zero) = some (enc z)) (hx : rd S x = some (.map (some g))) (hy : rd S y = some (.string s)) (hm : ∀ w, Z w → MapF enc N g f w) :
    OV P nn S Z ⟨some d, .lookup t x y false, ty, pos, aft, none⟩ (enc ((f s).getD z)) := fun a w ha hz => by
  obtain ⟨_, es, ck, hb, he⟩ := hm w hz
  have hzero : (zeroValue e).run P w = .ok (enc z) w := by
    cases hi : P.info? e with
    | none => simp [hi] at hzz
    | some inf => simp [zeroValue, typeInfo, hi, (by simpa [hi] using hzz : inf.zero = some (enc z))]
  rcases he.find s with ⟨hf, hn, _⟩ | ⟨j, en, xv, hf, _, _, hn, hv⟩
  · simp [execOp, ha.eval hx, ha.eval hy, Instr.lookup, run_underlying (mapTy_u ht), MapKept.run_getObj_map hb, check_str hk, find_str hk hf, hzero, hn, Result.andThen]
  · simp [execOp, ha.eval hx, ha.eval hy, Instr.lookup, run_underlying (mapTy_u ht), MapKept.run_getObj_map hb, check_str hk, find_str hk hf, hn, hv, Result.andThen]
theorem wl_makeMapF {t : TypeId} (hd : Nat.ble (d + 1) c.n = true) (h : ∀ g, WL P c ops Q rest ((d, .map (some g)) :: S) K L O (MapF enc c.w0.heap.size g fNil :: X)) : WL P c ops Q (⟨some d, .makeMap t none, ty, pos, aft, none⟩ :: rest) S K L O X := by
  intro a w ha hm
  refine wpList_plain rfl fun K' hK => ?_
  unfold Oper.wp
  have : (execOp a.eval ⟨some d, .makeMap t none, ty, pos, aft, none⟩).run P w = .ok (.value (.map (some w.heap.size))) (w.alloc (.map #[] 0)) := by
    simp [execOp, Instr.makeMap]
  rw [this]
  exact hK _ _ (h _ _ _ (ha.put hd _) ((hm.grow (grow_alloc (World.grownBy.refl w none) _)).also MapF.lasts2 ⟨hm.g.size, _, _, (MapKept.heap_alloc w _).1, Entries.nil⟩))
/-- .. beside another map: the two are two. -/
theorem wl_makeMapN {β : Type} {enc2 : β → Value} {f2 : ByteArray → Option β} {g2 M : Nat} {t : TypeId} (i : Nat) (hi : X[i]? = some (MapF enc2 M g2 f2)) (hd : Nat.ble (d + 1) c.n = true) (h : ∀ g, g2 ≠ g → WL P c ops Q rest ((d, .map (some g)) :: S) K L O (MapF enc c.w0.heap.size g fNil :: X)) : WL P c ops Q (⟨some d, .makeMap t none, ty, pos, aft, none⟩ :: rest) S K L O X := by
  intro a w ha hm
  refine wpList_plain rfl fun K' hK => ?_
  unfold Oper.wp
  have : (execOp a.eval ⟨some d, .makeMap t none, ty, pos, aft, none⟩).run P w = .ok (.value (.map (some w.heap.size))) (w.alloc (.map #[] 0)) := by
    simp [execOp, Instr.makeMap]
  rw [this]
  have hlt : g2 < w.heap.size := MapF.lt (hm.fact i hi)
  exact hK _ _ (h _ (by omega) _ _ (ha.put hd _) ((hm.grow (grow_alloc (World.grownBy.refl w none) _)).also MapF.lasts2 ⟨hm.g.size, _, _, (MapKept.heap_alloc w _).1, Entries.nil⟩))
theorem wl_mapPut {t k e : TypeId} {x y z : Operand} {g : Nat} {s : ByteArray} {v : α} (i : Nat) (ht : mapTy P t = some (k, e)) (hk : strTy P k = true) (hx : rd S x = some (.map (some g))) (hy : rd S y = some (.string s)) (hz : rd S z = some (enc v)) (hi : X[i]? = some (MapF enc c.w0.heap.size g f))
    (hX : ∀ A ∈ X', (∀ w w', c.w0.heap.size ≤ g → w.grownBy w' (some g) → A w → A w') ∧ A ∈ X)
    (h : WL P c ops Q rest S K L O (MapF enc c.w0.heap.size g (fPut f s v) :: X')) : WL P c ops Q (⟨none, .mapUpdate t x y z, ty, pos, aft, none⟩ :: rest) S K L O X := by
  intro a w ha hm
  refine wpList_plain rfl fun K' hK => ?_
  obtain ⟨hg, es, ck, hb, he⟩ := hm.fact i hi
  have hdone : ∀ es' ck', Entries enc (fPut f s v) es' ck' → Mem c K L O (MapF enc c.w0.heap.size g (fPut f s v) :: X') (setBlock w g (.map es' ck')) := fun es' ck' he' => hm.mapped hg hb fun A hA => by
    rcases List.mem_cons.1 hA with rfl | hA
    · exact ⟨⟨hg, _, _, ChangeMaps.heap_setBlock_same hb _, he'⟩, MapF.lasts2⟩
    · exact ⟨(hX A hA).1 _ _ hg (grow_set hb) (hm.x A (hX A hA).2), hm.l A (hX A hA).2⟩
  unfold Oper.wp
  rcases he.find s with ⟨hf, _, hn⟩ | ⟨j, en, xv, hf, hj, hkk, _, _⟩
  · have : (execOp a.eval ⟨none, .mapUpdate t x y z, ty, pos, aft, none⟩).run P w = .ok .skip (setBlock w g (.map (es.push ⟨.string s, enc v, ck⟩) (ck + 1))) := by
      simp [execOp, ha.eval hx, ha.eval hy, ha.eval hz, Instr.mapUpdate, run_underlying (mapTy_u ht), MapKept.run_getObj_map hb, MapKept.run_setObj_map _ hb, check_str hk, find_str hk hf, Result.andThen, setBlock]
    rw [this]
    exact hK _ _ (h _ _ ha (hdone _ _ (he.push v hn)))
  · have : (execOp a.eval ⟨none, .mapUpdate t x y z, ty, pos, aft, none⟩).run P w = .ok .skip (setBlock w g (.map (es.modify j fun e => { e with key := .string s, val := enc v }) ck)) := by
      simp [execOp, ha.eval hx, ha.eval hy, ha.eval hz, Instr.mapUpdate, run_underlying (mapTy_u ht), MapKept.run_getObj_map hb, MapKept.run_setObj_map _ hb, check_str hk, find_str hk hf, hj, hkk, run_keyThatStays (show IsKey .string (.string s) from trivial), Result.andThen, setBlock]
    rw [this]
    exact hK _ _ (h _ _ ha (hdone _ _ (he.modify v hj hkk)))
end
end Go.Proofs.Ytodcildcipfmcaa
namespace Go.Proofs.Ytodcildcipfmcaa
open Go.RowKit
structure Ev where
  at_ : Int
  veh : ByteArray
  sta : ByteArray
  kd : Int
  to_ : ByteArray
def evEnc (x : Ev) : List Value := [.int .i64 x.at_, .string x.veh, .string x.sta, .int .i64 x.kd, .string x.to_]
theorem ev_len (x : Ev) : (evEnc x).length = 5 := rfl
def EvOk (x : Ev) : Prop := (-4000000000000000000 ≤ x.at_ ∧ x.at_ ≤ 4000000000000000000) ∧ (-4000000000000000000 ≤ x.kd ∧ x.kd ≤ 4000000000000000000) ∧ x.veh.size ≤ 1000000 ∧ x.sta.size ≤ 1000000 ∧ x.to_.size ≤ 1000000
structure Sa where
  st : Int
  sta : ByteArray
  since : Int
def saEnc (x : Sa) : List Value := [.int .i64 x.st, .string x.sta, .int .i64 x.since]
def sa0 : Sa := ⟨0, ⟨#[]⟩, 0⟩
def stP (k : ByteArray) (x : St) : Bool := x.key.toList == k.toList
def evOrd (a b : Ev) : Int := firstE [cmpI a.at_ b.at_, cmpS a.veh b.veh]
def evO (p : Option Ev) (x : Ev) : Bool := match p with
  | none => false
  | some q => decide (0 ≤ evOrd q x)
def evE (ss : List St) (vs : List Vh) (p : Option Ev) (x : Ev) : Int :=
  if inB x.at_ 0 5761439 = false then 1 else if (decide (ixP (vhP x.veh) vs 0 < 0) || !ss.any (stP x.sta)) = true then 8 else if inB x.kd 1 8 = false then 4
  else if (!decide (x.kd = 6) && !(x.to_.toList == (⟨#[]⟩ : ByteArray).toList)) = true then 3 else if (decide (x.kd = 6) && !ss.any (stP x.to_)) = true then 8 else if (x.to_.toList == x.sta.toList) = true then 14 else if evO p x = true then 7 else 0
def logE (ss : List St) (vs : List Vh) (l : List Ev) : Int := if 3000 < l.length then 2 else scanE (evE ss vs) none l
theorem cmpI_neg {a b : Int} : cmpI a b < 0 ↔ a < b := by unfold cmpI; split <;> (try split) <;> omega
theorem cmpI_zero {a b : Int} : cmpI a b = 0 ↔ a = b := by unfold cmpI; split <;> (try split) <;> omega
theorem evOrd_neg {a b : Ev} : evOrd a b < 0 ↔ a.at_ < b.at_ ∨ (a.at_ = b.at_ ∧ Go.Op.bytesLess a.veh.toList b.veh.toList = true) := by
  unfold evOrd
  by_cases h : cmpI a.at_ b.at_ = 0
  · have e := cmpI_zero.1 h
    have e2 : firstE [cmpI a.at_ b.at_, cmpS a.veh b.veh] = cmpS a.veh b.veh := by
      by_cases h2 : cmpS a.veh b.veh = 0
      · simp [firstE, h, h2]
      · simp only [firstE, if_pos h, if_neg h2]
    rw [e2, cmpS_neg]
    exact ⟨fun h4 => .inr ⟨e, h4⟩, fun h4 => by
      rcases h4 with h4 | h4
      · omega
      · exact h4.2⟩
  · have e2 : firstE [cmpI a.at_ b.at_, cmpS a.veh b.veh] = cmpI a.at_ b.at_ := by simp [firstE, h]
    rw [e2, cmpI_neg]
    have : a.at_ ≠ b.at_ := fun e => h (cmpI_zero.2 e)
    exact ⟨.inl, fun h4 => by
      rcases h4 with h4 | h4
      · exact h4
      · exact absurd h4.1 this⟩
theorem evOrd_trans {a b d : Ev} (h1 : evOrd a b < 0) (h2 : evOrd b d < 0) : evOrd a d < 0 := by
  rw [evOrd_neg] at *
  rcases h1 with h1 | ⟨h1, h3⟩ <;> rcases h2 with h2 | ⟨h2, h4⟩
  · exact .inl (by omega)
  · exact .inl (by omega)
  · exact .inl (by omega)
  · exact .inr ⟨by omega, bl_trans h3 h4⟩
def ESort (l : List Ev) : Prop := l.Pairwise fun a b => evOrd a b < 0
/-- What a right event is. -/
structure EvFine (ss : List St) (vs : List Vh) (x : Ev) : Prop where
  at_ : 0 ≤ x.at_ ∧ x.at_ ≤ 5761439
  veh : 0 ≤ ixP (vhP x.veh) vs 0
  sta : ss.any (stP x.sta) = true
  kd : 1 ≤ x.kd ∧ x.kd ≤ 8
  ne : x.to_ ≠ x.sta
theorem evE_zero {ss : List St} {vs : List Vh} {p : Option Ev} {x : Ev} (h : evE ss vs p x = 0) : EvFine ss vs x ∧ evO p x = false := by
  unfold evE at h
  split at h
  · cases h
  · rename_i h1
    split at h
    · cases h
    · rename_i h2
      split at h
      · cases h
      · rename_i h3
        split at h
        · cases h
        · split at h
          · cases h
          · split at h
            · cases h
            · rename_i h6
              split at h
              · cases h
              · rename_i h7
                simp only [Bool.not_eq_false] at h1 h3
                simp only [Bool.or_eq_true, decide_eq_true_eq, Bool.not_eq_true', not_or, Bool.not_eq_false] at h2
                exact ⟨⟨inB_iff.1 h1, by omega, h2.2, inB_iff.1 h3, fun e => h6 (by rw [e]; exact beq_self_eq_true _)⟩, by simpa using h7⟩
theorem log_fine {ss : List St} {vs : List Vh} : ∀ {l : List Ev} {p : Option Ev}, scanE (evE ss vs) p l = 0 → ESort l ∧ (∀ q, p = some q → ∀ x ∈ l, evOrd q x < 0) ∧ ∀ x ∈ l, EvFine ss vs x
  | [], _, _ => ⟨List.Pairwise.nil, (fun _ _ x hx => by cases hx), (fun x hx => by cases hx)⟩
  | b :: r, p, h => by
    unfold scanE at h
    by_cases hb : evE ss vs p b = 0
    · rw [if_pos hb] at h
      obtain ⟨h1, h2, h3⟩ := log_fine h
      obtain ⟨hf, ho⟩ := evE_zero hb
      refine ⟨List.Pairwise.cons (fun x hx => h2 b rfl x hx) h1, fun q hq x hx => ?_, fun x hx => ?_⟩
      · subst hq
        have hlt : evOrd q b < 0 := by
          have := of_decide_eq_false (show decide (0 ≤ evOrd q b) = false from ho)
          omega
        rcases List.mem_cons.1 hx with rfl | hx
        · exact hlt
        · exact evOrd_trans hlt (h2 b rfl x hx)
      · rcases List.mem_cons.1 hx with rfl | hx
        · exact hf
        · exact h3 x hx
    · rw [if_neg hb] at h
      exact absurd h hb
def goodB (s : Sa) (x : Ev) : Bool :=
  if x.kd = 1 then decide (s.st = 0) else if x.kd = 3 then decide (s.st = 2) else if x.kd = 5 then decide (s.st = 3) && s.sta.toList == x.sta.toList else if x.kd = 7 then decide (s.st = 4) && s.sta.toList == x.sta.toList
  else if x.kd = 2 ∨ x.kd = 4 ∨ x.kd = 6 ∨ x.kd = 8 then decide (s.st = 1) && s.sta.toList == x.sta.toList else false
def nextS (x : Ev) : Sa :=
  if x.kd = 2 then ⟨2, ⟨#[]⟩, x.at_⟩ else if x.kd = 4 then ⟨3, x.sta, x.at_⟩ else if x.kd = 6 then ⟨4, x.to_, x.at_⟩ else if x.kd = 8 then ⟨5, ⟨#[]⟩, x.at_⟩ else ⟨1, x.sta, x.at_⟩
theorem nextS_since (x : Ev) : (nextS x).since = x.at_ := by unfold nextS; repeat' split <;> try rfl
def stepS (s : Sa) (x : Ev) : Sa := if goodB s x = true then nextS x else s
/-- The stages of a vehicle behind a state. -/
def stgs (v : ByteArray) : List Ev → Sa → List Sa
  | [], _ => []
  | x :: r, s => if (x.veh.toList == v.toList) = true then (if goodB s x = true then nextS x :: stgs v r (nextS x) else stgs v r s) else stgs v r s
def lastS (v : ByteArray) : List Ev → Sa → Sa
  | [], s => s
  | x :: r, s => lastS v r (if (x.veh.toList == v.toList) = true then stepS s x else s)
def stages (l : List Ev) (v : ByteArray) : List Sa := sa0 :: stgs v l sa0
def stateR (l : List Ev) (v : ByteArray) (at_ : Int) : Sa := ((stages l v).reverse.find? fun s => decide (s.since ≤ at_)).getD sa0
theorem stgs_since {v : ByteArray} {lo : Int} : ∀ {l : List Ev} {s : Sa}, (∀ x ∈ l, lo ≤ x.at_) → ∀ z ∈ stgs v l s, lo ≤ z.since
  | [], _, _, z, hz => by cases hz
  | x :: r, s, h, z, hz => by
    have hr : ∀ y ∈ r, lo ≤ y.at_ := fun y hy => h y (List.mem_cons_of_mem _ hy)
    unfold stgs at hz
    split at hz
    · split at hz
      · rcases List.mem_cons.1 hz with rfl | hz
        · rw [nextS_since]; exact h x (List.mem_cons_self ..)
        · exact stgs_since hr z hz
      · exact stgs_since hr z hz
    · exact stgs_since hr z hz
theorem stateR_from {v : ByteArray} {at_ : Int} : ∀ {l : List Ev} {s : Sa}, l.Pairwise (fun a b => a.at_ ≤ b.at_) → s.since ≤ at_ → ((s :: stgs v l s).reverse.find? fun z => decide (z.since ≤ at_)) = some (lastS v (l.takeWhile fun x => decide (x.at_ ≤ at_)) s)
  | [], s, _, hs => by simp [stgs, lastS, hs]
  | x :: r, s, hl, hs => by
    rw [List.pairwise_cons] at hl
    by_cases hx : x.at_ ≤ at_
    · rw [List.takeWhile_cons_of_pos (by simpa using hx)]
      unfold stgs lastS
      by_cases hv : (x.veh.toList == v.toList) = true
      · rw [if_pos hv, if_pos hv]
        unfold stepS
        by_cases hg : goodB s x = true
        · rw [if_pos hg, if_pos hg]
          have ih := stateR_from (v := v) hl.2 (show (nextS x).since ≤ at_ by rw [nextS_since]; exact hx)
          rw [List.reverse_cons, List.find?_append, ih]; rfl
        · rw [if_neg hg, if_neg hg]; exact stateR_from hl.2 hs
      · rw [if_neg hv, if_neg hv]; exact stateR_from hl.2 hs
    · rw [List.takeWhile_cons_of_neg (by simpa using hx)]
      have hall : ∀ z ∈ stgs v (x :: r) s, x.at_ ≤ z.since := stgs_since fun y hy => by
        rcases List.mem_cons.1 hy with rfl | hy
        · exact Int.le_refl _
        · exact hl.1 y hy
      rw [List.reverse_cons, List.find?_append]
      have : (stgs v (x :: r) s).reverse.find? (fun z => decide (z.since ≤ at_)) = none := List.find?_eq_none.2 fun z hz => by
        have := hall z (List.mem_reverse.1 hz)
        simp; omega
      rw [this]
      simp [lastS, hs]
theorem esort_le {l : List Ev} (h : ESort l) : l.Pairwise (fun a b => a.at_ ≤ b.at_) := h.imp fun {a b} hab => by
  rw [evOrd_neg] at hab
  omega
theorem stateR_eq {l : List Ev} {v : ByteArray} {at_ : Int} (hl : ESort l) (h0 : 0 ≤ at_) : stateR l v at_ = lastS v (l.takeWhile fun x => decide (x.at_ ≤ at_)) sa0 := by
  unfold stateR stages
  rw [stateR_from (esort_le hl) (show sa0.since ≤ at_ from h0)]; rfl
end Go.Proofs.Ytodcildcipfmcaa
namespace Go.Proofs.Ytodcildcipfmcaa
open Go.RowKit
section
variable {P : Program} {nn : Nat} {S : List (Nat × Value)} {Z : World → Prop} {d : Nat} {ty : TypeId} {pos : String} {aft : Array Edge}
theorem ov_sgtr {t t' : TypeId} {x y : Operand} {m n : ByteArray} (hx : rd S x = some (.string m)) (hy : rd S y = some (.string n)) : OV P nn S Z ⟨some d, .binOp .gtr t x y t', ty, pos, aft, none⟩ (.bool !(Op.bytesLess m.toList n.toList || m.toList == n.toList)) :=
  ov_bin hx hy (fun w => by simp [go_sem])
theorem ov_slss {t t' : TypeId} {x y : Operand} {m n : ByteArray} (hx : rd S x = some (.string m)) (hy : rd S y = some (.string n)) : OV P nn S Z ⟨some d, .binOp .lss t x y t', ty, pos, aft, none⟩ (.bool (Op.bytesLess m.toList n.toList)) :=
  ov_bin hx hy (fun w => by simp [go_sem])
end
/-- A row of the outer walk, as the one old block that may turn. -/
def RowK (base : Nat) (e : TypeId) (sz n cap g : Nat) (xs : List Value) (w : World) : Prop := w.ownsRow base e sz (.slice (some ⟨g, 0, none⟩) n cap) n xs
theorem RowK.lt {base : Nat} {e : TypeId} {sz n cap g : Nat} {xs : List Value} {w : World} (h : RowK base e sz n cap g xs w) : base ≤ g ∧ g < w.heap.size := (show w.ownsRow base e sz (.slice (some ⟨g, 0, none⟩) n cap) n xs from h).lt g rfl
theorem RowK.keeps {base : Nat} {e : TypeId} {sz n cap g : Nat} {xs : List Value} {N : Nat} (h : g < N) : Keeps N (RowK base e sz n cap g xs) :=
  ⟨fun _ _ hg hk => World.ownsRow.kept hk hg (.inr (fun e => by simp [Value.ownBlock] at e)), fun _ _ r hr hg hk => World.ownsRow.kept hk hg (.inr (fun e => by
    have e : g = r := by simpa [Value.ownBlock] using e
    omega))⟩
section
variable {P : Program} {c : Cx} {ops : Array Oper} {Q : Exit → Act → World → Prop} {rest : List Oper} {S : List (Nat × Value)} {L : List (Nat × TypeId × List Value)} {O : List Own} {X : List (World → Prop)} {d : Nat} {ty : TypeId} {pos : String} {aft : Array Edge}
/-- A cell of an element of that row is loaded. -/
theorem RowK.get {α : Type} {enc : α → List Value} {base : Nat} {e : TypeId} {sz n cap g : Nat} {l : List α} {w : World} (h : RowK base e sz n cap g (l.flatMap enc) w) (hk : ∀ x, (enc x).length = sz) (hl : l.length = n) : SlT enc sz e w (some ⟨g, 0, none⟩) n l := SlT.ofOwn hk h hl
/-- A cell of an element of that row is written. -/
theorem wl_storeRow {α : Type} {enc : α → List Value} {t : TypeId} {x y : Operand} {base g n cap sz o j r : Nat} {e : TypeId} {v : Value} {l : List α} {el el' : α} (hrow : c.row = some g) (hs : scalarB P t = true) (hx : rd S x = some (.pointer (some ⟨g, o, none⟩))) (hy : rd S y = some v) (h1 : v.oneCell' = true)
    (hk : ∀ x, (enc x).length = sz) (ho : 0 + j * sz + r = o) (hj : l[j]? = some el) (hl : l.length = n) (hr : r < sz) (he : (enc el).set r v = enc el') (hT : c.Tt.contains e = false)
    (h : WL P c ops Q rest S (RowK base e sz n cap g ((l.set j el').flatMap enc)) L O X) : WL P c ops Q (⟨none, .store t x y, ty, pos, aft, none⟩ :: rest) S (RowK base e sz n cap g (l.flatMap enc)) L O X := by
  intro a w ha hm
  refine wpList_plain rfl fun K' hK => ?_
  have hown : w.ownsRow base e sz (.slice (some ⟨g, 0, none⟩) n cap) n (l.flatMap enc) := hm.k
  have hjl := (List.getElem?_eq_some_iff.1 hj).1
  have hlt : j * sz + r < n * sz := by
    have : (j + 1) * sz ≤ n * sz := Nat.mul_le_mul_right sz (by omega)
    rw [Nat.add_mul] at this
    omega
  have ho' : o = j * sz + r := by omega
  obtain ⟨u, hu⟩ : ∃ u, (l.flatMap enc)[o]? = some u := ⟨_, List.getElem?_eq_getElem (by rw [hown.1]; omega)⟩
  have hc : w.cell? ⟨g, o, none⟩ = some u := by rw [hown.cellAt o (by omega)]; exact hu
  have hst : (store ⟨g, o, none⟩ v).run P w = .ok () (w.setCell ⟨g, o, none⟩ v) := by
    rw [run_store P w _ _ _ h1]
    simp [hc, hown.frozenAt]
  have hv1 : v.cells = #[v] := by cases v <;> simp_all [Value.cells, Value.oneCell']
  unfold Oper.wp
  have : (execOp a.eval ⟨none, .store t x y, ty, pos, aft, none⟩).run P w = .ok .skip (w.setCell ⟨g, o, none⟩ v) := by
    simp only [execOp, ha.eval hx, ha.eval hy, Instr.storeAt, Instr.sureAddr, storeVar, hv1]
    simp [(run_scalar hs w).2, storeCells, add_addr, hst]
  rw [this]
  have hs2 := hown.stored o v
  rw [ho', flat_set1 enc sz hk hj he hr, ← ho'] at hs2
  refine hK _ _ (h _ _ ⟨ha.size, ha.val, ha.df⟩ ?_)
  have hg : w.grownBy (w.setCell ⟨g, o, none⟩ v) (some g) := hs2.2
  have hlt0 := hm.rs g hrow
  obtain ⟨cells, hcells⟩ : ∃ cells, w.heap[g]? = some (.cells cells e (0, 0)) := by
    rcases hown.2 with ⟨h1, _⟩ | ⟨g', cap', cur, h1, _, h2, _⟩
    · cases h1
    · injection h1 with h1 _ _
      injection h1 with h1
      injection h1 with h1 _ _
      subst h1
      exact ⟨_, h2⟩
  refine ⟨grow_trans hm.g (hrow ▸ hg), hs2.1, fun x hx => ⟨(hm.b x hx).1, (hm.b x hx).2.grown hg (fun e => ?_)⟩, hm.nd, fun r hr => (hm.o r hr).kept hg ?_, hm.od, hm.oo, fun A hA => ?_, RowK.keeps hlt0, hm.l, hm.rs⟩
  · have := (hm.b x hx).1; injection e with e; omega
  · cases hv : r.v.ownBlock with
    | none => exact .inl rfl
    | some g' => exact .inr (fun e => by have := ((hm.o r hr).lt g' hv).1; injection e with e; omega)
  · exact (hm.l A hA).st w _ g e cells hcells (fun e => by simp [e] at hT) (.inr hrow) hg (hm.x A hA)
end
/-- The cells of a row of zero values. -/
theorem made_flat {α : Type} {enc : α → List Value} {x : α} {z : Array Value} {sz : Nat} (hx : enc x = z.toList) (hz : z.size = sz) (h0 : 0 < sz) : ∀ n : Nat, (madeCells z (n * sz)).toList = (List.replicate n x).flatMap enc
  | 0 => by simp [madeCells]
  | n + 1 => by
    have ih := made_flat hx hz h0 n
    have e : (madeCells z ((n + 1) * sz)).toList = (madeCells z (n * sz)).toList ++ z.toList := by
      simp only [madeCells, Array.toList_map, Array.toList_range]
      rw [Nat.add_mul, Nat.one_mul, List.range_add, List.map_append, List.map_map]
      congr 1
      apply List.ext_getElem
      · simp [hz]
      · intro j h1 h2
        have hj : j < z.size := by simpa using h2
        simp only [List.getElem_map, List.getElem_range, Function.comp]
        rw [hz, show (n * sz + j) % sz = j by rw [Nat.add_comm, Nat.add_mul_mod_self_right]; exact Nat.mod_eq_of_lt (by omega)]
        simp [hj]
    rw [e, ih, List.replicate_succ', List.flatMap_append]
    simp [hx]
theorem Blk.oldRow {w : World} {g : Nat} {T : TypeId} {cs : List Value} (h : Blk w g T cs) {sb : Nat} {TS : TypeId} {ds : Array Value} (hs : w.heap[sb]? = some (.cells ds TS (0, 0))) (hT : T ≠ TS) : BlkOld w.heap.size (some sb) g T cs w := ⟨⟨h.lt, fun e => by
  have e : sb = g := Option.some.inj e
  subst e
  have h1 : w.heap[sb]? = some (.cells cs.toArray T (0, 0)) := h
  rw [hs] at h1
  injection h1 with h1
  injection h1 with _ h1 _
  exact hT h1.symm⟩, h⟩
theorem RowK.cells {base : Nat} {e : TypeId} {sz n cap g : Nat} {xs : List Value} {w : World} (h : RowK base e sz n cap g xs w) : ∃ cells, w.heap[g]? = some (.cells cells e (0, 0)) := by
  rcases h.2 with ⟨h1, _⟩ | ⟨g', cap', cur, h1, _, h2, _⟩
  · cases h1
  · injection h1 with h1 _ _
    injection h1 with h1
    injection h1 with h1 _ _
    subst h1
    exact ⟨_, h2⟩
theorem Blk.lasts2 {N : Nat} {row : Option Nat} {Tt : List TypeId} {g : Nat} {T : TypeId} {cs : List Value} (hT : Tt.contains T = true) : Lasts2 N row Tt (fun w => Blk w g T cs) :=
  ⟨fun _ _ hg h => h.grown hg (by simp), fun w w' r U c h1 h2 _ h4 h => h.grown h4 (fun e => by
    have e : g = r := Option.some.inj e
    subst e
    have h5 : w.heap[g]? = some (.cells cs.toArray T (0, 0)) := h
    rw [h1] at h5
    injection h5 with h5
    injection h5 with _ h5 _
    exact h2 (by rw [h5]; simpa using hT))⟩
end Go.Proofs.Ytodcildcipfmcaa
namespace Go.Proofs.Ytodcildcipfmcaa
theorem sc3 : scalarB Try.prog 3 = true := by kernel_rfl
theorem sc4 : scalarB Try.prog 4 = true := by kernel_rfl
theorem sc9 : scalarB Try.prog 9 = true := by kernel_rfl
theorem us9 : Try.prog.underlying 9 = some .string := by kernel_rfl
theorem sc22 : scalarB Try.prog 22 = true := by kernel_rfl
theorem es22 : elemSz Try.prog 22 = some (3, 1) := by kernel_rfl
theorem ap22 : appB Try.prog 22 = some (3, 1, 8) := by kernel_rfl
theorem rz27 : rowSz Try.prog 27 = some 2 := by kernel_rfl
theorem fo27_0 : fieldOff Try.prog 27 0 = some 0 := by kernel_rfl
theorem fo27_1 : fieldOff Try.prog 27 1 = some 1 := by kernel_rfl
theorem zc27 : zeroCs Try.prog 27 = some [.string ⟨#[]⟩, .string ⟨#[]⟩] := by kernel_rfl
theorem sc28 : scalarB Try.prog 28 = true := by kernel_rfl
theorem es28 : elemSz Try.prog 28 = some (27, 2) := by kernel_rfl
theorem sc29 : scalarB Try.prog 29 = true := by kernel_rfl
theorem es29 : elemSz Try.prog 29 = some (41, 15) := by kernel_rfl
theorem ap29 : appB Try.prog 29 = some (41, 15, 128) := by kernel_rfl
theorem sc30 : scalarB Try.prog 30 = true := by kernel_rfl
theorem es30 : elemSz Try.prog 30 = some (46, 2) := by kernel_rfl
theorem ap30 : appB Try.prog 30 = some (46, 2, 32) := by kernel_rfl
theorem sc31 : scalarB Try.prog 31 = true := by kernel_rfl
theorem es31 : elemSz Try.prog 31 = some (139, 3) := by kernel_rfl
theorem rz33 : rowSz Try.prog 33 = some 4 := by kernel_rfl
theorem fo33_0 : fieldOff Try.prog 33 0 = some 0 := by kernel_rfl
theorem fo33_1 : fieldOff Try.prog 33 1 = some 1 := by kernel_rfl
theorem fo33_2 : fieldOff Try.prog 33 2 = some 2 := by kernel_rfl
theorem fo33_3 : fieldOff Try.prog 33 3 = some 3 := by kernel_rfl
theorem zc33 : zeroCs Try.prog 33 = some [.slice none 0 0, .slice none 0 0, .slice none 0 0, .slice none 0 0] := by kernel_rfl
theorem es34 : elemSz Try.prog 34 = some (48, 5) := by kernel_rfl
theorem ap34 : appB Try.prog 34 = some (48, 5, 64) := by kernel_rfl
theorem es35 : elemSz Try.prog 35 = some (44, 2) := by kernel_rfl
theorem ap35 : appB Try.prog 35 = some (44, 2, 24) := by kernel_rfl
theorem es36 : elemSz Try.prog 36 = some (9, 1) := by kernel_rfl
theorem ap36 : appB Try.prog 36 = some (9, 1, 16) := by kernel_rfl
theorem rz41 : rowSz Try.prog 41 = some 15 := by kernel_rfl
theorem fo41_0 : fieldOff Try.prog 41 0 = some 0 := by kernel_rfl
theorem rz44 : rowSz Try.prog 44 = some 2 := by kernel_rfl
theorem fo44_0 : fieldOff Try.prog 44 0 = some 0 := by kernel_rfl
theorem fo44_1 : fieldOff Try.prog 44 1 = some 1 := by kernel_rfl
theorem zc44 : zeroCs Try.prog 44 = some [.string ⟨#[]⟩, .int .i64 0] := by kernel_rfl
theorem rz46 : rowSz Try.prog 46 = some 2 := by kernel_rfl
theorem fo46_0 : fieldOff Try.prog 46 0 = some 0 := by kernel_rfl
theorem fo46_1 : fieldOff Try.prog 46 1 = some 1 := by kernel_rfl
theorem zc46 : zeroCs Try.prog 46 = some [.string ⟨#[]⟩, .string ⟨#[]⟩] := by kernel_rfl
theorem rz48 : rowSz Try.prog 48 = some 5 := by kernel_rfl
theorem fo48_0 : fieldOff Try.prog 48 0 = some 0 := by kernel_rfl
theorem fo48_1 : fieldOff Try.prog 48 1 = some 1 := by kernel_rfl
theorem fo48_2 : fieldOff Try.prog 48 2 = some 2 := by kernel_rfl
theorem fo48_3 : fieldOff Try.prog 48 3 = some 3 := by kernel_rfl
theorem fo48_4 : fieldOff Try.prog 48 4 = some 4 := by kernel_rfl
theorem zc48 : zeroCs Try.prog 48 = some [.int .i64 0, .string ⟨#[]⟩, .string ⟨#[]⟩, .int .i64 0, .string ⟨#[]⟩] := by kernel_rfl
theorem es49 : elemSz Try.prog 49 = some (66, 4) := by kernel_rfl
theorem ap49 : appB Try.prog 49 = some (66, 4, 48) := by kernel_rfl
theorem es51 : elemSz Try.prog 51 = some (57, 3) := by kernel_rfl
theorem ap51 : appB Try.prog 51 = some (57, 3, 40) := by kernel_rfl
theorem rz57 : rowSz Try.prog 57 = some 3 := by kernel_rfl
theorem fo57_0 : fieldOff Try.prog 57 0 = some 0 := by kernel_rfl
theorem fo57_1 : fieldOff Try.prog 57 1 = some 1 := by kernel_rfl
theorem fo57_2 : fieldOff Try.prog 57 2 = some 2 := by kernel_rfl
theorem zc57 : zeroCs Try.prog 57 = some [.string ⟨#[]⟩, .string ⟨#[]⟩, .int .i64 0] := by kernel_rfl
theorem rz66 : rowSz Try.prog 66 = some 4 := by kernel_rfl
theorem fo66_0 : fieldOff Try.prog 66 0 = some 0 := by kernel_rfl
theorem fo66_1 : fieldOff Try.prog 66 1 = some 1 := by kernel_rfl
theorem fo66_2 : fieldOff Try.prog 66 2 = some 2 := by kernel_rfl
theorem fo66_3 : fieldOff Try.prog 66 3 = some 3 := by kernel_rfl
theorem zc66 : zeroCs Try.prog 66 = some [.string ⟨#[]⟩, .string ⟨#[]⟩, .int .i64 0, .int .i64 0] := by kernel_rfl
theorem sc75 : scalarB Try.prog 75 = true := by kernel_rfl
theorem es75 : elemSz Try.prog 75 = some (79, 4) := by kernel_rfl
theorem ap75 : appB Try.prog 75 = some (79, 4, 32) := by kernel_rfl
theorem fo77_0 : fieldOff Try.prog 77 0 = some 0 := by kernel_rfl
theorem fo77_1 : fieldOff Try.prog 77 1 = some 1 := by kernel_rfl
theorem fo77_2 : fieldOff Try.prog 77 2 = some 2 := by kernel_rfl
theorem rz79 : rowSz Try.prog 79 = some 4 := by kernel_rfl
theorem fo79_0 : fieldOff Try.prog 79 0 = some 0 := by kernel_rfl
theorem fo79_1 : fieldOff Try.prog 79 1 = some 1 := by kernel_rfl
theorem fo79_2 : fieldOff Try.prog 79 2 = some 2 := by kernel_rfl
theorem fo79_3 : fieldOff Try.prog 79 3 = some 3 := by kernel_rfl
theorem zc79 : zeroCs Try.prog 79 = some [.int .i64 0, .int .i64 0, .int .i64 0, .int .i64 0] := by kernel_rfl
theorem sc91 : scalarB Try.prog 91 = true := by kernel_rfl
theorem rz93 : rowSz Try.prog 93 = some 3 := by kernel_rfl
theorem fo93_0 : fieldOff Try.prog 93 0 = some 0 := by kernel_rfl
theorem fo93_1 : fieldOff Try.prog 93 1 = some 1 := by kernel_rfl
theorem zc93 : zeroCs Try.prog 93 = some [.int .i64 0, .string ⟨#[]⟩, .int .i64 0] := by kernel_rfl
theorem es107 : elemSz Try.prog 107 = some (111, 2) := by kernel_rfl
theorem rz111 : rowSz Try.prog 111 = some 2 := by kernel_rfl
theorem fo111_0 : fieldOff Try.prog 111 0 = some 0 := by kernel_rfl
theorem fo111_1 : fieldOff Try.prog 111 1 = some 1 := by kernel_rfl
theorem rz139 : rowSz Try.prog 139 = some 3 := by kernel_rfl
theorem fo139_0 : fieldOff Try.prog 139 0 = some 0 := by kernel_rfl
theorem fo139_1 : fieldOff Try.prog 139 1 = some 1 := by kernel_rfl
theorem fo139_2 : fieldOff Try.prog 139 2 = some 2 := by kernel_rfl
theorem zc139 : zeroCs Try.prog 139 = some [.int .i64 0, .string ⟨#[]⟩, .string ⟨#[]⟩] := by kernel_rfl
theorem cb4 : callableB Try.prog 4 = true := by kernel_rfl
theorem cb5 : callableB Try.prog 5 = true := by kernel_rfl
theorem cb6 : callableB Try.prog 6 = true := by kernel_rfl
theorem cb7 : callableB Try.prog 7 = true := by kernel_rfl
theorem cb8 : callableB Try.prog 8 = true := by kernel_rfl
theorem cb9 : callableB Try.prog 9 = true := by kernel_rfl
theorem cb10 : callableB Try.prog 10 = true := by kernel_rfl
theorem cb11 : callableB Try.prog 11 = true := by kernel_rfl
theorem cb12 : callableB Try.prog 12 = true := by kernel_rfl
theorem cb13 : callableB Try.prog 13 = true := by kernel_rfl
theorem cb14 : callableB Try.prog 14 = true := by kernel_rfl
theorem cb15 : callableB Try.prog 15 = true := by kernel_rfl
theorem cb16 : callableB Try.prog 16 = true := by kernel_rfl
theorem cb17 : callableB Try.prog 17 = true := by kernel_rfl
theorem cb18 : callableB Try.prog 18 = true := by kernel_rfl
theorem cb19 : callableB Try.prog 19 = true := by kernel_rfl
theorem cb20 : callableB Try.prog 20 = true := by kernel_rfl
theorem cb21 : callableB Try.prog 21 = true := by kernel_rfl
theorem cb22 : callableB Try.prog 22 = true := by kernel_rfl
theorem cb23 : callableB Try.prog 23 = true := by kernel_rfl
theorem cb24 : callableB Try.prog 24 = true := by kernel_rfl
theorem cb25 : callableB Try.prog 25 = true := by kernel_rfl
theorem cb26 : callableB Try.prog 26 = true := by kernel_rfl
theorem cb27 : callableB Try.prog 27 = true := by kernel_rfl
theorem cb28 : callableB Try.prog 28 = true := by kernel_rfl
theorem cb29 : callableB Try.prog 29 = true := by kernel_rfl
theorem cb30 : callableB Try.prog 30 = true := by kernel_rfl
theorem cb33 : callableB Try.prog 33 = true := by kernel_rfl
theorem cb34 : callableB Try.prog 34 = true := by kernel_rfl
theorem cb35 : callableB Try.prog 35 = true := by kernel_rfl
theorem cb36 : callableB Try.prog 36 = true := by kernel_rfl
theorem cb37 : callableB Try.prog 37 = true := by kernel_rfl
theorem cb38 : callableB Try.prog 38 = true := by kernel_rfl
theorem cb41 : callableB Try.prog 41 = true := by kernel_rfl
theorem cb42 : callableB Try.prog 42 = true := by kernel_rfl
theorem cb44 : callableB Try.prog 44 = true := by kernel_rfl
theorem cb45 : callableB Try.prog 45 = true := by kernel_rfl
theorem cb46 : callableB Try.prog 46 = true := by kernel_rfl
theorem cb47 : callableB Try.prog 47 = true := by kernel_rfl
theorem cb48 : callableB Try.prog 48 = true := by kernel_rfl
theorem cb49 : callableB Try.prog 49 = true := by kernel_rfl
theorem cb50 : callableB Try.prog 50 = true := by kernel_rfl
theorem cb51 : callableB Try.prog 51 = true := by kernel_rfl
theorem cb52 : callableB Try.prog 52 = true := by kernel_rfl
theorem cb53 : callableB Try.prog 53 = true := by kernel_rfl
theorem cb54 : callableB Try.prog 54 = true := by kernel_rfl
theorem cb55 : callableB Try.prog 55 = true := by kernel_rfl
theorem cb56 : callableB Try.prog 56 = true := by kernel_rfl
theorem cb57 : callableB Try.prog 57 = true := by kernel_rfl
theorem cb58 : callableB Try.prog 58 = true := by kernel_rfl
theorem cb59 : callableB Try.prog 59 = true := by kernel_rfl
theorem cb60 : callableB Try.prog 60 = true := by kernel_rfl
theorem cb61 : callableB Try.prog 61 = true := by kernel_rfl
theorem cb62 : callableB Try.prog 62 = true := by kernel_rfl
theorem cb63 : callableB Try.prog 63 = true := by kernel_rfl
theorem cb65 : callableB Try.prog 65 = true := by kernel_rfl
theorem cb66 : callableB Try.prog 66 = true := by kernel_rfl
theorem cb67 : callableB Try.prog 67 = true := by kernel_rfl
theorem cb68 : callableB Try.prog 68 = true := by kernel_rfl
theorem cb69 : callableB Try.prog 69 = true := by kernel_rfl
theorem cb70 : callableB Try.prog 70 = true := by kernel_rfl
theorem cb72 : callableB Try.prog 72 = true := by kernel_rfl
theorem mixed : Try.prog.follows .mixedOrders = true := by kernel_rfl
end Go.Proofs.Ytodcildcipfmcaa
namespace Go.Proofs.Ytodcildcipfmcaa
open Go.RowKit
theorem prevOf_zero {α : Type} {l : List α} {k : Nat} (h : k = 0) : prevOf l k = none := by unfold prevOf; rw [if_pos h]
theorem prevOf_pos {α : Type} {l : List α} {k : Nat} {y : α} (h : ¬ k = 0) (hy : l[k - 1]? = some y) : prevOf l k = some y := by unfold prevOf; rw [if_neg h, hy]
def sgEnc (x : ByteArray) : List Value := [.string x]
theorem sg_len (x : ByteArray) : (sgEnc x).length = 1 := rfl
end Go.Proofs.Ytodcildcipfmcaa
namespace Go.Proofs.Ytodcildcipfmcaa
open Go.RowKit
theorem fe_all : ∀ {l : List Int}, firstE l = 0 → ∀ e ∈ l, e = 0
  | [], _, _, h => by cases h
  | x :: r, h, e, he => by
    simp only [firstE] at h
    by_cases hx : x = 0
    · rw [if_pos hx] at h
      rcases List.mem_cons.1 he with rfl | he
      · exact hx
      · exact fe_all h e he
    · rw [if_neg hx] at h; exact absurd h hx
end Go.Proofs.Ytodcildcipfmcaa
