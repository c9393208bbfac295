/- Words for worlds and memory that all texts of this seat use: what a stream of numbers is in memory, and how it is kept. -/
import Derived.WalkKit
import Derived.WalkSpells
import Derived.WalkLawsBesides
import Derived.Deep.Draws
import Derived.Lib.Hide
import Derived.Deep.MidRow
import Derived.Laws.CopyRow
import Derived.Deep.QuietTactic
import Derived.BigQuiet
import Derived.Deep.RegionWith
import Derived.Deep.RegionLaw
import Derived.Deep.AppendLies
import Derived.Deep.RegionHeld3
import Derived.Deep.LoopGhost
import Derived.Deep.DeepCutAuto
import Derived.StillTailTactics
import Derived.Deep.DeepMust
import Derived.Deep.DeepFit
import Derived.Deep.Light
import Derived.Lib.Strings
import Derived.Maps.AppendAt
namespace Go.Proofs.YtcggbojhalbkjaaGreatDoor
open Go.RowKit

/-- A stream of numbers: block sb is the struct; its list lies below B; it has handed out at most m numbers. -/
structure Strm (TS : TypeId) (w : World) (B sb m : Nat) : Prop where
  base : B ≤ sb
  pos : ∃ (A : Option Addr) (n c : Nat) (k : Int), w.heap[sb]? = some (.cells #[.slice A n c, .int .i64 k] TS (0, 0)) ∧ 0 ≤ k ∧ k ≤ m ∧ n ≤ 9223372036854775807 ∧
    (0 < n → ∃ b off, A = some ⟨b, off, none⟩ ∧ b < B ∧ ∀ i, i < n → ∃ z : Int, -9223372036854775808 ≤ z ∧ z ≤ 9223372036854775807 ∧ w.cell? ⟨b, off + i, none⟩ = some (.int .i64 z))

theorem Strm.lt {TS : TypeId} {w : World} {B sb m : Nat} (h : Strm TS w B sb m) : sb < w.heap.size := by
  obtain ⟨_, _, _, _, hh, _⟩ := h.pos
  rcases Nat.lt_or_ge sb w.heap.size with hl | hg
  · exact hl
  · rw [Array.getElem?_eq_none hg] at hh; cases hh

theorem Strm.kept {TS : TypeId} {w w' : World} {B sb m : Nat} (h : Strm TS w B sb m) (hb : ∀ k, k < B → w'.heap[k]? = w.heap[k]?) (hs : w'.heap[sb]? = w.heap[sb]?) : Strm TS w' B sb m := by
  refine ⟨h.base, ?_⟩
  obtain ⟨A, n, c, k, hh, h0, h1, h2, h3⟩ := h.pos
  refine ⟨A, n, c, k, hs.trans hh, h0, h1, h2, fun hn => ?_⟩
  obtain ⟨b, off, e, hbB, hc⟩ := h3 hn
  refine ⟨b, off, e, hbB, fun i hi => ?_⟩
  obtain ⟨z, z1, z2, hz⟩ := hc i hi
  exact ⟨z, z1, z2, (World.cell?_of_block (hb b hbB)).trans hz⟩

theorem Strm.more {TS : TypeId} {w : World} {B sb m m' : Nat} (h : Strm TS w B sb m) (hm : m ≤ m') : Strm TS w B sb m' := by
  refine ⟨h.base, ?_⟩
  obtain ⟨A, n, c, k, hh, h0, h1, h2, h3⟩ := h.pos
  exact ⟨A, n, c, k, hh, h0, by omega, h2, h3⟩

/-- A change that leaves all old blocks but one row. -/
theorem grow_trans {a b c : World} {row : Option Nat} (h : a.grownBy b row) (k : b.grownBy c row) : a.grownBy c row :=
  ⟨k.os.trans h.os, k.tape.trans h.tape, k.output.trans h.output, Nat.le_trans h.size k.size, fun i hi hne => (k.block i (Nat.lt_of_lt_of_le hi h.size) hne).trans (h.block i hi hne)⟩
theorem grow_weak {a b : World} {row : Option Nat} (h : a.grownBy b none) : a.grownBy b row := ⟨h.os, h.tape, h.output, h.size, fun i hi _ => h.block i hi (by simp)⟩
theorem grow_of_below {a b : World} {row : Option Nat} (h : Below a.heap.size a b) : a.grownBy b row := ⟨h.os, h.tape, h.output, h.size, fun i hi _ => h.block i hi⟩
theorem below_of_grow {a b : World} (h : a.grownBy b none) : Below a.heap.size a b := ⟨h.os, h.tape, h.output, h.size, fun i hi => h.block i hi (by simp)⟩
theorem grow_drew {a w : World} {row : Option Nat} (h : a.grownBy w row) : a.grownBy w.drew row := ⟨h.os, h.tape, h.output, h.size, h.block⟩
theorem grow_drewN {a w : World} {row : Option Nat} (h : a.grownBy w row) (n : Nat) : a.grownBy (w.drewN n) row := ⟨h.os, h.tape, h.output, h.size, h.block⟩
theorem grow_alloc {a w : World} {row : Option Nat} (h : a.grownBy w row) (o : Obj) : a.grownBy (w.alloc o) row :=
  ⟨h.os, h.tape, h.output, Nat.le_trans h.size (by simp), fun i hi hne => (Below.heap_alloc w o i (Nat.lt_of_lt_of_le hi h.size)).trans (h.block i hi hne)⟩
theorem grow_setCell {a w : World} {row : Option Nat} (h : a.grownBy w row) {p : Addr} (hp : row = some p.block ∨ a.heap.size ≤ p.block) (u : Value) : a.grownBy (w.setCell p u) row :=
  ⟨h.os, h.tape, h.output, by simpa [World.setCell] using h.size, fun i hi hne => (Below.heap_setCell w p u i (by
    rintro rfl
    rcases hp with hp | hp
    · exact hne hp.symm
    · omega)).trans (h.block i hi hne)⟩
/-- Behind an append or a make onto a row of the call's own. -/
theorem grow_own {a w w' : World} {row r : Option Nat} (h : a.grownBy w row) (hg : w.grownBy w' r) (hr : ∀ k, r = some k → a.heap.size ≤ k) : a.grownBy w' row :=
  ⟨hg.os.trans h.os, hg.tape.trans h.tape, hg.output.trans h.output, Nat.le_trans h.size hg.size, fun i hi hne => (hg.block i (Nat.lt_of_lt_of_le hi h.size) (fun e => by have := hr i e.symm; omega)).trans (h.block i hi hne)⟩

theorem Strm.drewN {TS : TypeId} {w : World} {B sb m : Nat} (h : Strm TS w B sb m) (n : Nat) : Strm TS (w.drewN n) B sb m := h.kept (fun _ _ => rfl) rfl
theorem Strm.alloc {TS : TypeId} {w : World} {B sb m : Nat} (h : Strm TS w B sb m) (o : Obj) : Strm TS (w.alloc o) B sb m :=
  h.kept (fun k hk => Below.heap_alloc w o k (by have := h.lt; have := h.base; omega)) (Below.heap_alloc w o sb h.lt)
theorem Strm.setCell {TS : TypeId} {w : World} {B sb m : Nat} (h : Strm TS w B sb m) {p : Addr} (hp : sb < p.block) (u : Value) : Strm TS (w.setCell p u) B sb m :=
  h.kept (fun k hk => Below.heap_setCell w p u k (by have := h.base; omega)) (Below.heap_setCell w p u sb (by omega))
theorem Strm.grown {TS : TypeId} {w w' : World} {B sb m : Nat} (h : Strm TS w B sb m) {r : Option Nat} (hg : w.grownBy w' r) (hr : ∀ k, r = some k → sb < k) : Strm TS w' B sb m :=
  h.kept (fun k hk => hg.block k (by have := h.lt; have := h.base; omega) (fun e => by have := hr k e.symm; have := h.base; omega)) (hg.block sb h.lt (fun e => by have := hr sb e.symm; omega))
/-- The next number has been handed out. -/
theorem Strm.step {TS : TypeId} {w : World} {B sb m : Nat} {A : Option Addr} {n c : Nat} {k : Int} (h : Strm TS w B sb m) (hh : w.heap[sb]? = some (.cells #[.slice A n c, .int .i64 k] TS (0, 0))) (h0 : 0 ≤ k) (h1 : k ≤ m) :
    Strm TS (w.setCell ⟨sb, 1, none⟩ (.int .i64 (k + 1))) B sb (m + 1) := by
  refine ⟨h.base, ?_⟩
  obtain ⟨A', n', c', k', hh', _, _, h2, h3⟩ := h.pos
  rw [hh] at hh'
  simp only [Option.some.injEq, Obj.cells.injEq, Array.mk.injEq, List.cons.injEq, Value.slice.injEq] at hh'
  obtain ⟨⟨⟨rfl, rfl, rfl⟩, _⟩, _⟩ := hh'
  refine ⟨A, n, c, k + 1, ?_, by omega, by omega, h2, fun hn => ?_⟩
  · simp [World.setCell, Array.getElem?_modify, hh]
  · obtain ⟨b, off, e, hbB, hc⟩ := h3 hn
    refine ⟨b, off, e, hbB, fun i hi => ?_⟩
    obtain ⟨z, z1, z2, hz⟩ := hc i hi
    exact ⟨z, z1, z2, (World.cell?_of_block (Below.heap_setCell w _ _ b (by have := h.base; simp; omega))).trans hz⟩

/-- A number of which P holds, and the stream goes on by d. -/
def GotInt (TS : TypeId) (w : World) (B sb m : Nat) (P : Int → Prop) (e : Ending) (w' : World) : Prop :=
  ∃ v : Int, P v ∧ e = .returned (.int .i64 v) ∧ Strm TS w' B sb m ∧ w.grownBy w' (some sb)

/-- A Boolean, and the stream goes on. -/
def GotBool (TS : TypeId) (w : World) (B sb m : Nat) (e : Ending) (w' : World) : Prop :=
  ∃ v : Bool, e = .returned (.bool v) ∧ Strm TS w' B sb m ∧ w.grownBy w' (some sb)
/-- A string of which P holds, and the stream goes on. -/
def GotStr (TS : TypeId) (w : World) (B sb m : Nat) (P : ByteArray → Prop) (e : Ending) (w' : World) : Prop :=
  ∃ v : ByteArray, P v ∧ e = .returned (.string v) ∧ Strm TS w' B sb m ∧ w.grownBy w' (some sb)

theorem ret_int {k : IntKind} {a b : Int} (h : a = b) : Ending.returned (.int k a) = .returned (.int k b) := by rw [h]
theorem ret_bool {a b : Bool} (h : a = b) : Ending.returned (.bool a) = .returned (.bool b) := by rw [h]

theorem ret_be {b b' : Bool} {x x' : Int} (h : b = b') (k : x = x') : Ending.returned (.tuple #[.bool b, .int .i64 x]) = .returned (.tuple #[.bool b', .int .i64 x']) := by rw [h, k]
theorem ret_ie {b b' : Int} {x x' : Int} (h : b = b') (k : x = x') : Ending.returned (.tuple #[.int .i64 b, .int .i64 x]) = .returned (.tuple #[.int .i64 b', .int .i64 x']) := by rw [h, k]

/-- A block that holds just these cells. -/
def Blk (w : World) (g : Nat) (t : TypeId) (cs : List Value) : Prop := w.heap[g]? = some (.cells cs.toArray t (0, 0))
section
variable {w w' : World} {g : Nat} {t : TypeId} {cs : List Value}
theorem Blk.lt (h : Blk w g t cs) : g < w.heap.size := by
  rcases Nat.lt_or_ge g w.heap.size with hlt | hge
  · exact hlt
  · unfold Blk at h; rw [Array.getElem?_eq_none hge] at h; cases h
theorem Blk.cell (h : Blk w g t cs) (i : Nat) : w.cell? ⟨g, i, none⟩ = cs[i]? := by rw [cell_of_row w g i _ t (0, 0) h]; simp
theorem Blk.cell_of (h : Blk w g t cs) {i : Nat} {v : Value} (hv : cs[i]? = some v) : w.cell? ⟨g, i, none⟩ = some v := (h.cell i).trans hv
theorem Blk.frozen (h : Blk w g t cs) (i : Nat) : w.frozen? ⟨g, i, none⟩ = false := by
  unfold Blk at h
  simp [World.frozen?, h]
theorem Blk.new (w : World) (t : TypeId) (cs : List Value) : Blk (w.alloc (.cells cs.toArray t)) w.heap.size t cs := heap_alloc_new w _
theorem Blk.at_ (w : World) {g : Nat} (hg : w.heap.size = g) (t : TypeId) (cs : List Value) : Blk (w.alloc (.cells cs.toArray t)) g t cs := by subst hg; exact heap_alloc_new w _
theorem Blk.drew (h : Blk w g t cs) : Blk w.drew g t cs := h
theorem Blk.drewN (h : Blk w g t cs) (n : Nat) : Blk (w.drewN n) g t cs := h
theorem Blk.alloc (h : Blk w g t cs) (o : Obj) : Blk (w.alloc o) g t cs := (Below.heap_alloc w o g h.lt).trans h
theorem Blk.set_ (h : Blk w g t cs) (i : Nat) (u : Value) : Blk (w.setCell ⟨g, i, none⟩ u) g t (cs.set i u) := by
  unfold Blk at h ⊢
  simp [World.setCell, Array.getElem?_modify, h]
theorem Blk.far (h : Blk w g t cs) {p : Addr} (hp : g ≠ p.block) (u : Value) : Blk (w.setCell p u) g t cs := (Below.heap_setCell w p u g hp).trans h
theorem Blk.kept (h : Blk w g t cs) (hb : w'.heap[g]? = w.heap[g]?) : Blk w' g t cs := hb.trans h
theorem Blk.grown {row : Option Nat} (h : Blk w g t cs) (hb : w.grownBy w' row) (hg : some g ≠ row) : Blk w' g t cs := (hb.block g h.lt hg).trans h
end

/-- What a store of the cells vs from place o on makes of a row. -/
def splice {α : Type} (cs : List α) (o : Nat) (vs : List α) : List α := cs.take o ++ vs ++ cs.drop (o + vs.length)
theorem splice_length {α : Type} (cs : List α) (o : Nat) (vs : List α) (h : o + vs.length ≤ cs.length) : (splice cs o vs).length = cs.length := by
  simp [splice]; omega
theorem splice_mem {α : Type} {cs : List α} {o : Nat} {vs : List α} {x : α} (h : x ∈ splice cs o vs) : x ∈ cs ∨ x ∈ vs := by
  simp only [splice, List.mem_append] at h
  rcases h with (h | h) | h
  · exact .inl (List.mem_of_mem_take h)
  · exact .inr h
  · exact .inl (List.mem_of_mem_drop h)
theorem splice_map {α β : Type} (f : α → β) (cs : List α) (o : Nat) (vs : List α) : splice (cs.map f) o (vs.map f) = (splice cs o vs).map f := by
  simp [splice, List.map_take, List.map_drop]
theorem splice_cons {α : Type} (c : α) (cs : List α) (o : Nat) (vs : List α) : splice (c :: cs) (1 + o) vs = c :: splice cs o vs := by
  simp [splice, Nat.add_comm 1 o, Nat.add_right_comm o 1]
theorem ints_one (l : List Int) : ∀ v ∈ l.map (Value.int .i64), v.oneCell' = true := by
  intro v hv
  simp at hv
  obtain ⟨_, _, rfl⟩ := hv
  rfl

section
variable {P : Program}
/-- A struct or an array is stored into a known block: the new world is any one that holds the new row, all else as it was. -/
theorem wpList_store_blk {ops : Array Oper} {rest : List Oper} {op : Oper} {a : Act} {w : World} {Q : Exit → Act → World → Prop} (hgd : op.guard = none) (ty : TypeId) (x y : Operand) (ho : op.op = .store ty x y)
    (g off : Nat) (t : TypeId) (cs vs : List Value) (hb : Blk w g t cs) (hx : a.eval x = .pointer (some ⟨g, off, none⟩)) (hy : a.eval y = .agg vs.toArray)
    (n : Nat) (hi : (P.info? ty).map (·.size) = some n) (hn : vs.length = n) (hfit : off + n ≤ cs.length) (h1 : ∀ v ∈ vs, v.oneCell' = true)
    (h : ∀ w', Blk w' g t (splice cs off vs) → w.grownBy w' (some g) → wpList P ops Q rest (a.put op.dst undef) w') : wpList P ops Q (op :: rest) a w := by
  subst hn
  refine wpList_plain hgd fun K hK => ?_
  have hr := run_storeCells_at (P := P) g off t vs 0 cs.toArray w hb (by simpa using hfit) h1
  unfold Oper.wp execOp
  cases hq : P.info? ty with
  | none => simp [hq] at hi
  | some i =>
    have hs : i.size = vs.length := by simpa [hq] using hi
    simp only [ho, hx, hy, Instr.storeAt, Instr.sureAddr, Sem.run_bind, Sem.run_pure, Result.andThen_ok, storeVar, sizeOf, typeInfo, Value.cells, List.size_toArray]
    simp only [Nat.add_zero] at hr
    simp [hr, hq, hs]
    refine hK _ _ (h _ ?_ ?_)
    · unfold Blk
      rw [setRow_heap w g cs.toArray _ t (0, 0) hb]
      simp [splice]
    · refine ⟨rfl, rfl, rfl, by simp [World.setRow], fun k _ hne => ?_⟩
      simp only [World.setRow, Array.getElem?_modify]
      rw [if_neg (fun e => hne (by rw [e]))]

/-- A struct or an array is loaded out of a known block. -/
theorem wpList_load_blk {ops : Array Oper} {rest : List Oper} {op : Oper} {a : Act} {w : World} {Q : Exit → Act → World → Prop} (hgd : op.guard = none) (ty : TypeId) (x : Operand) (ho : op.op = .load ty x)
    (g off : Nat) (t : TypeId) (cs vs : List Value) (d : TypeDesc) (hb : Blk w g t cs) (hx : a.eval x = .pointer (some ⟨g, off, none⟩))
    (hu : P.underlying ty = some d) (hd : d.isRow = true) (n : Nat) (hi : (P.info? ty).map (·.size) = some n) (hn : vs.length = n) (hv : ∀ j v, vs[j]? = some v → cs[off + j]? = some v)
    (h : wpList P ops Q rest (a.put op.dst (.agg vs.toArray)) w) : wpList P ops Q (op :: rest) a w :=
  wpList_load_mid hgd ty x ho g off hx vs d (fun j v hj => (hb.cell _).trans (hv j v hj)) hu hd (by rw [hn]; exact hi) h
end

/-- The whole of a known block is loaded. -/
theorem wpList_load_all {P : Program} {ops : Array Oper} {rest : List Oper} {op : Oper} {a : Act} {w : World} {Q : Exit → Act → World → Prop} (hgd : op.guard = none) (ty : TypeId) (x : Operand) (ho : op.op = .load ty x)
    (g : Nat) (t : TypeId) (cs : List Value) (d : TypeDesc) (hb : Blk w g t cs) (hx : a.eval x = .pointer (some ⟨g, 0, none⟩))
    (hu : P.underlying ty = some d) (hd : d.isRow = true) (n : Nat) (hi : (P.info? ty).map (·.size) = some n) (hn : cs.length = n)
    (h : wpList P ops Q rest (a.put op.dst (.agg cs.toArray)) w) : wpList P ops Q (op :: rest) a w :=
  wpList_load_blk hgd ty x ho g 0 t cs cs d hb hx hu hd n hi hn (fun j v hv => by simpa using hv) h
/-- The whole of a known block is stored anew. -/
theorem wpList_store_all {P : Program} {ops : Array Oper} {rest : List Oper} {op : Oper} {a : Act} {w : World} {Q : Exit → Act → World → Prop} (hgd : op.guard = none) (ty : TypeId) (x y : Operand) (ho : op.op = .store ty x y)
    (g : Nat) (t : TypeId) (cs vs : List Value) (hb : Blk w g t cs) (hx : a.eval x = .pointer (some ⟨g, 0, none⟩)) (hy : a.eval y = .agg vs.toArray)
    (n : Nat) (hi : (P.info? ty).map (·.size) = some n) (hn : vs.length = n) (hfit : cs.length = n) (h1 : ∀ v ∈ vs, v.oneCell' = true)
    (h : ∀ w', Blk w' g t vs → w.grownBy w' (some g) → wpList P ops Q rest (a.put op.dst undef) w') : wpList P ops Q (op :: rest) a w :=
  wpList_store_blk hgd ty x y ho g 0 t cs vs hb hx hy n hi hn (by omega) h1 (fun w' hb' hg => h w' (by
    have : splice cs 0 vs = vs := by simp [splice, hfit, hn]
    rwa [this] at hb') hg)
/-- A function's struct result lies in a known block. -/
theorem ret_blk {P : Program} {fn : Func} {R : Ending → World → Prop} {a : Act} {w : World} {p : Tmp} {ty : TypeId} (h : fn.results = #[.cell p ty]) (g : Nat) (t : TypeId) (cs : List Value) (d : TypeDesc) (hb : Blk w g t cs)
    (hp : a.tmps.getD p undef = .pointer (some ⟨g, 0, none⟩)) (hu : P.underlying ty = some d) (hd : d.isRow = true) (n : Nat) (hi : (P.info? ty).map (·.size) = some n) (hn : cs.length = n) (hdf : a.defers = [])
    (hR : R (.returned (.agg cs.toArray)) w) : bodyPost P fn R .ret a w :=
  bodyPost_ret (results_cell_row h a.tmps w g t cs.toArray (0, 0) d hp hb hu (by cases d <;> simp_all [TypeDesc.isRow]) (by simpa [hn] using hi)) hdf hR

/-- A slice that reads as a list: element i lies in k cells, as enc says; its block's elements are of type T. -/
structure SlT {α : Type} (enc : α → List Value) (k : Nat) (T : TypeId) (w : World) (A : Option Addr) (n : Nat) (l : List α) : Prop where
  len : l.length = n
  at_ : 0 < n → ∃ b off cells fz, A = some ⟨b, off, none⟩ ∧ w.heap[b]? = some (.cells cells T fz) ∧ ∀ i x, l[i]? = some x → ∀ j v, (enc x)[j]? = some v → cells[off + i * k + j]? = some v

section
variable {α : Type} {enc : α → List Value} {k : Nat} {T : TypeId} {w w' : World} {A : Option Addr} {n : Nat} {l : List α}
theorem SlT.nil_ (w : World) (A : Option Addr) : SlT enc k T w A 0 ([] : List α) := ⟨rfl, fun h => absurd h (by omega)⟩
theorem SlT.get (h : SlT enc k T w A n l) (hn : 0 < n) : ∃ b off, A = some ⟨b, off, none⟩ ∧ b < w.heap.size ∧ ∀ i x, l[i]? = some x → w.rangeAt b (off + i * k) (enc x) := by
  obtain ⟨b, off, cells, fz, e, hh, hc⟩ := h.at_ hn
  refine ⟨b, off, e, lt_of_block hh, fun i x hx j v hv => ?_⟩
  rw [cell_of_row w b _ cells T fz hh]
  exact hc i x hx j v hv
theorem SlT.kept (h : SlT enc k T w A n l) (hb : ∀ b, b < w.heap.size → (∃ c fz, w.heap[b]? = some (.cells c T fz)) → w'.heap[b]? = w.heap[b]?) : SlT enc k T w' A n l := by
  refine ⟨h.len, fun hn => ?_⟩
  obtain ⟨b, off, cells, fz, e, hh, hc⟩ := h.at_ hn
  exact ⟨b, off, cells, fz, e, (hb b (lt_of_block hh) ⟨cells, fz, hh⟩).trans hh, hc⟩
theorem SlT.grow0 (h : SlT enc k T w A n l) (hg : w.grownBy w' none) : SlT enc k T w' A n l := h.kept fun b hb _ => hg.block b hb (by simp)
theorem SlT.alloc (h : SlT enc k T w A n l) (o : Obj) : SlT enc k T (w.alloc o) A n l := h.kept fun b hb _ => Below.heap_alloc w o b hb
theorem SlT.drewN (h : SlT enc k T w A n l) (m : Nat) : SlT enc k T (w.drewN m) A n l := h.kept fun _ _ _ => rfl
/-- Kept while another block is written whose elements are of another type. -/
theorem SlT.grown (h : SlT enc k T w A n l) {r : Nat} (hg : w.grownBy w' (some r)) {T' : TypeId} {c : Array Value} {fz : Nat × Nat} (hr : w.heap[r]? = some (.cells c T' fz)) (hT : T ≠ T') : SlT enc k T w' A n l :=
  h.kept fun b hb ⟨c', fz', hh⟩ => hg.block b hb (by
    rintro e
    injection e with e
    subst e
    rw [hr] at hh
    injection hh with hh
    injection hh with _ ht _
    exact hT ht.symm)
/-- Kept while the only old block that turns lies from base on. -/
theorem SlT.own (h : SlT enc k T w A n l) {a : World} {row : Option Nat} (hg : w.grownBy a row) (hr : ∀ g, row = some g → w.heap.size ≤ g) : SlT enc k T a A n l :=
  h.kept fun b hb _ => hg.block b hb (fun e => by have := hr b e.symm; omega)
theorem SlT.take (h : SlT enc k T w A n l) (m : Nat) (hm : m ≤ n) : SlT enc k T w A m (l.take m) := by
  refine ⟨by have := h.len; simp; omega, fun hn => ?_⟩
  obtain ⟨b, off, cells, fz, e, hh, hc⟩ := h.at_ (by omega)
  exact ⟨b, off, cells, fz, e, hh, fun i x hx => hc i x (by
    rw [List.getElem?_take] at hx
    split at hx
    · exact hx
    · cases hx)⟩
theorem flat_get (enc : α → List Value) (k : Nat) (hk : ∀ x, (enc x).length = k) : ∀ (l : List α) (i : Nat) (x : α), l[i]? = some x → ∀ j v, (enc x)[j]? = some v → (l.flatMap enc)[i * k + j]? = some v
  | [], i, x, h, _, _, _ => by simp at h
  | y :: r, 0, x, h, j, v, hv => by
    simp at h; subst h
    have hj : j < (enc y).length := (List.getElem?_eq_some_iff.1 hv).1
    rw [Nat.zero_mul, Nat.zero_add, List.flatMap_cons, List.getElem?_append_left hj]; exact hv
  | y :: r, i + 1, x, h, j, v, hv => by
    have ih := flat_get enc k hk r i x (by simpa using h) j v hv
    rw [List.flatMap_cons, List.getElem?_append_right (by rw [hk, Nat.add_mul]; omega), hk]
    rw [show (i + 1) * k + j - k = i * k + j by rw [Nat.add_mul]; omega]
    exact ih
theorem SlT.ofBlk {g : Nat} (hk : ∀ x, (enc x).length = k) (h : Blk w g T (l.flatMap enc)) : SlT enc k T w (some ⟨g, 0, none⟩) l.length l :=
  ⟨rfl, fun _ => ⟨g, 0, _, _, rfl, h, fun i x hx j v hv => by
    have := flat_get enc k hk l i x hx j v hv
    simpa using this⟩⟩
theorem SlT.ofOwn {base : Nat} {c : Nat} (hk : ∀ x, (enc x).length = k) (h : w.ownsRow base T k (.slice A n c) n (l.flatMap enc)) (hn : l.length = n) : SlT enc k T w A n l := by
  refine ⟨hn, fun hn0 => ?_⟩
  obtain ⟨h1, h2⟩ := h
  rcases h2 with ⟨h2, h3⟩ | ⟨g, cap, cur, hv, _, hh, hle, _, hcs, htk⟩
  · omega
  · injection hv with hA _ _
    refine ⟨g, 0, cur, _, hA, hh, fun i x hx j v hv => ?_⟩
    have := flat_get enc k hk l i x hx j v hv
    rw [← htk] at this
    rw [List.getElem?_take] at this
    split at this
    · simpa using this
    · cases this
end

/-- A row out of an array of rows that is a value. -/
theorem wpList_index_row {P : Program} {ops : Array Oper} {rest : List Oper} {op : Oper} {a : Act} {w : World} {Q : Exit → Act → World → Prop} (hgd : op.guard = none) (t : TypeId) (x y : Operand) (ho : op.op = .index t x y)
    (cs : List Value) (i : Nat) (hx : a.eval x = .agg cs.toArray) (hy : a.eval y = .int .i64 (i : Int)) (len : Nat) (e : TypeId) (ht : P.underlying t = some (.array len e)) (d : TypeDesc) (he : P.underlying e = some d) (hd : d.isRow = true)
    (sz : Nat) (hi : (P.info? e).map (·.size) = some sz) (hlt : i < len) (vs : List Value) (hv : (cs.drop (i * sz)).take sz = vs)
    (h : wpList P ops Q rest (a.put op.dst (.agg vs.toArray)) w) : wpList P ops Q (op :: rest) a w := by
  refine wpList_plain hgd fun K hK => ?_
  unfold Oper.wp execOp
  cases hq : P.info? e with
  | none => simp [hq] at hi
  | some inf =>
    have hs : inf.size = sz := by simpa [hq] using hi
    have hagg : (isAgg e).run P w = .ok true w := by
      unfold isAgg
      rw [Sem.run_bind, run_underlying he w]
      cases d <;> simp_all
    have hr : (Instr.index t (.agg cs.toArray) (.int .i64 (i : Int))).run P w = .ok (.agg vs.toArray) w := by
      have hb : 0 ≤ (i : Int) ∧ (i : Int) < (len : Int) := ⟨by omega, by omega⟩
      subst hv
      simp [Instr.index, asIntOf, run_underlying ht, sizeOf, typeInfo, hq, hs, part, hagg]
      omega
    simp only [ho, hx, hy, hr, Sem.run_bind, Result.andThen_ok]
    exact hK _ _ h

/-- The caller's world on the other side. -/
theorem flipw {P : Program} {f : FuncId} {args : Array Value} {w : World} {v : Value} (h : Calls P f args w fun e w' => e = .returned v ∧ w = w') : Calls P f args w fun e w' => e = .returned v ∧ w' = w :=
  h.mono fun _ _ hh => ⟨hh.1, hh.2.symm⟩

/-- A struct is loaded from where its cells lie. -/
theorem wpList_load_rng {P : Program} {ops : Array Oper} {rest : List Oper} {op : Oper} {a : Act} {w : World} {Q : Exit → Act → World → Prop} (hgd : op.guard = none) (ty : TypeId) (x : Operand) (ho : op.op = .load ty x)
    (b o : Nat) (hx : a.eval x = .pointer (some ⟨b, o, none⟩)) (cs : List Value) (d : TypeDesc) (hc : w.rangeAt b o cs)
    (hu : P.underlying ty = some d) (hd : d.isRow = true) (n : Nat) (hi : (P.info? ty).map (·.size) = some n) (hn : cs.length = n)
    (h : wpList P ops Q rest (a.put op.dst (.agg cs.toArray)) w) : wpList P ops Q (op :: rest) a w :=
  wpList_load_mid hgd ty x ho b o hx cs d hc hu hd (by rw [hn]; exact hi) h
theorem rangeAt_grow {w w' : World} {b o : Nat} {cs : List Value} (h : w.rangeAt b o cs) (hb : b < w.heap.size) (hg : w.grownBy w' none) : w'.rangeAt b o cs := fun j v hv => (World.cell?_of_block (a := ⟨b, o + j, none⟩) (hg.block b hb (by simp))).trans (h j v hv)

/-- A number, and nothing that was there has turned. -/
def GotE (w : World) (x : Int) (e : Ending) (w' : World) : Prop := e = .returned (.int .i64 x) ∧ w.grownBy w' none
/-- Two results: a Boolean and an error. -/
def RetBE (w : World) (b : Bool) (x : Int) (e : Ending) (w' : World) : Prop := e = .returned (.tuple #[.bool b, .int .i64 x]) ∧ w.grownBy w' none
def RetIE (w : World) (b : Int) (x : Int) (e : Ending) (w' : World) : Prop := e = .returned (.tuple #[.int .i64 b, .int .i64 x]) ∧ w.grownBy w' none
theorem ret_val {a b : Int} (h : a = b) : Value.int .i64 a = .int .i64 b := by rw [h]

end Go.Proofs.YtcggbojhalbkjaaGreatDoor
