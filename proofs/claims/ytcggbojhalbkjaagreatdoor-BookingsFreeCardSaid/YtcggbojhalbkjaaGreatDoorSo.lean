/- The steps of a walk over slots and blocks: one law for each kind of operation. -/
import Derived.Test.YtcggbojhalbkjaaGreatDoorSx
import Derived.Laws.Tables
import Derived.IntWalk
namespace Go.Proofs.YtcggbojhalbkjaaGreatDoor
open Go.RowKit

/-! What the laws ask of the program's types, each a closed fact. -/
def scalarB (P : Program) (t : TypeId) : Bool :=
  match P.underlying t with
  | none | some (.struct _) | some (.array ..) => false
  | _ => match P.info? t with
    | some i => i.size == 1
    | none => false
def rowSz (P : Program) (t : TypeId) : Option Nat :=
  match P.underlying t with
  | some (.struct _) | some (.array ..) => (P.info? t).map (·.size)
  | _ => none
def fieldOff (P : Program) (t : TypeId) (i : Nat) : Option Nat :=
  match P.underlying t with
  | some (.struct fs) => match fs[i]? with
    | some f => match P.info? f.type with
      | some inf => if inf.size = 0 then none else some f.offset
      | none => none
    | none => none
  | _ => none
def elemSz (P : Program) (t : TypeId) : Option (TypeId × Nat) :=
  match P.underlying t with
  | some (.slice e) => (P.info? e).map fun i => (e, i.size)
  | _ => none
def zeroCs (P : Program) (t : TypeId) : Option (List Value) := ((P.info? t).bind (·.zero)).map (·.cells.toList)
def callableB (P : Program) (f : FuncId) : Bool :=
  match P.funcs[f]? with
  | some fn => !(fn.name == "runtime.NumGoroutine") && fn.body.isSome
  | none => false
def builtRow (P : Program) (t : TypeId) (len : Nat) (parts : List (Nat × Value)) : Option (TypeId × List Value) :=
  match P.underlying t with
  | some (.slice e) => match P.info? e with
    | some i => match i.zero with
      | some z => if len * i.size > 2 ^ 24 ∨ len * i.size = 0 then none else
        (Instr.fill (fun k => some (k * i.size, i.size)) ((Array.range (len * i.size)).map (z.cells[· % z.cells.size]!)) parts).map fun cs => (e, cs.toList)
      | none => none
    | none => none
  | _ => none

section
variable {P : Program} {c : Cx} {ops : Array Oper} {Q : Exit → Act → World → Prop} {rest : List Oper} {S : List (Nat × Value)} {K : World → Prop} {L : List (Nat × TypeId × List Value)} {O : List Own} {X : List (World → Prop)}
variable {nn : Nat} {Z : World → Prop} {d : Nat} {ty : TypeId} {pos : String} {aft : Array Edge}

/-- An operation that yields a value and leaves the world alone. -/
theorem wl_run {op : Op} {v : Value} (hd : Nat.ble (d + 1) c.n = true) (hrun : ∀ a w, Has S c.n a → Mem c K L O X w → (execOp a.eval ⟨some d, op, ty, pos, aft, none⟩).run P w = .ok (.value v) w)
    (h : WL P c ops Q rest ((d, v) :: S) K L O X) : WL P c ops Q (⟨some d, op, ty, pos, aft, none⟩ :: rest) S K L O X := by
  intro a w ha hm
  refine wpList_plain rfl fun K' hK => ?_
  unfold Oper.wp
  rw [hrun a w ha hm]
  exact hK _ _ (h _ _ (ha.put hd v) hm)
/-- An operation that yields the value v in every world of which Z holds, and leaves it alone. -/
def OV (P : Program) (nn : Nat) (S : List (Nat × Value)) (Z : World → Prop) (o : Oper) (v : Value) : Prop := ∀ a w, Has S nn a → Z w → (execOp a.eval o).run P w = .ok (.value v) w
theorem wl_ov {op : Op} {v : Value} (ho : OV P c.n S (Mem c K L O X) ⟨some d, op, ty, pos, aft, none⟩ v) (hd : Nat.ble (d + 1) c.n = true) (h : WL P c ops Q rest ((d, v) :: S) K L O X) : WL P c ops Q (⟨some d, op, ty, pos, aft, none⟩ :: rest) S K L O X := wl_run hd ho h
theorem ov_move {x : Operand} {v : Value} (hx : rd S x = some v) : OV P nn S Z ⟨some d, .move x, ty, pos, aft, none⟩ (v) :=
  (fun a w ha hm => by simp [execOp, ha.eval hx])
theorem ov_assign {x : Operand} {v : Value} (hx : rd S x = some v) : OV P nn S Z ⟨some d, .assign x, ty, pos, aft, none⟩ (v) :=
  (fun a w ha hm => by simp [execOp, ha.eval hx])
theorem ov_pick {x y z : Operand} {b b1 b2 : Bool} (hx : rd S x = some (.bool b)) (hy : rd S y = some (.bool b1)) (hz : rd S z = some (.bool b2)) : OV P nn S Z ⟨some d, .pick x y z, ty, pos, aft, none⟩ (.bool (bif b then b1 else b2)) :=
  (fun a w ha hm => by cases b <;> simp [execOp, ha.eval hx, ha.eval hy, ha.eval hz, asBool])
theorem ov_pick_t {x y z : Operand} {v : Value} (hx : rd S x = some (.bool true)) (hy : rd S y = some v) : OV P nn S Z ⟨some d, .pick x y z, ty, pos, aft, none⟩ (v) :=
  (fun a w ha hm => by simp [execOp, ha.eval hx, ha.eval hy, asBool])
theorem ov_pick_f {x y z : Operand} {v : Value} (hx : rd S x = some (.bool false)) (hz : rd S z = some v) : OV P nn S Z ⟨some d, .pick x y z, ty, pos, aft, none⟩ (v) :=
  (fun a w ha hm => by simp [execOp, ha.eval hx, ha.eval hz, asBool])
/-- A guard that is met; one that is not. -/
theorem wl_guard_on {o : Oper} {j : Nat} {b : Bool} {t : Nat} {op : Op} {dst : Option Nat} (ho : o = ⟨dst, op, ty, pos, aft, some (j, b)⟩) (hj : (ops[j]?).bind (·.dst) = some t) (hb : look S t = some (.bool b)) (h : WL P c ops Q (⟨dst, op, ty, pos, aft, none⟩ :: rest) S K L O X) : WL P c ops Q (o :: rest) S K L O X := by
  subst ho
  intro a w ha hm
  have h1 := h a w ha hm
  unfold wpList at h1 ⊢
  have hy : yielded ops a.tmps j = some b := by
    unfold yielded
    rw [hj]
    simp [ha.val t _ hb]
  rw [if_pos (by simp [Region.wanted, hy])]
  rw [if_pos (by simp [Region.wanted])] at h1
  exact h1
theorem wl_guard_off {o : Oper} {j : Nat} {b b' : Bool} {t : Nat} {op : Op} (ho : o = ⟨some d, op, ty, pos, aft, some (j, b)⟩) (hj : (ops[j]?).bind (·.dst) = some t) (hb : look S t = some (.bool b')) (hne : b' ≠ b) (hd : Nat.ble (d + 1) c.n = true) (h : WL P c ops Q rest ((d, undef) :: S) K L O X) : WL P c ops Q (o :: rest) S K L O X := by
  subst ho
  intro a w ha hm
  unfold wpList
  have hy : yielded ops a.tmps j = some b' := by
    unfold yielded
    rw [hj]
    simp [ha.val t _ hb]
  rw [if_neg (by simp [Region.wanted, hy, hne])]
  exact h _ _ (ha.put hd _) hm
theorem ov_un_not {x : Operand} {b : Bool} (hx : rd S x = some (.bool b)) {t : TypeId} : OV P nn S Z ⟨some d, .unOp .not t x, ty, pos, aft, none⟩ (.bool (!b)) :=
  (fun a w ha hm => by simp [execOp, ha.eval hx, Op.unary])
theorem ov_neg {x : Operand} {m : Int} (hx : rd S x = some (.int .i64 m)) (h0 : -9223372036854775807 ≤ m) (h1 : m ≤ 9223372036854775807) {t : TypeId} : OV P nn S Z ⟨some d, .unOp .neg t x, ty, pos, aft, none⟩ (.int .i64 (-m)) :=
  (fun a w ha hm => by
    have : IntKind.i64.wrap (-m) = -m := IntWalk.i64_in _ (by omega)
    simp [execOp, ha.eval hx, Op.unary, Op.intArith, this])
theorem ov_bin {op : BinOp} {t t' : TypeId} {x y : Operand} {vx vy v : Value} (hx : rd S x = some vx) (hy : rd S y = some vy) (hrun : ∀ w, (do eqGuard op t x y vx vy; binOp op t vx vy : Sem Value).run P w = .ok v w) : OV P nn S Z ⟨some d, .binOp op t x y t', ty, pos, aft, none⟩ (v) :=
  (fun a w ha hm => by
    have := hrun w
    simp only [execOp, ha.eval hx, ha.eval hy]
    rw [Sem.run_bind, this]
    rfl)
theorem ov_add {t t' : TypeId} {x y : Operand} {m n : Int} (hx : rd S x = some (.int .i64 m)) (hy : rd S y = some (.int .i64 n)) (h0 : -9223372036854775808 ≤ m + n) (h1 : m + n ≤ 9223372036854775807) : OV P nn S Z ⟨some d, .binOp .add t x y t', ty, pos, aft, none⟩ (.int .i64 (m + n)) :=
  ov_bin hx hy (fun w => by have : IntKind.i64.wrap (m + n) = m + n := IntWalk.i64_in _ (by omega)
                            simp [binOp_add, Op.intArith, this, go_sem])
theorem ov_sub {t t' : TypeId} {x y : Operand} {m n : Int} (hx : rd S x = some (.int .i64 m)) (hy : rd S y = some (.int .i64 n)) (h0 : -9223372036854775808 ≤ m - n) (h1 : m - n ≤ 9223372036854775807) : OV P nn S Z ⟨some d, .binOp .sub t x y t', ty, pos, aft, none⟩ (.int .i64 (m - n)) :=
  ov_bin hx hy (fun w => by have : IntKind.i64.wrap (m - n) = m - n := IntWalk.i64_in _ (by omega)
                            simp [binOp_sub, Op.intArith, this, go_sem])
theorem ov_mul {t t' : TypeId} {x y : Operand} {m n : Int} (hx : rd S x = some (.int .i64 m)) (hy : rd S y = some (.int .i64 n)) (h0 : -9223372036854775808 ≤ m * n) (h1 : m * n ≤ 9223372036854775807) : OV P nn S Z ⟨some d, .binOp .mul t x y t', ty, pos, aft, none⟩ (.int .i64 (m * n)) :=
  ov_bin hx hy (fun w => by have : IntKind.i64.wrap (m * n) = m * n := IntWalk.i64_in _ (by omega)
                            simp [binOp_mul, Op.intArith, this, go_sem])
theorem ov_lss {t t' : TypeId} {x y : Operand} {k : IntKind} {m n : Int} (hx : rd S x = some (.int k m)) (hy : rd S y = some (.int k n)) : OV P nn S Z ⟨some d, .binOp .lss t x y t', ty, pos, aft, none⟩ (.bool (decide (m < n))) :=
  ov_bin hx hy (fun w => by simp [go_sem])
theorem ov_leq {t t' : TypeId} {x y : Operand} {k : IntKind} {m n : Int} (hx : rd S x = some (.int k m)) (hy : rd S y = some (.int k n)) : OV P nn S Z ⟨some d, .binOp .leq t x y t', ty, pos, aft, none⟩ (.bool (decide (m ≤ n))) :=
  ov_bin hx hy (fun w => by simp [go_sem])
theorem ov_gtr {t t' : TypeId} {x y : Operand} {k : IntKind} {m n : Int} (hx : rd S x = some (.int k m)) (hy : rd S y = some (.int k n)) : OV P nn S Z ⟨some d, .binOp .gtr t x y t', ty, pos, aft, none⟩ (.bool (decide (n < m))) :=
  ov_bin hx hy (fun w => by simp [go_sem])
theorem ov_geq {t t' : TypeId} {x y : Operand} {k : IntKind} {m n : Int} (hx : rd S x = some (.int k m)) (hy : rd S y = some (.int k n)) : OV P nn S Z ⟨some d, .binOp .geq t x y t', ty, pos, aft, none⟩ (.bool (decide (n ≤ m))) :=
  ov_bin hx hy (fun w => by simp [go_sem])
theorem ov_eql {t t' : TypeId} {x y : Operand} {k : IntKind} {m n : Int} (hx : rd S x = some (.int k m)) (hy : rd S y = some (.int k n)) : OV P nn S Z ⟨some d, .binOp .eql t x y t', ty, pos, aft, none⟩ (.bool (decide (m = n))) :=
  ov_bin hx hy (fun w => by simp [go_sem]; rfl)
theorem ov_neq {t t' : TypeId} {x y : Operand} {k : IntKind} {m n : Int} (hx : rd S x = some (.int k m)) (hy : rd S y = some (.int k n)) : OV P nn S Z ⟨some d, .binOp .neq t x y t', ty, pos, aft, none⟩ (.bool (!decide (m = n))) :=
  ov_bin hx hy (fun w => by simp [go_sem]; rfl)
theorem ov_seql {t t' : TypeId} {x y : Operand} {m n : ByteArray} (hx : rd S x = some (.string m)) (hy : rd S y = some (.string n)) : OV P nn S Z ⟨some d, .binOp .eql t x y t', ty, pos, aft, none⟩ (.bool (m.toList == n.toList)) :=
  ov_bin hx hy (fun w => by simp [go_sem])
theorem ov_sneq {t t' : TypeId} {x y : Operand} {m n : ByteArray} (hx : rd S x = some (.string m)) (hy : rd S y = some (.string n)) : OV P nn S Z ⟨some d, .binOp .neq t x y t', ty, pos, aft, none⟩ (.bool (!(m.toList == n.toList))) :=
  ov_bin hx hy (fun w => by simp [go_sem])
theorem ov_sleq {t t' : TypeId} {x y : Operand} {m n : ByteArray} (hx : rd S x = some (.string m)) (hy : rd S y = some (.string n)) : OV P nn S Z ⟨some d, .binOp .leq t x y t', ty, pos, aft, none⟩ (.bool (Op.bytesLess m.toList n.toList || m.toList == n.toList)) :=
  ov_bin hx hy (fun w => by simp [go_sem])
theorem ov_extract {x : Operand} {i : Nat} {vs : List Value} {v : Value} (hx : rd S x = some (.tuple vs.toArray)) (hv : vs[i]? = some v) : OV P nn S Z ⟨some d, .extract x i, ty, pos, aft, none⟩ (v) :=
  (fun a w ha hm => by simp [execOp, ha.eval hx, Instr.extract, hv])
theorem run_field {t : TypeId} {i off g o : Nat} (hf : fieldOff P t i = some off) (w : World) : (Instr.fieldAt t (.pointer (some ⟨g, o, none⟩)) i).run P w = .ok (.pointer (some ⟨g, o + off, none⟩)) w := by
  unfold fieldOff at hf
  split at hf
  · rename_i fs hu
    split at hf
    · rename_i f hfi
      split at hf
      · rename_i inf hi
        split at hf
        · cases hf
        · rename_i hz
          simp only [Option.some.injEq] at hf
          subst hf
          have : (⟨g, o, none⟩ : Addr).add f.offset = ⟨g, o + f.offset, none⟩ := by
            unfold Addr.add
            split
            · rename_i e; rw [e]; rfl
            · rfl
          simp [Instr.fieldAt, run_underlying hu, hfi, Instr.sureAddr, fieldPlace, sizeOf, typeInfo, hi, hz, this]
      · cases hf
    · cases hf
  · cases hf
theorem ov_field {t : TypeId} {x : Operand} {i off g o o' : Nat} (hf : fieldOff P t i = some off) (hx : rd S x = some (.pointer (some ⟨g, o, none⟩))) (ho : o + off = o') : OV P nn S Z ⟨some d, .fieldAddr t x i, ty, pos, aft, none⟩ (.pointer (some ⟨g, o', none⟩)) :=
  (fun a w ha hm => by subst ho; simp only [execOp, ha.eval hx]; rw [Sem.run_bind, run_field hf]; rfl)
theorem add_addr (b off n : Nat) : (⟨b, off, none⟩ : Addr).add n = ⟨b, off + n, none⟩ := by
  unfold Addr.add
  split
  · rename_i h; subst h; rfl
  · rfl
theorem run_index {t e : TypeId} {sz b off n cap j : Nat} (he : elemSz P t = some (e, sz)) (hj : j < n) (w : World) : (Instr.indexAt t (.slice (some ⟨b, off, none⟩) n cap) (.int .i64 (j : Int))).run P w = .ok (.pointer (some ⟨b, off + j * sz, none⟩)) w := by
  unfold elemSz at he
  split at he
  · rename_i e' hu
    cases hi : P.info? e' with
    | none => simp [hi] at he
    | some inf =>
      simp only [hi, Option.map_some, Option.some.injEq, Prod.mk.injEq] at he
      obtain ⟨rfl, rfl⟩ := he
      have hlt : (0 : Int) ≤ (j : Int) ∧ (j : Int) < (n : Int) := ⟨by omega, by omega⟩
      simp [Instr.indexAt, run_underlying hu, asIntOf, sizeOf, typeInfo, hi, add_addr]
      omega
  · cases he
theorem ov_index {t e : TypeId} {x y : Operand} {sz b off n cap j : Nat} (he : elemSz P t = some (e, sz)) (hx : rd S x = some (.slice (some ⟨b, off, none⟩) n cap)) (hy : rd S y = some (.int .i64 (j : Int))) (hj : j < n) : OV P nn S Z ⟨some d, .indexAddr t x y, ty, pos, aft, none⟩ (.pointer (some ⟨b, off + j * sz, none⟩)) :=
  (fun a w ha hm => by simp only [execOp, ha.eval hx, ha.eval hy]; rw [Sem.run_bind, run_index he hj]; rfl)
theorem run_scalar {t : TypeId} (hs : scalarB P t = true) (w : World) : (isAgg t).run P w = .ok false w ∧ (sizeOf t).run P w = .ok 1 w := by
  unfold scalarB at hs
  cases hu : P.underlying t with
  | none => simp [hu] at hs
  | some dd =>
    cases hi : P.info? t with
    | none => cases dd <;> simp [hu, hi] at hs
    | some inf =>
      have h1 : inf.size = 1 := by cases dd <;> simp_all
      refine ⟨?_, by simp [sizeOf, typeInfo, hi, h1]⟩
      unfold isAgg
      rw [Sem.run_bind, run_underlying hu]
      cases dd <;> simp_all
theorem ov_load_at {t : TypeId} {x : Operand} {g o : Nat} {v : Value} (hs : scalarB P t = true) (hx : rd S x = some (.pointer (some ⟨g, o, none⟩))) (hc : ∀ w, Z w → w.cell? ⟨g, o, none⟩ = some v) : OV P nn S Z ⟨some d, .load t x, ty, pos, aft, none⟩ (v) :=
  (fun a w ha hm => by
    simp only [execOp, ha.eval hx, Instr.loadAt, Instr.sureAddr, loadVar]
    simp [(run_scalar hs w).1, hc w hm])
theorem ov_load {t : TypeId} {x : Operand} {g o : Nat} {v : Value} {T : TypeId} {cs : List Value} (hs : scalarB P t = true) (hx : rd S x = some (.pointer (some ⟨g, o, none⟩))) (hb : ∀ w, Z w → Blk w g T cs) (hv : cs[o]? = some v) : OV P nn S Z ⟨some d, .load t x, ty, pos, aft, none⟩ v :=
  ov_load_at hs hx (fun w hm => (hb w hm).cell_of hv)
theorem run_row {t : TypeId} {n : Nat} (hs : rowSz P t = some n) : ∃ dd, P.underlying t = some dd ∧ dd.isRow = true ∧ (P.info? t).map (·.size) = some n := by
  unfold rowSz at hs
  cases hu : P.underlying t with
  | none => simp [hu] at hs
  | some dd =>
    cases dd <;> simp [hu] at hs <;> exact ⟨_, rfl, rfl, by simpa using hs⟩
theorem ov_load_rows {t : TypeId} {x : Operand} {g o k : Nat} {vs : List Value} (hs : rowSz P t = some k) (hx : rd S x = some (.pointer (some ⟨g, o, none⟩))) (hc : ∀ w, Z w → w.rangeAt g o vs) (hn : vs.length = k) : OV P nn S Z ⟨some d, .load t x, ty, pos, aft, none⟩ (.agg vs.toArray) := by
  intro a w ha hm
  obtain ⟨dd, hu, hr, hi⟩ := run_row hs
  simp only [execOp, ha.eval hx]
  rw [Sem.run_bind, run_loadAt_mid w g o t vs dd (hc w hm) hu hr (by rw [hn]; exact hi)]
  rfl
theorem range_blk {w : World} {g : Nat} {T : TypeId} {cs vs : List Value} {o n : Nat} (hb : Blk w g T cs) (hv : (cs.drop o).take n = vs) : w.rangeAt g o vs := by
  intro j v hj
  rw [hb.cell]
  subst hv
  rw [List.getElem?_take] at hj
  split at hj
  · rwa [List.getElem?_drop] at hj
  · cases hj
/-- A struct or an array in a known block is loaded. -/
theorem ov_loads {t : TypeId} {x : Operand} {g o k : Nat} {vs : List Value} {T : TypeId} {cs : List Value} (hs : rowSz P t = some k) (hx : rd S x = some (.pointer (some ⟨g, o, none⟩))) (hb : ∀ w, Z w → Blk w g T cs) (hv : (cs.drop o).take k = vs) (hn : vs.length = k) : OV P nn S Z ⟨some d, .load t x, ty, pos, aft, none⟩ (.agg vs.toArray) :=
  ov_load_rows hs hx (fun w hm => range_blk (hb w hm) hv) hn
theorem slt_range {α : Type} {enc : α → List Value} {sz : Nat} {T : TypeId} {l : List α} {xx : α} {b off n j : Nat} {w : World} (hsl : SlT enc sz T w (some ⟨b, off, none⟩) n l) (hj : l[j]? = some xx) : w.rangeAt b (off + j * sz) (enc xx) := by
  have hlt := (List.getElem?_eq_some_iff.1 hj).1
  obtain ⟨_, _, he, _, hr⟩ := hsl.get (by have := hsl.len; omega)
  injection he with he
  injection he with e1 e2 _
  subst e1; subst e2
  exact hr j xx hj
/-- A struct out of a slice that reads as a list. -/
theorem ov_elem {α : Type} {enc : α → List Value} {sz : Nat} {T : TypeId} {l : List α} {xx : α} {t : TypeId} {x : Operand} {b off m j : Nat} {vs : List Value} (hs : rowSz P t = some sz) (hx : rd S x = some (.pointer (some ⟨b, off + j * sz, none⟩)))
    (hX : ∀ w, Z w → SlT enc sz T w (some ⟨b, off, none⟩) m l) (hj : l[j]? = some xx) (hv : enc xx = vs) (hn : vs.length = sz) : OV P nn S Z ⟨some d, .load t x, ty, pos, aft, none⟩ (.agg vs.toArray) :=
  ov_load_rows hs hx (fun w hm => hv ▸ slt_range (hX w hm) hj) hn
/-- A scalar out of an element of a slice that reads as a list. -/
theorem ov_elem1 {α : Type} {enc : α → List Value} {sz k : Nat} {T : TypeId} {l : List α} {xx : α} {t : TypeId} {x : Operand} {b off m j o : Nat} {v : Value} (hs : scalarB P t = true) (hx : rd S x = some (.pointer (some ⟨b, o, none⟩)))
    (hX : ∀ w, Z w → SlT enc sz T w (some ⟨b, off, none⟩) m l) (hj : l[j]? = some xx) (ho : off + j * sz + k = o) (hv : (enc xx)[k]? = some v) : OV P nn S Z ⟨some d, .load t x, ty, pos, aft, none⟩ v :=
  ov_load_at hs hx (fun w hm => by subst ho; exact slt_range (hX w hm) hj k v hv)
/-- A scalar is stored into a block of the list. -/
theorem wl_store {t : TypeId} {x y : Operand} {g o : Nat} {v : Value} (i : Nat) {T : TypeId} {cs : List Value} (hs : scalarB P t = true) (hx : rd S x = some (.pointer (some ⟨g, o, none⟩))) (hy : rd S y = some v) (h1 : v.oneCell' = true) (hL : L[i]? = some (g, T, cs)) (ho : Nat.ble (o + 1) cs.length = true)
    (hT : c.Tt.contains T = false) (h : WL P c ops Q rest S K (setBlk g (cs.set o v) L i) O X) : WL P c ops Q (⟨none, .store t x y, ty, pos, aft, none⟩ :: rest) S K L O X := by
  intro a w ha hm
  refine wpList_plain rfl fun K' hK => ?_
  have hb := hm.blk (List.mem_of_getElem? hL)
  have hlt : o < cs.length := Nat.le_of_ble_eq_true ho
  have hc : w.cell? ⟨g, o, none⟩ = some cs[o] := hb.cell_of (by simp [hlt])
  have hst : (store ⟨g, o, none⟩ v).run P w = .ok () (w.setCell ⟨g, o, none⟩ v) := by
    rw [run_store P w _ _ _ h1]
    simp [hc, hb.frozen]
  have hv1 : v.cells = #[v] := by cases v <;> simp_all [Value.cells, Value.oneCell']
  unfold Oper.wp
  have : (execOp a.eval ⟨none, .store t x y, ty, pos, aft, none⟩).run P w = .ok .skip (w.setCell ⟨g, o, none⟩ v) := by
    simp only [execOp, ha.eval hx, ha.eval hy, Instr.storeAt, Instr.sureAddr, storeVar, hv1]
    simp [(run_scalar hs w).2, storeCells, add_addr, hst]
  rw [this]
  exact hK _ _ (h _ _ ⟨ha.size, ha.val, ha.df⟩ (hm.store hL hT (grow_setCell (World.grownBy.refl _ _) (.inl rfl) _) (hb.set_ o v)))
/-- A struct or an array is stored into a block of the list. -/
theorem wl_stores {t : TypeId} {x y : Operand} {g o n : Nat} {vs : List Value} (i : Nat) {T : TypeId} {cs cs' : List Value} (hs : rowSz P t = some n) (hx : rd S x = some (.pointer (some ⟨g, o, none⟩))) (hy : rd S y = some (.agg vs.toArray)) (h1 : vs.all (·.oneCell') = true) (hn : vs.length = n) (hL : L[i]? = some (g, T, cs)) (ho : Nat.ble (o + n) cs.length = true)
    (hT : c.Tt.contains T = false) (hcs : splice cs o vs = cs') (h : WL P c ops Q rest S K (setBlk g cs' L i) O X) : WL P c ops Q (⟨none, .store t x y, ty, pos, aft, none⟩ :: rest) S K L O X := by
  intro a w ha hm
  have hb := hm.blk (List.mem_of_getElem? hL)
  obtain ⟨dd, hu, hr, hi⟩ := run_row hs
  subst hcs
  refine wpList_store_blk rfl t x y rfl g o T cs vs hb (ha.eval hx) (ha.eval hy) n hi hn (Nat.le_of_ble_eq_true ho) (by simpa using h1) fun w' hb' hg => ?_
  exact h _ _ ⟨ha.size, ha.val, ha.df⟩ (hm.store hL hT hg hb')
/-- A new block. -/
theorem wl_alloc {t : TypeId} {cs : List Value} (hz : zeroCs P t = some cs) (hd : Nat.ble (d + 1) c.n = true) (h : ∀ g, WL P c ops Q rest ((d, .pointer (some ⟨g, 0, none⟩)) :: S) K ((g, t, cs) :: L) O X) : WL P c ops Q (⟨some d, .alloc t, ty, pos, aft, none⟩ :: rest) S K L O X := by
  intro a w ha hm
  refine wpList_plain rfl fun K' hK => ?_
  unfold zeroCs at hz
  cases hi : P.info? t with
  | none => simp [hi] at hz
  | some inf =>
    cases hzz : inf.zero with
    | none => simp [hi, hzz] at hz
    | some z =>
      simp only [hi, hzz, Option.bind_some, Option.map_some, Option.some.injEq] at hz
      unfold Oper.wp
      have : (execOp a.eval ⟨some d, .alloc t, ty, pos, aft, none⟩).run P w = .ok (.value (.pointer (some ⟨w.heap.size, 0, none⟩))) (w.alloc (.cells cs.toArray t)) := by
        subst hz
        simp [execOp, Instr.alloc, zeroValue, typeInfo, hi, hzz, newVar, newRow]
      rw [this]
      exact hK _ _ (h _ _ _ (ha.put hd _) (hm.new t cs))
theorem wl_box {t : TypeId} {x : Operand} {v : Value} {cs : List Value} (hx : rd S x = some v) (hcs : v.cells = cs.toArray) (hd : Nat.ble (d + 1) c.n = true) (h : ∀ g, WL P c ops Q rest ((d, .pointer (some ⟨g, 0, none⟩)) :: S) K ((g, t, cs) :: L) O X) : WL P c ops Q (⟨some d, .box t x, ty, pos, aft, none⟩ :: rest) S K L O X := by
  intro a w ha hm
  refine wpList_plain rfl fun K' hK => ?_
  unfold Oper.wp
  have : (execOp a.eval ⟨some d, .box t x, ty, pos, aft, none⟩).run P w = .ok (.value (.pointer (some ⟨w.heap.size, 0, none⟩))) (w.alloc (.cells cs.toArray t)) := by
    simp [execOp, ha.eval hx, Instr.box, newVar, newRow, hcs]
  rw [this]
  exact hK _ _ (h _ _ _ (ha.put hd _) (hm.new t cs))
def evParts (S : List (Nat × Value)) : List (Nat × Operand) → Option (List (Nat × Value))
  | [] => some []
  | (i, x) :: r => match rd S x, evParts S r with
    | some v, some l => some ((i, v) :: l)
    | _, _ => none
theorem Has.parts {n : Nat} {a : Act} (ha : Has S n a) : ∀ {ps : List (Nat × Operand)} {l : List (Nat × Value)}, evParts S ps = some l → ps.map (fun x => (x.1, a.eval x.2)) = l
  | [], l, h => by simp [evParts] at h; simp [h]
  | (i, x) :: r, l, h => by
    simp only [evParts] at h
    split at h
    · rename_i v l' hv hl
      simp only [Option.some.injEq] at h
      subst h
      simp [ha.eval hv, Has.parts ha hl]
    · cases h
theorem ov_build {t : TypeId} {ps : List (Nat × Operand)} {l : List (Nat × Value)} {cs : List Value} (hp : evParts S ps = some l) (hb : P.built t l = some cs.toArray) : OV P nn S Z ⟨some d, .build t ps.toArray, ty, pos, aft, none⟩ (.agg cs.toArray) :=
  (fun a w ha hm => by
    have e : (ps.toArray.map fun (i, x) => (i, a.eval x)) = l.toArray := by rw [← ha.parts hp]; simp
    simp only [execOp, e]
    rw [Sem.run_bind, run_build (P := P) w t l.toArray cs.toArray (by simpa using hb)]
    rfl)
theorem wl_buildSlice {t e : TypeId} {len : Nat} {ps : List (Nat × Operand)} {l : List (Nat × Value)} {cs : List Value} (hp : evParts S ps = some l) (hb : builtRow P t len l = some (e, cs)) (hd : Nat.ble (d + 1) c.n = true)
    (h : ∀ g, WL P c ops Q rest ((d, .slice (some ⟨g, 0, none⟩) len len) :: S) K ((g, e, cs) :: L) O X) : WL P c ops Q (⟨some d, .buildSlice t len ps.toArray, ty, pos, aft, none⟩ :: rest) S K L O X := by
  intro a w ha hm
  refine wpList_plain rfl fun K' hK => ?_
  unfold Oper.wp
  have : (execOp a.eval ⟨some d, .buildSlice t len ps.toArray, ty, pos, aft, none⟩).run P w = .ok (.value (.slice (some ⟨w.heap.size, 0, none⟩) len len)) (w.alloc (.cells cs.toArray e)) := by
    have e1 : (ps.toArray.map fun (i, x) => (i, a.eval x)) = l.toArray := by rw [← ha.parts hp]; simp
    simp only [execOp, e1]
    unfold builtRow at hb
    cases hu : P.underlying t with
    | none => simp [hu] at hb
    | some dd =>
      cases dd <;> simp only [hu] at hb <;> try (simp at hb; done)
      rename_i e'
      cases hi : P.info? e' with
      | none => simp [hi] at hb
      | some inf =>
        cases hz : inf.zero with
        | none => simp [hi, hz] at hb
        | some z =>
          simp only [hi, hz] at hb
          split at hb
          · cases hb
          · rename_i hsz
            cases hf : Instr.fill (fun k => some (k * inf.size, inf.size)) ((Array.range (len * inf.size)).map (z.cells[· % z.cells.size]!)) l with
            | none => simp [hf] at hb
            | some cs2 =>
              simp only [hf, Option.map_some, Option.some.injEq, Prod.mk.injEq] at hb
              obtain ⟨rfl, rfl⟩ := hb
              have h1 : ¬ (len * inf.size > 2 ^ 24) := fun h => hsz (.inl h)
              have h2 : ¬ (len * inf.size = 0) := fun h => hsz (.inr h)
              simp [Instr.buildSlice, run_underlying hu, sizeOf, zeroValue, typeInfo, hi, hz, h1, h2, hf, newRow]
  rw [this]
  exact hK _ _ (h _ _ _ (ha.put hd _) (hm.new e cs))
end

end Go.Proofs.YtcggbojhalbkjaaGreatDoor
