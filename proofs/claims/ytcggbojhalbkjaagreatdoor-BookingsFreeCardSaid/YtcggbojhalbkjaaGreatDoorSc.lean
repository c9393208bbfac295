/- The steps of a walk over slots and blocks: how a call begins and ends; calls; the builtins; cuts. -/
import Derived.Test.YtcggbojhalbkjaaGreatDoorSo
import Derived.Laws.Small
import Derived.Laws.ResultCell
import Derived.Laws.Rows
import Derived.OwnWalk
import Derived.LoopN
namespace Go.Proofs.YtcggbojhalbkjaaGreatDoor
open Go.RowKit

/-- A slice that came in. -/
def SlOld {α : Type} (enc : α → List Value) (k : Nat) (T : TypeId) (N : Nat) (row : Option Nat) (A : Option Addr) (n : Nat) (l : List α) (w : World) : Prop :=
  SlT enc k T w A n l ∧ ∀ b off, A = some ⟨b, off, none⟩ → 0 < n → b < N ∧ row ≠ some b
section
variable {α : Type} {enc : α → List Value} {k : Nat} {T : TypeId} {N : Nat} {row : Option Nat} {A : Option Addr} {n : Nat} {l : List α} {w : World}
theorem SlT.old (h : SlT enc k T w A n l) : SlOld enc k T w.heap.size none A n l w := ⟨h, fun b off e hn => by
  obtain ⟨b', off', e', hb, _⟩ := h.get hn
  rw [e] at e'
  injection e' with e'
  injection e' with e1 _ _
  subst e1
  exact ⟨hb, by simp⟩⟩
theorem SlT.oldRow (h : SlT enc k T w A n l) {sb : Nat} {TS : TypeId} {cs : Array Value} (hs : w.heap[sb]? = some (.cells cs TS (0, 0))) (hT : T ≠ TS) : SlOld enc k T w.heap.size (some sb) A n l w := ⟨h, fun b off e hn => by
  obtain ⟨b', off', cells, fz, e', hh, _⟩ := h.at_ hn
  rw [e] at e'
  injection e' with e'
  injection e' with e1 _ _
  subst e1
  refine ⟨lt_of_block hh, fun e2 => ?_⟩
  injection e2 with e2
  subst e2
  rw [hs] at hh
  injection hh with hh
  injection hh with _ h2 _
  exact hT h2.symm⟩
theorem SlOld.lasts {Tt : List TypeId} : Lasts2 N row Tt (SlOld enc k T N row A n l) :=
  ⟨fun _ _ h hx => ⟨hx.1.grow0 h, hx.2⟩, fun w w' r T' c _ _ h3 hg hx => ⟨by
    refine ⟨hx.1.len, fun hn => ?_⟩
    obtain ⟨b, off, cells, fz, e, hh, hc⟩ := hx.1.at_ hn
    have h4 := hx.2 b off e hn
    exact ⟨b, off, cells, fz, e, (hg.block b (lt_of_block hh) (fun e2 => by
      injection e2 with e2
      subst e2
      rcases h3 with h3 | h3
      · omega
      · exact h4.2 h3)).trans hh, hc⟩, hx.2⟩⟩
end

section
variable {P : Program} {c : Cx} {ops : Array Oper} {Q : Exit → Act → World → Prop} {rest : List Oper} {S : List (Nat × Value)} {K : World → Prop} {L : List (Nat × TypeId × List Value)} {O : List Own} {X : List (World → Prop)}
variable {nn : Nat} {Z : World → Prop} {d : Nat} {ty : TypeId} {pos : String} {aft : Array Edge}

/-- A call begins. -/
theorem gw_enter {f : FuncId} {fn : Func} {code : Code} {args : List Value} {w : World} {R : Ending → World → Prop} (c : Cx) (hf : P.funcs[f]? = some fn) (hb : fn.body = some code) (hn : fn.ntmps = c.n) (hsz : Nat.ble args.length c.n = true) (hm : Mem c K L O X w) (h : Gw P c (bodyPost P fn R) code (argSlots 0 args) K L O X) :
    Calls P f args.toArray w R := by
  have hle : args.length ≤ c.n := Nat.le_of_ble_eq_true hsz
  refine calls_of_wp hf hb (h _ w ⟨?_, fun t v ht => ?_, rfl⟩ hm)
  · simp [hn]; omega
  · have h1 := argSlots_look args 0 t v ht
    have h2 : args[t]? = some v := by simpa using h1.2
    have hlt := (List.getElem?_eq_some_iff.1 h2).1
    rw [Array.getElem?_append_left (by simpa using hlt)]
    simpa using h2
theorem mem0 {n : Nat} {Tt : List TypeId} {w : World} (hX : ∀ A ∈ X, A w) (hl : ∀ A ∈ X, Lasts2 w.heap.size none Tt A) : Mem ⟨n, w, none, Tt⟩ (fun _ => True) [] [] X w :=
  ⟨World.grownBy.refl _ _, trivial, (fun _ hx => by cases hx), List.Pairwise.nil, (fun _ hx => by cases hx), (fun _ hx => by cases hx), List.Pairwise.nil, hX, Keeps.true_, hl, (fun _ hr => by cases hr)⟩
theorem memS {n : Nat} {Tt : List TypeId} {w : World} {TS : TypeId} {B sb m : Nat} (hS : Strm TS w B sb m) (hX : ∀ A ∈ X, A w) (hl : ∀ A ∈ X, Lasts2 w.heap.size (some sb) Tt A) : Mem ⟨n, w, some sb, Tt⟩ (fun w => Strm TS w B sb m) [] [] X w :=
  ⟨World.grownBy.refl _ _, hS, (fun _ hx => by cases hx), List.Pairwise.nil, (fun _ hx => by cases hx), (fun _ hx => by cases hx), List.Pairwise.nil, hX, Keeps.strm hS.lt, hl, (fun _ hr => by cases hr; exact hS.lt)⟩

/-! The end. -/
section
variable {fn : Func} {R : Ending → World → Prop}
theorem nx_ret0 (hr : fn.results = #[]) (h : ∀ w, Mem c K L O X w → R (.returned (.tuple #[])) w) : Nx c (bodyPost P fn R) .normal S K L O X := fun _ w ha hm => bodyPost_end (results_none hr _ _ _) ha.df (h w hm)
theorem nx_ret0' (hr : fn.results = #[]) (h : ∀ w, Mem c K L O X w → R (.returned (.tuple #[])) w) : Nx c (bodyPost P fn R) .ret S K L O X := fun _ w ha hm => bodyPost_ret (results_none hr _ _ _) ha.df (h w hm)
theorem nx_ret1 {t : Nat} {v : Value} (hr : fn.results = #[.tmp t]) (hv : look S t = some v) (h : ∀ w, Mem c K L O X w → R (.returned v) w) : Nx c (bodyPost P fn R) .ret S K L O X := fun a w ha hm =>
  bodyPost_ret (by rw [results_tmp hr]; simp [Array.getD_eq_getD_getElem?, ha.val t v hv]) ha.df (h w hm)
theorem nx_ret2 {t u : Nat} {v v' : Value} (hr : fn.results = #[.tmp t, .tmp u]) (hv : look S t = some v) (hv' : look S u = some v') (h : ∀ w, Mem c K L O X w → R (.returned (.tuple #[v, v'])) w) : Nx c (bodyPost P fn R) .ret S K L O X := fun a w ha hm =>
  bodyPost_ret (by rw [results_tmp2 hr]; simp [Array.getD_eq_getD_getElem?, ha.val t v hv, ha.val u v' hv']) ha.df (h w hm)
theorem nx_ret3 {t u r : Nat} {v v' v'' : Value} (hr : fn.results = #[.tmp t, .tmp u, .tmp r]) (hv : look S t = some v) (hv' : look S u = some v') (hv'' : look S r = some v'') (h : ∀ w, Mem c K L O X w → R (.returned (.tuple #[v, v', v''])) w) : Nx c (bodyPost P fn R) .ret S K L O X := fun a w ha hm =>
  bodyPost_ret (by rw [results_tmp3 hr]; simp [Array.getD_eq_getD_getElem?, ha.val t v hv, ha.val u v' hv', ha.val r v'' hv'']) ha.df (h w hm)
theorem nx_retc {p : Nat} {t T : TypeId} {g n : Nat} {cs : List Value} (i : Nat) (hr : fn.results = #[.cell p t]) (hs : rowSz P t = some n) (hp : look S p = some (.pointer (some ⟨g, 0, none⟩))) (hL : L[i]? = some (g, T, cs)) (hn : cs.length = n) (h : ∀ w, Mem c K L O X w → R (.returned (.agg cs.toArray)) w) : Nx c (bodyPost P fn R) .ret S K L O X := fun a w ha hm => by
  obtain ⟨dd, hu, hd, hi⟩ := run_row hs
  exact ret_blk hr g T cs dd (hm.blk (List.mem_of_getElem? hL)) (by simp [Array.getD_eq_getD_getElem?, ha.val p _ hp]) hu hd n hi hn ha.df (h w hm)
theorem nx_retct {p u : Nat} {t T : TypeId} {g n : Nat} {cs : List Value} {v : Value} (i : Nat) (hr : fn.results = #[.cell p t, .tmp u]) (hs : rowSz P t = some n) (hp : look S p = some (.pointer (some ⟨g, 0, none⟩))) (hv : look S u = some v) (hL : L[i]? = some (g, T, cs)) (hn : cs.length = n)
    (h : ∀ w, Mem c K L O X w → R (.returned (.tuple #[.agg cs.toArray, v])) w) : Nx c (bodyPost P fn R) .ret S K L O X := fun a w ha hm => by
  obtain ⟨dd, hu, hd, hi⟩ := run_row hs
  refine bodyPost_ret (?_ : (results fn a.tmps).run P w = .ok (.tuple #[.agg cs.toArray, v]) w) ha.df (h w hm)
  have hl := run_loadVar_row (P := P) w g T t cs.toArray (0, 0) dd (hm.blk (List.mem_of_getElem? hL)) hu (by cases dd <;> simp_all [TypeDesc.isRow]) (by simpa [hn] using hi)
  rw [results_cell_tmp hr]
  simp [Array.getD_eq_getD_getElem?, ha.val p _ hp, ha.val u _ hv, asAddr, hl]
end

/-! Calls. -/
def evArgs (S : List (Nat × Value)) : List Operand → Option (List Value)
  | [] => some []
  | x :: r => match rd S x, evArgs S r with
    | some v, some l => some (v :: l)
    | _, _ => none
theorem Has.args {n : Nat} {a : Act} (ha : Has S n a) : ∀ {ps : List Operand} {l : List Value}, evArgs S ps = some l → ps.map a.eval = l
  | [], l, h => by simp [evArgs] at h; simp [h]
  | x :: r, l, h => by
    simp only [evArgs] at h
    split at h
    · rename_i v l' hv hl
      simp only [Option.some.injEq] at h
      subst h
      simp [ha.eval hv, Has.args ha hl]
    · cases h
theorem run_callable {f : FuncId} (hf : callableB P f = true) (args : Array Value) (w : World) : (callFunc f args).run P w = .ok (.enter f args) w := by
  unfold callableB at hf
  cases h : P.funcs[f]? with
  | none => simp [h] at hf
  | some fn =>
    simp only [h, Bool.and_eq_true, Bool.not_eq_true'] at hf
    obtain ⟨h1, h2⟩ := hf
    have h3 : fn.body.isNone = false := by cases hb : fn.body <;> simp_all
    unfold callFunc
    rw [Sem.run_bind]
    simp only [run_program, Result.andThen_ok, h, h1, h3, Bool.false_eq_true, if_false]
    rfl
theorem wl_callG {γ : Type} {f : FuncId} {x : Operand} {ags : List Operand} {ats : Array TypeId} {vs fs cs : List Value} {val : γ → Value} {φ : γ → Prop} {K' : γ → World → Prop} {L' : γ → List (Nat × TypeId × List Value)} {O' : γ → List Own} {X' : γ → List (World → Prop)} (hx : rd S x = some (.func (.func f) fs.toArray cs.toArray)) (hf : callableB P f = true) (ha : evArgs S ags = some vs) (hd : Nat.ble (d + 1) c.n = true)
    (hC : ∀ w, Mem c K L O X w → Calls P f (fs ++ vs ++ cs).toArray w (fun e w' => ∃ g, e = .returned (val g) ∧ φ g ∧ Mem c (K' g) (L' g) (O' g) (X' g) w')) (h : ∀ g, φ g → WL P c ops Q rest ((d, val g) :: S) (K' g) (L' g) (O' g) (X' g)) :
    WL P c ops Q (⟨some d, .call ⟨.value x, ags.toArray, ats⟩, ty, pos, aft, none⟩ :: rest) S K L O X := by
  intro a w hh hm
  refine wpList_plain rfl fun K'' hK => ?_
  unfold Oper.wp
  have : (execOp a.eval ⟨some d, .call ⟨.value x, ags.toArray, ats⟩, ty, pos, aft, none⟩).run P w = .ok (.enter f (fs ++ vs ++ cs).toArray) w := by
    have e : ags.toArray.map a.eval = vs.toArray := by rw [← hh.args ha]; simp
    simp only [execOp, resolve, hh.eval hx, e, Deferred.ofValue, Sem.run_bind, Sem.run_pure, Result.andThen_ok, invoke]
    rw [run_callable hf]
    simp
  rw [this]
  refine (hC w hm).mono ?_
  rintro e w' ⟨g, rfl, hφ, hm'⟩
  exact hK _ _ (h g hφ _ _ (hh.put hd _) hm')
/-- A call whose result is known, and that turns nothing old. -/
theorem wl_callv {f : FuncId} {x : Operand} {ags : List Operand} {ats : Array TypeId} {vs fs cs : List Value} {v : Value} (hx : rd S x = some (.func (.func f) fs.toArray cs.toArray)) (hf : callableB P f = true) (ha : evArgs S ags = some vs) (hd : Nat.ble (d + 1) c.n = true)
    (hC : ∀ w, Mem c K L O X w → Calls P f (fs ++ vs ++ cs).toArray w (fun e w' => e = .returned v ∧ w.grownBy w' none)) (h : WL P c ops Q rest ((d, v) :: S) K L O X) :
    WL P c ops Q (⟨some d, .call ⟨.value x, ags.toArray, ats⟩, ty, pos, aft, none⟩ :: rest) S K L O X :=
  wl_callG (γ := Unit) (val := fun _ => v) (φ := fun _ => True) (K' := fun _ => K) (L' := fun _ => L) (O' := fun _ => O) (X' := fun _ => X) hx hf ha hd (fun w hm => (hC w hm).mono fun _ _ ⟨he, hg⟩ => ⟨(), he, trivial, hm.grow hg⟩) (fun _ _ => h)
/-- A call that leaves the world as it was. -/
theorem wl_callw {f : FuncId} {x : Operand} {ags : List Operand} {ats : Array TypeId} {vs fs cs : List Value} {v : Value} (hx : rd S x = some (.func (.func f) fs.toArray cs.toArray)) (hf : callableB P f = true) (ha : evArgs S ags = some vs) (hd : Nat.ble (d + 1) c.n = true)
    (hC : ∀ w, Mem c K L O X w → Calls P f (fs ++ vs ++ cs).toArray w (fun e w' => e = .returned v ∧ w = w')) (h : WL P c ops Q rest ((d, v) :: S) K L O X) :
    WL P c ops Q (⟨some d, .call ⟨.value x, ags.toArray, ats⟩, ty, pos, aft, none⟩ :: rest) S K L O X :=
  wl_callv hx hf ha hd (fun w hm => (hC w hm).mono fun _ _ ⟨he, hg⟩ => ⟨he, hg ▸ World.grownBy.refl _ _⟩) h
/-- A call that turns nothing old; of its result some facts are known, which last. -/
theorem wl_callx {γ : Type} {f : FuncId} {x : Operand} {ags : List Operand} {ats : Array TypeId} {vs fs cs : List Value} {val : γ → Value} {φ : γ → Prop} {Y : γ → World → Prop} (hx : rd S x = some (.func (.func f) fs.toArray cs.toArray)) (hf : callableB P f = true) (ha : evArgs S ags = some vs) (hd : Nat.ble (d + 1) c.n = true)
    (hC : ∀ w, Mem c K L O X w → Calls P f (fs ++ vs ++ cs).toArray w (fun e w' => ∃ g, e = .returned (val g) ∧ φ g ∧ w.grownBy w' none ∧ Y g w')) (hl : ∀ g, Lasts2 c.w0.heap.size c.row c.Tt (Y g)) (h : ∀ g, φ g → WL P c ops Q rest ((d, val g) :: S) K L O (Y g :: X)) :
    WL P c ops Q (⟨some d, .call ⟨.value x, ags.toArray, ats⟩, ty, pos, aft, none⟩ :: rest) S K L O X :=
  wl_callG (γ := γ) (val := val) (φ := φ) (K' := fun _ => K) (L' := fun _ => L) (O' := fun _ => O) (X' := fun g => Y g :: X) hx hf ha hd (fun w hm => (hC w hm).mono fun _ _ ⟨g, he, hφ, hg, hy⟩ => ⟨g, he, hφ, (hm.grow hg).also (hl g) hy⟩) h
/-- A call that draws from the stream. -/
theorem Mem.strm {TS : TypeId} {B sb m m' : Nat} {w w' : World} {Y : World → Prop} (h : Mem c (fun w => Strm TS w B sb m) L O X w) (hrow : c.row = some sb) (hT : c.Tt.contains TS = false) (hS : Strm TS w' B sb m') (hg : w.grownBy w' (some sb)) (hl : Lasts2 c.w0.heap.size c.row c.Tt Y) (hy : Y w') : Mem c (fun w => Strm TS w B sb m') L O (Y :: X) w' := by
  obtain ⟨A, n, cc, k, hh, _⟩ := h.k.pos
  have hlt := h.rs sb hrow
  refine ⟨grow_trans h.g (hrow ▸ hg), hS, fun x hx => ⟨(h.b x hx).1, (h.b x hx).2.grown hg (fun e => ?_)⟩, h.nd, fun r hr => (h.o r hr).kept hg ?_, h.od, h.oo, fun A hA => ?_, Keeps.strm hlt, fun A hA => ?_, h.rs⟩
  · have := (h.b x hx).1; injection e with e; omega
  · cases hv : r.v.ownBlock with
    | none => exact .inl rfl
    | some g => exact .inr (fun e => by have := ((h.o r hr).lt g hv).1; injection e with e; omega)
  · rcases List.mem_cons.1 hA with rfl | hA
    · exact hy
    · exact (h.l A hA).st w w' sb TS _ hh (fun e => by simp [e] at hT) (.inr hrow) hg (h.x A hA)
  · rcases List.mem_cons.1 hA with rfl | hA
    · exact hl
    · exact h.l A hA
theorem wl_calls {γ : Type} {TS : TypeId} {B sb m m' : Nat} {f : FuncId} {x : Operand} {ags : List Operand} {ats : Array TypeId} {vs fs cs : List Value} {val : γ → Value} {φ : γ → Prop} {Y : γ → World → Prop} (hx : rd S x = some (.func (.func f) fs.toArray cs.toArray)) (hf : callableB P f = true) (ha : evArgs S ags = some vs) (hd : Nat.ble (d + 1) c.n = true) (hrow : c.row = some sb) (hT : c.Tt.contains TS = false)
    (hC : ∀ w, Mem c (fun w => Strm TS w B sb m) L O X w → Calls P f (fs ++ vs ++ cs).toArray w (fun e w' => ∃ g, e = .returned (val g) ∧ φ g ∧ Strm TS w' B sb m' ∧ w.grownBy w' (some sb) ∧ Y g w')) (hl : ∀ g, Lasts2 c.w0.heap.size c.row c.Tt (Y g)) (h : ∀ g, φ g → WL P c ops Q rest ((d, val g) :: S) (fun w => Strm TS w B sb m') L O (Y g :: X)) :
    WL P c ops Q (⟨some d, .call ⟨.value x, ags.toArray, ats⟩, ty, pos, aft, none⟩ :: rest) S (fun w => Strm TS w B sb m) L O X :=
  wl_callG (γ := γ) (val := val) (φ := φ) (K' := fun _ w => Strm TS w B sb m') (L' := fun _ => L) (O' := fun _ => O) (X' := fun g => Y g :: X) hx hf ha hd (fun w hm => (hC w hm).mono fun _ _ ⟨g, he, hφ, hS, hg, hy⟩ => ⟨g, he, hφ, hm.strm hrow hT hS hg (hl g) hy⟩) h

/-! Builtins. -/
theorem ov_len {t e : TypeId} {sz : Nat} {x : Operand} {A : Option Addr} {n cap : Nat} (he : elemSz P t = some (e, sz)) (hx : rd S x = some (.slice A n cap)) : OV P nn S Z ⟨some d, .call ⟨.builtin .len, #[x], #[t]⟩, ty, pos, aft, none⟩ (.int .i64 (n : Int)) :=
  (fun a w ha hm => by
    have hu : ∃ e', P.underlying t = some (.slice e') := by
      unfold elemSz at he
      split at he
      · exact ⟨_, by assumption⟩
      · cases he
    obtain ⟨e', hu⟩ := hu
    simp [execOp, resolve, invoke, builtin, ha.eval hx, Builtin.len_, run_underlying hu, goInt])
theorem ov_lens {t : TypeId} {x : Operand} {s : ByteArray} (ht : P.underlying t = some .string) (hx : rd S x = some (.string s)) : OV P nn S Z ⟨some d, .call ⟨.builtin .len, #[x], #[t]⟩, ty, pos, aft, none⟩ (.int .i64 (s.size : Int)) :=
  (fun a w ha hm => by
    simp [execOp, resolve, invoke, builtin, ha.eval hx, Builtin.len_, run_underlying ht, goInt])
theorem ov_max {ts : Array TypeId} {x y : Operand} {m n : Int} (hx : rd S x = some (.int .i64 m)) (hy : rd S y = some (.int .i64 n)) : OV P nn S Z ⟨some d, .call ⟨.builtin .max, #[x, y], ts⟩, ty, pos, aft, none⟩ (.int .i64 (max m n)) :=
  (fun a w ha hm => by
    have e : (if n > m then n else m) = max m n := by split <;> omega
    simp only [execOp, resolve, invoke, builtin, List.map_toArray, List.map_cons, List.map_nil, ha.eval hx, ha.eval hy, Sem.run_bind, Sem.run_pure, Result.andThen_ok, run_max_int2, e])
theorem ov_min {ts : Array TypeId} {x y : Operand} {m n : Int} (hx : rd S x = some (.int .i64 m)) (hy : rd S y = some (.int .i64 n)) : OV P nn S Z ⟨some d, .call ⟨.builtin .min, #[x, y], ts⟩, ty, pos, aft, none⟩ (.int .i64 (min m n)) :=
  (fun a w ha hm => by
    have e : (if n < m then n else m) = min m n := by split <;> omega
    simp only [execOp, resolve, invoke, builtin, List.map_toArray, List.map_cons, List.map_nil, ha.eval hx, ha.eval hy, Sem.run_bind, Sem.run_pure, Result.andThen_ok, run_min_int2, e])
def appB (P : Program) (t : TypeId) : Option (TypeId × Nat × Nat) :=
  match P.underlying t with
  | some (.slice e) => match P.info? e with
    | some i => match i.zero with
      | some z => if z.cells.size = i.size ∧ 0 < i.size then some (e, i.size, i.bytes) else none
      | none => none
    | none => none
  | _ => none
/-- append onto a row of the call's own; what is appended lies in a block of the list. -/
theorem wl_append {t e : TypeId} {sz by_ : Nat} {x y : Operand} {g m n cap : Nat} {v : Value} {xs cs news : List Value} {T : TypeId} (i j : Nat) (ht : appB P t = some (e, sz, by_)) (hx : rd S x = some v) (hO : O[i]? = some ⟨v, e, sz, n, xs⟩) (hy : rd S y = some (.slice (some ⟨g, 0, none⟩) m cap)) (hL : L[j]? = some (g, T, cs)) (hnews : cs.take (m * sz) = news) (hln : news.length = m * sz)
    (h1 : news.all (·.oneCell') = true) (hb : (n + m) * by_ ≤ 140737488355328) (h63 : n + m ≤ maxLen) (hT : c.Tt.contains e = false) (hd : Nat.ble (d + 1) c.n = true)
    (h : ∀ v', (v' = .slice none 0 0 ↔ v = .slice none 0 0 ∧ m = 0) → WL P c ops Q rest ((d, v') :: S) K L (setOwn ⟨v', e, sz, n + m, xs ++ news⟩ O i) X) : WL P c ops Q (⟨some d, .call ⟨.builtin .append, #[x, y], #[t, t]⟩, ty, pos, aft, none⟩ :: rest) S K L O X := by
  intro a w ha hm
  unfold appB at ht
  split at ht
  · rename_i e' hu
    split at ht
    · rename_i inf hi
      split at ht
      · rename_i z hz
        split at ht
        · rename_i hzz
          simp only [Option.some.injEq, Prod.mk.injEq] at ht
          obtain ⟨rfl, rfl, rfl⟩ := ht
          have hown := hm.o _ (List.mem_of_getElem? hO)
          have hblk := hm.blk (List.mem_of_getElem? hL)
          refine wpList_append_own_at _ rfl x y t rfl c.w0.heap.size e' inf z inf.size inf.bytes hu hi hz rfl rfl hzz.1 hzz.2 v n xs (ha.eval hx) hown ⟨g, 0, none⟩ m cap news (ha.eval hy) hln (fun k u hk => ?_) (by simpa using h1) h63 hb hm.g.size fun v' w' h2 h3 h4 h5 => ?_
          · rw [add_addr, Nat.zero_add]
            refine hblk.cell_of ?_
            subst hnews
            rw [List.getElem?_take] at hk
            split at hk
            · exact hk
            · cases hk
          · exact h v' h4 _ _ (ha.put hd _) (hm.append hO hT h2 h3 h5)
        · cases ht
      · cases ht
    · cases ht
  · cases ht

/-! Cuts. -/
theorem gw_cut {γ : Type} {x y : Code} {I : γ → Prop} {S' : γ → List (Nat × Value)} {K' : γ → World → Prop} {L' : γ → List (Nat × TypeId × List Value)} {O' : γ → List Own} {X' : γ → List (World → Prop)}
    (h1 : Gw P c (Exit.then (fun a w => ∃ g, I g ∧ Has (S' g) c.n a ∧ Mem c (K' g) (L' g) (O' g) (X' g) w) Q) x S K L O X) (h2 : ∀ g, I g → Gw P c Q y (S' g) (K' g) (L' g) (O' g) (X' g)) : Gw P c Q (.seq x y) S K L O X := fun a w ha hm =>
  wp_seq (Code.wp_mono (fun e a' w' hq => by
    cases e with
    | normal => obtain ⟨g, hI, hs, hmm⟩ := hq; exact h2 g hI a' w' hs hmm
    | _ => exact hq) (h1 a w ha hm))
/-- The end of a piece that was cut. -/
theorem nx_meet {γ : Type} {I : γ → Prop} {S' : γ → List (Nat × Value)} {K' : γ → World → Prop} {L' : γ → List (Nat × TypeId × List Value)} {O' : γ → List Own} {X' : γ → List (World → Prop)} (g : γ) (hI : I g) (hs : Sub S (S' g)) (hM : ∀ w, Mem c K L O X w → Mem c (K' g) (L' g) (O' g) (X' g) w) :
    Nx c (Exit.then (fun a w => ∃ g, I g ∧ Has (S' g) c.n a ∧ Mem c (K' g) (L' g) (O' g) (X' g) w) Q) .normal S K L O X := fun _ w ha hm => ⟨g, hI, ha.sub hs.look, hM w hm⟩
/-- The end of a round. -/
theorem nx_round {γ : Type} {μ : γ → Nat} {k : Nat} {I : γ → Prop} {S' : γ → List (Nat × Value)} {K' : γ → World → Prop} {L' : γ → List (Nat × TypeId × List Value)} {O' : γ → List Own} {X' : γ → List (World → Prop)} (g : γ) (hI : I g) (hlt : μ g < k) (hs : Sub S (S' g)) (hM : ∀ w, Mem c K L O X w → Mem c (K' g) (L' g) (O' g) (X' g) w) :
    Nx c (Exit.then (fun a w => ∃ g', (I g' ∧ Has (S' g') c.n a ∧ Mem c (K' g') (L' g') (O' g') (X' g') w) ∧ μ g' < k) Q) .normal S K L O X := fun _ w ha hm => ⟨g, ⟨hI, ha.sub hs.look, hM w hm⟩, hlt⟩
theorem Mem.blkI {w : World} (h : Mem c K L O X w) (i : Nat) {g : Nat} {T : TypeId} {cs : List Value} (hi : L[i]? = some (g, T, cs)) : Blk w g T cs := h.blk (List.mem_of_getElem? hi)
theorem Mem.more {TS : TypeId} {B sb m m' : Nat} {w : World} (h : Mem c (fun w => Strm TS w B sb m) L O X w) (hrow : c.row = some sb) (hm : m ≤ m') : Mem c (fun w => Strm TS w B sb m') L O X w := ⟨h.g, h.k.more hm, h.b, h.nd, h.o, h.od, h.oo, h.x, Keeps.strm (h.rs sb hrow), h.l, h.rs⟩
/-- A call that draws from the stream, of whose result a fact is known. -/
theorem wl_got {γ : Type} {TS : TypeId} {B sb m m' : Nat} {f : FuncId} {x : Operand} {ags : List Operand} {ats : Array TypeId} {vs fs cs : List Value} {val : γ → Value} {φ : γ → Prop} (hx : rd S x = some (.func (.func f) fs.toArray cs.toArray)) (hf : callableB P f = true) (ha : evArgs S ags = some vs) (hd : Nat.ble (d + 1) c.n = true) (hrow : c.row = some sb) (hT : c.Tt.contains TS = false)
    (hC : ∀ w, Mem c (fun w => Strm TS w B sb m) L O X w → Calls P f (fs ++ vs ++ cs).toArray w (fun e w' => ∃ g, φ g ∧ e = .returned (val g) ∧ Strm TS w' B sb m' ∧ w.grownBy w' (some sb))) (h : ∀ g, φ g → WL P c ops Q rest ((d, val g) :: S) (fun w => Strm TS w B sb m') L O X) :
    WL P c ops Q (⟨some d, .call ⟨.value x, ags.toArray, ats⟩, ty, pos, aft, none⟩ :: rest) S (fun w => Strm TS w B sb m) L O X :=
  wl_callG (γ := γ) (val := val) (φ := φ) (K' := fun _ w => Strm TS w B sb m') (L' := fun _ => L) (O' := fun _ => O) (X' := fun _ => X) hx hf ha hd (fun w hm => (hC w hm).mono fun _ _ ⟨g, hφ, he, hS, hg⟩ => ⟨g, he, hφ, (by
    have h1 := hm.strm hrow hT hS hg (Y := fun _ => True) Lasts2.true_ trivial
    exact ⟨h1.g, h1.k, h1.b, h1.nd, h1.o, h1.od, h1.oo, fun A hA => h1.x A (List.mem_cons_of_mem _ hA), h1.kk, hm.l, h1.rs⟩)⟩) h
/-- What a slot holds is written otherwise. -/
theorem wl_set {l : List Oper} {v v' : Value} (t : Nat) (hv : look S t = some v) (e : v = v') (h : WL P c ops Q l ((t, v') :: S) K L O X) : WL P c ops Q l S K L O X := fun a w ha hm =>
  h a w ⟨ha.size, fun t' u hu => by
    rcases beq_look hu with ⟨rfl, rfl⟩ | ⟨_, hu⟩
    · exact e ▸ ha.val _ _ hv
    · exact ha.val t' u hu, ha.df⟩ hm
theorem gw_set {code : Code} {v v' : Value} (t : Nat) (hv : look S t = some v) (e : v = v') (h : Gw P c Q code ((t, v') :: S) K L O X) : Gw P c Q code S K L O X := fun a w ha hm =>
  h a w ⟨ha.size, fun t' u hu => by
    rcases beq_look hu with ⟨rfl, rfl⟩ | ⟨_, hu⟩
    · exact e ▸ ha.val _ _ hv
    · exact ha.val t' u hu, ha.df⟩ hm
theorem allF_nil {w : World} : ∀ A ∈ ([] : List (World → Prop)), A w := fun _ h => by cases h
theorem allF_cons {w : World} {A : World → Prop} {l : List (World → Prop)} (h : A w) (t : ∀ B ∈ l, B w) : ∀ B ∈ A :: l, B w := fun B hB => by
  rcases List.mem_cons.1 hB with rfl | hB
  · exact h
  · exact t B hB
theorem allL_nil {N : Nat} {row : Option Nat} {Tt : List TypeId} : ∀ A ∈ ([] : List (World → Prop)), Lasts2 N row Tt A := fun _ h => by cases h
theorem allL_cons {N : Nat} {row : Option Nat} {Tt : List TypeId} {A : World → Prop} {l : List (World → Prop)} (h : Lasts2 N row Tt A) (t : ∀ B ∈ l, Lasts2 N row Tt B) : ∀ B ∈ A :: l, Lasts2 N row Tt B := fun B hB => by
  rcases List.mem_cons.1 hB with rfl | hB
  · exact h
  · exact t B hB
theorem some_int {k : IntKind} {a b : Int} (h : a = b) : some (Value.int k a) = some (.int k b) := by rw [h]
theorem some_bool {a b : Bool} (h : a = b) : some (Value.bool a) = some (.bool b) := by rw [h]
/-- A loop of at most m rounds, each walked. -/
def Gr (P : Program) (c : Cx) (code : Code) (Q : Exit → Act → World → Prop) (m : Nat) (S : List (Nat × Value)) (K : World → Prop) (L : List (Nat × TypeId × List Value)) (O : List Own) (X : List (World → Prop)) : Prop :=
  ∀ a w, Has S c.n a → Mem c K L O X w → Code.rounds P code Q m a w
theorem gw_rounds {code : Code} (m : Nat) (h : Gr P c code Q m S K L O X) : Gw P c Q (.loop code) S K L O X := fun a w ha hm => wp_loop_rounds m (h a w ha hm)
theorem gr_next {code : Code} {m : Nat} (h : Gw P c (Exit.then (Code.rounds P code Q m) Q) code S K L O X) : Gr P c code Q (m + 1) S K L O X := fun a w ha hm => by rw [rounds_succ]; exact h a w ha hm
theorem nx_next {code : Code} {m : Nat} (h : Gr P c code Q m S K L O X) : Nx c (Exit.then (Code.rounds P code Q m) Q) .normal S K L O X := h
/-- A call that makes a row of its own. -/
theorem wl_callo {f : FuncId} {x : Operand} {ags : List Operand} {ats : Array TypeId} {vs fs cs : List Value} {e : TypeId} {sz n : Nat} {xs : List Value} (hx : rd S x = some (.func (.func f) fs.toArray cs.toArray)) (hf : callableB P f = true) (ha : evArgs S ags = some vs) (hd : Nat.ble (d + 1) c.n = true)
    (hC : ∀ w, Mem c K L O X w → Calls P f (fs ++ vs ++ cs).toArray w (fun e' w' => ∃ v, e' = .returned v ∧ w'.ownsRow w.heap.size e sz v n xs ∧ w.grownBy w' none)) (h : ∀ v, WL P c ops Q rest ((d, v) :: S) K L (⟨v, e, sz, n, xs⟩ :: O) X) :
    WL P c ops Q (⟨some d, .call ⟨.value x, ags.toArray, ats⟩, ty, pos, aft, none⟩ :: rest) S K L O X :=
  wl_callG (γ := Value) (val := fun v => v) (φ := fun _ => True) (K' := fun _ => K) (L' := fun _ => L) (O' := fun v => ⟨v, e, sz, n, xs⟩ :: O) (X' := fun _ => X) hx hf ha hd (fun w hm => (hC w hm).mono fun _ _ ⟨v, he, ho, hg⟩ => ⟨v, he, trivial, hm.newOwn hg ho⟩) (fun v _ => h v)
/-- nil becomes a row of the call's own. -/
theorem wl_nilOwn {l : List Oper} (e : TypeId) (sz : Nat) (h : WL P c ops Q l S K L (⟨.slice none 0 0, e, sz, 0, []⟩ :: O) X) : WL P c ops Q l S K L O X := fun a w ha hm => h a w ha (hm.nilOwn e sz)
theorem gw_nilOwn {code : Code} (e : TypeId) (sz : Nat) (h : Gw P c Q code S K L (⟨.slice none 0 0, e, sz, 0, []⟩ :: O) X) : Gw P c Q code S K L O X := fun a w ha hm => h a w ha (hm.nilOwn e sz)
theorem own_slT {α : Type} {enc : α → List Value} {k : Nat} {T : TypeId} {w : World} {base n : Nat} {v : Value} {l : List α} (hk : ∀ x, (enc x).length = k) (h : w.ownsRow base T k v n (l.flatMap enc)) (hn : l.length = n) : ∃ A c, v = .slice A n c ∧ SlT enc k T w A n l ∧ (n = 0 → A = none ∧ c = 0 ∨ 0 ≤ c) := by
  rcases h.2 with ⟨rfl, rfl⟩ | ⟨g, cap, cur, rfl, _⟩
  · exact ⟨none, 0, rfl, ⟨hn, fun h0 => absurd h0 (by omega)⟩, fun _ => .inl ⟨rfl, rfl⟩⟩
  · exact ⟨some ⟨g, 0, none⟩, cap, rfl, SlT.ofOwn hk h hn, fun _ => .inr (Nat.zero_le _)⟩
theorem Mem.ownI {w : World} (h : Mem c K L O X w) (i : Nat) {v : Value} {e : TypeId} {sz n : Nat} {xs : List Value} (hi : O[i]? = some ⟨v, e, sz, n, xs⟩) : w.ownsRow c.w0.heap.size e sz v n xs := h.o _ (List.mem_of_getElem? hi)
theorem own_slice {w : World} {base : Nat} {e : TypeId} {sz n : Nat} {v : Value} {xs : List Value} (h : w.ownsRow base e sz v n xs) : ∃ A cc, v = .slice A n cc := by
  rcases h.2 with ⟨rfl, rfl⟩ | ⟨g, cap, cur, rfl, _⟩
  · exact ⟨none, 0, rfl⟩
  · exact ⟨_, _, rfl⟩
end

end Go.Proofs.YtcggbojhalbkjaaGreatDoor
