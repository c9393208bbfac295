/- The steps of a walk over slots and blocks: slices between two bounds; min and max of four; a piece with a start of its own. -/
import Derived.Test.YtcggbojhalbkjaaGreatDoorSw
import Derived.Test.YtcggbojhalbkjaaGreatDoorSe
namespace Go.Proofs.YtcggbojhalbkjaaGreatDoor
open Go.RowKit

section
variable {P : Program} {nn : Nat} {S : List (Nat × Value)} {Z : World → Prop} {d : Nat} {ty : TypeId} {pos : String} {aft : Array Edge}
theorem ov_sliceLH {t e : TypeId} {sz : Nat} {x y z : Operand} {A : Option Addr} {n cap lo hi : Nat} {v u : Int} (he : elemSz P t = some (e, sz)) (hx : rd S x = some (.slice A n cap)) (hy : rd S y = some (.int .i64 v)) (hz : rd S z = some (.int .i64 u)) (hv : v = (lo : Int)) (hu : u = (hi : Int)) (hlo : lo ≤ hi) (hhi : hi ≤ cap) : OV P nn S Z ⟨some d, .slice t x (some y) (some z) none, ty, pos, aft, none⟩ (.slice (if cap = lo then A else A.map (·.add (lo * sz))) (hi - lo) (cap - lo)) := fun a w ha hm => by
  obtain ⟨hu', hs⟩ := elemSz_parts he
  subst hv; subst hu
  have h1 : (Instr.slice t (.slice A n cap) (some (.int .i64 (lo : Int))) (some (.int .i64 (hi : Int))) none).run P w = .ok (.slice (if cap = lo then A else A.map (·.add (lo * sz))) (hi - lo) (cap - lo)) w := by
    rw [run_slice_lh w t A n cap hu' .i64 .i64 lo hi (by omega) (by omega) (by omega)]
    simp [hs, sliced]
  simp [execOp, ha.eval hx, ha.eval hy, ha.eval hz, run_sliceAt_slice w t _ _ _ _ hu', h1]
theorem ov_sgtr {t t' : TypeId} {x y : Operand} {m n : ByteArray} (hx : rd S x = some (.string m)) (hy : rd S y = some (.string n)) : OV P nn S Z ⟨some d, .binOp .gtr t x y t', ty, pos, aft, none⟩ (.bool !(Op.bytesLess m.toList n.toList || m.toList == n.toList)) :=
  ov_bin hx hy (fun w => by simp [go_sem])
theorem ov_slss {t t' : TypeId} {x y : Operand} {m n : ByteArray} (hx : rd S x = some (.string m)) (hy : rd S y = some (.string n)) : OV P nn S Z ⟨some d, .binOp .lss t x y t', ty, pos, aft, none⟩ (.bool (Op.bytesLess m.toList n.toList)) :=
  ov_bin hx hy (fun w => by simp [go_sem])
theorem min2_int (k k' : IntKind) (x y : Int) : Builtin.min2 (.int k x) (.int k' y) = pure (.int k (min x y)) := by
  have e : (if y < x then y else x) = min x y := by split <;> omega
  simp only [Builtin.min2, e]
theorem max2_int (k k' : IntKind) (x y : Int) : Builtin.max2 (.int k x) (.int k' y) = pure (.int k (max x y)) := by
  have e : (if y > x then y else x) = max x y := by split <;> omega
  simp only [Builtin.max2, e]
theorem ov_min4 {ts : Array TypeId} {x y z u : Operand} {m n p q : Int} (hx : rd S x = some (.int .i64 m)) (hy : rd S y = some (.int .i64 n)) (hz : rd S z = some (.int .i64 p)) (hu : rd S u = some (.int .i64 q)) : OV P nn S Z ⟨some d, .call ⟨.builtin .min, #[x, y, z, u], ts⟩, ty, pos, aft, none⟩ (.int .i64 (min (min (min m n) p) q)) :=
  (fun a w ha hm => by
    simp [execOp, resolve, invoke, builtin, ha.eval hx, ha.eval hy, ha.eval hz, ha.eval hu, Builtin.min_, min2_int])
theorem ov_max4 {ts : Array TypeId} {x y z u : Operand} {m n p q : Int} (hx : rd S x = some (.int .i64 m)) (hy : rd S y = some (.int .i64 n)) (hz : rd S z = some (.int .i64 p)) (hu : rd S u = some (.int .i64 q)) : OV P nn S Z ⟨some d, .call ⟨.builtin .max, #[x, y, z, u], ts⟩, ty, pos, aft, none⟩ (.int .i64 (max (max (max m n) p) q)) :=
  (fun a w ha hm => by
    simp [execOp, resolve, invoke, builtin, ha.eval hx, ha.eval hy, ha.eval hz, ha.eval hu, Builtin.max_, max2_int])
end
/-- The elements between two places. -/
theorem SlT.between {α : Type} {enc : α → List Value} {k : Nat} {T : TypeId} {w : World} {A : Option Addr} {n c : Nat} {l : List α} (h : SlT enc k T w A n l) (lo hi : Nat) (hlo : lo ≤ hi) (hhi : hi ≤ n) (hc : n ≤ c) : SlT enc k T w (if c = lo then A else A.map (·.add (lo * k))) (hi - lo) ((l.drop lo).take (hi - lo)) := by
  have hd := h.dropS lo (by omega) hc
  refine ⟨by rw [List.length_take, hd.len]; omega, fun hn => ?_⟩
  obtain ⟨b, off, cells, fz, e, hh, hr⟩ := hd.at_ (by omega)
  refine ⟨b, off, cells, fz, e, hh, fun i x hx j v hv => hr i x ?_ j v hv⟩
  rw [List.getElem?_take] at hx
  split at hx
  · exact hx
  · cases hx
section
variable {P : Program} {c c' : Cx} {ops : Array Oper} {Q : Exit → Act → World → Prop} {S S' : List (Nat × Value)} {K K' : World → Prop} {L L' : List (Nat × TypeId × List Value)} {O O' : List Own} {X X' : List (World → Prop)}
/-- A piece of a walk with a start of its own: what was known at its start is known still. -/
theorem gw_nest {code : Code} (row : Option Nat) (Tt : List TypeId) (h : ∀ w0, Mem c K L O X w0 → ∃ K' L' O' X', Mem ⟨c.n, w0, row, Tt⟩ K' L' O' X' w0 ∧ Gw P ⟨c.n, w0, row, Tt⟩ Q code S K' L' O' X') : Gw P c Q code S K L O X := fun a w ha hm => by
  obtain ⟨K', L', O', X', hm', hg⟩ := h w hm
  exact hg a w ha hm'
theorem wl_nest {l : List Oper} (row : Option Nat) (Tt : List TypeId) (h : ∀ w0, Mem c K L O X w0 → ∃ K' L' O' X', Mem ⟨c.n, w0, row, Tt⟩ K' L' O' X' w0 ∧ WL P ⟨c.n, w0, row, Tt⟩ ops Q l S K' L' O' X') : WL P c ops Q l S K L O X := fun a w ha hm => by
  obtain ⟨K', L', O', X', hm', hg⟩ := h w hm
  exact hg a w ha hm'
theorem nx_unnest {e : Exit} (hn : c'.n = c.n) (hM : ∀ w, Mem c' K L O X w → Mem c K' L' O' X' w) (h : Nx c Q e S K' L' O' X') : Nx c' Q e S K L O X := fun a w ha hm => h a w (hn ▸ ha) (hM w hm)
theorem gw_unnest {code : Code} (hn : c'.n = c.n) (hM : ∀ w, Mem c' K L O X w → Mem c K' L' O' X' w) (h : Gw P c Q code S K' L' O' X') : Gw P c' Q code S K L O X := fun a w ha hm => h a w (hn ▸ ha) (hM w hm)
theorem wl_unnest {l : List Oper} (hn : c'.n = c.n) (hM : ∀ w, Mem c' K L O X w → Mem c K' L' O' X' w) (h : WL P c ops Q l S K' L' O' X') : WL P c' ops Q l S K L O X := fun a w ha hm => h a w (hn ▸ ha) (hM w hm)
end
/-- A row of the outer walk, as the one old block that may turn. -/
def RowK (base : Nat) (e : TypeId) (sz n cap g : Nat) (xs : List Value) (w : World) : Prop := w.ownsRow base e sz (.slice (some ⟨g, 0, none⟩) n cap) n xs
theorem RowK.lt {base : Nat} {e : TypeId} {sz n cap g : Nat} {xs : List Value} {w : World} (h : RowK base e sz n cap g xs w) : base ≤ g ∧ g < w.heap.size := (show w.ownsRow base e sz (.slice (some ⟨g, 0, none⟩) n cap) n xs from h).lt g rfl
theorem RowK.keeps {base : Nat} {e : TypeId} {sz n cap g : Nat} {xs : List Value} {N : Nat} (h : g < N) : Keeps N (RowK base e sz n cap g xs) :=
  ⟨fun _ _ hg hk => World.ownsRow.kept hk hg (.inr (fun e => by simp [Value.ownBlock] at e)), fun _ _ r hr hg hk => World.ownsRow.kept hk hg (.inr (fun e => by
    have e : g = r := by simpa [Value.ownBlock] using e
    omega))⟩
theorem nest_mem {c : Cx} {K : World → Prop} {L : List (Nat × TypeId × List Value)} {O : List Own} {X X' : List (World → Prop)} {w : World} (h : Mem c K L O X w) (i : Nat) {g n cap sz : Nat} {e : TypeId} {xs : List Value} (hO : O[i]? = some ⟨.slice (some ⟨g, 0, none⟩) n cap, e, sz, n, xs⟩) (Tt : List TypeId) (hx : ∀ A ∈ X', A w) (hl : ∀ A ∈ X', Lasts2 w.heap.size (some g) Tt A) : Mem ⟨c.n, w, some g, Tt⟩ (RowK c.w0.heap.size e sz n cap g xs) [] [] X' w := by
  have ho : RowK c.w0.heap.size e sz n cap g xs w := h.ownI i hO
  exact ⟨World.grownBy.refl _ _, ho, fun x hx => (by cases hx), List.Pairwise.nil, fun x hx => (by cases hx), fun x hx => (by cases hx), List.Pairwise.nil, hx, RowK.keeps ho.lt.2, hl, fun r hr => (by injection hr with hr; subst hr; exact ho.lt.2)⟩
section
variable {P : Program} {c : Cx} {ops : Array Oper} {Q : Exit → Act → World → Prop} {rest : List Oper} {S : List (Nat × Value)} {L : List (Nat × TypeId × List Value)} {O : List Own} {X : List (World → Prop)} {d : Nat} {ty : TypeId} {pos : String} {aft : Array Edge}
/-- A cell of an element of that row is loaded. -/
theorem RowK.get {α : Type} {enc : α → List Value} {base : Nat} {e : TypeId} {sz n cap g : Nat} {l : List α} {w : World} (h : RowK base e sz n cap g (l.flatMap enc) w) (hk : ∀ x, (enc x).length = sz) (hl : l.length = n) : SlT enc sz e w (some ⟨g, 0, none⟩) n l := SlT.ofOwn hk h hl
/-- A cell of an element of that row is written. -/
theorem wl_storeRow {α : Type} {enc : α → List Value} {t : TypeId} {x y : Operand} {base g n cap sz o j r : Nat} {e : TypeId} {v : Value} {l : List α} {el el' : α} (hrow : c.row = some g) (hs : scalarB P t = true) (hx : rd S x = some (.pointer (some ⟨g, o, none⟩))) (hy : rd S y = some v) (h1 : v.oneCell' = true)
    (hk : ∀ x, (enc x).length = sz) (ho : 0 + j * sz + r = o) (hj : l[j]? = some el) (hl : l.length = n) (hr : r < sz) (he : (enc el).set r v = enc el') (hT : c.Tt.contains e = false)
    (h : WL P c ops Q rest S (RowK base e sz n cap g ((l.set j el').flatMap enc)) L O X) : WL P c ops Q (⟨none, .store t x y, ty, pos, aft, none⟩ :: rest) S (RowK base e sz n cap g (l.flatMap enc)) L O X := by
  intro a w ha hm
  refine wpList_plain rfl fun K' hK => ?_
  have hown : w.ownsRow base e sz (.slice (some ⟨g, 0, none⟩) n cap) n (l.flatMap enc) := hm.k
  have hjl := (List.getElem?_eq_some_iff.1 hj).1
  have hlt : j * sz + r < n * sz := by
    have : (j + 1) * sz ≤ n * sz := Nat.mul_le_mul_right sz (by omega)
    rw [Nat.add_mul] at this
    omega
  have ho' : o = j * sz + r := by omega
  obtain ⟨u, hu⟩ : ∃ u, (l.flatMap enc)[o]? = some u := ⟨_, List.getElem?_eq_getElem (by rw [hown.1]; omega)⟩
  have hc : w.cell? ⟨g, o, none⟩ = some u := by rw [hown.cellAt o (by omega)]; exact hu
  have hst : (store ⟨g, o, none⟩ v).run P w = .ok () (w.setCell ⟨g, o, none⟩ v) := by
    rw [run_store P w _ _ _ h1]
    simp [hc, hown.frozenAt]
  have hv1 : v.cells = #[v] := by cases v <;> simp_all [Value.cells, Value.oneCell']
  unfold Oper.wp
  have : (execOp a.eval ⟨none, .store t x y, ty, pos, aft, none⟩).run P w = .ok .skip (w.setCell ⟨g, o, none⟩ v) := by
    simp only [execOp, ha.eval hx, ha.eval hy, Instr.storeAt, Instr.sureAddr, storeVar, hv1]
    simp [(run_scalar hs w).2, storeCells, add_addr, hst]
  rw [this]
  have hs2 := hown.stored o v
  rw [ho', flat_set1 enc sz hk hj he hr, ← ho'] at hs2
  refine hK _ _ (h _ _ ⟨ha.size, ha.val, ha.df⟩ ?_)
  have hg : w.grownBy (w.setCell ⟨g, o, none⟩ v) (some g) := hs2.2
  have hlt0 := hm.rs g hrow
  obtain ⟨cells, hcells⟩ : ∃ cells, w.heap[g]? = some (.cells cells e (0, 0)) := by
    rcases hown.2 with ⟨h1, _⟩ | ⟨g', cap', cur, h1, _, h2, _⟩
    · cases h1
    · injection h1 with h1 _ _
      injection h1 with h1
      injection h1 with h1 _ _
      subst h1
      exact ⟨_, h2⟩
  refine ⟨grow_trans hm.g (hrow ▸ hg), hs2.1, fun x hx => ⟨(hm.b x hx).1, (hm.b x hx).2.grown hg (fun e => ?_)⟩, hm.nd, fun r hr => (hm.o r hr).kept hg ?_, hm.od, hm.oo, fun A hA => ?_, RowK.keeps hlt0, hm.l, hm.rs⟩
  · have := (hm.b x hx).1; injection e with e; omega
  · cases hv : r.v.ownBlock with
    | none => exact .inl rfl
    | some g' => exact .inr (fun e => by have := ((hm.o r hr).lt g' hv).1; injection e with e; omega)
  · exact (hm.l A hA).st w _ g e cells hcells (fun e => by simp [e] at hT) (.inr hrow) hg (hm.x A hA)
end

/-- A row that a call has made that draws from the stream. -/
theorem Mem.newOwnS {c : Cx} {L : List (Nat × TypeId × List Value)} {O : List Own} {X : List (World → Prop)} {w w' : World} {TS : TypeId} {B sb m m' : Nat} (h : Mem c (fun w => Strm TS w B sb m) L O X w) (hrow : c.row = some sb) (hT : c.Tt.contains TS = false) (hS : Strm TS w' B sb m') (hg : w.grownBy w' (some sb)) {v : Value} {e : TypeId} {sz n : Nat} {xs : List Value} (hown : w'.ownsRow w.heap.size e sz v n xs) : Mem c (fun w => Strm TS w B sb m') L (⟨v, e, sz, n, xs⟩ :: O) X w' := by
  have h2 := h.strm hrow hT hS hg Lasts2.true_ trivial
  refine ⟨h2.g, h2.k, h2.b, h2.nd, fun r hr => ?_, fun r hr x hx => ?_, List.Pairwise.cons (fun x hx g hg' e' => ?_) h.oo, fun A hA => h2.x A (List.mem_cons_of_mem _ hA), h2.kk, h.l, h.rs⟩
  · rcases List.mem_cons.1 hr with rfl | hr
    · refine ⟨hown.1, ?_⟩
      rcases hown.2 with hn | ⟨g, cap, cur, h1, h3, h4⟩
      · exact .inl hn
      · exact .inr ⟨g, cap, cur, h1, Nat.le_trans h.g.size h3, h4⟩
    · exact h2.o r hr
  · rcases List.mem_cons.1 hr with rfl | hr
    · intro e'
      have h3 := (hown.lt _ e').1
      have h4 := (h.b x hx).2.lt
      omega
    · exact h.od r hr x hx
  · have h3 := (hown.lt _ hg').1
    have h4 := ((h.o x hx).lt _ e').2
    omega
section
variable {P : Program} {c : Cx} {ops : Array Oper} {Q : Exit → Act → World → Prop} {rest : List Oper} {S : List (Nat × Value)} {L : List (Nat × TypeId × List Value)} {O : List Own} {X : List (World → Prop)} {d : Nat} {ty : TypeId} {pos : String} {aft : Array Edge}
/-- A call that draws from the stream and makes a row of its own. -/
theorem wl_callgs {γ : Type} {TS : TypeId} {B sb m m' : Nat} {f : FuncId} {x : Operand} {ags : List Operand} {ats : Array TypeId} {vs fs cs : List Value} {val : γ → Value} {φ : γ → Prop} (r : γ → Own) (hx : rd S x = some (.func (.func f) fs.toArray cs.toArray)) (hf : callableB P f = true) (ha : evArgs S ags = some vs) (hd : Nat.ble (d + 1) c.n = true) (hrow : c.row = some sb) (hT : c.Tt.contains TS = false)
    (hC : ∀ w, Mem c (fun w => Strm TS w B sb m) L O X w → Calls P f (fs ++ vs ++ cs).toArray w (fun e w' => ∃ g, e = .returned (val g) ∧ φ g ∧ Strm TS w' B sb m' ∧ w.grownBy w' (some sb) ∧ w'.ownsRow w.heap.size (r g).e (r g).sz (r g).v (r g).n (r g).xs)) (h : ∀ g, φ g → WL P c ops Q rest ((d, val g) :: S) (fun w => Strm TS w B sb m') L (r g :: O) X) :
    WL P c ops Q (⟨some d, .call ⟨.value x, ags.toArray, ats⟩, ty, pos, aft, none⟩ :: rest) S (fun w => Strm TS w B sb m) L O X :=
  wl_callG (γ := γ) (val := val) (φ := φ) (K' := fun _ w => Strm TS w B sb m') (L' := fun _ => L) (O' := fun g => r g :: O) (X' := fun _ => X) hx hf ha hd (fun w hm => (hC w hm).mono fun _ _ ⟨g, he, hφ, hS, hg, ho⟩ => ⟨g, he, hφ, hm.newOwnS hrow hT hS hg ho⟩) h
end

/-- The cells of a row of zero values. -/
theorem made_flat {α : Type} {enc : α → List Value} {x : α} {z : Array Value} {sz : Nat} (hx : enc x = z.toList) (hz : z.size = sz) (h0 : 0 < sz) : ∀ n : Nat, (madeCells z (n * sz)).toList = (List.replicate n x).flatMap enc
  | 0 => by simp [madeCells]
  | n + 1 => by
    have ih := made_flat hx hz h0 n
    have e : (madeCells z ((n + 1) * sz)).toList = (madeCells z (n * sz)).toList ++ z.toList := by
      simp only [madeCells, Array.toList_map, Array.toList_range]
      rw [Nat.add_mul, Nat.one_mul, List.range_add, List.map_append, List.map_map]
      congr 1
      apply List.ext_getElem
      · simp [hz]
      · intro j h1 h2
        have hj : j < z.size := by simpa using h2
        simp only [List.getElem_map, List.getElem_range, Function.comp]
        rw [hz, show (n * sz + j) % sz = j by rw [Nat.add_comm, Nat.add_mul_mod_self_right]; exact Nat.mod_eq_of_lt (by omega)]
        simp [hj]
    rw [e, ih, List.replicate_succ', List.flatMap_append]
    simp [hx]

section
variable {P : Program} {nn : Nat} {S : List (Nat × Value)} {Z : World → Prop} {d : Nat} {ty : TypeId} {pos : String} {aft : Array Edge}
/-- A struct within an element of a slice that reads as a list. -/
theorem ov_elemN {α : Type} {enc : α → List Value} {sz k q : Nat} {T : TypeId} {l : List α} {xx : α} {t : TypeId} {x : Operand} {b off m j o : Nat} {vs : List Value} (hs : rowSz P t = some q) (hx : rd S x = some (.pointer (some ⟨b, o, none⟩)))
    (hX : ∀ w, Z w → SlT enc sz T w (some ⟨b, off, none⟩) m l) (hj : l[j]? = some xx) (ho : off + j * sz + k = o) (hv : ((enc xx).drop k).take q = vs) (hn : vs.length = q) : OV P nn S Z ⟨some d, .load t x, ty, pos, aft, none⟩ (.agg vs.toArray) :=
  ov_load_rows hs hx (fun w hm => by
    intro i v hi
    subst ho
    subst hv
    rw [List.getElem?_take] at hi
    split at hi
    · rw [List.getElem?_drop] at hi
      have h := slt_range (hX w hm) hj (k + i) v hi
      rw [← Nat.add_assoc] at h
      exact h
    · cases hi) hn
end

def arrSz (P : Program) (t : TypeId) : Option (Nat × Nat) :=
  match P.underlying t with
  | some (.array n e) => (P.info? e).map (fun i => (n, i.size))
  | _ => none
section
variable {P : Program} {nn : Nat} {S : List (Nat × Value)} {Z : World → Prop} {d : Nat} {ty : TypeId} {pos : String} {aft : Array Edge}
/-- An element of an array behind a pointer. -/
theorem ov_indexP {t : TypeId} {x y : Operand} {g o n sz j o' : Nat} (ha' : arrSz P t = some (n, sz)) (hx : rd S x = some (.pointer (some ⟨g, o, none⟩))) (hy : rd S y = some (.int .i64 (j : Int))) (hj : j < n) (ho : o + j * sz = o') : OV P nn S Z ⟨some d, .indexAddr t x y, ty, pos, aft, none⟩ (.pointer (some ⟨g, o', none⟩)) := fun a w ha hm => by
  unfold arrSz at ha'
  split at ha'
  · rename_i n' e hu
    cases hi : P.info? e with
    | none => simp [hi] at ha'
    | some inf =>
      simp [hi] at ha'
      obtain ⟨rfl, rfl⟩ := ha'
      have hn : P.arrayLen t = n' := by simp [Program.arrayLen, hu]
      have he : P.elem t = e := by simp [Program.elem, hu]
      have h1 : (Instr.indexAt t (.pointer (some ⟨g, o, none⟩)) (.int .i64 (j : Int))).run P w = .ok (.pointer (some ⟨g, o', none⟩)) w := by
        rw [run_indexAt_array w t _ _ _ (by rw [hn, he]; exact hu), if_pos ⟨by omega, by rw [hn]; omega⟩]
        subst ho
        simp [sizeOf, typeInfo, he, hi, add_addr]
      simp [execOp, ha.eval hx, ha.eval hy, h1]
  · cases ha'
end

/-- The first elements of a slice. -/
theorem SlT.takeT {α : Type} {enc : α → List Value} {k : Nat} {T : TypeId} {w : World} {A : Option Addr} {n q : Nat} {l : List α} (h : SlT enc k T w A n l) (hq : q ≤ n) : SlT enc k T w A q (l.take q) := by
  refine ⟨by rw [List.length_take, h.len]; omega, fun hn => ?_⟩
  obtain ⟨b, off, cells, fz, e, hh, hr⟩ := h.at_ (by omega)
  refine ⟨b, off, cells, fz, e, hh, fun i x hx j v hv => hr i x ?_ j v hv⟩
  rw [List.getElem?_take] at hx
  split at hx
  · exact hx
  · cases hx

/-- The inner walk ends: what was known outside is known still, and the row as it stands now. -/
theorem back_mem {c : Cx} {K : World → Prop} {L : List (Nat × TypeId × List Value)} {X : List (World → Prop)} {w0 w : World} {g n cap sz : Nat} {e : TypeId} {xs xs' : List Value} (h0 : Mem c K L [⟨.slice (some ⟨g, 0, none⟩) n cap, e, sz, n, xs⟩] X w0) (hT : c.Tt.contains e = false) {nn : Nat} {Tt' : List TypeId} {L' : List (Nat × TypeId × List Value)} {O' : List Own} {X' : List (World → Prop)} (h : Mem ⟨nn, w0, some g, Tt'⟩ (RowK c.w0.heap.size e sz n cap g xs') L' O' X' w) {F : World → Prop} (hF : F w) (hl : Lasts2 c.w0.heap.size c.row c.Tt F) : Mem c K L [⟨.slice (some ⟨g, 0, none⟩) n cap, e, sz, n, xs'⟩] (F :: X) w := by
  have hk : RowK c.w0.heap.size e sz n cap g xs' w := h.k
  have hk0 : RowK c.w0.heap.size e sz n cap g xs w0 := h0.ownI 0 rfl
  have hg : w0.grownBy w (some g) := h.g
  obtain ⟨cells, hcells⟩ : ∃ cells, w0.heap[g]? = some (.cells cells e (0, 0)) := by
    rcases hk0.2 with ⟨h1, _⟩ | ⟨g', cap', cur, h1, _, h2, _⟩
    · cases h1
    · injection h1 with h1 _ _
      injection h1 with h1
      injection h1 with h1 _ _
      subst h1
      exact ⟨_, h2⟩
  have hne : ∀ x ∈ L, x.1 ≠ g := fun x hx e => h0.od _ (List.mem_singleton.2 rfl) x hx (by simp [Value.ownBlock, e])
  refine ⟨grow_own h0.g hg (fun k e => by cases e; exact hk.lt.1), h0.kk.st _ _ g hk.lt.1 hg h0.k, fun x hx => ⟨(h0.b x hx).1, (h0.b x hx).2.grown hg (fun e => hne x hx (Option.some.inj e))⟩, h0.nd, fun r hr => ?_, fun r hr x hx => ?_, List.pairwise_singleton _ _, fun A hA => ?_, h0.kk, fun A hA => ?_, h0.rs⟩
  · rw [List.mem_singleton.1 hr]; exact hk
  · rw [List.mem_singleton.1 hr]
    intro e
    exact hne x hx (by simpa [Value.ownBlock] using e.symm)
  · rcases List.mem_cons.1 hA with rfl | hA
    · exact hF
    · exact (h0.l A hA).st w0 w g e cells hcells (fun e => by simp [e] at hT) (.inl hk.lt.1) hg (h0.x A hA)
  · rcases List.mem_cons.1 hA with rfl | hA
    · exact hl
    · exact h0.l A hA
theorem Blk.oldRow {w : World} {g : Nat} {T : TypeId} {cs : List Value} (h : Blk w g T cs) {sb : Nat} {TS : TypeId} {ds : Array Value} (hs : w.heap[sb]? = some (.cells ds TS (0, 0))) (hT : T ≠ TS) : BlkOld w.heap.size (some sb) g T cs w := ⟨⟨h.lt, fun e => by
  have e : sb = g := Option.some.inj e
  subst e
  have h1 : w.heap[sb]? = some (.cells cs.toArray T (0, 0)) := h
  rw [hs] at h1
  injection h1 with h1
  injection h1 with _ h1 _
  exact hT h1.symm⟩, h⟩
theorem RowK.cells {base : Nat} {e : TypeId} {sz n cap g : Nat} {xs : List Value} {w : World} (h : RowK base e sz n cap g xs w) : ∃ cells, w.heap[g]? = some (.cells cells e (0, 0)) := by
  rcases h.2 with ⟨h1, _⟩ | ⟨g', cap', cur, h1, _, h2, _⟩
  · cases h1
  · injection h1 with h1 _ _
    injection h1 with h1
    injection h1 with h1 _ _
    subst h1
    exact ⟨_, h2⟩
theorem own_base {w : World} {a b : Nat} {e : TypeId} {sz n : Nat} {v : Value} {xs : List Value} (h : w.ownsRow b e sz v n xs) (hab : a ≤ b) : w.ownsRow a e sz v n xs := by
  refine ⟨h.1, ?_⟩
  rcases h.2 with hn | ⟨g, cap, cur, h1, h3, h4⟩
  · exact .inl hn
  · exact .inr ⟨g, cap, cur, h1, Nat.le_trans hab h3, h4⟩
/-- A row lasts while blocks of other types are written. -/
theorem own_lasts2 {N : Nat} {row : Option Nat} {Tt : List TypeId} {b : Nat} {e : TypeId} {sz n : Nat} {v : Value} {xs : List Value} (hT : Tt.contains e = true) : Lasts2 N row Tt (fun w => w.ownsRow b e sz v n xs) :=
  ⟨fun _ _ hg hk => hk.kept hg (by cases hv : v.ownBlock <;> simp), fun w w' r T c h1 h2 _ h4 hk => hk.kept h4 (by
    cases hv : v.ownBlock with
    | none => exact .inl rfl
    | some g =>
      refine .inr fun er => ?_
      have er : g = r := Option.some.inj er
      subst er
      rcases hk.2 with ⟨h5, _⟩ | ⟨g', cap', cur, h5, _, h6, _⟩
      · rw [h5] at hv; cases hv
      · rw [h5] at hv
        have e2 : g' = g := by simpa [Value.ownBlock] using hv
        subst e2
        rw [h1] at h6
        injection h6 with h6
        injection h6 with _ h6 _
        exact h2 (by rw [h6]; simpa using hT))⟩
theorem Blk.lasts2 {N : Nat} {row : Option Nat} {Tt : List TypeId} {g : Nat} {T : TypeId} {cs : List Value} (hT : Tt.contains T = true) : Lasts2 N row Tt (fun w => Blk w g T cs) :=
  ⟨fun _ _ hg h => h.grown hg (by simp), fun w w' r U c h1 h2 _ h4 h => h.grown h4 (fun e => by
    have e : g = r := Option.some.inj e
    subst e
    have h5 : w.heap[g]? = some (.cells cs.toArray T (0, 0)) := h
    rw [h1] at h5
    injection h5 with h5
    injection h5 with _ h5 _
    exact h2 (by rw [h5]; simpa using hT))⟩

end Go.Proofs.YtcggbojhalbkjaaGreatDoor
