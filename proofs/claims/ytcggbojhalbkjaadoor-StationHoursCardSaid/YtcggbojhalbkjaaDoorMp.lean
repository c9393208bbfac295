/- Maps in a walk: a map that is known whole is a fact that lasts. -/
import Derived.Test.YtcggbojhalbkjaaDoorSw
import Derived.Maps.Own
namespace Go.Proofs.YtcggbojhalbkjaaDoor
open Go.RowKit
open Go.ChangeMaps (setBlock)

/-- The map at block g holds es. -/
def MapAt (g : Nat) (es : Array MapEntry) (ck : Nat) (w : World) : Prop := w.heap[g]? = some (.map es ck)
theorem MapAt.lasts2 {N : Nat} {row : Option Nat} {Tt : List TypeId} {g : Nat} {es : Array MapEntry} {ck : Nat} : Lasts2 N row Tt (MapAt g es ck) :=
  ⟨fun w w' h hx => (h.block g (Array.getElem?_eq_some_iff.1 hx).1 (by simp)).trans hx,
   fun w w' r T c h1 _ _ h3 hx => (h3.block g (Array.getElem?_eq_some_iff.1 hx).1 (fun e => by
     have e2 : g = r := by injection e
     subst e2
     unfold MapAt at hx
     rw [h1] at hx; cases hx)).trans hx⟩
/-- The map at block g, one of the call's own. -/
def OwnMap (N g : Nat) (es : Array MapEntry) (ck : Nat) (w : World) : Prop := N ≤ g ∧ MapAt g es ck w
theorem OwnMap.lasts2 {N M : Nat} {row : Option Nat} {Tt : List TypeId} {g : Nat} {es : Array MapEntry} {ck : Nat} : Lasts2 N row Tt (OwnMap M g es ck) :=
  ⟨fun w w' h hx => ⟨hx.1, MapAt.lasts2.gr (N := N) (row := row) (Tt := Tt) w w' h hx.2⟩, fun w w' r T c h1 h2 h3 h4 hx => ⟨hx.1, MapAt.lasts2.st w w' r T c h1 h2 h3 h4 hx.2⟩⟩
def mapTy (P : Program) (t : TypeId) : Option (TypeId × TypeId) :=
  match P.underlying t with
  | some (.map k e) => some (k, e)
  | _ => none
theorem mapTy_u {P : Program} {t k e : TypeId} (h : mapTy P t = some (k, e)) : P.underlying t = some (.map k e) := by
  unfold mapTy at h
  cases hu : P.underlying t with
  | none => simp [hu] at h
  | some dd => cases dd <;> simp [hu] at h <;> simp [h]
def strTy (P : Program) (t : TypeId) : Bool :=
  match P.underlying t with
  | some .string => true
  | _ => false
theorem strTy_u {P : Program} {t : TypeId} (h : strTy P t = true) : P.underlying t = some .string := by
  unfold strTy at h
  cases hu : P.underlying t with
  | none => simp [hu] at h
  | some dd => cases dd <;> simp [hu] at h <;> rfl

theorem grow_set {w : World} {g : Nat} {es es' : Array MapEntry} {ck ck' : Nat} (hb : w.heap[g]? = some (.map es ck)) : w.grownBy (setBlock w g (.map es' ck')) (some g) :=
  ⟨rfl, rfl, rfl, by simp [setBlock], fun i _ hi => ChangeMaps.heap_setBlock_other hb _ (fun e => hi (by rw [e]))⟩
section
variable {P : Program} {c : Cx} {ops : Array Oper} {Q : Exit → Act → World → Prop} {rest : List Oper} {S : List (Nat × Value)} {K : World → Prop} {L : List (Nat × TypeId × List Value)} {O : List Own} {X X' : List (World → Prop)} {Z : World → Prop} {nn : Nat}
variable {d : Nat} {ty : TypeId} {pos : String} {aft : Array Edge}
theorem Mem.mapped {w : World} {g : Nat} {es es' : Array MapEntry} {ck ck' : Nat} (h : Mem c K L O X w) (hg : c.w0.heap.size ≤ g) (hb : w.heap[g]? = some (.map es ck)) (hX : ∀ A ∈ X', A (setBlock w g (.map es' ck')) ∧ Lasts2 c.w0.heap.size c.row c.Tt A) : Mem c K L O X' (setBlock w g (.map es' ck')) := by
  have hgr : w.grownBy (setBlock w g (.map es' ck')) (some g) := grow_set hb
  have hne : ∀ (k : Nat) (cs : Array Value) (T : TypeId) (fz : Nat × Nat), w.heap[k]? = some (.cells cs T fz) → k ≠ g := fun k cs T fz hk e => by
    subst e
    rw [hb] at hk; cases hk
  refine ⟨grow_own h.g hgr (fun k e => by cases e; exact hg), h.kk.st _ _ _ hg hgr h.k, fun x hx => ⟨(h.b x hx).1, (h.b x hx).2.grown hgr (fun e => hne _ _ _ _ (h.b x hx).2 (Option.some.inj e))⟩, h.nd, fun s hs => ?_, h.od, h.oo, fun A hA => (hX A hA).1, h.kk, fun A hA => (hX A hA).2, h.rs⟩
  refine (h.o s hs).kept hgr ?_
  cases hv : s.v.ownBlock with
  | none => exact .inl rfl
  | some k =>
    refine .inr (fun e => ?_)
    have e2 : k = g := by injection e
    rcases (h.o s hs).2 with ⟨hn, _⟩ | ⟨g', cap, cur, hn, _, hh, _⟩
    · rw [hn] at hv; cases hv
    · rw [hn] at hv
      have e3 : g' = k := by injection hv
      exact hne _ _ _ _ hh (e3.trans e2)
theorem wl_makeMap {t : TypeId} (hd : Nat.ble (d + 1) c.n = true) (h : ∀ g, WL P c ops Q rest ((d, .map (some g)) :: S) K L O (OwnMap c.w0.heap.size g #[] 0 :: X)) : WL P c ops Q (⟨some d, .makeMap t none, ty, pos, aft, none⟩ :: rest) S K L O X := by
  intro a w ha hm
  refine wpList_plain rfl fun K' hK => ?_
  unfold Oper.wp
  have : (execOp a.eval ⟨some d, .makeMap t none, ty, pos, aft, none⟩).run P w = .ok (.value (.map (some w.heap.size))) (w.alloc (.map #[] 0)) := by
    simp [execOp, Instr.makeMap]
  rw [this]
  exact hK _ _ (h _ _ _ (ha.put hd _) ((hm.grow (grow_alloc (World.grownBy.refl w none) _)).also OwnMap.lasts2 ⟨hm.g.size, (MapKept.heap_alloc w _).1⟩))
theorem check_str {k : TypeId} (hk : strTy P k = true) (b : Bool) (s : ByteArray) (w : World) : (Instr.checkKey b 10000 k (.string s)).run P w = .ok () w := by
  rw [show (10000 : Nat) = 9999 + 1 from rfl]
  unfold Instr.checkKey
  simp [run_underlying (strTy_u hk)]
theorem find_str {k : TypeId} (hk : strTy P k = true) {s : ByteArray} {es : List MapEntry} {r : Option (Nat × Value)} (hf : Instr.findNow .string (.string s) es 0 = some r) (w : World) : (Instr.findKey k (.string s) es).run P w = .ok r w := by
  simp [Instr.findKey, run_underlying (strTy_u hk), hf]
theorem ov_lookup {t k e : TypeId} {x y : Operand} {g : Nat} {es : Array MapEntry} {ck i : Nat} {s : ByteArray} {v : Value} (ht : mapTy P t = some (k, e)) (hk : strTy P k = true) (hx : rd S x = some (.map (some g))) (hy : rd S y = some (.string s)) (hm : ∀ w, Z w → MapAt g es ck w) (hf : Instr.findNow .string (.string s) es.toList 0 = some (some (i, v))) :
    OV P nn S Z ⟨some d, .lookup t x y false, ty, pos, aft, none⟩ v := fun a w ha hz => by
  have hb : w.heap[g]? = some (.map es ck) := hm w hz
  simp [execOp, ha.eval hx, ha.eval hy, Instr.lookup, run_underlying (mapTy_u ht), MapKept.run_getObj_map hb, check_str hk, find_str hk hf, Result.andThen]
theorem ov_lookup0 {t k e : TypeId} {x y : Operand} {g : Nat} {es : Array MapEntry} {ck : Nat} {s : ByteArray} {z : Value} (ht : mapTy P t = some (k, e)) (hk : strTy P k = true) (hzz : (P.info? e).bind (·.zero) = some z) (hx : rd S x = some (.map (some g))) (hy : rd S y = some (.string s)) (hm : ∀ w, Z w → MapAt g es ck w) (hf : Instr.findNow .string (.string s) es.toList 0 = some none) :
    OV P nn S Z ⟨some d, .lookup t x y false, ty, pos, aft, none⟩ z := fun a w ha hz => by
  have hb : w.heap[g]? = some (.map es ck) := hm w hz
  have hzero : (zeroValue e).run P w = .ok z w := by
    cases hi : P.info? e with
    | none => simp [hi] at hzz
    | some inf => simp [zeroValue, typeInfo, hi, (by simpa [hi] using hzz : inf.zero = some z)]
  simp [execOp, ha.eval hx, ha.eval hy, Instr.lookup, run_underlying (mapTy_u ht), MapKept.run_getObj_map hb, check_str hk, find_str hk hf, hzero, Result.andThen]
theorem wl_mapPush {t k e : TypeId} {x y z : Operand} {g : Nat} {es : Array MapEntry} {ck : Nat} {s : ByteArray} {v : Value} (i : Nat) (ht : mapTy P t = some (k, e)) (hk : strTy P k = true) (hx : rd S x = some (.map (some g))) (hy : rd S y = some (.string s)) (hz : rd S z = some v) (hi : X[i]? = some (OwnMap c.w0.heap.size g es ck)) (hf : Instr.findNow .string (.string s) es.toList 0 = some none)
    (hX : ∀ A ∈ X', (∀ w w', c.w0.heap.size ≤ g → w.grownBy w' (some g) → A w → A w') ∧ A ∈ X)
    (h : WL P c ops Q rest S K L O (OwnMap c.w0.heap.size g (es.push ⟨.string s, v, ck⟩) (ck + 1) :: X')) : WL P c ops Q (⟨none, .mapUpdate t x y z, ty, pos, aft, none⟩ :: rest) S K L O X := by
  intro a w ha hm
  refine wpList_plain rfl fun K' hK => ?_
  obtain ⟨hg, hb⟩ := hm.fact i hi
  have hb : w.heap[g]? = some (.map es ck) := hb
  unfold Oper.wp
  have : (execOp a.eval ⟨none, .mapUpdate t x y z, ty, pos, aft, none⟩).run P w = .ok .skip (setBlock w g (.map (es.push ⟨.string s, v, ck⟩) (ck + 1))) := by
    simp [execOp, ha.eval hx, ha.eval hy, ha.eval hz, Instr.mapUpdate, run_underlying (mapTy_u ht), MapKept.run_getObj_map hb, MapKept.run_setObj_map _ hb, check_str hk, find_str hk hf, Result.andThen, setBlock]
  rw [this]
  refine hK _ _ (h _ _ ha (hm.mapped hg hb fun A hA => ?_))
  rcases List.mem_cons.1 hA with rfl | hA
  · exact ⟨⟨hg, ChangeMaps.heap_setBlock_same hb _⟩, OwnMap.lasts2⟩
  · exact ⟨(hX A hA).1 _ _ hg (grow_set hb) (hm.x A (hX A hA).2), hm.l A (hX A hA).2⟩
end
theorem far_nil {N g : Nat} {X : List (World → Prop)} : ∀ A ∈ ([] : List (World → Prop)), (∀ w w', N ≤ g → w.grownBy w' (some g) → A w → A w') ∧ A ∈ X := fun _ h => by cases h
theorem far_cons {N g i : Nat} {X X' : List (World → Prop)} {A0 : World → Prop} (h : ∀ w w', N ≤ g → w.grownBy w' (some g) → A0 w → A0 w') (hi : X[i]? = some A0) (hr : ∀ A ∈ X', (∀ w w', N ≤ g → w.grownBy w' (some g) → A w → A w') ∧ A ∈ X) : ∀ A ∈ A0 :: X', (∀ w w', N ≤ g → w.grownBy w' (some g) → A w → A w') ∧ A ∈ X := fun A hA => by
  rcases List.mem_cons.1 hA with rfl | hA
  · exact ⟨h, List.mem_of_getElem? hi⟩
  · exact hr A hA
theorem true_far {g N : Nat} : ∀ w w' : World, N ≤ g → w.grownBy w' (some g) → (fun _ : World => True) w → (fun _ : World => True) w' := fun _ _ _ _ _ => trivial
theorem BlkOld.far {N g b : Nat} {row : Option Nat} {T : TypeId} {cs : List Value} : ∀ w w' : World, N ≤ g → w.grownBy w' (some g) → BlkOld N row b T cs w → BlkOld N row b T cs w' := fun _ _ h1 h2 ⟨h3, h4⟩ => ⟨h3, h4.grown h2 (fun e => by
  have e2 : b = g := by injection e
  omega)⟩

end Go.Proofs.YtcggbojhalbkjaaDoor
