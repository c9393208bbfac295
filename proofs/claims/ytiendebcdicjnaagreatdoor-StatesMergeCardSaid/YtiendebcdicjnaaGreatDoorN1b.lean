/- Several texts as one: Sz Ty Pv Tw Sv Aw Cl Bt Sl Sk Stc Hd Rt Ta Fw Fx Fz Gf Gb Gst Lop LopA LopB Win LopC Sq Fq Sn Ix -/
import Derived.Test.YtiendebcdicjnaaGreatDoorN1a
import Derived.Test.YtiendebcdicjnaaGreatDoorProg
import Derived.Laws.AppendOwnNone
import Derived.Laws.BitsLemmas
import Derived.Laws.Shifts
import Derived.Ground.NamesProg
import Derived.Shelf.Small.Bits
import Derived.Shelf.Small.Strs
import Derived.Deep.RegionHeld3
import Derived.Deep.LoopGhost
import Derived.StillTailTactics
set_option maxRecDepth 100000
set_option maxHeartbeats 4000000
namespace Go.Proofs.YtiendebcdicjnaaGreatDoor
open Go.RowKit
section
variable {P : Program} {nn : Nat} {S : List (Nat × Value)} {Z : World → Prop} {d : Nat} {ty : TypeId} {pos : String} {aft : Array Edge}
theorem ov_sgtr {t t' : TypeId} {x y : Operand} {m n : ByteArray} (hx : rd S x = some (.string m)) (hy : rd S y = some (.string n)) : OV P nn S Z ⟨some d, .binOp .gtr t x y t', ty, pos, aft, none⟩ (.bool !(Op.bytesLess m.toList n.toList || m.toList == n.toList)) :=
  ov_bin hx hy (fun w => by simp [go_sem])
theorem ov_slss {t t' : TypeId} {x y : Operand} {m n : ByteArray} (hx : rd S x = some (.string m)) (hy : rd S y = some (.string n)) : OV P nn S Z ⟨some d, .binOp .lss t x y t', ty, pos, aft, none⟩ (.bool (Op.bytesLess m.toList n.toList)) :=
  ov_bin hx hy (fun w => by simp [go_sem])
end
section
variable {P : Program} {c c' : Cx} {ops : Array Oper} {Q : Exit → Act → World → Prop} {S S' : List (Nat × Value)} {K K' : World → Prop} {L L' : List (Nat × TypeId × List Value)} {O O' : List Own} {X X' : List (World → Prop)}
theorem wl_nest {l : List Oper} (row : Option Nat) (Tt : List TypeId) (h : ∀ w0, Mem c K L O X w0 → ∃ K' L' O' X', Mem ⟨c.n, w0, row, Tt⟩ K' L' O' X' w0 ∧ WL P ⟨c.n, w0, row, Tt⟩ ops Q l S K' L' O' X') : WL P c ops Q l S K L O X := fun a w ha hm => by
  obtain ⟨K', L', O', X', hm', hg⟩ := h w hm
  exact hg a w ha hm'
end
/-- A row of the outer walk, as the one old block that may turn. -/
def RowK (base : Nat) (e : TypeId) (sz n cap g : Nat) (xs : List Value) (w : World) : Prop := w.ownsRow base e sz (.slice (some ⟨g, 0, none⟩) n cap) n xs
theorem RowK.lt {base : Nat} {e : TypeId} {sz n cap g : Nat} {xs : List Value} {w : World} (h : RowK base e sz n cap g xs w) : base ≤ g ∧ g < w.heap.size := (show w.ownsRow base e sz (.slice (some ⟨g, 0, none⟩) n cap) n xs from h).lt g rfl
theorem RowK.keeps {base : Nat} {e : TypeId} {sz n cap g : Nat} {xs : List Value} {N : Nat} (h : g < N) : Keeps N (RowK base e sz n cap g xs) :=
  ⟨fun _ _ hg hk => World.ownsRow.kept hk hg (.inr (fun e => by simp [Value.ownBlock] at e)), fun _ _ r hr hg hk => World.ownsRow.kept hk hg (.inr (fun e => by
    have e : g = r := by simpa [Value.ownBlock] using e
    omega))⟩
section
variable {P : Program} {c : Cx} {ops : Array Oper} {Q : Exit → Act → World → Prop} {rest : List Oper} {S : List (Nat × Value)} {L : List (Nat × TypeId × List Value)} {O : List Own} {X : List (World → Prop)} {d : Nat} {ty : TypeId} {pos : String} {aft : Array Edge}
/-- A cell of an element of that row is loaded. -/
theorem RowK.get {α : Type} {enc : α → List Value} {base : Nat} {e : TypeId} {sz n cap g : Nat} {l : List α} {w : World} (h : RowK base e sz n cap g (l.flatMap enc) w) (hk : ∀ x, (enc x).length = sz) (hl : l.length = n) : SlT enc sz e w (some ⟨g, 0, none⟩) n l := SlT.ofOwn hk h hl
end
/-- A row that a call has made that draws from the stream. -/
theorem Mem.newOwnS {c : Cx} {L : List (Nat × TypeId × List Value)} {O : List Own} {X : List (World → Prop)} {w w' : World} {TS : TypeId} {B sb m m' : Nat} (h : Mem c (fun w => Strm TS w B sb m) L O X w) (hrow : c.row = some sb) (hT : c.Tt.contains TS = false) (hS : Strm TS w' B sb m') (hg : w.grownBy w' (some sb)) {v : Value} {e : TypeId} {sz n : Nat} {xs : List Value} (hown : w'.ownsRow w.heap.size e sz v n xs) : Mem c (fun w => Strm TS w B sb m') L (⟨v, e, sz, n, xs⟩ :: O) X w' := by
  have h2 := h.strm hrow hT hS hg Lasts2.true_ trivial
  refine ⟨h2.g, h2.k, h2.b, h2.nd, fun r hr => ?_, fun r hr x hx => ?_, List.Pairwise.cons (fun x hx g hg' e' => ?_) h.oo, fun A hA => h2.x A (List.mem_cons_of_mem _ hA), h2.kk, h.l, h.rs⟩
  · rcases List.mem_cons.1 hr with rfl | hr
    · refine ⟨hown.1, ?_⟩
      rcases hown.2 with hn | ⟨g, cap, cur, h1, h3, h4⟩
      · exact .inl hn
      · exact .inr ⟨g, cap, cur, h1, Nat.le_trans h.g.size h3, h4⟩
    · exact h2.o r hr
  · rcases List.mem_cons.1 hr with rfl | hr
    · intro e'
      have h3 := (hown.lt _ e').1
      have h4 := (h.b x hx).2.lt
      omega
    · exact h.od r hr x hx
  · have h3 := (hown.lt _ hg').1
    have h4 := ((h.o x hx).lt _ e').2
    omega
section
variable {P : Program} {c : Cx} {ops : Array Oper} {Q : Exit → Act → World → Prop} {rest : List Oper} {S : List (Nat × Value)} {L : List (Nat × TypeId × List Value)} {O : List Own} {X : List (World → Prop)} {d : Nat} {ty : TypeId} {pos : String} {aft : Array Edge}
/-- A call that draws from the stream and makes a row of its own. -/
theorem wl_callgs {γ : Type} {TS : TypeId} {B sb m m' : Nat} {f : FuncId} {x : Operand} {ags : List Operand} {ats : Array TypeId} {vs fs cs : List Value} {val : γ → Value} {φ : γ → Prop} (r : γ → Own) (hx : rd S x = some (.func (.func f) fs.toArray cs.toArray)) (hf : callableB P f = true) (ha : evArgs S ags = some vs) (hd : Nat.ble (d + 1) c.n = true) (hrow : c.row = some sb) (hT : c.Tt.contains TS = false)
    (hC : ∀ w, Mem c (fun w => Strm TS w B sb m) L O X w → Calls P f (fs ++ vs ++ cs).toArray w (fun e w' => ∃ g, e = .returned (val g) ∧ φ g ∧ Strm TS w' B sb m' ∧ w.grownBy w' (some sb) ∧ w'.ownsRow w.heap.size (r g).e (r g).sz (r g).v (r g).n (r g).xs)) (h : ∀ g, φ g → WL P c ops Q rest ((d, val g) :: S) (fun w => Strm TS w B sb m') L (r g :: O) X) :
    WL P c ops Q (⟨some d, .call ⟨.value x, ags.toArray, ats⟩, ty, pos, aft, none⟩ :: rest) S (fun w => Strm TS w B sb m) L O X :=
  wl_callG (γ := γ) (val := val) (φ := φ) (K' := fun _ w => Strm TS w B sb m') (L' := fun _ => L) (O' := fun g => r g :: O) (X' := fun _ => X) hx hf ha hd (fun w hm => (hC w hm).mono fun _ _ ⟨g, he, hφ, hS, hg, ho⟩ => ⟨g, he, hφ, hm.newOwnS hrow hT hS hg ho⟩) h
end
def arrSz (P : Program) (t : TypeId) : Option (Nat × Nat) :=
  match P.underlying t with
  | some (.array n e) => (P.info? e).map (fun i => (n, i.size))
  | _ => none
section
variable {P : Program} {nn : Nat} {S : List (Nat × Value)} {Z : World → Prop} {d : Nat} {ty : TypeId} {pos : String} {aft : Array Edge}
/-- An element of an array behind a pointer. -/
theorem ov_indexP {t : TypeId} {x y : Operand} {g o n sz j o' : Nat} (ha' : arrSz P t = some (n, sz)) (hx : rd S x = some (.pointer (some ⟨g, o, none⟩))) (hy : rd S y = some (.int .i64 (j : Int))) (hj : j < n) (ho : o + j * sz = o') : OV P nn S Z ⟨some d, .indexAddr t x y, ty, pos, aft, none⟩ (.pointer (some ⟨g, o', none⟩)) := fun a w ha hm => by
  unfold arrSz at ha'
  split at ha'
  · rename_i n' e hu
    cases hi : P.info? e with
    | none => simp [hi] at ha'
    | some inf =>
      simp [hi] at ha'
      obtain ⟨rfl, rfl⟩ := ha'
      have hn : P.arrayLen t = n' := by simp [Program.arrayLen, hu]
      have he : P.elem t = e := by simp [Program.elem, hu]
      have h1 : (Instr.indexAt t (.pointer (some ⟨g, o, none⟩)) (.int .i64 (j : Int))).run P w = .ok (.pointer (some ⟨g, o', none⟩)) w := by
        rw [run_indexAt_array w t _ _ _ (by rw [hn, he]; exact hu), if_pos ⟨by omega, by rw [hn]; omega⟩]
        subst ho
        simp [sizeOf, typeInfo, he, hi, add_addr]
      simp [execOp, ha.eval hx, ha.eval hy, h1]
  · cases ha'
end
/-- The first elements of a slice. -/
theorem SlT.takeT {α : Type} {enc : α → List Value} {k : Nat} {T : TypeId} {w : World} {A : Option Addr} {n q : Nat} {l : List α} (h : SlT enc k T w A n l) (hq : q ≤ n) : SlT enc k T w A q (l.take q) := by
  refine ⟨by rw [List.length_take, h.len]; omega, fun hn => ?_⟩
  obtain ⟨b, off, cells, fz, e, hh, hr⟩ := h.at_ (by omega)
  refine ⟨b, off, cells, fz, e, hh, fun i x hx j v hv => hr i x ?_ j v hv⟩
  rw [List.getElem?_take] at hx
  split at hx
  · exact hx
  · cases hx
theorem Blk.oldRow {w : World} {g : Nat} {T : TypeId} {cs : List Value} (h : Blk w g T cs) {sb : Nat} {TS : TypeId} {ds : Array Value} (hs : w.heap[sb]? = some (.cells ds TS (0, 0))) (hT : T ≠ TS) : BlkOld w.heap.size (some sb) g T cs w := ⟨⟨h.lt, fun e => by
  have e : sb = g := Option.some.inj e
  subst e
  have h1 : w.heap[sb]? = some (.cells cs.toArray T (0, 0)) := h
  rw [hs] at h1
  injection h1 with h1
  injection h1 with _ h1 _
  exact hT h1.symm⟩, h⟩
theorem RowK.cells {base : Nat} {e : TypeId} {sz n cap g : Nat} {xs : List Value} {w : World} (h : RowK base e sz n cap g xs w) : ∃ cells, w.heap[g]? = some (.cells cells e (0, 0)) := by
  rcases h.2 with ⟨h1, _⟩ | ⟨g', cap', cur, h1, _, h2, _⟩
  · cases h1
  · injection h1 with h1 _ _
    injection h1 with h1
    injection h1 with h1 _ _
    subst h1
    exact ⟨_, h2⟩
theorem Blk.lasts2 {N : Nat} {row : Option Nat} {Tt : List TypeId} {g : Nat} {T : TypeId} {cs : List Value} (hT : Tt.contains T = true) : Lasts2 N row Tt (fun w => Blk w g T cs) :=
  ⟨fun _ _ hg h => h.grown hg (by simp), fun w w' r U c h1 h2 _ h4 h => h.grown h4 (fun e => by
    have e : g = r := Option.some.inj e
    subst e
    have h5 : w.heap[g]? = some (.cells cs.toArray T (0, 0)) := h
    rw [h1] at h5
    injection h5 with h5
    injection h5 with _ h5 _
    exact h2 (by rw [h5]; simpa using hT))⟩
end Go.Proofs.YtiendebcdicjnaaGreatDoor
namespace Go.Proofs.YtiendebcdicjnaaGreatDoor
theorem sc3 : scalarB Tryz.prog 3 = true := by kernel_rfl
theorem sc9 : scalarB Tryz.prog 9 = true := by kernel_rfl
theorem us9 : Tryz.prog.underlying 9 = some .string := by kernel_rfl
theorem es22 : elemSz Tryz.prog 22 = some (3, 1) := by kernel_rfl
theorem ap22 : appB Tryz.prog 22 = some (3, 1, 8) := by kernel_rfl
theorem sc26 : scalarB Tryz.prog 26 = true := by kernel_rfl
theorem es26 : elemSz Tryz.prog 26 = some (105, 15) := by kernel_rfl
theorem ap26 : appB Tryz.prog 26 = some (105, 15, 128) := by kernel_rfl
theorem sc27 : scalarB Tryz.prog 27 = true := by kernel_rfl
theorem es27 : elemSz Tryz.prog 27 = some (90, 2) := by kernel_rfl
theorem sc28 : scalarB Tryz.prog 28 = true := by kernel_rfl
theorem es28 : elemSz Tryz.prog 28 = some (57, 2) := by kernel_rfl
theorem ap28 : appB Tryz.prog 28 = some (57, 2, 32) := by kernel_rfl
theorem sc29 : scalarB Tryz.prog 29 = true := by kernel_rfl
theorem es29 : elemSz Tryz.prog 29 = some (151, 3) := by kernel_rfl
theorem ap29 : appB Tryz.prog 29 = some (151, 3, 40) := by kernel_rfl
theorem rz31 : rowSz Tryz.prog 31 = some 4 := by kernel_rfl
theorem fo31_0 : fieldOff Tryz.prog 31 0 = some 0 := by kernel_rfl
theorem fo31_1 : fieldOff Tryz.prog 31 1 = some 1 := by kernel_rfl
theorem fo31_2 : fieldOff Tryz.prog 31 2 = some 2 := by kernel_rfl
theorem fo31_3 : fieldOff Tryz.prog 31 3 = some 3 := by kernel_rfl
theorem zc31 : zeroCs Tryz.prog 31 = some [.slice none 0 0, .slice none 0 0, .slice none 0 0, .slice none 0 0] := by kernel_rfl
theorem sc47 : scalarB Tryz.prog 47 = true := by kernel_rfl
theorem es47 : elemSz Tryz.prog 47 = some (74, 5) := by kernel_rfl
theorem ap47 : appB Tryz.prog 47 = some (74, 5, 64) := by kernel_rfl
theorem rz55 : rowSz Tryz.prog 55 = some 2 := by kernel_rfl
theorem fo55_0 : fieldOff Tryz.prog 55 0 = some 0 := by kernel_rfl
theorem fo55_1 : fieldOff Tryz.prog 55 1 = some 1 := by kernel_rfl
theorem zc55 : zeroCs Tryz.prog 55 = some [.int .i64 0, .int .i64 0] := by kernel_rfl
theorem rz57 : rowSz Tryz.prog 57 = some 2 := by kernel_rfl
theorem fo57_0 : fieldOff Tryz.prog 57 0 = some 0 := by kernel_rfl
theorem fo57_1 : fieldOff Tryz.prog 57 1 = some 1 := by kernel_rfl
theorem zc57 : zeroCs Tryz.prog 57 = some [.string ⟨#[]⟩, .string ⟨#[]⟩] := by kernel_rfl
theorem rz74 : rowSz Tryz.prog 74 = some 5 := by kernel_rfl
theorem fo74_0 : fieldOff Tryz.prog 74 0 = some 0 := by kernel_rfl
theorem fo74_1 : fieldOff Tryz.prog 74 1 = some 1 := by kernel_rfl
theorem fo74_2 : fieldOff Tryz.prog 74 2 = some 2 := by kernel_rfl
theorem fo74_3 : fieldOff Tryz.prog 74 3 = some 3 := by kernel_rfl
theorem fo74_4 : fieldOff Tryz.prog 74 4 = some 4 := by kernel_rfl
theorem zc74 : zeroCs Tryz.prog 74 = some [.int .i64 0, .string ⟨#[]⟩, .string ⟨#[]⟩, .int .i64 0, .string ⟨#[]⟩] := by kernel_rfl
theorem rz90 : rowSz Tryz.prog 90 = some 2 := by kernel_rfl
theorem fo90_0 : fieldOff Tryz.prog 90 0 = some 0 := by kernel_rfl
theorem fo90_1 : fieldOff Tryz.prog 90 1 = some 1 := by kernel_rfl
theorem zc90 : zeroCs Tryz.prog 90 = some [.string ⟨#[]⟩, .string ⟨#[]⟩] := by kernel_rfl
theorem rz103 : rowSz Tryz.prog 103 = some 14 := by kernel_rfl
theorem rz105 : rowSz Tryz.prog 105 = some 15 := by kernel_rfl
theorem fo105_0 : fieldOff Tryz.prog 105 0 = some 0 := by kernel_rfl
theorem fo105_1 : fieldOff Tryz.prog 105 1 = some 1 := by kernel_rfl
theorem zc105 : zeroCs Tryz.prog 105 = some [.string ⟨#[]⟩, .int .i64 0, .int .i64 0, .int .i64 0, .int .i64 0, .int .i64 0, .int .i64 0, .int .i64 0, .int .i64 0, .int .i64 0, .int .i64 0, .int .i64 0, .int .i64 0, .int .i64 0, .int .i64 0] := by kernel_rfl
theorem es107 : elemSz Tryz.prog 107 = some (9, 1) := by kernel_rfl
theorem ap107 : appB Tryz.prog 107 = some (9, 1, 16) := by kernel_rfl
theorem rz142 : rowSz Tryz.prog 142 = some 3 := by kernel_rfl
theorem fo142_0 : fieldOff Tryz.prog 142 0 = some 0 := by kernel_rfl
theorem fo142_1 : fieldOff Tryz.prog 142 1 = some 1 := by kernel_rfl
theorem zc142 : zeroCs Tryz.prog 142 = some [.int .i64 0, .string ⟨#[]⟩, .int .i64 0] := by kernel_rfl
theorem rz151 : rowSz Tryz.prog 151 = some 3 := by kernel_rfl
theorem fo151_0 : fieldOff Tryz.prog 151 0 = some 0 := by kernel_rfl
theorem fo151_1 : fieldOff Tryz.prog 151 1 = some 1 := by kernel_rfl
theorem fo151_2 : fieldOff Tryz.prog 151 2 = some 2 := by kernel_rfl
theorem zc151 : zeroCs Tryz.prog 151 = some [.int .i64 0, .string ⟨#[]⟩, .string ⟨#[]⟩] := by kernel_rfl
theorem es220 : elemSz Tryz.prog 220 = some (142, 3) := by kernel_rfl
theorem ap220 : appB Tryz.prog 220 = some (142, 3, 32) := by kernel_rfl
theorem es239 : elemSz Tryz.prog 239 = some (47, 1) := by kernel_rfl
theorem cb9 : callableB Tryz.prog 9 = true := by kernel_rfl
theorem cb18 : callableB Tryz.prog 18 = true := by kernel_rfl
theorem cb19 : callableB Tryz.prog 19 = true := by kernel_rfl
theorem cb20 : callableB Tryz.prog 20 = true := by kernel_rfl
theorem cb21 : callableB Tryz.prog 21 = true := by kernel_rfl
theorem cb22 : callableB Tryz.prog 22 = true := by kernel_rfl
theorem cb23 : callableB Tryz.prog 23 = true := by kernel_rfl
theorem cb24 : callableB Tryz.prog 24 = true := by kernel_rfl
theorem cb25 : callableB Tryz.prog 25 = true := by kernel_rfl
theorem cb33 : callableB Tryz.prog 33 = true := by kernel_rfl
theorem cb34 : callableB Tryz.prog 34 = true := by kernel_rfl
theorem cb41 : callableB Tryz.prog 41 = true := by kernel_rfl
theorem cb42 : callableB Tryz.prog 42 = true := by kernel_rfl
theorem cb43 : callableB Tryz.prog 43 = true := by kernel_rfl
theorem cb48 : callableB Tryz.prog 48 = true := by kernel_rfl
theorem cb50 : callableB Tryz.prog 50 = true := by kernel_rfl
theorem cb51 : callableB Tryz.prog 51 = true := by kernel_rfl
theorem cb52 : callableB Tryz.prog 52 = true := by kernel_rfl
theorem cb55 : callableB Tryz.prog 55 = true := by kernel_rfl
theorem cb56 : callableB Tryz.prog 56 = true := by kernel_rfl
theorem cb57 : callableB Tryz.prog 57 = true := by kernel_rfl
theorem cb58 : callableB Tryz.prog 58 = true := by kernel_rfl
theorem cb59 : callableB Tryz.prog 59 = true := by kernel_rfl
theorem cb60 : callableB Tryz.prog 60 = true := by kernel_rfl
theorem cb61 : callableB Tryz.prog 61 = true := by kernel_rfl
theorem cb62 : callableB Tryz.prog 62 = true := by kernel_rfl
theorem cb63 : callableB Tryz.prog 63 = true := by kernel_rfl
theorem cb64 : callableB Tryz.prog 64 = true := by kernel_rfl
theorem cb65 : callableB Tryz.prog 65 = true := by kernel_rfl
theorem cb66 : callableB Tryz.prog 66 = true := by kernel_rfl
theorem cb67 : callableB Tryz.prog 67 = true := by kernel_rfl
theorem cb68 : callableB Tryz.prog 68 = true := by kernel_rfl
theorem cb69 : callableB Tryz.prog 69 = true := by kernel_rfl
theorem cb70 : callableB Tryz.prog 70 = true := by kernel_rfl
theorem cb71 : callableB Tryz.prog 71 = true := by kernel_rfl
theorem cb72 : callableB Tryz.prog 72 = true := by kernel_rfl
theorem cb73 : callableB Tryz.prog 73 = true := by kernel_rfl
theorem cb78 : callableB Tryz.prog 78 = true := by kernel_rfl
theorem cb79 : callableB Tryz.prog 79 = true := by kernel_rfl
theorem cb80 : callableB Tryz.prog 80 = true := by kernel_rfl
theorem cb92 : callableB Tryz.prog 92 = true := by kernel_rfl
theorem cb110 : callableB Tryz.prog 110 = true := by kernel_rfl
theorem cb111 : callableB Tryz.prog 111 = true := by kernel_rfl
theorem cb117 : callableB Tryz.prog 117 = true := by kernel_rfl
theorem cb118 : callableB Tryz.prog 118 = true := by kernel_rfl
theorem cb120 : callableB Tryz.prog 120 = true := by kernel_rfl
theorem cb121 : callableB Tryz.prog 121 = true := by kernel_rfl
theorem cb122 : callableB Tryz.prog 122 = true := by kernel_rfl
theorem cb123 : callableB Tryz.prog 123 = true := by kernel_rfl
theorem cb124 : callableB Tryz.prog 124 = true := by kernel_rfl
theorem cb126 : callableB Tryz.prog 126 = true := by kernel_rfl
theorem cb127 : callableB Tryz.prog 127 = true := by kernel_rfl
theorem cb128 : callableB Tryz.prog 128 = true := by kernel_rfl
theorem cb129 : callableB Tryz.prog 129 = true := by kernel_rfl
theorem cb130 : callableB Tryz.prog 130 = true := by kernel_rfl
theorem cb131 : callableB Tryz.prog 131 = true := by kernel_rfl
theorem cb132 : callableB Tryz.prog 132 = true := by kernel_rfl
theorem cb133 : callableB Tryz.prog 133 = true := by kernel_rfl
theorem cb136 : callableB Tryz.prog 136 = true := by kernel_rfl
theorem cb137 : callableB Tryz.prog 137 = true := by kernel_rfl
theorem cb138 : callableB Tryz.prog 138 = true := by kernel_rfl
theorem cb139 : callableB Tryz.prog 139 = true := by kernel_rfl
theorem cb140 : callableB Tryz.prog 140 = true := by kernel_rfl
theorem cb141 : callableB Tryz.prog 141 = true := by kernel_rfl
theorem cb142 : callableB Tryz.prog 142 = true := by kernel_rfl
theorem cb143 : callableB Tryz.prog 143 = true := by kernel_rfl
theorem cb144 : callableB Tryz.prog 144 = true := by kernel_rfl
theorem cb145 : callableB Tryz.prog 145 = true := by kernel_rfl
theorem cb146 : callableB Tryz.prog 146 = true := by kernel_rfl
theorem cb147 : callableB Tryz.prog 147 = true := by kernel_rfl
theorem cb152 : callableB Tryz.prog 152 = true := by kernel_rfl
theorem cb185 : callableB Tryz.prog 185 = true := by kernel_rfl
theorem cb186 : callableB Tryz.prog 186 = true := by kernel_rfl
theorem cb187 : callableB Tryz.prog 187 = true := by kernel_rfl
theorem cb198 : callableB Tryz.prog 198 = true := by kernel_rfl
theorem cb199 : callableB Tryz.prog 199 = true := by kernel_rfl
theorem cb200 : callableB Tryz.prog 200 = true := by kernel_rfl
theorem cb201 : callableB Tryz.prog 201 = true := by kernel_rfl
theorem cb202 : callableB Tryz.prog 202 = true := by kernel_rfl
theorem cb203 : callableB Tryz.prog 203 = true := by kernel_rfl
theorem cb204 : callableB Tryz.prog 204 = true := by kernel_rfl
theorem cb205 : callableB Tryz.prog 205 = true := by kernel_rfl
theorem cb207 : callableB Tryz.prog 207 = true := by kernel_rfl
theorem cb208 : callableB Tryz.prog 208 = true := by kernel_rfl
theorem cb209 : callableB Tryz.prog 209 = true := by kernel_rfl
theorem cb210 : callableB Tryz.prog 210 = true := by kernel_rfl
theorem cb211 : callableB Tryz.prog 211 = true := by kernel_rfl
theorem cb249 : callableB Tryz.prog 249 = true := by kernel_rfl
theorem cb255 : callableB Tryz.prog 255 = true := by kernel_rfl
theorem cb281 : callableB Tryz.prog 281 = true := by kernel_rfl
theorem mixed : Tryz.prog.follows .mixedOrders = true := by kernel_rfl
end Go.Proofs.YtiendebcdicjnaaGreatDoor
namespace Go.Proofs.YtiendebcdicjnaaGreatDoor
open Go.RowKit
theorem prevOf_zero {α : Type} {l : List α} {k : Nat} (h : k = 0) : prevOf l k = none := by unfold prevOf; rw [if_pos h]
theorem prevOf_pos {α : Type} {l : List α} {k : Nat} {y : α} (h : ¬ k = 0) (hy : l[k - 1]? = some y) : prevOf l k = some y := by unfold prevOf; rw [if_neg h, hy]
theorem key_low {a : ByteArray} (h : keyB a = true) : leB a ⟨#[]⟩ = false := by
  obtain ⟨⟨l⟩⟩ := a
  cases l with
  | nil => cases h
  | cons c r => unfold leB; rw [ByteArray.toList_eq, ByteArray.toList_eq]; rfl
def sgEnc (x : ByteArray) : List Value := [.string x]
theorem sg_len (x : ByteArray) : (sgEnc x).length = 1 := rfl
end Go.Proofs.YtiendebcdicjnaaGreatDoor
namespace Go.Proofs.YtiendebcdicjnaaGreatDoor
open Go.RowKit
theorem fe_all : ∀ {l : List Int}, firstE l = 0 → ∀ e ∈ l, e = 0
  | [], _, _, h => by cases h
  | x :: r, h, e, he => by
    simp only [firstE] at h
    by_cases hx : x = 0
    · rw [if_pos hx] at h
      rcases List.mem_cons.1 he with rfl | he
      · exact hx
      · exact fe_all h e he
    · rw [if_neg hx] at h; exact absurd h hx
end Go.Proofs.YtiendebcdicjnaaGreatDoor
namespace Go.Proofs.YtiendebcdicjnaaGreatDoor
open Go.RowKit
theorem allNe_not_mem {a : Nat} {l : List Nat} (h : allNe (a :: l) = true) : a ∉ l ∧ allNe l = true := by
  simp only [allNe, Bool.and_eq_true] at h
  refine ⟨fun hm => ?_, h.2⟩
  have := List.all_eq_true.1 h.1 a hm
  simp at this
/-- Block i of the list becomes a row of the call's own; the blocks ls stay. -/
theorem Mem.toOwn {c : Cx} {K : World → Prop} {L : List (Nat × TypeId × List Value)} {O : List Own} {X : List (World → Prop)} {w : World} (h : Mem c K L O X w) (i : Nat) (ls : List Nat) {g : Nat} {T : TypeId} {cs : List Value} (hi : L[i]? = some (g, T, cs)) (hls : allNe (i :: ls) = true) {n sz : Nat} (hcs : cs.length = n * sz) (hn : n ≤ maxLen) :
    Mem c K (pickI L ls) (⟨.slice (some ⟨g, 0, none⟩) n n, T, sz, n, cs⟩ :: O) X w := by
  obtain ⟨hni, hl2⟩ := allNe_not_mem hls
  have hp := h.pickL ls hl2
  have hrow := h.rowOf i hi hcs hn
  have hib : (⟨.slice (some ⟨g, 0, none⟩) n n, T, sz, n, cs⟩ : Own).v.ownBlock = some g := rfl
  refine ⟨h.g, h.k, hp.b, hp.nd, fun r hr => ?_, fun r hr x hx => ?_, ?_, h.x, h.kk, h.l, h.rs⟩
  · rcases List.mem_cons.1 hr with rfl | hr
    · exact hrow
    · exact h.o r hr
  · rcases List.mem_cons.1 hr with rfl | hr
    · obtain ⟨j, hj, hjx⟩ := pickI_mem hx
      intro e
      have hg : g = x.1 := by injection e
      have hij : i ≠ j := fun e => hni (e ▸ hj)
      obtain ⟨hi1, hi2⟩ := List.getElem?_eq_some_iff.1 hi
      obtain ⟨hj1, hj2⟩ := List.getElem?_eq_some_iff.1 hjx
      rcases Nat.lt_or_gt_of_ne hij with hlt | hlt
      · have := List.pairwise_iff_getElem.1 h.nd i j hi1 hj1 hlt
        rw [hi2, hj2] at this; exact this hg
      · have := List.pairwise_iff_getElem.1 h.nd j i hj1 hi1 hlt
        rw [hi2, hj2] at this; exact this hg.symm
    · exact hp.od r hr x hx
  · refine List.Pairwise.cons (fun s hs b hb hsb => ?_) h.oo
    have hgb : g = b := by injection hb
    subst hgb
    exact h.od s hs _ (List.mem_of_getElem? hi) hsb
section
variable {P : Program} {c : Cx} {ops : Array Oper} {Q : Exit → Act → World → Prop} {S : List (Nat × Value)} {K : World → Prop} {L : List (Nat × TypeId × List Value)} {O : List Own} {X : List (World → Prop)}
theorem gw_toOwn {code : Code} (i : Nat) (ls : List Nat) {g : Nat} {T : TypeId} {cs : List Value} {n sz : Nat} (hi : L[i]? = some (g, T, cs)) (hls : allNe (i :: ls) = true) (hcs : cs.length = n * sz) (hn : n ≤ maxLen) (h : Gw P c Q code S K (pickI L ls) (⟨.slice (some ⟨g, 0, none⟩) n n, T, sz, n, cs⟩ :: O) X) : Gw P c Q code S K L O X := fun a w ha hm => h a w ha (hm.toOwn i ls hi hls hcs hn)
end
end Go.Proofs.YtiendebcdicjnaaGreatDoor
namespace Go.Proofs.YtiendebcdicjnaaGreatDoor
open Go.RowKit
theorem setOwn_self {r : Own} : ∀ {O : List Own} {i : Nat}, O[i]? = some r → setOwn r O i = O
  | [], i, h => by simp at h
  | x :: t, 0, h => by
    simp at h; subst h; rfl
  | x :: t, i + 1, h => by
    have h2 : t[i]? = some r := by simpa using h
    simp only [setOwn, setOwn_self h2]
end Go.Proofs.YtiendebcdicjnaaGreatDoor
namespace Go.Proofs.YtiendebcdicjnaaGreatDoor
open Go.RowKit
theorem prevCs_le {l : List Cs} {k : Nat} {b : Cs} (h : keyB b.key = true) : leB b.key (prevCs l k) = leCs (prevOf l k) b := by
  unfold prevCs leCs
  cases prevOf l k with
  | none => exact key_low h
  | some q => rfl
theorem cls_scan {l : List Cs} {v : Int} (h30 : ¬ 30 < l.length) (h : scanE csE none l = v) (hv : v ≠ 0) : classesE l = v := by
  unfold classesE
  rw [if_neg h30, if_pos (by rw [h]; exact hv), h]
theorem cls_up {l : List Cs} (h30 : ¬ 30 < l.length) (h : scanE csE none l = 0) (hu : l.any (upB l) = true) : classesE l = 8 := by
  unfold classesE
  rw [if_neg h30, if_neg (by rw [h]; decide), if_pos hu]
theorem cls_loop {l : List Cs} (h30 : ¬ 30 < l.length) (h : scanE csE none l = 0) (hu : l.any (upB l) = false) : classesE l = if loopB l l.length = true then 14 else 0 := by
  unfold classesE
  rw [if_neg h30, if_neg (by rw [h]; decide), if_neg (by rw [hu]; decide)]
theorem any_at {α : Type} {p : α → Bool} {l : List α} {k : Nat} {x : α} (h : l[k]? = some x) : (l.drop k).any p = (p x || (l.drop (k + 1)).any p) := by
  obtain ⟨hk, rfl⟩ := List.getElem?_eq_some_iff.1 h
  rw [List.drop_eq_getElem_cons hk, List.any_cons]
theorem any_end {α : Type} {p : α → Bool} {l : List α} {k : Nat} (h : l.length ≤ k) : (l.drop k).any p = false := by rw [List.drop_eq_nil_of_le h]; rfl
theorem path_more {l : List Cs} {n i : Nat} {k : ByteArray} (h : emptyS (upOf l k) = false) (hi : i < n) : pathN l (n - i) k = upOf l k :: pathN l (n - (i + 1)) (upOf l k) := by
  rw [show n - i = (n - (i + 1)) + 1 by omega]
  show (if emptyS (upOf l k) = true then [] else _) = _
  rw [if_neg (by rw [h]; decide)]
theorem path_stop {l : List Cs} {n : Nat} {k : ByteArray} (h : emptyS (upOf l k) = true) : pathN l n k = [] := by
  cases n with
  | zero => rfl
  | succ n =>
    show (if emptyS (upOf l k) = true then [] else _) = _
    rw [if_pos h]
theorem pred_classAt_1_lot (ke : ByteArray) (up : ByteArray) (gk : Nat) (k : ByteArray) (w : World) (hk : Blk w gk 9 [.string k]) :
  Calls Tryz.prog 208 #[.agg #[.string ke, .string up], .pointer (some ⟨gk, 0, none⟩)] w (fun e w' => e = .returned (.bool (csP k ⟨ke, up⟩)) ∧ w.grownBy w' none) := by
 refine gw_enter ⟨8, w, none, []⟩ Tryz.func208 rfl Tryz.ntmps208 rfl (mem0 (X := [BlkOld w.heap.size none gk 9 [.string k]]) (allF_cons hk.old allF_nil) (allL_cons BlkOld.lasts allL_nil)) ?_
 refine sr_ ?_
 refine wl_box rfl rfl rfl fun g1 => ?_
 refine sg_ rfl (nn_ (sr_ (fd_ fo90_0 rfl rfl (lk_ sc9 0 rfl rfl rfl ?_))))
 refine wl_ov (ov_load (v := .string k) sc9 rfl (fun _ hm => (hm.fact 0 rfl).2) rfl) rfl ?_
 refine wl_ov (ov_seql rfl rfl) rfl (sg_ rfl (nn_ ?_))
 refine gw_ret ?_
 refine nx_ret1 rfl rfl fun wx hm => ?_
 exact ⟨rfl, hm.g⟩
theorem index_classAt_1_lot (l : List Cs) (A : Option Addr) (n c0 : Nat) (gk : Nat) (k : ByteArray) (w : World) (hl : SlT csEnc 2 90 w A n l) (hn : n ≤ 1000000) (hk : Blk w gk 9 [.string k]) :
  Calls Tryz.prog 201 #[.slice A n c0, .func (.func 208) #[] #[.pointer (some ⟨gk, 0, none⟩)]] w (GotE w (ixP (csP k) l 0)) := by
 refine gw_enter ⟨19, w, none, []⟩ Tryz.func201 rfl Tryz.ntmps201 rfl (mem0 (X := [SlOld csEnc 2 90 w.heap.size none A n l, BlkOld w.heap.size none gk 9 [.string k]]) (allF_cons hl.old (allF_cons hk.old allF_nil)) (allL_cons SlOld.lasts (allL_cons BlkOld.lasts allL_nil))) ?_
 refine sr_ ?_
 have hlen := hl.len
 refine sg_ rfl (nn_ (gw_seq (sr_ (mv_ rfl (wl_ov (ov_len es27 rfl) rfl (mv_ rfl (nn_ (gw_block ?_))))))))
 refine gw_loop (γ := Nat) (fun (i : Nat) => i ≤ n ∧ ixP (csP k) l 0 = ixP (csP k) (l.drop i) i) (fun (i : Nat) => [(0, .slice A n c0), (1, .func (.func 208) #[] #[.pointer (some ⟨gk, 0, none⟩)]), (7, .int .i64 ((n : Nat) : Int)), (8, .int .i64 ((i : Nat) : Int))]) (fun (i : Nat) => fun _ => True) (fun (i : Nat) => []) (fun (i : Nat) => []) (fun (i : Nat) => [SlOld csEnc 2 90 w.heap.size none A n l, BlkOld w.heap.size none gk 9 [.string k]]) (fun (i : Nat) => n - i) 0 ⟨Nat.zero_le _, rfl⟩ ⟨rfl, rfl, rfl, rfl, trivial⟩ (fun _ hm => hm.pick [] [] [0, 1] rfl rfl) ?_
 intro i hinv
 replace hinv : i ≤ n ∧ ixP (csP k) l 0 = ixP (csP k) (l.drop i) i := hinv
 refine sr_ (wl_ov (ov_lss rfl rfl) rfl (nn_ (gw_seq ?_)))
 refine gw_cond rfl (fun hh => ?_) (fun hh => ?_)
 ·have hi : ((i : Nat) : Int) < ((n : Nat) : Int) := by simpa using hh
  clear hh
  refine gw_skip (nx_then (gw_seq (gw_block (sr_ ?_))))
  obtain ⟨b, off, hA, _, _⟩ := hl.get (by omega)
  subst hA
  obtain ⟨x, hx⟩ : ∃ x, l[i]? = some x := ⟨_, List.getElem?_eq_getElem (by omega)⟩
  obtain ⟨ke, up⟩ := x
  have hat := ixP_at (p := csP k) hx
  refine mv_ rfl (sg_ rfl (nn_ (sr_ (mv_ rfl (mv_ rfl (mv_ rfl ?_))))))
  refine wl_ov (ov_index (j := i) es27 rfl rfl (by omega)) rfl ?_
  refine wl_ov (ov_elem (vs := [.string ke, .string up]) rz90 rfl (fun _ hm => (hm.fact 0 rfl).1) hx rfl rfl) rfl ?_
  refine wl_callv rfl cb208 rfl rfl (fun wx hm => (pred_classAt_1_lot ke up gk k wx (hm.fact 1 rfl).2)) ?_
  refine nn_ ?_
  refine gw_cond rfl (fun hh => ?_) (fun hh => ?_)
  ·have hq : (csP k ⟨ke, up⟩) = true := by simpa using hh
   clear hh
   refine sr_ (mv_ rfl (sg_ rfl (nn_ ?_)))
   refine gw_ret ?_
   refine nx_blk_ret (nx_then_ret (nx_then_ret (nx_blk_ret (nx_then_ret ?_))))
   refine nx_ret1 rfl rfl fun wx hm => ?_
   exact ⟨ret_int (by rw [hinv.2, hat, if_pos hq]), hm.g⟩
  have hq : (csP k ⟨ke, up⟩) = false := by simpa using hh
  clear hh
  refine gw_skip (nx_blk_nrm (nx_then (gw_region (ad_ rfl rfl (mv_ rfl (wl_nil ?_))))))
  exact nx_round (i + 1) ⟨by omega, by rw [hinv.2, hat, if_neg (by rw [hq]; decide)]⟩ (by omega) ⟨rfl, rfl, rfl, (some_int (by omega)), trivial⟩ (fun _ hm => hm.pick [] [] [0, 1] rfl rfl)
 have hi : ¬ (((i : Nat) : Int) < ((n : Nat) : Int)) := by simpa using hh
 clear hh
 refine gw_exit ?_
 refine nx_then_exit (nx_then_exit ?_)
 refine nx_blk_here ?_
 refine nx_then (sr_ (sg_ rfl ?_))
 refine wl_set 4 (v' := .int .i64 (-1)) rfl rfl ?_
 refine nn_ ?_
 refine gw_ret ?_
 refine nx_ret1 rfl rfl fun wx hm => ?_
 exact ⟨ret_int (by rw [hinv.2, List.drop_eq_nil_of_le (by omega)]; rfl), hm.g⟩
theorem classAt_any (l : List Cs) (A : Option Addr) (n c0 : Nat) (k : ByteArray) (w : World) (hl : SlT csEnc 2 90 w A n l) (hn : n ≤ 1000000) :
  Calls Tryz.prog 143 #[.slice A n c0, .string k] w (GotE w (ixP (csP k) l 0)) := by
 refine gw_enter ⟨8, w, none, []⟩ Tryz.func143 rfl Tryz.ntmps143 rfl (mem0 (X := [SlOld csEnc 2 90 w.heap.size none A n l]) (allF_cons hl.old allF_nil) (allL_cons SlOld.lasts allL_nil)) ?_
 refine sr_ ?_
 refine wl_box rfl rfl rfl fun g1 => ?_
 refine sg_ rfl (nn_ (sr_ (mv_ rfl (wl_ov (ov_makeFunc rfl rfl) rfl ?_))))
 refine wl_callv rfl cb201 rfl rfl (fun wx hm => (index_classAt_1_lot l A n c0 _ k wx (hm.fact 0 rfl).1 hn (hm.blkI 0 rfl))) ?_
 refine sg_ rfl (nn_ ?_)
 refine gw_ret ?_
 refine nx_ret1 rfl rfl fun wx hm => ?_
 exact ⟨rfl, hm.g⟩
theorem pred_ClassAt_1_rentref1 (ke : ByteArray) (up : ByteArray) (gk : Nat) (k : ByteArray) (w : World) (hk : Blk w gk 9 [.string k]) :
  Calls Tryz.prog 202 #[.agg #[.string ke, .string up], .pointer (some ⟨gk, 0, none⟩)] w (fun e w' => e = .returned (.bool (csP k ⟨ke, up⟩)) ∧ w.grownBy w' none) := by
 refine gw_enter ⟨8, w, none, []⟩ Tryz.func202 rfl Tryz.ntmps202 rfl (mem0 (X := [BlkOld w.heap.size none gk 9 [.string k]]) (allF_cons hk.old allF_nil) (allL_cons BlkOld.lasts allL_nil)) ?_
 refine sr_ ?_
 refine wl_box rfl rfl rfl fun g1 => ?_
 refine sg_ rfl (nn_ (sr_ (fd_ fo90_0 rfl rfl (lk_ sc9 0 rfl rfl rfl ?_))))
 refine wl_ov (ov_load (v := .string k) sc9 rfl (fun _ hm => (hm.fact 0 rfl).2) rfl) rfl ?_
 refine wl_ov (ov_seql rfl rfl) rfl (sg_ rfl (nn_ ?_))
 refine gw_ret ?_
 refine nx_ret1 rfl rfl fun wx hm => ?_
 exact ⟨rfl, hm.g⟩
theorem index_ClassAt_1_rentref1 (l : List Cs) (A : Option Addr) (n c0 : Nat) (gk : Nat) (k : ByteArray) (w : World) (hl : SlT csEnc 2 90 w A n l) (hn : n ≤ 1000000) (hk : Blk w gk 9 [.string k]) :
  Calls Tryz.prog 201 #[.slice A n c0, .func (.func 202) #[] #[.pointer (some ⟨gk, 0, none⟩)]] w (GotE w (ixP (csP k) l 0)) := by
 refine gw_enter ⟨19, w, none, []⟩ Tryz.func201 rfl Tryz.ntmps201 rfl (mem0 (X := [SlOld csEnc 2 90 w.heap.size none A n l, BlkOld w.heap.size none gk 9 [.string k]]) (allF_cons hl.old (allF_cons hk.old allF_nil)) (allL_cons SlOld.lasts (allL_cons BlkOld.lasts allL_nil))) ?_
 refine sr_ ?_
 have hlen := hl.len
 refine sg_ rfl (nn_ (gw_seq (sr_ (mv_ rfl (wl_ov (ov_len es27 rfl) rfl (mv_ rfl (nn_ (gw_block ?_))))))))
 refine gw_loop (γ := Nat) (fun (i : Nat) => i ≤ n ∧ ixP (csP k) l 0 = ixP (csP k) (l.drop i) i) (fun (i : Nat) => [(0, .slice A n c0), (1, .func (.func 202) #[] #[.pointer (some ⟨gk, 0, none⟩)]), (7, .int .i64 ((n : Nat) : Int)), (8, .int .i64 ((i : Nat) : Int))]) (fun (i : Nat) => fun _ => True) (fun (i : Nat) => []) (fun (i : Nat) => []) (fun (i : Nat) => [SlOld csEnc 2 90 w.heap.size none A n l, BlkOld w.heap.size none gk 9 [.string k]]) (fun (i : Nat) => n - i) 0 ⟨Nat.zero_le _, rfl⟩ ⟨rfl, rfl, rfl, rfl, trivial⟩ (fun _ hm => hm.pick [] [] [0, 1] rfl rfl) ?_
 intro i hinv
 replace hinv : i ≤ n ∧ ixP (csP k) l 0 = ixP (csP k) (l.drop i) i := hinv
 refine sr_ (wl_ov (ov_lss rfl rfl) rfl (nn_ (gw_seq ?_)))
 refine gw_cond rfl (fun hh => ?_) (fun hh => ?_)
 ·have hi : ((i : Nat) : Int) < ((n : Nat) : Int) := by simpa using hh
  clear hh
  refine gw_skip (nx_then (gw_seq (gw_block (sr_ ?_))))
  obtain ⟨b, off, hA, _, _⟩ := hl.get (by omega)
  subst hA
  obtain ⟨x, hx⟩ : ∃ x, l[i]? = some x := ⟨_, List.getElem?_eq_getElem (by omega)⟩
  obtain ⟨ke, up⟩ := x
  have hat := ixP_at (p := csP k) hx
  refine mv_ rfl (sg_ rfl (nn_ (sr_ (mv_ rfl (mv_ rfl (mv_ rfl ?_))))))
  refine wl_ov (ov_index (j := i) es27 rfl rfl (by omega)) rfl ?_
  refine wl_ov (ov_elem (vs := [.string ke, .string up]) rz90 rfl (fun _ hm => (hm.fact 0 rfl).1) hx rfl rfl) rfl ?_
  refine wl_callv rfl cb202 rfl rfl (fun wx hm => (pred_ClassAt_1_rentref1 ke up gk k wx (hm.fact 1 rfl).2)) ?_
  refine nn_ ?_
  refine gw_cond rfl (fun hh => ?_) (fun hh => ?_)
  ·have hq : (csP k ⟨ke, up⟩) = true := by simpa using hh
   clear hh
   refine sr_ (mv_ rfl (sg_ rfl (nn_ ?_)))
   refine gw_ret ?_
   refine nx_blk_ret (nx_then_ret (nx_then_ret (nx_blk_ret (nx_then_ret ?_))))
   refine nx_ret1 rfl rfl fun wx hm => ?_
   exact ⟨ret_int (by rw [hinv.2, hat, if_pos hq]), hm.g⟩
  have hq : (csP k ⟨ke, up⟩) = false := by simpa using hh
  clear hh
  refine gw_skip (nx_blk_nrm (nx_then (gw_region (ad_ rfl rfl (mv_ rfl (wl_nil ?_))))))
  exact nx_round (i + 1) ⟨by omega, by rw [hinv.2, hat, if_neg (by rw [hq]; decide)]⟩ (by omega) ⟨rfl, rfl, rfl, (some_int (by omega)), trivial⟩ (fun _ hm => hm.pick [] [] [0, 1] rfl rfl)
 have hi : ¬ (((i : Nat) : Int) < ((n : Nat) : Int)) := by simpa using hh
 clear hh
 refine gw_exit ?_
 refine nx_then_exit (nx_then_exit ?_)
 refine nx_blk_here ?_
 refine nx_then (sr_ (sg_ rfl ?_))
 refine wl_set 4 (v' := .int .i64 (-1)) rfl rfl ?_
 refine nn_ ?_
 refine gw_ret ?_
 refine nx_ret1 rfl rfl fun wx hm => ?_
 exact ⟨ret_int (by rw [hinv.2, List.drop_eq_nil_of_le (by omega)]; rfl), hm.g⟩
theorem rClassAt_any (l : List Cs) (A : Option Addr) (n c0 : Nat) (k : ByteArray) (w : World) (hl : SlT csEnc 2 90 w A n l) (hn : n ≤ 1000000) :
  Calls Tryz.prog 129 #[.slice A n c0, .string k] w (GotE w (ixP (csP k) l 0)) := by
 refine gw_enter ⟨8, w, none, []⟩ Tryz.func129 rfl Tryz.ntmps129 rfl (mem0 (X := [SlOld csEnc 2 90 w.heap.size none A n l]) (allF_cons hl.old allF_nil) (allL_cons SlOld.lasts allL_nil)) ?_
 refine sr_ ?_
 refine wl_box rfl rfl rfl fun g1 => ?_
 refine sg_ rfl (nn_ (sr_ (mv_ rfl (wl_ov (ov_makeFunc rfl rfl) rfl ?_))))
 refine wl_callv rfl cb201 rfl rfl (fun wx hm => (index_ClassAt_1_rentref1 l A n c0 _ k wx (hm.fact 0 rfl).1 hn (hm.blkI 0 rfl))) ?_
 refine sg_ rfl (nn_ ?_)
 refine gw_ret ?_
 refine nx_ret1 rfl rfl fun wx hm => ?_
 exact ⟨rfl, hm.g⟩
theorem index_str (ks : List ByteArray) (A1 : Option Addr) (n1 c1 : Nat) (k : ByteArray) (w : World) (hs : SlT sgEnc 1 9 w A1 n1 ks) (hn : n1 ≤ 1000000) :
  Calls Tryz.prog 255 #[.slice A1 n1 c1, .string k] w (GotE w (ixP (fun y => k.toList == y.toList) ks 0)) := by
 refine gw_enter ⟨19, w, none, []⟩ Tryz.func255 rfl Tryz.ntmps255 rfl (mem0 (X := [SlOld sgEnc 1 9 w.heap.size none A1 n1 ks]) (allF_cons hs.old allF_nil) (allL_cons SlOld.lasts allL_nil)) ?_
 refine sr_ ?_
 have hlen := hs.len
 refine sg_ rfl (nn_ (gw_seq (sr_ (mv_ rfl (wl_ov (ov_len es107 rfl) rfl (mv_ rfl (nn_ (gw_block ?_))))))))
 refine gw_loop (γ := Nat) (fun (i : Nat) => i ≤ n1 ∧ ixP (fun y => k.toList == y.toList) ks 0 = ixP (fun y => k.toList == y.toList) (ks.drop i) i) (fun (i : Nat) => [(0, .slice A1 n1 c1), (1, .string k), (7, .int .i64 ((n1 : Nat) : Int)), (8, .int .i64 ((i : Nat) : Int))]) (fun (i : Nat) => fun _ => True) (fun (i : Nat) => []) (fun (i : Nat) => []) (fun (i : Nat) => [SlOld sgEnc 1 9 w.heap.size none A1 n1 ks]) (fun (i : Nat) => n1 - i) 0 ⟨Nat.zero_le _, rfl⟩ ⟨rfl, rfl, rfl, rfl, trivial⟩ (fun _ hm => hm.pick [] [] [0] rfl rfl) ?_
 intro i hinv
 replace hinv : i ≤ n1 ∧ ixP (fun y => k.toList == y.toList) ks 0 = ixP (fun y => k.toList == y.toList) (ks.drop i) i := hinv
 refine sr_ (wl_ov (ov_lss rfl rfl) rfl (nn_ (gw_seq ?_)))
 refine gw_cond rfl (fun hh => ?_) (fun hh => ?_)
 ·have hi : ((i : Nat) : Int) < ((n1 : Nat) : Int) := by simpa using hh
  clear hh
  refine gw_skip (nx_then (gw_seq (gw_block (sr_ ?_))))
  obtain ⟨b, off, hA, _, _⟩ := hs.get (by omega)
  subst hA
  obtain ⟨z0, hx⟩ : ∃ x, ks[i]? = some x := ⟨_, List.getElem?_eq_getElem (by omega)⟩
  have hat := ixP_at (p := (fun y => k.toList == y.toList)) hx
  refine mv_ rfl (sg_ rfl (nn_ (sr_ (mv_ rfl (mv_ rfl (mv_ rfl ?_))))))
  refine wl_ov (ov_index (j := i) es107 rfl rfl (by omega)) rfl ?_
  refine wl_ov (ov_elem1 (k := 0) (v := .string z0) sc9 rfl (fun _ hm => (hm.fact 0 rfl).1) hx rfl rfl) rfl ?_
  refine wl_ov (ov_seql rfl rfl) rfl (nn_ ?_)
  refine gw_cond rfl (fun hh => ?_) (fun hh => ?_)
  ·have hq : (k.toList == z0.toList) = true := by simpa using hh
   clear hh
   refine sr_ (mv_ rfl (sg_ rfl (nn_ ?_)))
   refine gw_ret ?_
   refine nx_blk_ret (nx_then_ret (nx_then_ret (nx_blk_ret (nx_then_ret ?_))))
   refine nx_ret1 rfl rfl fun wx hm => ?_
   exact ⟨ret_int (by rw [hinv.2, hat, if_pos hq]), hm.g⟩
  have hq : (k.toList == z0.toList) = false := by simpa using hh
  clear hh
  refine gw_skip (nx_blk_nrm (nx_then (gw_region (ad_ rfl rfl (mv_ rfl (wl_nil ?_))))))
  exact nx_round (i + 1) ⟨by omega, by rw [hinv.2, hat, if_neg (by rw [hq]; decide)]⟩ (by omega) ⟨rfl, rfl, rfl, (some_int (by omega)), trivial⟩ (fun _ hm => hm.pick [] [] [0] rfl rfl)
 have hi : ¬ (((i : Nat) : Int) < ((n1 : Nat) : Int)) := by simpa using hh
 clear hh
 refine gw_exit ?_
 refine nx_then_exit (nx_then_exit ?_)
 refine nx_blk_here ?_
 refine nx_then (sr_ (sg_ rfl ?_))
 refine wl_set 4 (v' := .int .i64 (-1)) rfl rfl ?_
 refine nn_ ?_
 refine gw_ret ?_
 refine nx_ret1 rfl rfl fun wx hm => ?_
 exact ⟨ret_int (by rw [hinv.2, List.drop_eq_nil_of_le (by omega)]; rfl), hm.g⟩
theorem contains_str (ks : List ByteArray) (A1 : Option Addr) (n1 c1 : Nat) (k : ByteArray) (w : World) (hs : SlT sgEnc 1 9 w A1 n1 ks) (hn : n1 ≤ 1000000) :
  Calls Tryz.prog 198 #[.slice A1 n1 c1, .string k] w (fun e w' => e = .returned (.bool (inK k ks)) ∧ w.grownBy w' none) := by
 refine gw_enter ⟨9, w, none, []⟩ Tryz.func198 rfl Tryz.ntmps198 rfl (mem0 (X := [SlOld sgEnc 1 9 w.heap.size none A1 n1 ks]) (allF_cons hs.old allF_nil) (allL_cons SlOld.lasts allL_nil)) ?_
 refine sr_ (sg_ rfl (nn_ (sr_ (mv_ rfl (mv_ rfl ?_)))))
 refine wl_callv rfl cb255 rfl rfl (fun wx hm => (index_str ks A1 n1 c1 k wx (hm.fact 0 rfl).1 hn)) ?_
 refine wl_ov (ov_geq rfl rfl) rfl ?_
 refine sg_ rfl (nn_ ?_)
 refine gw_ret ?_
 refine nx_ret1 rfl rfl fun wx hm => ?_
 exact ⟨by unfold inK; rw [← ix_any], hm.g⟩
theorem above_any (l : List Cs) (A : Option Addr) (n c : Nat) (k0 : ByteArray) (w : World) (hl : SlT csEnc 2 90 w A n l) (hc : Closed l) (hk0 : 0 ≤ ixP (csP k0) l 0) (hn : n ≤ 1000000) :
  Calls Tryz.prog 207 #[.slice A n c, .string k0] w (fun e w' => ∃ (A2 : Option Addr) (n2 c2 : Nat), e = .returned (.slice A2 n2 c2) ∧ w'.ownsRow w.heap.size 9 1 (.slice A2 n2 c2) n2 ((pathN l n k0).flatMap sgEnc) ∧ (pathN l n k0).length = n2 ∧ w.grownBy w' none) := by
 refine gw_enter ⟨25, w, none, []⟩ Tryz.func207 rfl Tryz.ntmps207 rfl (mem0 (X := [SlOld csEnc 2 90 w.heap.size none A n l]) (allF_cons hl.old allF_nil) (allL_cons SlOld.lasts allL_nil)) ?_
 refine sr_ ?_
 have hlen := hl.len
 refine sg_ rfl (nn_ (sr_ (sg_ rfl (nn_ (gw_seq (sr_ (mv_ rfl (wl_ov (ov_len es27 rfl) rfl (mv_ rfl ?_)))))))))
 refine nn_ (gw_block ?_)
 refine gw_nilOwn 9 1 ?_
 refine gw_loop (γ := Nat × ByteArray × Value × List ByteArray × List Value) (fun g => g.1 ≤ n ∧ 0 ≤ ixP (csP g.2.1) l 0 ∧ g.2.2.2.1.length = g.1 ∧ g.2.2.2.1 ++ pathN l (n - g.1) g.2.1 = pathN l n k0 ∧ g.2.2.2.2 = g.2.2.2.1.flatMap sgEnc) (fun g => [(0, .slice A n c), (1, .string g.2.1), (4, .slice none 0 0), (5, g.2.2.1), (7, .int .i64 ((n : Nat) : Int)), (8, .int .i64 ((g.1 : Nat) : Int))]) (fun g => fun _ => True) (fun g => []) (fun g => [⟨g.2.2.1, 9, 1, g.1, g.2.2.2.2⟩]) (fun g => [SlOld csEnc 2 90 w.heap.size none A n l]) (fun g => n - g.1) (0, k0, .slice none 0 0, [], []) ⟨Nat.zero_le _, hk0, rfl, rfl, rfl⟩ ⟨rfl, rfl, rfl, rfl, rfl, rfl, trivial⟩ (fun _ hm => hm.pick [] [0] [0] rfl rfl) ?_
 rintro ⟨i, k, v, done, xs⟩ hinv
 replace hinv : i ≤ n ∧ 0 ≤ ixP (csP k) l 0 ∧ done.length = i ∧ done ++ pathN l (n - i) k = pathN l n k0 ∧ xs = done.flatMap sgEnc := hinv
 dsimp only
 refine sr_ ?_
 obtain ⟨hi0, hik, hdl, hdp, rfl⟩ := hinv
 refine wl_ov (ov_lss rfl rfl) rfl (nn_ (gw_seq ?_))
 refine gw_cond rfl (fun hh => ?_) (fun hh => ?_)
 ·have hi : ((i : Nat) : Int) < ((n : Nat) : Int) := by simpa using hh
  clear hh
  refine gw_skip (nx_then (gw_seq (gw_block (sr_ ?_))))
  obtain ⟨b, off, hA, _, _⟩ := hl.get (by omega)
  subst hA
  refine mv_ rfl (mv_ rfl (mv_ rfl ?_))
  obtain ⟨x, hx, hxl, hxk⟩ := ix_key hik
  obtain ⟨j, hj⟩ := Int.eq_ofNat_of_zero_le hik
  have hjx : (ixP (csP k) l 0).toNat = j := by omega
  rw [hjx] at hx
  have hup := upOf_at hj hx
  have hjn : j < n := by have := (List.getElem?_eq_some_iff.1 hx).1; omega
  obtain ⟨ke, up⟩ := x
  have hup : upOf l k = up := hup
  have hcl := hc ⟨ke, up⟩ hxl
  have hcl : emptyS up = false → 0 ≤ ixP (csP up) l 0 := hcl
  refine wl_callv (v := .int .i64 ((j : Nat) : Int)) rfl cb143 rfl rfl (fun wx hm => (by rw [← hj]; exact classAt_any l _ n c k wx (hm.fact 0 rfl).1 hn)) ?_
  refine wl_ov (ov_index (j := j) es27 rfl rfl (by omega)) rfl ?_
  refine fd_ fo90_1 rfl rfl ?_
  refine wl_ov (ov_elem1 (k := 1) (v := .string up) sc9 rfl (fun _ hm => (hm.fact 0 rfl).1) hx rfl rfl) rfl ?_
  refine sg_ rfl (nn_ (gw_seq (sr_ (mv_ rfl (wl_ov (ov_seql rfl rfl) rfl (nn_ ?_))))))
  refine gw_cond rfl (fun hh => ?_) (fun hh => ?_)
  ·have hq : (up.toList == (⟨#[]⟩ : ByteArray).toList) = true := by simpa using hh
   clear hh
   refine gw_exit ?_
   refine nx_then_exit ?_
   refine nx_blk_on rfl ?_
   refine nx_then_exit (nx_then_exit ?_)
   refine nx_blk_here ?_
   refine nx_then (sr_ ?_)
   refine wl_look (R := ∃ A cc, v = .slice A i cc) (fun wx hm => own_slice (hm.ownI 0 rfl)) ?_
   rintro ⟨A2, c2, rfl⟩
   refine mv_ rfl (sg_ rfl (nn_ ?_))
   refine gw_ret ?_
   have hall : done = pathN l n k0 := by rw [← hdp, path_stop (by rw [hup]; unfold emptyS; exact hq), List.append_nil]
   refine nx_ret1 rfl rfl fun wx hm => ?_
   exact ⟨A2, i, c2, rfl, by rw [← hall]; exact hm.ownI 0 rfl, by rw [← hall]; exact hdl, hm.g⟩
  have hq : (up.toList == (⟨#[]⟩ : ByteArray).toList) = false := by simpa using hh
  clear hh
  refine gw_skip (nx_then (gw_region (mv_ rfl (mv_ rfl ?_))))
  refine wl_buildSlice (e := 9) (cs := [.string up]) rfl (by kernel_rfl) rfl fun g1 => ?_
  refine wl_append (news := [.string up]) 0 0 ap107 rfl rfl rfl rfl rfl rfl rfl (by omega) (by unfold maxLen; omega) rfl rfl fun v2 hv2 => ?_
  refine sg_ rfl (wl_nil (nx_blk_nrm (nx_then (gw_region (ad_ rfl rfl (mv_ rfl (wl_nil ?_)))))))
  have hue : emptyS (upOf l k) = false := by rw [hup]; unfold emptyS; exact hq
  have hpm := path_more hue (show i < n by omega)
  rw [hup] at hpm hue
  exact nx_round (i + 1, up, v2, done ++ [up], done.flatMap sgEnc ++ ([.string up] : List Value)) ⟨by dsimp only; omega, hcl hue, by simp [hdl], by dsimp only; rw [← hdp, hpm, List.append_assoc]; rfl, by simp [sgEnc]⟩ (by dsimp only; omega) ⟨rfl, rfl, rfl, rfl, rfl, (some_int (by omega)), trivial⟩ (fun _ hm => hm.pick [] [0] [0] rfl rfl)
 have hi : ¬ (((i : Nat) : Int) < ((n : Nat) : Int)) := by simpa using hh
 clear hh
 refine gw_exit ?_
 refine nx_then_exit (nx_then_exit ?_)
 refine nx_blk_here ?_
 refine nx_then (sr_ ?_)
 refine wl_look (R := ∃ A cc, v = .slice A i cc) (fun wx hm => own_slice (hm.ownI 0 rfl)) ?_
 rintro ⟨A2, c2, rfl⟩
 refine mv_ rfl (sg_ rfl (nn_ ?_))
 refine gw_ret ?_
 have hin : i = n := by omega
 have hall : done = pathN l n k0 := by rw [← hdp, hin, Nat.sub_self]; exact (List.append_nil _).symm
 refine nx_ret1 rfl rfl fun wx hm => ?_
 exact ⟨A2, i, c2, rfl, by rw [← hall]; exact hm.ownI 0 rfl, by rw [← hall]; exact hdl, hm.g⟩
theorem ups_any (l : List Cs) (A : Option Addr) (n c : Nat) (k0 : ByteArray) (w : World) (hl : SlT csEnc 2 90 w A n l) (hok : ∀ x ∈ l, CsOk x) (hn : n ≤ 1000000) :
  Calls Tryz.prog 199 #[.slice A n c, .string k0] w (fun e w' => ∃ (A2 : Option Addr) (n2 c2 : Nat), e = .returned (.slice A2 n2 c2) ∧ w'.ownsRow w.heap.size 9 1 (.slice A2 n2 c2) n2 ((pathN l (n + 1) k0).flatMap sgEnc) ∧ (pathN l (n + 1) k0).length = n2 ∧ w.grownBy w' none) := by
 refine gw_enter ⟨43, w, none, []⟩ Tryz.func199 rfl Tryz.ntmps199 rfl (mem0 (X := [SlOld csEnc 2 90 w.heap.size none A n l]) (allF_cons hl.old allF_nil) (allL_cons SlOld.lasts allL_nil)) ?_
 refine sr_ ?_
 have hlen := hl.len
 refine sg_ rfl (nn_ (sr_ (sg_ rfl (nn_ (gw_seq (sr_ (mv_ rfl (mv_ rfl ?_))))))))
 refine wl_callv rfl cb129 rfl rfl (fun wx hm => (rClassAt_any l A n c k0 wx (hm.fact 0 rfl).1 hn)) ?_
 refine sg_ rfl (nn_ (gw_block ?_))
 refine gw_nilOwn 9 1 ?_
 refine gw_loop (γ := Nat × ByteArray × Value × List ByteArray × List Value) (fun g => g.1 ≤ n + 1 ∧ g.2.2.2.1.length = g.1 ∧ g.2.2.2.1 ++ pathN l (n + 1 - g.1) g.2.1 = pathN l (n + 1) k0 ∧ g.2.2.2.2 = g.2.2.2.1.flatMap sgEnc) (fun g => [(0, .slice A n c), (4, .slice none 0 0), (5, g.2.2.1), (6, .int .i64 (ixP (csP g.2.1) l 0))]) (fun g => fun _ => True) (fun g => []) (fun g => [⟨g.2.2.1, 9, 1, g.1, g.2.2.2.2⟩]) (fun g => [SlOld csEnc 2 90 w.heap.size none A n l]) (fun g => n + 1 - g.1) (0, k0, .slice none 0 0, [], []) ⟨Nat.zero_le _, rfl, rfl, rfl⟩ ⟨rfl, rfl, rfl, rfl, trivial⟩ (fun _ hm => hm.pick [] [0] [0] rfl rfl) ?_
 rintro ⟨i, k, v, done, xs⟩ hinv
 replace hinv : i ≤ n + 1 ∧ done.length = i ∧ done ++ pathN l (n + 1 - i) k = pathN l (n + 1) k0 ∧ xs = done.flatMap sgEnc := hinv
 dsimp only
 refine gw_seq (sr_ ?_)
 obtain ⟨hi0, hdl, hdp, rfl⟩ := hinv
 refine wl_look (R := ∃ A cc, v = .slice A i cc) (fun wx hm => own_slice (hm.ownI 0 rfl)) ?_
 rintro ⟨A2, c2, rfl⟩
 refine mv_ rfl ?_
 refine wl_ov (ov_geq rfl rfl) rfl ?_
 refine mv_ rfl ?_
 rcases Bool.eq_false_or_eq_true (decide (0 ≤ ixP (csP k) l 0)) with hik | hik
 ·refine wl_set 12 rfl (congrArg Value.bool hik) ?_
  have hik := of_decide_eq_true hik
  obtain ⟨x, hx, hxl, hxk⟩ := ix_key hik
  obtain ⟨j, hj⟩ := Int.eq_ofNat_of_zero_le hik
  have hjx : (ixP (csP k) l 0).toNat = j := by omega
  rw [hjx] at hx
  have hup := upOf_at hj hx
  have hjn : j < n := by have := (List.getElem?_eq_some_iff.1 hx).1; omega
  obtain ⟨ke, up⟩ := x
  have hup : upOf l k = up := hup
  have hsz := (hok _ hxl).2
  have hsz : up.size ≤ 1000000 := hsz
  obtain ⟨b, off, hA, _, _⟩ := hl.get (by omega)
  subst hA
  refine wl_set 6 (v' := .int .i64 ((j : Nat) : Int)) rfl (congrArg (Value.int .i64) hj) ?_
  refine wl_guard_on rfl rfl rfl (mv_ rfl (wl_guard_on rfl rfl rfl (mv_ rfl (wl_guard_on rfl rfl rfl ?_))))
  refine wl_ov (ov_index (j := j) es27 rfl rfl (by omega)) rfl ?_
  refine wl_guard_on rfl rfl rfl (fd_ fo90_1 rfl rfl (wl_guard_on rfl rfl rfl ?_))
  refine wl_ov (ov_elem1 (k := 1) (v := .string up) sc9 rfl (fun _ hm => (hm.fact 0 rfl).1) hx rfl rfl) rfl ?_
  refine wl_guard_on rfl rfl rfl (wl_ov (ov_sneq rfl rfl) rfl (pt_ rfl rfl (mv_ rfl ?_)))
  rcases Bool.eq_false_or_eq_true (!(up.toList == (⟨#[]⟩ : ByteArray).toList)) with hq | hq
  ·refine wl_set 20 rfl (congrArg Value.bool hq) ?_
   have hue : emptyS (upOf l k) = false := by rw [hup]; unfold emptyS; simpa only [Bool.not_eq_true'] using hq
   refine wl_guard_on rfl rfl rfl (mv_ rfl (wl_guard_on rfl rfl rfl (wl_ov (ov_len es107 rfl) rfl (wl_guard_on rfl rfl rfl (mv_ rfl (wl_guard_on rfl rfl rfl (wl_ov (ov_len es27 rfl) rfl (wl_guard_on rfl rfl rfl (wl_ov (ov_leq rfl rfl) rfl (pt_ rfl rfl (nn_ ?_)))))))))))
   refine gw_cond rfl (fun hh => ?_) (fun hh => ?_)
   ·have hcnt : ((i : Nat) : Int) ≤ ((n : Nat) : Int) := by simpa using hh
    clear hh
    refine gw_skip (nx_then (gw_seq (gw_block (gw_region (mv_ rfl (mv_ rfl (mv_ rfl ?_)))))))
    refine wl_ov (ov_index (j := j) es27 rfl rfl (by omega)) rfl ?_
    refine fd_ fo90_1 rfl rfl ?_
    refine wl_ov (ov_elem1 (k := 1) (v := .string up) sc9 rfl (fun _ hm => (hm.fact 0 rfl).1) hx rfl rfl) rfl ?_
    refine wl_buildSlice (e := 9) (cs := [.string up]) rfl (by kernel_rfl) rfl fun g1 => ?_
    refine wl_append (news := [.string up]) 0 0 ap107 rfl rfl rfl rfl rfl rfl rfl (by omega) (by unfold maxLen; omega) rfl rfl fun v2 hv2 => ?_
    refine sg_ rfl (wl_nil (nx_blk_nrm (nx_then (gw_region (mv_ rfl (mv_ rfl (mv_ rfl ?_)))))))
    refine wl_ov (ov_index (j := j) es27 rfl rfl (by omega)) rfl ?_
    refine fd_ fo90_1 rfl rfl ?_
    refine wl_ov (ov_elem1 (k := 1) (v := .string up) sc9 rfl (fun _ hm => (hm.fact 0 rfl).1) hx rfl rfl) rfl ?_
    refine wl_callv rfl cb129 rfl rfl (fun wx hm => (rClassAt_any l _ n c up wx (hm.fact 0 rfl).1 hn)) ?_
    refine sg_ rfl (wl_nil ?_)
    have hpm := path_more hue (show i < n + 1 by omega)
    rw [hup] at hpm
    exact nx_round (i + 1, up, v2, done ++ [up], done.flatMap sgEnc ++ ([.string up] : List Value)) ⟨by dsimp only; omega, by simp [hdl], by dsimp only; rw [← hdp, hpm, List.append_assoc]; rfl, by simp [sgEnc]⟩ (by dsimp only; omega) ⟨rfl, rfl, rfl, rfl, trivial⟩ (fun _ hm => hm.pick [] [0] [0] rfl rfl)
   have hcnt : ¬ (((i : Nat) : Int) ≤ ((n : Nat) : Int)) := by simpa using hh
   clear hh
   refine gw_exit ?_
   refine nx_then_exit (nx_then_exit ?_)
   refine nx_blk_here ?_
   refine nx_then (sr_ (mv_ rfl (sg_ rfl (nn_ ?_))))
   refine gw_ret ?_
   have hin : i = n + 1 := by omega
   have hall : done = pathN l (n + 1) k0 := by rw [← hdp, hin, Nat.sub_self]; exact (List.append_nil _).symm
   refine nx_ret1 rfl rfl fun wx hm => ?_
   exact ⟨A2, i, c2, rfl, by rw [← hall]; exact hm.ownI 0 rfl, by rw [← hall]; exact hdl, hm.g⟩
  refine wl_set 20 rfl (congrArg Value.bool hq) ?_
  refine goff rfl rfl rfl (goff rfl rfl rfl (goff rfl rfl rfl (goff rfl rfl rfl (goff rfl rfl rfl (pf_ rfl rfl (nn_ (cf_ rfl ?_)))))))
  refine gw_exit ?_
  refine nx_then_exit (nx_then_exit ?_)
  refine nx_blk_here ?_
  refine nx_then (sr_ (mv_ rfl (sg_ rfl (nn_ ?_))))
  refine gw_ret ?_
  have hall : done = pathN l (n + 1) k0 := by rw [← hdp, path_stop (by rw [hup]; unfold emptyS; simpa only [Bool.not_eq_false'] using hq), List.append_nil]
  refine nx_ret1 rfl rfl fun wx hm => ?_
  exact ⟨A2, i, c2, rfl, by rw [← hall]; exact hm.ownI 0 rfl, by rw [← hall]; exact hdl, hm.g⟩
 refine wl_set 12 rfl (congrArg Value.bool hik) ?_
 refine goff rfl rfl rfl (goff rfl rfl rfl (goff rfl rfl rfl (goff rfl rfl rfl (goff rfl rfl rfl (goff rfl rfl rfl (pf_ rfl rfl (mv_ rfl (goff rfl rfl rfl (goff rfl rfl rfl (goff rfl rfl rfl (goff rfl rfl rfl (goff rfl rfl rfl (pf_ rfl rfl ?_)))))))))))))
 refine nn_ (cf_ rfl ?_)
 refine gw_exit ?_
 refine nx_then_exit (nx_then_exit ?_)
 refine nx_blk_here ?_
 refine nx_then (sr_ (mv_ rfl (sg_ rfl (nn_ ?_))))
 refine gw_ret ?_
 have hik := of_decide_eq_false hik
 have hall : done = pathN l (n + 1) k0 := by rw [← hdp, path_stop (upOf_no (by omega)), List.append_nil]
 refine nx_ret1 rfl rfl fun wx hm => ?_
 exact ⟨A2, i, c2, rfl, by rw [← hall]; exact hm.ownI 0 rfl, by rw [← hall]; exact hdl, hm.g⟩
theorem checkClasses_any (l : List Cs) (A : Option Addr) (n c : Nat) (w : World) (hl : SlT csEnc 2 90 w A n l) (hok : ∀ x ∈ l, CsOk x) (hn : n ≤ 1000000) :
  Calls Tryz.prog 142 #[.slice A n c] w (GotE w (classesE l)) := by
 refine gw_enter ⟨80, w, none, []⟩ Tryz.func142 rfl Tryz.ntmps142 rfl (mem0 (X := [SlOld csEnc 2 90 w.heap.size none A n l]) (allF_cons hl.old allF_nil) (allL_cons SlOld.lasts allL_nil)) ?_
 refine sr_ ?_
 have hlen := hl.len
 refine sg_ rfl (nn_ (gw_seq (sr_ (mv_ rfl (wl_ov (ov_len es27 rfl) rfl ?_)))))
 refine wl_ov (ov_gtr rfl rfl) rfl ?_
 refine nn_ ?_
 refine gw_cond rfl (fun hh => ?_) (fun hh => ?_)
 ·have h1 : 30 < ((n : Nat) : Int) := by simpa using hh
  clear hh
  refine sr_ (sg_ rfl (nn_ ?_))
  refine gw_ret ?_
  refine nx_then_ret ?_
  refine nx_ret1 rfl rfl fun wx hm => ?_
  exact ⟨ret_int (by unfold classesE; rw [if_pos (by omega)]), hm.g⟩
 have h1 : ¬ (30 < ((n : Nat) : Int)) := by simpa using hh
 clear hh
 refine gw_skip (nx_then (gw_seq (sr_ ?_)))
 have h30 : ¬ 30 < l.length := by omega
 refine mv_ rfl (wl_ov (ov_len es27 rfl) rfl (mv_ rfl (nn_ (gw_block ?_))))
 refine gw_loop (γ := Nat) (fun (k : Nat) => k ≤ n ∧ scanE csE none l = scanE csE (prevOf l k) (l.drop k)) (fun (k : Nat) => [(0, .slice A n c), (12, .slice A n c), (13, .int .i64 ((n : Nat) : Int)), (14, .int .i64 ((k : Nat) : Int))]) (fun (k : Nat) => fun _ => True) (fun (k : Nat) => []) (fun (k : Nat) => []) (fun (k : Nat) => [SlOld csEnc 2 90 w.heap.size none A n l]) (fun (k : Nat) => n - k) 0 ⟨Nat.zero_le _, rfl⟩ ⟨rfl, rfl, rfl, rfl, trivial⟩ (fun _ hm => hm.pick [] [] [0] rfl rfl) ?_
 intro k hinv
 replace hinv : k ≤ n ∧ scanE csE none l = scanE csE (prevOf l k) (l.drop k) := hinv
 refine sr_ (wl_ov (ov_lss rfl rfl) rfl (nn_ (gw_seq ?_)))
 refine gw_cond rfl (fun hh => ?_) (fun hh => ?_)
 ·have hk : ((k : Nat) : Int) < ((n : Nat) : Int) := by simpa using hh
  clear hh
  refine gw_skip (nx_then (gw_seq (gw_block (sr_ ?_))))
  obtain ⟨b, off, hA, _, _⟩ := hl.get (by omega)
  subst hA
  obtain ⟨x, hx⟩ : ∃ x, l[k]? = some x := ⟨_, List.getElem?_eq_getElem (by omega)⟩
  obtain ⟨ke, up⟩ := x
  have hat := scanE_at csE l k _ hx
  have hk1 : ke.size ≤ 1000000 := (hok _ (List.mem_of_getElem? hx)).1
  have hk2 : up.size ≤ 1000000 := (hok _ (List.mem_of_getElem? hx)).2
  refine mv_ rfl ?_
  refine wl_ov (ov_index (j := k) es27 rfl rfl (by omega)) rfl ?_
  refine wl_ov (ov_elem (vs := [.string ke, .string up]) rz90 rfl (fun _ hm => (hm.fact 0 rfl).1) hx rfl rfl) rfl ?_
  refine wl_alloc zc90 rfl fun g1 => ?_
  refine sg_ rfl ?_
  refine wl_stores (cs' := [.string ke, .string up]) 0 rz90 rfl rfl rfl rfl rfl rfl rfl rfl ?_
  refine nn_ (gw_block (sr_ (fd_ fo90_0 rfl rfl (lk_ sc9 0 rfl rfl rfl ?_))))
  refine wl_callw rfl cb117 rfl rfl (fun wx hm => (isKey_any _ wx (by omega))) ?_
  refine wl_ov (ov_un_not rfl) rfl (sg_ rfl (nn_ ?_))
  refine gw_cond rfl (fun hh => ?_) (fun hh => ?_)
  ·have h2 : (keyB ke) = false := by simpa using hh
   clear hh
   refine sr_ (sg_ rfl (nn_ ?_))
   refine gw_ret ?_
   refine nx_blk_ret (nx_blk_ret (nx_then_ret (nx_then_ret (nx_blk_ret (nx_then_ret ?_)))))
   have hE : csE (prevOf l k) ⟨ke, up⟩ = 5 := by unfold csE; simp [h2]
   refine nx_ret1 rfl rfl fun wx hm => ?_
   exact ⟨ret_int (by rw [cls_scan h30 (v := 5) (by rw [hinv.2, hat, if_neg (by rw [hE]; decide), hE]) (by decide)]), hm.g⟩
  have h2 : (keyB ke) = true := by simpa using hh
  clear hh
  refine gw_seq ?_
  by_cases hk0 : k = 0
  ·have hO : leCs (prevOf l k) ⟨ke, up⟩ = false := by rw [prevOf_zero hk0]; rfl
   refine gd (fun wz => Blk wz g1 90 [.string ke, .string up] ∧ (SlOld csEnc 2 90 w.heap.size none (some ⟨b, off, none⟩) n l) wz ∧ True) mixed (fun _ hm => ⟨hm.bl 0, hm.fa 0, trivial⟩) fun z => ?_
   refine wt 0 14 1 rfl z (ov_move rfl) ?_
   refine wt 1 14 3 rfl z (ov_gtr rfl rfl) ?_
   refine wa_set 26 (v' := .bool false) rfl (congrArg Value.bool (decide_eq_false (by omega))) ?_
   refine wt 2 14 7 rfl z (ov_move rfl) ?_
   refine wtf 3 14 15 rfl rfl rfl z ?_
   refine wtf 4 14 31 rfl rfl rfl z ?_
   refine wtf 5 14 63 rfl rfl rfl z ?_
   refine wtf 6 14 127 rfl rfl rfl z ?_
   refine wtf 7 14 255 rfl rfl rfl z ?_
   refine wtf 8 14 511 rfl rfl rfl z ?_
   refine wtf 9 14 1023 rfl rfl rfl z ?_
   refine wtf 10 14 2047 rfl rfl rfl z ?_
   refine wtf 11 14 4095 rfl rfl rfl z ?_
   refine wt 12 14 8191 rfl z (ov_pick_f rfl rfl) ?_
   refine wt 13 14 16383 rfl z (ov_assign rfl) ?_
   refine wa_done (by kernel_rfl) ?_
   refine nx_then (cf_ rfl (sr_ (fd_ fo90_1 rfl rfl (lk_ sc9 0 rfl rfl rfl (wl_ov (ov_sneq rfl rfl) rfl (mv_ rfl ?_))))))
   rcases Bool.eq_false_or_eq_true (!(up.toList == (⟨#[]⟩ : ByteArray).toList)) with h31 | h31
   ·refine wl_set 42 rfl (congrArg Value.bool h31) ?_
    have h31 : emptyS up = false := by unfold emptyS; simpa only [Bool.not_eq_true'] using h31
    refine wl_guard_on rfl rfl rfl (fd_ fo90_1 rfl rfl (wl_guard_on rfl rfl rfl (lk_ sc9 0 rfl rfl rfl (wl_guard_on rfl rfl rfl ?_))))
    refine wl_callw rfl cb117 rfl rfl (fun wx hm => (isKey_any _ wx (by omega))) ?_
    refine wl_guard_on rfl rfl rfl (wl_ov (ov_un_not rfl) rfl (pt_ rfl rfl (sg_ rfl (nn_ ?_))))
    refine gw_cond rfl (fun hh => ?_) (fun hh => ?_)
    ·have h32 : (keyB up) = false := by simpa using hh
     clear hh
     refine sr_ (sg_ rfl (nn_ ?_))
     refine gw_ret ?_
     refine nx_blk_ret (nx_blk_ret (nx_then_ret (nx_then_ret (nx_blk_ret (nx_then_ret ?_)))))
     have hE : csE (prevOf l k) ⟨ke, up⟩ = 5 := by unfold csE; simp [h2, hO, h31, h32]
     refine nx_ret1 rfl rfl fun wx hm => ?_
     exact ⟨ret_int (by rw [cls_scan h30 (v := 5) (by rw [hinv.2, hat, if_neg (by rw [hE]; decide), hE]) (by decide)]), hm.g⟩
    have h32 : (keyB up) = true := by simpa using hh
    clear hh
    refine gw_skip (nx_blk_nrm (nx_blk_nrm (nx_then (gw_region ?_))))
    have hE : csE (prevOf l k) ⟨ke, up⟩ = 0 := by unfold csE; simp [h2, hO, h31, h32]
    refine ad_ rfl rfl (mv_ rfl (wl_nil ?_))
    exact nx_round (k + 1) ⟨by omega, by rw [hinv.2, hat, if_pos hE]⟩ (by omega) ⟨rfl, rfl, rfl, (some_int (by omega)), trivial⟩ (fun _ hm => hm.pick [] [] [0] rfl rfl)
   refine wl_set 42 rfl (congrArg Value.bool h31) ?_
   have h31 : emptyS up = true := by unfold emptyS; simpa only [Bool.not_eq_false'] using h31
   have hE : csE (prevOf l k) ⟨ke, up⟩ = 0 := by unfold csE; simp [h2, hO, h31]
   refine goff rfl rfl rfl (goff rfl rfl rfl (goff rfl rfl rfl (goff rfl rfl rfl (pf_ rfl rfl (sg_ rfl (nn_ (cf_ rfl (gw_skip (nx_blk_nrm (nx_blk_nrm (nx_then (gw_region ?_))))))))))))
   refine ad_ rfl rfl (mv_ rfl (wl_nil ?_))
   exact nx_round (k + 1) ⟨by omega, by rw [hinv.2, hat, if_pos hE]⟩ (by omega) ⟨rfl, rfl, rfl, (some_int (by omega)), trivial⟩ (fun _ hm => hm.pick [] [] [0] rfl rfl)
  obtain ⟨y, hy⟩ : ∃ x, l[k - 1]? = some x := ⟨_, List.getElem?_eq_getElem (by omega)⟩
  obtain ⟨p0, p1⟩ := y
  refine gd (fun wz => Blk wz g1 90 [.string ke, .string up] ∧ (SlOld csEnc 2 90 w.heap.size none (some ⟨b, off, none⟩) n l) wz ∧ True) mixed (fun _ hm => ⟨hm.bl 0, hm.fa 0, trivial⟩) fun z => ?_
  refine wt 0 14 1 rfl z (ov_move rfl) ?_
  refine wt 1 14 3 rfl z (ov_gtr rfl rfl) ?_
  refine wa_set 26 (v' := .bool true) rfl (congrArg Value.bool (decide_eq_true (by omega))) ?_
  refine wt 2 14 7 rfl z (ov_move rfl) ?_
  refine wto 3 14 15 rfl rfl rfl z (ov_field fo90_0 rfl rfl) ?_
  refine wto 4 14 31 rfl rfl rfl z (ov_load sc9 rfl (fun _ hm => hm.1) rfl) ?_
  refine wto 5 14 63 rfl rfl rfl z (ov_move rfl) ?_
  refine wto 6 14 127 rfl rfl rfl z (ov_move rfl) ?_
  refine wto 7 14 255 rfl rfl rfl z (ov_sub rfl rfl (by omega) (by omega)) ?_
  refine wa_set 32 (v' := .int .i64 ((k - 1 : Nat) : Int)) rfl (congrArg (Value.int .i64) (by omega)) ?_
  refine wto 8 14 511 rfl rfl rfl z (ov_index (j := k - 1) es27 rfl rfl (by omega)) ?_
  refine wto 9 14 1023 rfl rfl rfl z (ov_field fo90_0 rfl rfl) ?_
  refine wto 10 14 2047 rfl rfl rfl z (ov_elem1 (k := 0) (v := .string p0) sc9 rfl (fun _ hm => (hm.2.1).1) hy rfl rfl) ?_
  refine wto 11 14 4095 rfl rfl rfl z (ov_sleq rfl rfl) ?_
  refine wt 12 14 8191 rfl z (ov_pick_t rfl rfl) ?_
  refine wt 13 14 16383 rfl z (ov_assign rfl) ?_
  refine wa_done (by kernel_rfl) ?_
  refine nx_then ?_
  refine gw_cond rfl (fun hh => ?_) (fun hh => ?_)
  ·have h9 : (Op.bytesLess ke.toList p0.toList || ke.toList == p0.toList) = true := by simpa using hh
   clear hh
   refine sr_ ?_
   have hO : leCs (prevOf l k) ⟨ke, up⟩ = true := by rw [prevOf_pos hk0 hy]; exact h9
   refine sg_ rfl (nn_ ?_)
   refine gw_ret ?_
   refine nx_blk_ret (nx_blk_ret (nx_then_ret (nx_then_ret (nx_blk_ret (nx_then_ret ?_)))))
   have hE : csE (prevOf l k) ⟨ke, up⟩ = 7 := by unfold csE; simp [h2, hO]
   refine nx_ret1 rfl rfl fun wx hm => ?_
   exact ⟨ret_int (by rw [cls_scan h30 (v := 7) (by rw [hinv.2, hat, if_neg (by rw [hE]; decide), hE]) (by decide)]), hm.g⟩
  have h9 : (Op.bytesLess ke.toList p0.toList || ke.toList == p0.toList) = false := by simpa using hh
  clear hh
  refine sr_ ?_
  have hO : leCs (prevOf l k) ⟨ke, up⟩ = false := by rw [prevOf_pos hk0 hy]; exact h9
  refine fd_ fo90_1 rfl rfl (lk_ sc9 0 rfl rfl rfl (wl_ov (ov_sneq rfl rfl) rfl (mv_ rfl ?_)))
  rcases Bool.eq_false_or_eq_true (!(up.toList == (⟨#[]⟩ : ByteArray).toList)) with h31 | h31
  ·refine wl_set 42 rfl (congrArg Value.bool h31) ?_
   have h31 : emptyS up = false := by unfold emptyS; simpa only [Bool.not_eq_true'] using h31
   refine wl_guard_on rfl rfl rfl (fd_ fo90_1 rfl rfl (wl_guard_on rfl rfl rfl (lk_ sc9 0 rfl rfl rfl (wl_guard_on rfl rfl rfl ?_))))
   refine wl_callw rfl cb117 rfl rfl (fun wx hm => (isKey_any _ wx (by omega))) ?_
   refine wl_guard_on rfl rfl rfl (wl_ov (ov_un_not rfl) rfl (pt_ rfl rfl (sg_ rfl (nn_ ?_))))
   refine gw_cond rfl (fun hh => ?_) (fun hh => ?_)
   ·have h32 : (keyB up) = false := by simpa using hh
    clear hh
    refine sr_ (sg_ rfl (nn_ ?_))
    refine gw_ret ?_
    refine nx_blk_ret (nx_blk_ret (nx_then_ret (nx_then_ret (nx_blk_ret (nx_then_ret ?_)))))
    have hE : csE (prevOf l k) ⟨ke, up⟩ = 5 := by unfold csE; simp [h2, hO, h31, h32]
    refine nx_ret1 rfl rfl fun wx hm => ?_
    exact ⟨ret_int (by rw [cls_scan h30 (v := 5) (by rw [hinv.2, hat, if_neg (by rw [hE]; decide), hE]) (by decide)]), hm.g⟩
   have h32 : (keyB up) = true := by simpa using hh
   clear hh
   refine gw_skip (nx_blk_nrm (nx_blk_nrm (nx_then (gw_region ?_))))
   have hE : csE (prevOf l k) ⟨ke, up⟩ = 0 := by unfold csE; simp [h2, hO, h31, h32]
   refine ad_ rfl rfl (mv_ rfl (wl_nil ?_))
   exact nx_round (k + 1) ⟨by omega, by rw [hinv.2, hat, if_pos hE]⟩ (by omega) ⟨rfl, rfl, rfl, (some_int (by omega)), trivial⟩ (fun _ hm => hm.pick [] [] [0] rfl rfl)
  refine wl_set 42 rfl (congrArg Value.bool h31) ?_
  have h31 : emptyS up = true := by unfold emptyS; simpa only [Bool.not_eq_false'] using h31
  have hE : csE (prevOf l k) ⟨ke, up⟩ = 0 := by unfold csE; simp [h2, hO, h31]
  refine goff rfl rfl rfl (goff rfl rfl rfl (goff rfl rfl rfl (goff rfl rfl rfl (pf_ rfl rfl (sg_ rfl (nn_ (cf_ rfl (gw_skip (nx_blk_nrm (nx_blk_nrm (nx_then (gw_region ?_))))))))))))
  refine ad_ rfl rfl (mv_ rfl (wl_nil ?_))
  exact nx_round (k + 1) ⟨by omega, by rw [hinv.2, hat, if_pos hE]⟩ (by omega) ⟨rfl, rfl, rfl, (some_int (by omega)), trivial⟩ (fun _ hm => hm.pick [] [] [0] rfl rfl)
 have hk : ¬ (((k : Nat) : Int) < ((n : Nat) : Int)) := by simpa using hh
 clear hh
 refine gw_exit ?_
 refine nx_then_exit (nx_then_exit ?_)
 refine nx_blk_here ?_
 refine nx_then (gw_seq (sr_ ?_))
 have hsc : scanE csE none l = 0 := by rw [hinv.2, scanE_end _ _ _ _ (by omega)]
 clear hinv hk
 refine mv_ rfl (wl_ov (ov_len es27 rfl) rfl (mv_ rfl (nn_ (gw_block ?_))))
 refine gw_loop (γ := Nat) (fun (k2 : Nat) => k2 ≤ n ∧ l.any (upB l) = (l.drop k2).any (upB l)) (fun (k2 : Nat) => [(0, .slice A n c), (49, .slice A n c), (50, .int .i64 ((n : Nat) : Int)), (51, .int .i64 ((k2 : Nat) : Int))]) (fun (k2 : Nat) => fun _ => True) (fun (k2 : Nat) => []) (fun (k2 : Nat) => []) (fun (k2 : Nat) => [SlOld csEnc 2 90 w.heap.size none A n l]) (fun (k2 : Nat) => n - k2) 0 ⟨Nat.zero_le _, rfl⟩ ⟨rfl, rfl, rfl, rfl, trivial⟩ (fun _ hm => hm.pick [] [] [0] rfl rfl) ?_
 intro k2 hinv
 replace hinv : k2 ≤ n ∧ l.any (upB l) = (l.drop k2).any (upB l) := hinv
 refine sr_ (wl_ov (ov_lss rfl rfl) rfl (nn_ (gw_seq ?_)))
 refine gw_cond rfl (fun hh => ?_) (fun hh => ?_)
 ·have hk : ((k2 : Nat) : Int) < ((n : Nat) : Int) := by simpa using hh
  clear hh
  refine gw_skip (nx_then (gw_seq (gw_block (sr_ ?_))))
  obtain ⟨b, off, hA, _, _⟩ := hl.get (by omega)
  subst hA
  obtain ⟨x, hx⟩ : ∃ x, l[k2]? = some x := ⟨_, List.getElem?_eq_getElem (by omega)⟩
  obtain ⟨ke, up⟩ := x
  have hat := any_at (p := upB l) hx
  have hk2 : up.size ≤ 1000000 := (hok _ (List.mem_of_getElem? hx)).2
  refine wl_ov (ov_index (j := k2) es27 rfl rfl (by omega)) rfl ?_
  refine wl_ov (ov_elem (vs := [.string ke, .string up]) rz90 rfl (fun _ hm => (hm.fact 0 rfl).1) hx rfl rfl) rfl ?_
  refine wl_alloc zc90 rfl fun g2 => ?_
  refine wl_stores (cs' := [.string ke, .string up]) 0 rz90 rfl rfl rfl rfl rfl rfl rfl rfl ?_
  refine nn_ (sr_ (fd_ fo90_1 rfl rfl (lk_ sc9 0 rfl rfl rfl (wl_ov (ov_sneq rfl rfl) rfl (mv_ rfl ?_)))))
  rcases Bool.eq_false_or_eq_true (!(up.toList == (⟨#[]⟩ : ByteArray).toList)) with h31 | h31
  ·refine wl_set 58 rfl (congrArg Value.bool h31) ?_
   have h31 : emptyS up = false := by unfold emptyS; simpa only [Bool.not_eq_true'] using h31
   refine wl_guard_on rfl rfl rfl (mv_ rfl (wl_guard_on rfl rfl rfl (fd_ fo90_1 rfl rfl (wl_guard_on rfl rfl rfl (lk_ sc9 0 rfl rfl rfl (wl_guard_on rfl rfl rfl ?_))))))
   refine wl_callv rfl cb143 rfl rfl (fun wx hm => (classAt_any l _ n c up wx (hm.fact 0 rfl).1 (by omega))) ?_
   refine wl_guard_on rfl rfl rfl (wl_ov (ov_lss rfl rfl) rfl (pt_ rfl rfl (nn_ ?_)))
   refine gw_cond rfl (fun hh => ?_) (fun hh => ?_)
   ·have h32 : ixP (csP up) l 0 < 0 := by simpa using hh
    clear hh
    refine sr_ (sg_ rfl (nn_ ?_))
    refine gw_ret ?_
    refine nx_blk_ret (nx_then_ret (nx_then_ret (nx_blk_ret (nx_then_ret ?_))))
    have hE : upB l ⟨ke, up⟩ = true := by unfold upB; simp [h31, h32]
    refine nx_ret1 rfl rfl fun wx hm => ?_
    exact ⟨ret_int (by rw [cls_up h30 hsc (by rw [hinv.2, hat, hE]; rfl)]), hm.g⟩
   have h32 : ¬ (ixP (csP up) l 0 < 0) := by simpa using hh
   clear hh
   refine gw_skip (nx_blk_nrm (nx_then (gw_region ?_)))
   have hE : upB l ⟨ke, up⟩ = false := by unfold upB; simp [h31]; omega
   refine ad_ rfl rfl (mv_ rfl (wl_nil ?_))
   exact nx_round (k2 + 1) ⟨by omega, by rw [hinv.2, hat, hE]; rfl⟩ (by omega) ⟨rfl, rfl, rfl, (some_int (by omega)), trivial⟩ (fun _ hm => hm.pick [] [] [0] rfl rfl)
  refine wl_set 58 rfl (congrArg Value.bool h31) ?_
  have h31 : emptyS up = true := by unfold emptyS; simpa only [Bool.not_eq_false'] using h31
  have hE : upB l ⟨ke, up⟩ = false := by unfold upB; simp [h31]
  refine goff rfl rfl rfl (goff rfl rfl rfl (goff rfl rfl rfl (goff rfl rfl rfl (goff rfl rfl rfl (pf_ rfl rfl (nn_ (cf_ rfl (gw_skip (nx_blk_nrm (nx_then (gw_region (ad_ rfl rfl ?_))))))))))))
  refine mv_ rfl (wl_nil ?_)
  exact nx_round (k2 + 1) ⟨by omega, by rw [hinv.2, hat, hE]; rfl⟩ (by omega) ⟨rfl, rfl, rfl, (some_int (by omega)), trivial⟩ (fun _ hm => hm.pick [] [] [0] rfl rfl)
 have hk : ¬ (((k2 : Nat) : Int) < ((n : Nat) : Int)) := by simpa using hh
 clear hh
 refine gw_exit ?_
 refine nx_then_exit (nx_then_exit ?_)
 refine nx_blk_here ?_
 refine nx_then (gw_seq (sr_ ?_))
 have hup : l.any (upB l) = false := by rw [hinv.2, any_end (by omega)]
 clear hinv hk
 have hcl := closed_of hup
 have hlo := cls_loop h30 hsc hup
 refine mv_ rfl (wl_ov (ov_len es27 rfl) rfl (mv_ rfl (nn_ (gw_block ?_))))
 refine gw_loop (γ := Nat) (fun (k3 : Nat) => k3 ≤ n ∧ l.any (fun x => inK x.key (pathN l (n) x.key)) = (l.drop k3).any (fun x => inK x.key (pathN l (n) x.key))) (fun (k3 : Nat) => [(0, .slice A n c), (66, .slice A n c), (67, .int .i64 ((n : Nat) : Int)), (68, .int .i64 ((k3 : Nat) : Int))]) (fun (k3 : Nat) => fun _ => True) (fun (k3 : Nat) => []) (fun (k3 : Nat) => []) (fun (k3 : Nat) => [SlOld csEnc 2 90 w.heap.size none A n l]) (fun (k3 : Nat) => n - k3) 0 ⟨Nat.zero_le _, rfl⟩ ⟨rfl, rfl, rfl, rfl, trivial⟩ (fun _ hm => hm.pick [] [] [0] rfl rfl) ?_
 intro k3 hinv
 replace hinv : k3 ≤ n ∧ l.any (fun x => inK x.key (pathN l (n) x.key)) = (l.drop k3).any (fun x => inK x.key (pathN l (n) x.key)) := hinv
 refine sr_ ?_
 have hlo2 : classesE l = if l.any (fun x => inK x.key (pathN l (n) x.key)) = true then 14 else 0 := by rw [hlo]; unfold loopB; rw [hlen]
 refine wl_ov (ov_lss rfl rfl) rfl (nn_ (gw_seq ?_))
 refine gw_cond rfl (fun hh => ?_) (fun hh => ?_)
 ·have hk : ((k3 : Nat) : Int) < ((n : Nat) : Int) := by simpa using hh
  clear hh
  refine gw_skip (nx_then (gw_seq (gw_block (sr_ ?_))))
  obtain ⟨b, off, hA, _, _⟩ := hl.get (by omega)
  subst hA
  obtain ⟨x, hx⟩ : ∃ x, l[k3]? = some x := ⟨_, List.getElem?_eq_getElem (by omega)⟩
  obtain ⟨ke, up⟩ := x
  have hat := any_at (p := (fun x => inK x.key (pathN l (n) x.key))) hx
  have hk2 : ke.size ≤ 1000000 := (hok _ (List.mem_of_getElem? hx)).1
  have hix : 0 ≤ ixP (csP ke) l 0 := by
   rcases ixP_spec (p := csP ke) l 0 with ⟨_, h⟩ | ⟨j, x, h, _⟩
   ·have := h _ (List.mem_of_getElem? hx)
    simp [csP] at this
   omega
  refine wl_ov (ov_index (j := k3) es27 rfl rfl (by omega)) rfl ?_
  refine wl_ov (ov_elem (vs := [.string ke, .string up]) rz90 rfl (fun _ hm => (hm.fact 0 rfl).1) hx rfl rfl) rfl ?_
  refine wl_alloc zc90 rfl fun g3 => ?_
  refine wl_stores (cs' := [.string ke, .string up]) 0 rz90 rfl rfl rfl rfl rfl rfl rfl rfl ?_
  refine nn_ (gw_seq ?_)
  refine gd (fun wz => Blk wz g3 90 [.string ke, .string up] ∧ (SlOld csEnc 2 90 w.heap.size none (some ⟨b, off, none⟩) n l) wz ∧ True) mixed (fun _ hm => ⟨hm.bl 0, hm.fa 0, trivial⟩) fun z => ?_
  refine wt 0 7 1 rfl z (ov_move rfl) ?_
  refine wt 1 7 3 rfl z (ov_field fo90_0 rfl rfl) ?_
  refine wt 2 7 7 rfl z (ov_load sc9 rfl (fun _ hm => hm.1) rfl) ?_
  refine wt 4 7 23 rfl z (ov_field fo90_0 rfl rfl) ?_
  refine wt 5 7 55 rfl z (ov_load sc9 rfl (fun _ hm => hm.1) rfl) ?_
  refine wa1 3 rfl ?_
  refine wl_callgo (γ := Option Addr × Nat × Nat) (val := (fun g => .slice g.1 g.2.1 g.2.2)) (φ := (fun g => (pathN l (n) ke).length = g.2.1)) (fun g => ⟨.slice g.1 g.2.1 g.2.2, 9, 1, g.2.1, (pathN l (n) ke).flatMap sgEnc⟩) rfl cb207 rfl rfl (fun wx hm => (above_any l _ n c ke wx (hm.fact 0 rfl).1 hcl hix (by omega)).mono fun _ _ ⟨A2, n2, c2, he, ho, hl2, hg⟩ => ⟨(A2, n2, c2), he, hl2, ho, hg⟩) ?_
  rintro ⟨A2, n2, c2⟩ hpl
  dsimp only at hpl ⊢
  have hpb := pathN_len l (n) ke
  refine wl_nil ?_
  refine nw 7 63 (fun _ hm => ⟨hm.bl 0, hm.fa 0, trivial⟩) fun z => ?_
  refine wa1 6 rfl ?_
  refine wl_callv rfl cb198 rfl rfl (fun wx hm => (contains_str (pathN l (n) ke) A2 n2 c2 ke wx (SlT.ofOwn sg_len (hm.ownI 0 rfl) hpl) (by omega))) ?_
  refine wl_nil ?_
  refine nw 7 127 (fun _ hm => ⟨hm.bl 0, hm.fa 0, trivial⟩) fun z => ?_
  refine wa_done (by kernel_rfl) ?_
  refine nx_then ?_
  refine gw_cond rfl (fun hh => ?_) (fun hh => ?_)
  ·have h33 : (inK ke (pathN l (n) ke)) = true := by simpa using hh
   clear hh
   refine sr_ (sg_ rfl (nn_ ?_))
   refine gw_ret ?_
   refine nx_blk_ret (nx_then_ret (nx_then_ret (nx_blk_ret (nx_then_ret ?_))))
   refine nx_ret1 rfl rfl fun wx hm => ?_
   exact ⟨ret_int (by rw [hlo2, if_pos (by rw [hinv.2, hat, h33]; rfl)]), hm.g⟩
  have h33 : (inK ke (pathN l (n) ke)) = false := by simpa using hh
  clear hh
  refine gw_skip (nx_blk_nrm (nx_then (gw_region (ad_ rfl rfl (mv_ rfl (wl_nil ?_))))))
  exact nx_round (k3 + 1) ⟨by omega, by rw [hinv.2, hat, h33]; rfl⟩ (by omega) ⟨rfl, rfl, rfl, (some_int (by omega)), trivial⟩ (fun _ hm => hm.pick [] [] [0] rfl rfl)
 have hk : ¬ (((k3 : Nat) : Int) < ((n : Nat) : Int)) := by simpa using hh
 clear hh
 refine gw_exit ?_
 refine nx_then_exit (nx_then_exit ?_)
 refine nx_blk_here ?_
 refine nx_then (sr_ (sg_ rfl (nn_ ?_)))
 refine gw_ret ?_
 refine nx_ret1 rfl rfl fun wx hm => ?_
 exact ⟨ret_int (by rw [hlo2, if_neg (by rw [hinv.2, any_end (by omega)]; decide)]), hm.g⟩
theorem classesFault_any (l : List Cs) (A : Option Addr) (n c : Nat) (w : World) (hl : SlT csEnc 2 90 w A n l) (hok : ∀ x ∈ l, CsOk x) (hn : n ≤ 1000000) :
  Calls Tryz.prog 127 #[.slice A n c] w (GotE w (classesE l)) := by
 refine gw_enter ⟨73, w, none, []⟩ Tryz.func127 rfl Tryz.ntmps127 rfl (mem0 (X := [SlOld csEnc 2 90 w.heap.size none A n l]) (allF_cons hl.old allF_nil) (allL_cons SlOld.lasts allL_nil)) ?_
 refine sr_ ?_
 have hlen := hl.len
 refine sg_ rfl (nn_ (gw_seq (sr_ (mv_ rfl (wl_ov (ov_len es27 rfl) rfl ?_)))))
 refine wl_ov (ov_gtr rfl rfl) rfl ?_
 refine nn_ ?_
 refine gw_cond rfl (fun hh => ?_) (fun hh => ?_)
 ·have h1 : 30 < ((n : Nat) : Int) := by simpa using hh
  clear hh
  refine sr_ (sg_ rfl (nn_ ?_))
  refine gw_ret ?_
  refine nx_then_ret ?_
  refine nx_ret1 rfl rfl fun wx hm => ?_
  exact ⟨ret_int (by unfold classesE; rw [if_pos (by omega)]), hm.g⟩
 have h1 : ¬ (30 < ((n : Nat) : Int)) := by simpa using hh
 clear hh
 refine gw_skip (nx_then (sr_ ?_))
 have h30 : ¬ 30 < l.length := by omega
 refine sg_ rfl (nn_ (gw_seq (sr_ (mv_ rfl (wl_ov (ov_len es27 rfl) rfl (mv_ rfl (nn_ (gw_block ?_))))))))
 refine gw_loop (γ := Nat) (fun (k : Nat) => k ≤ n ∧ scanE csE none l = scanE csE (prevOf l k) (l.drop k)) (fun (k : Nat) => [(0, .slice A n c), (3, .string (prevCs l k)), (13, .slice A n c), (14, .int .i64 ((n : Nat) : Int)), (15, .int .i64 ((k : Nat) : Int))]) (fun (k : Nat) => fun _ => True) (fun (k : Nat) => []) (fun (k : Nat) => []) (fun (k : Nat) => [SlOld csEnc 2 90 w.heap.size none A n l]) (fun (k : Nat) => n - k) 0 ⟨Nat.zero_le _, rfl⟩ ⟨rfl, rfl, rfl, rfl, rfl, trivial⟩ (fun _ hm => hm.pick [] [] [0] rfl rfl) ?_
 intro k hinv
 replace hinv : k ≤ n ∧ scanE csE none l = scanE csE (prevOf l k) (l.drop k) := hinv
 refine sr_ (wl_ov (ov_lss rfl rfl) rfl (nn_ (gw_seq ?_)))
 refine gw_cond rfl (fun hh => ?_) (fun hh => ?_)
 ·have hk : ((k : Nat) : Int) < ((n : Nat) : Int) := by simpa using hh
  clear hh
  refine gw_skip (nx_then (gw_seq (gw_block (sr_ ?_))))
  obtain ⟨b, off, hA, _, _⟩ := hl.get (by omega)
  subst hA
  obtain ⟨x, hx⟩ : ∃ x, l[k]? = some x := ⟨_, List.getElem?_eq_getElem (by omega)⟩
  obtain ⟨ke, up⟩ := x
  have hat := scanE_at csE l k _ hx
  have hk1 : ke.size ≤ 1000000 := (hok _ (List.mem_of_getElem? hx)).1
  have hk2 : up.size ≤ 1000000 := (hok _ (List.mem_of_getElem? hx)).2
  refine wl_ov (ov_index (j := k) es27 rfl rfl (by omega)) rfl ?_
  refine wl_ov (ov_elem (vs := [.string ke, .string up]) rz90 rfl (fun _ hm => (hm.fact 0 rfl).1) hx rfl rfl) rfl ?_
  refine wl_alloc zc90 rfl fun g1 => ?_
  refine wl_stores (cs' := [.string ke, .string up]) 0 rz90 rfl rfl rfl rfl rfl rfl rfl rfl ?_
  refine nn_ (gw_seq (gw_block (sr_ (fd_ fo90_0 rfl rfl (lk_ sc9 0 rfl rfl rfl ?_)))))
  refine wl_callv rfl cb128 rfl rfl (fun wx hm => (key_any _ wx (by omega))) ?_
  refine wl_ov (ov_un_not rfl) rfl (sg_ rfl (nn_ ?_))
  refine gw_cond rfl (fun hh => ?_) (fun hh => ?_)
  ·have h2 : (keyB ke) = false := by simpa using hh
   clear hh
   refine sr_ (sg_ rfl (nn_ ?_))
   refine gw_ret ?_
   refine nx_blk_ret (nx_then_ret (nx_blk_ret (nx_then_ret (nx_then_ret (nx_blk_ret (nx_then_ret ?_))))))
   have hE : csE (prevOf l k) ⟨ke, up⟩ = 5 := by unfold csE; simp [h2]
   refine nx_ret1 rfl rfl fun wx hm => ?_
   exact ⟨ret_int (by rw [cls_scan h30 (v := 5) (by rw [hinv.2, hat, if_neg (by rw [hE]; decide), hE]) (by decide)]), hm.g⟩
  have h2 : (keyB ke) = true := by simpa using hh
  clear hh
  refine sr_ (fd_ fo90_0 rfl rfl (lk_ sc9 0 rfl rfl rfl (mv_ rfl ?_)))
  refine wl_ov (ov_sleq rfl rfl) rfl ?_
  refine sg_ rfl (nn_ ?_)
  refine gw_cond rfl (fun hh => ?_) (fun hh => ?_)
  ·have h9 : (Op.bytesLess ke.toList (prevCs l k).toList || ke.toList == (prevCs l k).toList) = true := by simpa using hh
   clear hh
   refine sr_ ?_
   have hO : leCs (prevOf l k) ⟨ke, up⟩ = true := (prevCs_le (b := ⟨ke, up⟩) (by simpa using h2)).symm.trans h9
   refine sg_ rfl (nn_ ?_)
   refine gw_ret ?_
   refine nx_blk_ret (nx_then_ret (nx_blk_ret (nx_then_ret (nx_then_ret (nx_blk_ret (nx_then_ret ?_))))))
   have hE : csE (prevOf l k) ⟨ke, up⟩ = 7 := by unfold csE; simp [h2, hO]
   refine nx_ret1 rfl rfl fun wx hm => ?_
   exact ⟨ret_int (by rw [cls_scan h30 (v := 7) (by rw [hinv.2, hat, if_neg (by rw [hE]; decide), hE]) (by decide)]), hm.g⟩
  have h9 : (Op.bytesLess ke.toList (prevCs l k).toList || ke.toList == (prevCs l k).toList) = false := by simpa using hh
  clear hh
  refine sr_ ?_
  have hO : leCs (prevOf l k) ⟨ke, up⟩ = false := (prevCs_le (b := ⟨ke, up⟩) (by simpa using h2)).symm.trans h9
  refine fd_ fo90_1 rfl rfl (lk_ sc9 0 rfl rfl rfl (wl_ov (ov_sneq rfl rfl) rfl (mv_ rfl ?_)))
  rcases Bool.eq_false_or_eq_true (!(up.toList == (⟨#[]⟩ : ByteArray).toList)) with h31 | h31
  ·refine wl_set 33 rfl (congrArg Value.bool h31) ?_
   have h31 : emptyS up = false := by unfold emptyS; simpa only [Bool.not_eq_true'] using h31
   refine wl_guard_on rfl rfl rfl (fd_ fo90_1 rfl rfl (wl_guard_on rfl rfl rfl (lk_ sc9 0 rfl rfl rfl (wl_guard_on rfl rfl rfl ?_))))
   refine wl_callv rfl cb128 rfl rfl (fun wx hm => (key_any _ wx (by omega))) ?_
   refine wl_guard_on rfl rfl rfl (wl_ov (ov_un_not rfl) rfl (pt_ rfl rfl (sg_ rfl (nn_ ?_))))
   refine gw_cond rfl (fun hh => ?_) (fun hh => ?_)
   ·have h32 : (keyB up) = false := by simpa using hh
    clear hh
    refine sr_ (sg_ rfl (nn_ ?_))
    refine gw_ret ?_
    refine nx_blk_ret (nx_then_ret (nx_blk_ret (nx_then_ret (nx_then_ret (nx_blk_ret (nx_then_ret ?_))))))
    have hE : csE (prevOf l k) ⟨ke, up⟩ = 5 := by unfold csE; simp [h2, hO, h31, h32]
    refine nx_ret1 rfl rfl fun wx hm => ?_
    exact ⟨ret_int (by rw [cls_scan h30 (v := 5) (by rw [hinv.2, hat, if_neg (by rw [hE]; decide), hE]) (by decide)]), hm.g⟩
   have h32 : (keyB up) = true := by simpa using hh
   clear hh
   refine gw_skip (nx_blk_nrm (nx_then (gw_region ?_)))
   have hE : csE (prevOf l k) ⟨ke, up⟩ = 0 := by unfold csE; simp [h2, hO, h31, h32]
   refine fd_ fo90_0 rfl rfl (lk_ sc9 0 rfl rfl rfl (sg_ rfl (wl_nil (nx_blk_nrm (nx_then (gw_region (ad_ rfl rfl (mv_ rfl (wl_nil ?_)))))))))
   exact nx_round (k + 1) ⟨by omega, by rw [hinv.2, hat, if_pos hE]⟩ (by omega) ⟨rfl, (congrArg (fun z => some (Value.string z)) (prevCs_succ hx).symm), rfl, rfl, (some_int (by omega)), trivial⟩ (fun _ hm => hm.pick [] [] [0] rfl rfl)
  refine wl_set 33 rfl (congrArg Value.bool h31) ?_
  have h31 : emptyS up = true := by unfold emptyS; simpa only [Bool.not_eq_false'] using h31
  have hE : csE (prevOf l k) ⟨ke, up⟩ = 0 := by unfold csE; simp [h2, hO, h31]
  refine goff rfl rfl rfl (goff rfl rfl rfl (goff rfl rfl rfl (goff rfl rfl rfl (pf_ rfl rfl (sg_ rfl (nn_ (cf_ rfl (gw_skip (nx_blk_nrm (nx_then (gw_region (fd_ fo90_0 rfl rfl ?_))))))))))))
  refine lk_ sc9 0 rfl rfl rfl (sg_ rfl (wl_nil (nx_blk_nrm (nx_then (gw_region (ad_ rfl rfl (mv_ rfl (wl_nil ?_))))))))
  exact nx_round (k + 1) ⟨by omega, by rw [hinv.2, hat, if_pos hE]⟩ (by omega) ⟨rfl, (congrArg (fun z => some (Value.string z)) (prevCs_succ hx).symm), rfl, rfl, (some_int (by omega)), trivial⟩ (fun _ hm => hm.pick [] [] [0] rfl rfl)
 have hk : ¬ (((k : Nat) : Int) < ((n : Nat) : Int)) := by simpa using hh
 clear hh
 refine gw_exit ?_
 refine nx_then_exit (nx_then_exit ?_)
 refine nx_blk_here ?_
 refine nx_then (gw_seq (sr_ ?_))
 have hsc : scanE csE none l = 0 := by rw [hinv.2, scanE_end _ _ _ _ (by omega)]
 clear hinv hk
 refine mv_ rfl (wl_ov (ov_len es27 rfl) rfl (mv_ rfl (nn_ (gw_block ?_))))
 refine gw_loop (γ := Nat) (fun (k2 : Nat) => k2 ≤ n ∧ l.any (upB l) = (l.drop k2).any (upB l)) (fun (k2 : Nat) => [(0, .slice A n c), (42, .slice A n c), (43, .int .i64 ((n : Nat) : Int)), (44, .int .i64 ((k2 : Nat) : Int))]) (fun (k2 : Nat) => fun _ => True) (fun (k2 : Nat) => []) (fun (k2 : Nat) => []) (fun (k2 : Nat) => [SlOld csEnc 2 90 w.heap.size none A n l]) (fun (k2 : Nat) => n - k2) 0 ⟨Nat.zero_le _, rfl⟩ ⟨rfl, rfl, rfl, rfl, trivial⟩ (fun _ hm => hm.pick [] [] [0] rfl rfl) ?_
 intro k2 hinv
 replace hinv : k2 ≤ n ∧ l.any (upB l) = (l.drop k2).any (upB l) := hinv
 refine sr_ (wl_ov (ov_lss rfl rfl) rfl (nn_ (gw_seq ?_)))
 refine gw_cond rfl (fun hh => ?_) (fun hh => ?_)
 ·have hk : ((k2 : Nat) : Int) < ((n : Nat) : Int) := by simpa using hh
  clear hh
  refine gw_skip (nx_then (gw_seq (gw_block (sr_ ?_))))
  obtain ⟨b, off, hA, _, _⟩ := hl.get (by omega)
  subst hA
  obtain ⟨x, hx⟩ : ∃ x, l[k2]? = some x := ⟨_, List.getElem?_eq_getElem (by omega)⟩
  obtain ⟨ke, up⟩ := x
  have hat := any_at (p := upB l) hx
  have hk2 : up.size ≤ 1000000 := (hok _ (List.mem_of_getElem? hx)).2
  refine wl_ov (ov_index (j := k2) es27 rfl rfl (by omega)) rfl ?_
  refine wl_ov (ov_elem (vs := [.string ke, .string up]) rz90 rfl (fun _ hm => (hm.fact 0 rfl).1) hx rfl rfl) rfl ?_
  refine wl_alloc zc90 rfl fun g2 => ?_
  refine wl_stores (cs' := [.string ke, .string up]) 0 rz90 rfl rfl rfl rfl rfl rfl rfl rfl ?_
  refine nn_ (sr_ (fd_ fo90_1 rfl rfl (lk_ sc9 0 rfl rfl rfl (wl_ov (ov_sneq rfl rfl) rfl (mv_ rfl ?_)))))
  rcases Bool.eq_false_or_eq_true (!(up.toList == (⟨#[]⟩ : ByteArray).toList)) with h31 | h31
  ·refine wl_set 51 rfl (congrArg Value.bool h31) ?_
   have h31 : emptyS up = false := by unfold emptyS; simpa only [Bool.not_eq_true'] using h31
   refine wl_guard_on rfl rfl rfl (mv_ rfl (wl_guard_on rfl rfl rfl (fd_ fo90_1 rfl rfl (wl_guard_on rfl rfl rfl (lk_ sc9 0 rfl rfl rfl (wl_guard_on rfl rfl rfl ?_))))))
   refine wl_callv rfl cb129 rfl rfl (fun wx hm => (rClassAt_any l _ n c up wx (hm.fact 0 rfl).1 (by omega))) ?_
   refine wl_guard_on rfl rfl rfl (wl_ov (ov_lss rfl rfl) rfl (pt_ rfl rfl (nn_ ?_)))
   refine gw_cond rfl (fun hh => ?_) (fun hh => ?_)
   ·have h32 : ixP (csP up) l 0 < 0 := by simpa using hh
    clear hh
    refine sr_ (sg_ rfl (nn_ ?_))
    refine gw_ret ?_
    refine nx_blk_ret (nx_then_ret (nx_then_ret (nx_blk_ret (nx_then_ret ?_))))
    have hE : upB l ⟨ke, up⟩ = true := by unfold upB; simp [h31, h32]
    refine nx_ret1 rfl rfl fun wx hm => ?_
    exact ⟨ret_int (by rw [cls_up h30 hsc (by rw [hinv.2, hat, hE]; rfl)]), hm.g⟩
   have h32 : ¬ (ixP (csP up) l 0 < 0) := by simpa using hh
   clear hh
   refine gw_skip (nx_blk_nrm (nx_then (gw_region ?_)))
   have hE : upB l ⟨ke, up⟩ = false := by unfold upB; simp [h31]; omega
   refine ad_ rfl rfl (mv_ rfl (wl_nil ?_))
   exact nx_round (k2 + 1) ⟨by omega, by rw [hinv.2, hat, hE]; rfl⟩ (by omega) ⟨rfl, rfl, rfl, (some_int (by omega)), trivial⟩ (fun _ hm => hm.pick [] [] [0] rfl rfl)
  refine wl_set 51 rfl (congrArg Value.bool h31) ?_
  have h31 : emptyS up = true := by unfold emptyS; simpa only [Bool.not_eq_false'] using h31
  have hE : upB l ⟨ke, up⟩ = false := by unfold upB; simp [h31]
  refine goff rfl rfl rfl (goff rfl rfl rfl (goff rfl rfl rfl (goff rfl rfl rfl (goff rfl rfl rfl (pf_ rfl rfl (nn_ (cf_ rfl (gw_skip (nx_blk_nrm (nx_then (gw_region (ad_ rfl rfl ?_))))))))))))
  refine mv_ rfl (wl_nil ?_)
  exact nx_round (k2 + 1) ⟨by omega, by rw [hinv.2, hat, hE]; rfl⟩ (by omega) ⟨rfl, rfl, rfl, (some_int (by omega)), trivial⟩ (fun _ hm => hm.pick [] [] [0] rfl rfl)
 have hk : ¬ (((k2 : Nat) : Int) < ((n : Nat) : Int)) := by simpa using hh
 clear hh
 refine gw_exit ?_
 refine nx_then_exit (nx_then_exit ?_)
 refine nx_blk_here ?_
 refine nx_then (gw_seq (sr_ ?_))
 have hup : l.any (upB l) = false := by rw [hinv.2, any_end (by omega)]
 clear hinv hk
 have hcl := closed_of hup
 have hlo := cls_loop h30 hsc hup
 rw [← loop_same hcl] at hlo
 refine mv_ rfl (wl_ov (ov_len es27 rfl) rfl (mv_ rfl (nn_ (gw_block ?_))))
 refine gw_loop (γ := Nat) (fun (k3 : Nat) => k3 ≤ n ∧ l.any (fun x => inK x.key (pathN l (n + 1) x.key)) = (l.drop k3).any (fun x => inK x.key (pathN l (n + 1) x.key))) (fun (k3 : Nat) => [(0, .slice A n c), (59, .slice A n c), (60, .int .i64 ((n : Nat) : Int)), (61, .int .i64 ((k3 : Nat) : Int))]) (fun (k3 : Nat) => fun _ => True) (fun (k3 : Nat) => []) (fun (k3 : Nat) => []) (fun (k3 : Nat) => [SlOld csEnc 2 90 w.heap.size none A n l]) (fun (k3 : Nat) => n - k3) 0 ⟨Nat.zero_le _, rfl⟩ ⟨rfl, rfl, rfl, rfl, trivial⟩ (fun _ hm => hm.pick [] [] [0] rfl rfl) ?_
 intro k3 hinv
 replace hinv : k3 ≤ n ∧ l.any (fun x => inK x.key (pathN l (n + 1) x.key)) = (l.drop k3).any (fun x => inK x.key (pathN l (n + 1) x.key)) := hinv
 refine sr_ ?_
 have hlo2 : classesE l = if l.any (fun x => inK x.key (pathN l (n + 1) x.key)) = true then 14 else 0 := by rw [hlo]; unfold loopB; rw [hlen]
 refine wl_ov (ov_lss rfl rfl) rfl (nn_ (gw_seq ?_))
 refine gw_cond rfl (fun hh => ?_) (fun hh => ?_)
 ·have hk : ((k3 : Nat) : Int) < ((n : Nat) : Int) := by simpa using hh
  clear hh
  refine gw_skip (nx_then (gw_seq (gw_block (sr_ ?_))))
  obtain ⟨b, off, hA, _, _⟩ := hl.get (by omega)
  subst hA
  obtain ⟨x, hx⟩ : ∃ x, l[k3]? = some x := ⟨_, List.getElem?_eq_getElem (by omega)⟩
  obtain ⟨ke, up⟩ := x
  have hat := any_at (p := (fun x => inK x.key (pathN l (n + 1) x.key))) hx
  have hk2 : ke.size ≤ 1000000 := (hok _ (List.mem_of_getElem? hx)).1
  have hix : 0 ≤ ixP (csP ke) l 0 := by
   rcases ixP_spec (p := csP ke) l 0 with ⟨_, h⟩ | ⟨j, x, h, _⟩
   ·have := h _ (List.mem_of_getElem? hx)
    simp [csP] at this
   omega
  refine wl_ov (ov_index (j := k3) es27 rfl rfl (by omega)) rfl ?_
  refine wl_ov (ov_elem (vs := [.string ke, .string up]) rz90 rfl (fun _ hm => (hm.fact 0 rfl).1) hx rfl rfl) rfl ?_
  refine wl_alloc zc90 rfl fun g3 => ?_
  refine wl_stores (cs' := [.string ke, .string up]) 0 rz90 rfl rfl rfl rfl rfl rfl rfl rfl ?_
  refine nn_ (gw_seq ?_)
  refine gd (fun wz => Blk wz g3 90 [.string ke, .string up] ∧ (SlOld csEnc 2 90 w.heap.size none (some ⟨b, off, none⟩) n l) wz ∧ True) mixed (fun _ hm => ⟨hm.bl 0, hm.fa 0, trivial⟩) fun z => ?_
  refine wt 0 7 1 rfl z (ov_move rfl) ?_
  refine wt 1 7 3 rfl z (ov_field fo90_0 rfl rfl) ?_
  refine wt 2 7 7 rfl z (ov_load sc9 rfl (fun _ hm => hm.1) rfl) ?_
  refine wt 4 7 23 rfl z (ov_field fo90_0 rfl rfl) ?_
  refine wt 5 7 55 rfl z (ov_load sc9 rfl (fun _ hm => hm.1) rfl) ?_
  refine wa1 3 rfl ?_
  refine wl_callgo (γ := Option Addr × Nat × Nat) (val := (fun g => .slice g.1 g.2.1 g.2.2)) (φ := (fun g => (pathN l (n + 1) ke).length = g.2.1)) (fun g => ⟨.slice g.1 g.2.1 g.2.2, 9, 1, g.2.1, (pathN l (n + 1) ke).flatMap sgEnc⟩) rfl cb199 rfl rfl (fun wx hm => (ups_any l _ n c ke wx (hm.fact 0 rfl).1 hok (by omega)).mono fun _ _ ⟨A2, n2, c2, he, ho, hl2, hg⟩ => ⟨(A2, n2, c2), he, hl2, ho, hg⟩) ?_
  rintro ⟨A2, n2, c2⟩ hpl
  dsimp only at hpl ⊢
  have hpb := pathN_len l (n + 1) ke
  refine wl_nil ?_
  refine nw 7 63 (fun _ hm => ⟨hm.bl 0, hm.fa 0, trivial⟩) fun z => ?_
  refine wa1 6 rfl ?_
  refine wl_callv rfl cb198 rfl rfl (fun wx hm => (contains_str (pathN l (n + 1) ke) A2 n2 c2 ke wx (SlT.ofOwn sg_len (hm.ownI 0 rfl) hpl) (by omega))) ?_
  refine wl_nil ?_
  refine nw 7 127 (fun _ hm => ⟨hm.bl 0, hm.fa 0, trivial⟩) fun z => ?_
  refine wa_done (by kernel_rfl) ?_
  refine nx_then ?_
  refine gw_cond rfl (fun hh => ?_) (fun hh => ?_)
  ·have h33 : (inK ke (pathN l (n + 1) ke)) = true := by simpa using hh
   clear hh
   refine sr_ (sg_ rfl (nn_ ?_))
   refine gw_ret ?_
   refine nx_blk_ret (nx_then_ret (nx_then_ret (nx_blk_ret (nx_then_ret ?_))))
   refine nx_ret1 rfl rfl fun wx hm => ?_
   exact ⟨ret_int (by rw [hlo2, if_pos (by rw [hinv.2, hat, h33]; rfl)]), hm.g⟩
  have h33 : (inK ke (pathN l (n + 1) ke)) = false := by simpa using hh
  clear hh
  refine gw_skip (nx_blk_nrm (nx_then (gw_region (ad_ rfl rfl (mv_ rfl (wl_nil ?_))))))
  exact nx_round (k3 + 1) ⟨by omega, by rw [hinv.2, hat, h33]; rfl⟩ (by omega) ⟨rfl, rfl, rfl, (some_int (by omega)), trivial⟩ (fun _ hm => hm.pick [] [] [0] rfl rfl)
 have hk : ¬ (((k3 : Nat) : Int) < ((n : Nat) : Int)) := by simpa using hh
 clear hh
 refine gw_exit ?_
 refine nx_then_exit (nx_then_exit ?_)
 refine nx_blk_here ?_
 refine nx_then (sr_ (sg_ rfl (nn_ ?_)))
 refine gw_ret ?_
 refine nx_ret1 rfl rfl fun wx hm => ?_
 exact ⟨ret_int (by rw [hlo2, if_neg (by rw [hinv.2, any_end (by omega)]; decide)]), hm.g⟩
end Go.Proofs.YtiendebcdicjnaaGreatDoor
namespace Go.Proofs.YtiendebcdicjnaaGreatDoor
open Go.RowKit
section
variable {P : Program} {nn : Nat} {S : List (Nat × Value)} {Z : World → Prop} {d : Nat} {ty : TypeId} {pos : String} {aft : Array Edge}
def kindTy (P : Program) (t : TypeId) : Option IntKind :=
  match P.underlying t with
  | some (.int k) => some k
  | _ => none
theorem kindTy_u {t : TypeId} {k : IntKind} (h : kindTy P t = some k) : P.underlying t = some (.int k) := by
  unfold kindTy at h
  cases hu : P.underlying t with
  | none => simp [hu] at h
  | some dd => cases dd <;> simp [hu] at h <;> simp [h]
theorem ov_u64 {s t : TypeId} {k : IntKind} {x : Operand} {a : Nat} (hs : kindTy P s = some .i64) (ht : kindTy P t = some .u64) (hx : rd S x = some (.int k (a : Int))) (ha : a ≤ 9223372036854775807) : OV P nn S Z ⟨some d, .convert s t x, ty, pos, aft, none⟩ (.int .u64 (a : Int)) := fun b w hb hm => by
  have h1 : IntKind.u64.wrap (a : Int) = (a : Int) := by rw [IntKind.wrap_u64]; omega
  have hk : P.intKind t = .u64 := by simp [Program.intKind, kindTy_u ht]
  have h2 := run_convert_int (P := P) w s t k (a : Int) (by rw [kindTy_u hs]; rfl) (by rw [hk]; exact kindTy_u ht)
  rw [hk, h1] at h2
  simp [execOp, hb.eval hx, h2]
theorem ov_i64 {s t : TypeId} {k : IntKind} {x : Operand} {a : Nat} (hs : (kindTy P s).isSome = true) (ht : kindTy P t = some .i64) (hx : rd S x = some (.int k (a : Int))) (ha : a ≤ 9223372036854775807) : OV P nn S Z ⟨some d, .convert s t x, ty, pos, aft, none⟩ (.int .i64 (a : Int)) := fun b w hb hm => by
  have h1 : IntKind.i64.wrap (a : Int) = (a : Int) := IntWalk.i64_in _ (by omega)
  have hk : P.intKind t = .i64 := by simp [Program.intKind, kindTy_u ht]
  obtain ⟨k', hk'⟩ := Option.isSome_iff_exists.1 hs
  have h2 := run_convert_int (P := P) w s t k (a : Int) (by rw [kindTy_u hk']; rfl) (by rw [hk]; exact kindTy_u ht)
  rw [hk, h1] at h2
  simp [execOp, hb.eval hx, h2]
theorem ov_shru1 {t t' : TypeId} {x y : Operand} {a : Nat} (hx : rd S x = some (.int .u64 (a : Int))) (hy : rd S y = some (.int .u64 1)) : OV P nn S Z ⟨some d, .binOp .shr t x y t', ty, pos, aft, none⟩ (.int .u64 ((a / 2 : Nat) : Int)) :=
  ov_bin hx hy (fun w => by simp [go_sem, IntKind.bits])
end
end Go.Proofs.YtiendebcdicjnaaGreatDoor
namespace Go.Proofs
open Go.Shelf
def Tryz.lays125_ren : Go.Shelf.Ren := ⟨fun | 125 => 124 | 128 => 195 | 129 => 196 | n => n, fun | 46 => 214 | 3 => 3 | 51 => 289 | 53 => 291 | 4 => 4 | 5 => 5 | 9 => 9 | n => n, fun | n => n⟩
theorem Tryz.lays125 : Go.Proofs.Lays.n125 Tryz.prog Tryz.lays125_ren := {
  mixed := by kernel_rfl
  f125 := Tryz.func124.trans (congrArg some (by kernel_rfl))
  f128 := Tryz.func195.trans (congrArg some (by kernel_rfl))
  f129 := Tryz.func196.trans (congrArg some (by kernel_rfl))
  t3 := Tryz.underlying3
  a3 := Tryz.isAgg3
  z3 := Tryz.sizeOf3
  v3 := Tryz.zeroValue3
  t4 := Tryz.underlying4
  a4 := Tryz.isAgg4
  z4 := Tryz.sizeOf4
  v4 := Tryz.zeroValue4
  t5 := Tryz.underlying5
  a5 := Tryz.isAgg5
  z5 := Tryz.sizeOf5
  v5 := Tryz.zeroValue5
  t9 := Tryz.underlying9
  a9 := Tryz.isAgg9
  z9 := Tryz.sizeOf9
  v9 := Tryz.zeroValue9
  t46 := Tryz.underlying214
  a46 := Tryz.isAgg214
  z46 := Tryz.sizeOf214
  v46 := Tryz.zeroValue214
  t51 := Tryz.underlying289
  a51 := Tryz.isAgg289
  z51 := Tryz.sizeOf289
  v51 := Tryz.zeroValue289
  t53 := Tryz.underlying291
  a53 := Tryz.isAgg291
  z53 := Tryz.sizeOf291
  v53 := Tryz.zeroValue291 }
end Go.Proofs
namespace Go.Proofs
open Go.Shelf
def Tryz.lays106_ren : Go.Shelf.Ren := ⟨fun | 106 => 61 | 213 => 125 | 265 => 197 | n => n, fun | 9 => 9 | 3 => 3 | n => n, fun | n => n⟩
theorem Tryz.lays106 : Go.Proofs.Lays.n106 Tryz.prog Tryz.lays106_ren := {
  mixed := by kernel_rfl
  f106 := Tryz.func61.trans (congrArg some (by kernel_rfl))
  f213 := Tryz.func125.trans (congrArg some (by kernel_rfl))
  f265 := Tryz.func197.trans (congrArg some (by kernel_rfl))
  t3 := Tryz.underlying3
  a3 := Tryz.isAgg3
  z3 := Tryz.sizeOf3
  v3 := Tryz.zeroValue3
  t9 := Tryz.underlying9
  a9 := Tryz.isAgg9
  z9 := Tryz.sizeOf9
  v9 := Tryz.zeroValue9 }
end Go.Proofs
namespace Go.Proofs.YtiendebcdicjnaaGreatDoor
open Go.RowKit
theorem cmpB_eq : ∀ a b : List UInt8, Lib.compareBytes a b = if Go.Op.bytesLess a b = true then -1 else if (Go.Op.bytesLess a b || a == b) = false then 1 else 0
  | [], [] => rfl
  | [], b :: y => by simp [Lib.compareBytes, Go.Op.bytesLess]
  | a :: x, [] => by simp [Lib.compareBytes, Go.Op.bytesLess]
  | a :: x, b :: y => by
    have ih := cmpB_eq x y
    unfold Lib.compareBytes Go.Op.bytesLess
    by_cases h1 : a < b
    · simp [h1]
    · by_cases h2 : b < a
      · have h3 : ¬ a = b := fun e => by subst e; exact h1 h2
        simp [h1, h2, h3]
      · have h3 : a = b := by
          rcases Decidable.em (a = b) with h | h
          · exact h
          · rcases UInt8.lt_or_lt_of_ne h with h | h
            · exact absurd h h1
            · exact absurd h h2
        subst h3
        simp only [h1, if_false, ih, decide_false, Bool.false_or, beq_self_eq_true, Bool.true_and, List.cons_beq_cons]
theorem strCompare_any (a b : ByteArray) (w : World) : Calls Tryz.prog 61 #[.string a, .string b] w (fun e w' => e = .returned (.int .i64 (cmpS a b)) ∧ w.grownBy w' none) := by
  have hcon := Any.strings_Compare Tryz.lays106 a b w
  refine Calls.mono hcon ?_
  rintro e w' ⟨rfl, rfl⟩
  refine ⟨?_, World.grownBy.refl _ _⟩
  unfold cmpS
  rw [cmpB_eq, ByteArray.toList_eq, ByteArray.toList_eq]
theorem bitsLen_any (n : Nat) (w : World) (hn : n ≤ 1000000) : Calls Tryz.prog 124 #[.int .u64 ((n : Nat) : Int)] w (fun e w' => ∃ v : Int, e = .returned (.int .i64 v) ∧ w.grownBy w' none) := by
  have hcon := Any.bits_Len Tryz.lays125 ((n : Nat) : Int) w (by omega) (by omega)
  refine Calls.mono hcon ?_
  rintro e w' ⟨rfl, rfl⟩
  exact ⟨_, rfl, World.grownBy.refl _ _⟩
end Go.Proofs.YtiendebcdicjnaaGreatDoor
namespace Go.Proofs.YtiendebcdicjnaaGreatDoor
open Go.RowKit
theorem info_lg : (Tryz.prog.info? 68).map (·.size) = some 9 := by kernel_rfl
theorem rd_neq (at_ : Int) (st : ByteArray) (m f : Int) (w : World) :
    (binOp .neq 66 (.agg #[.int .i64 at_, .string st, .int .i64 m, .int .i64 f]) (.agg #[.int .i64 (-1), .string ⟨#[]⟩, .int .i64 0, .int .i64 0])).run Tryz.prog w = .ok (.bool (rdOut ⟨at_, st, m, f⟩)) w := by
  have hS : Tryz.prog.underlying 66 = some (.struct (Tryz.prog.fieldsOf 66)) := by kernel_rfl
  have hp : Tryz.prog.stoodInHeld 66 = false := by kernel_rfl
  rw [run_neq_struct, show (10000 : Nat) = 9999 + 1 from rfl, run_equalIn_agg w 9999 66 _ _ hS hp]
  simp only [Program.fieldsOf, Tryz.underlying66]
  have u3 := Tryz.underlying3
  have u9 := Tryz.underlying9
  go_simp
  by_cases h1 : at_ = -1 <;> by_cases h2 : st.toList = [] <;> by_cases h3 : m = 0 <;> by_cases h4 : f = 0 <;> simp [rdOut, h1, h2, h3, h4]
theorem firstE_zero (x : Int) : firstE [0, x] = x := by
  simp only [firstE]; split <;> simp_all
theorem legE_stop1 {fr : Int} {p : Option Lg} {last : Bool} {g : Lg} {e : Int} (h : firstE [whenE (!keyB g.veh) 5, readingE g.out] = e) (hne : e ≠ 0) : legE fr p last g = e := by
  unfold legE
  simp only [firstE] at h ⊢
  split
  · rename_i h1
    rw [if_pos h1] at h
    split
    · rename_i h2
      rw [if_pos h2] at h
      exact absurd h.symm hne
    · rename_i h2
      rw [if_neg h2] at h
      exact h
  · rename_i h1
    rw [if_neg h1] at h
    exact h
theorem legE_pass1 {fr : Int} {p : Option Lg} {last : Bool} {g : Lg} (h : firstE [whenE (!keyB g.veh) 5, readingE g.out] = 0) : legE fr p last g = firstE [legPrevE fr p g, legInE last g] := by
  have := firstE_two h
  unfold legE
  rw [this.1, this.2]
  rfl
set_option maxRecDepth 100000 in
set_option maxHeartbeats 1000000 in
theorem checkLeg_any (key driver : ByteArray) (fr to_ : Int) (l : List Lg) (A : Option Addr) (n c i : Nat) (g : Lg) (w : World) (hl : SlT lgEnc 9 68 w A n l) (hi : l[i]? = some g) (hok : ∀ g ∈ l, LgOk g) (hn : n ≤ 1000000) :
    Calls Tryz.prog 119 #[.agg #[.string key, .string driver, .int .i64 fr, .int .i64 to_, .slice A n c], .int .i64 (i : Int)] w (GotE w (legE fr (prevOf l i) (decide (i + 1 = n)) g)) := by
  have hin : i < n := by have := (List.getElem?_eq_some_iff.1 hi).1; have := hl.len; omega
  obtain ⟨b, off, rfl, hbl, hrg⟩ := hl.get (by omega)
  have hgo := hok g (List.mem_of_getElem? hi)
  have hpv : ∀ q, l[i - 1]? = some q → LgOk q := fun q hq => hok q (List.mem_of_getElem? hq)
  have hr0 := hrg i g hi
  obtain ⟨E1, hE1⟩ : ∃ E, E = firstE [whenE (!keyB g.veh) 5, readingE g.out] := ⟨_, rfl⟩
  have hstop := fun (h : E1 ≠ 0) => legE_stop1 (fr := fr) (p := prevOf l i) (last := decide (i + 1 = n)) hE1.symm h
  have hpass := fun (h : E1 = 0) => legE_pass1 (fr := fr) (p := prevOf l i) (last := decide (i + 1 = n)) (g := g) (hE1.symm.trans h)
  have Hstop := Lib.hid hstop
  have Hpass := Lib.hid hpass
  obtain ⟨R, hR⟩ : ∃ R, R = legE fr (prevOf l i) (decide (i + 1 = n)) g := ⟨_, rfl⟩
  rw [← hR] at Hstop Hpass ⊢
  obtain ⟨veh, ⟨a1, s1, m1, f1⟩, ⟨a2, s2, m2, f2⟩⟩ := g
  have cK : ∀ w, Calls Tryz.prog 117 #[.string veh] w fun e w' => e = .returned (.bool (keyB veh)) ∧ w' = w := fun w => flipw (isKey_any _ _ (by have := hgo.1; simp at this; omega))
  have hE1' : E1 = firstE [whenE (!keyB veh) 5, readingE ⟨a1, s1, m1, f1⟩] := hE1
  generalize keyB veh = K at cK hE1'
  have hr : w.rangeAt b (off + i * 9) [.string veh, .int .i64 a1, .string s1, .int .i64 m1, .int .i64 f1, .int .i64 a2, .string s2, .int .i64 m2, .int .i64 f2] := hr0
  have ho1 : RdOk ⟨a1, s1, m1, f1⟩ := hgo.2.1
  have ho2 : RdOk ⟨a2, s2, m2, f2⟩ := hgo.2.2
  have CK := Lib.hid cK
  have HE1 := Lib.hid hE1'
  have Hrg := Lib.hid hrg
  have Ho1 := Lib.hid ho1
  have Ho2 := Lib.hid ho2
  have hr' := fun (o : Obj) => (show (w.alloc o).rangeAt b (off + i * 9) [.string veh, .int .i64 a1, .string s1, .int .i64 m1, .int .i64 f1, .int .i64 a2, .string s2, .int .i64 m2, .int .i64 f2] from fun j v hv => (World.cell?_alloc_lt w o _ hbl).trans (hr j v hv))
  clear hstop hpass hE1 hE1' cK hrg ho1 ho2 hr0 hr hgo hR
  go_enter Tryz.func119, Tryz.ntmps119
  go_wp2_with (with_reducible refine wpList_load_rng rfl 68 (.tmp 11) rfl b (off + i * 9) rfl _ _ (hr' _) Tryz.underlying68 rfl 9 info_lg rfl ?_)
  refine wp_region_still_tail 7 (by kernel_rfl) (by kernel_rfl) ?_
  change wpStill _ _ (World.drew _) _ _ _
  simp only [List.take_succ_cons, List.take_zero, List.drop_succ_cons, List.drop_zero]
  repeat still_step
  still_call (CK.out _)
  repeat still_step
  still_call (flipw (when_any _ _ _))
  repeat still_step
  refine wpStill_nil ?_
  change wpList _ _ _ _ _ (World.drew _)
  go_wp2_with fail
  refine (checkReading_any ⟨a1, s1, m1, f1⟩ _ Ho1.out).mono ?_
  rintro e w1 ⟨rfl, hg1⟩
  obtain ⟨R1, hR1⟩ : ∃ R, R = readingE ⟨a1, s1, m1, f1⟩ := ⟨_, rfl⟩
  rw [← hR1] at HE1 ⊢
  clear hR1
  have hz := hg1.size
  simp at hz
  have hb0 : Blk w1 w.heap.size 64 [.string key, .string driver, .int .i64 fr, .int .i64 to_, .slice (some ⟨b, off, none⟩) n c] := (((Blk.at_ w rfl _ _).alloc _).drew).grown hg1 (by simp)
  have hb1 : Blk w1 (w.heap.size + 1) 68 [.string veh, .int .i64 a1, .string s1, .int .i64 m1, .int .i64 f1, .int .i64 a2, .string s2, .int .i64 m2, .int .i64 f2] := ((Blk.at_ (w.alloc _) (by simp) _ _).drew).grown hg1 (by simp)
  have hgw : w.grownBy w1 none := grow_trans (grow_drew (grow_alloc (grow_alloc (World.grownBy.refl _ _) _) _)) hg1
  clear hg1 hr'
  go_wp2_with fail
  refine (first_any [whenE (!K) 5, R1] _ _ _ _ (Blk.at_ _ rfl _ _) (by simp)).mono ?_
  rintro e w2 ⟨rfl, rfl⟩
  rw [← HE1.out]
  obtain ⟨w2, hw2⟩ : ∃ w2, w2 = w1.alloc (.cells (List.map (Value.int .i64) [whenE (!K) 5, R1]).toArray 48) := ⟨_, rfl⟩
  have hg2 : w1.grownBy w2 none := by rw [hw2]; exact grow_alloc (World.grownBy.refl _ _) _
  rw [← hw2]
  have hb0 := hb0.grown hg2 (by simp)
  have hb1 := hb1.grown hg2 (by simp)
  have hgw := grow_trans hgw hg2
  have hz := Nat.lt_of_lt_of_le (show w.heap.size + 1 < w1.heap.size by omega) hg2.size
  clear hw2 hg2
  by_cases hE0 : E1 = 0
  · have hpass := Hpass.out hE0
    have HP := Lib.hid hpass
    subst hE0
    clear hpass
    have h2 := hb0.cell_of (i := 2) (v := .int .i64 fr) rfl
    have h3 := hb0.cell_of (i := 3) (v := .int .i64 to_) rfl
    have h4 := hb0.cell_of (i := 4) (v := .slice (some ⟨b, off, none⟩) n c) rfl
    have g0 := hb1.cell_of (i := 0) (v := .string veh) rfl
    have g1 := hb1.cell_of (i := 1) (v := .int .i64 a1) rfl
    have g2 := hb1.cell_of (i := 2) (v := .string s1) rfl
    have g3 := hb1.cell_of (i := 3) (v := .int .i64 m1) rfl
    have g4 := hb1.cell_of (i := 4) (v := .int .i64 f1) rfl
    have g5 := hb1.cell_of (i := 5) (v := .int .i64 a2) rfl
    have g6 := hb1.cell_of (i := 6) (v := .string s2) rfl
    have g7 := hb1.cell_of (i := 7) (v := .int .i64 m2) rfl
    have g8 := hb1.cell_of (i := 8) (v := .int .i64 f2) rfl
    go_upto_if 27 with fail
    go_cut [] (fun wx => legPrevE fr (prevOf l i) ⟨veh, ⟨a1, s1, m1, f1⟩, ⟨a2, s2, m2, f2⟩⟩ = 0 ∧ w2.grownBy wx none)
    case first =>
      by_cases hi0 : i = 0
      · subst hi0
        have hq : (((0 : Nat) : Int) == 0) = true := rfl
        have hV : legPrevE fr (prevOf l 0) ⟨veh, ⟨a1, s1, m1, f1⟩, ⟨a2, s2, m2, f2⟩⟩ = if a1 = fr then 0 else 7 := rfl
        have HV := Lib.hid hV
        by_cases hf : a1 = fr
        · have hne : (a1 != fr) = false := by simpa using hf
          have HW := Lib.hid (show legPrevE fr (prevOf l 0) ⟨veh, ⟨a1, s1, m1, f1⟩, ⟨a2, s2, m2, f2⟩⟩ = 0 by rw [HV.out, if_pos hf])
          clear hV hf
          go_wp2_with fail
          go_meet
          exact ⟨HW.out, World.grownBy.refl _ _⟩
        · have hne : (a1 != fr) = true := by simpa using hf
          have HW := Lib.hid (show legPrevE fr (prevOf l 0) ⟨veh, ⟨a1, s1, m1, f1⟩, ⟨a2, s2, m2, f2⟩⟩ = 7 by rw [HV.out, if_neg hf])
          clear hV hf
          go_wp2_with fail
          go_ret
          exact ⟨ret_int (by rw [HP.out, HW.out]; rfl), hgw⟩
      · have hq : ((i : Int) == 0) = false := by simpa using hi0
        obtain ⟨⟨qveh, ⟨qa1, qs1, qm1, qf1⟩, ⟨qa2, qs2, qm2, qf2⟩⟩, hq1⟩ : ∃ q, l[i - 1]? = some q := ⟨_, List.getElem?_eq_getElem (by have := (List.getElem?_eq_some_iff.1 hi).1; omega)⟩
        have hpo : prevOf l i = some ⟨qveh, ⟨qa1, qs1, qm1, qf1⟩, ⟨qa2, qs2, qm2, qf2⟩⟩ := by simp [prevOf, hi0, hq1]
        have hrq0 := Hrg.out (i - 1) _ hq1
        have hrq : w.rangeAt b (off + (i - 1) * 9) [.string qveh, .int .i64 qa1, .string qs1, .int .i64 qm1, .int .i64 qf1, .int .i64 qa2, .string qs2, .int .i64 qm2, .int .i64 qf2] := hrq0
        have hki : (i : Int) - 1 = ((i - 1 : Nat) : Int) := by omega
        have hk1n : (i : Int) - 1 < (n : Int) := by omega
        have hr2 := rangeAt_grow hrq hbl hgw
        have hV : legPrevE fr (prevOf l i) ⟨veh, ⟨a1, s1, m1, f1⟩, ⟨a2, s2, m2, f2⟩⟩ = if a1 = qa2 then (if eqS veh qveh then 16 else if eqS s1 qs2 then 0 else 8) else 7 := by rw [hpo]; rfl
        have HV := Lib.hid hV
        clear hV hpo hrq hrq0 hq1 hi0
        go_wp2_with (with_reducible refine wpList_load_rng rfl 68 (.tmp 39) rfl b (off + (i - 1) * 9) rfl _ _ hr2 Tryz.underlying68 rfl 9 info_lg rfl ?_)
        · go_ret
          rename_i h1
          have h1' : ¬ a1 = qa2 := by simpa using h1
          exact ⟨ret_int (by rw [HP.out, HV.out, if_neg h1']; rfl), grow_alloc hgw _⟩
        · go_ret
          rename_i h1 h2
          have h1' : a1 = qa2 := by simpa using h1
          have h2' : eqS veh qveh = true := h2
          exact ⟨ret_int (by rw [HP.out, HV.out, if_pos h1', if_pos h2']; rfl), grow_alloc hgw _⟩
        · go_ret
          rename_i h1 h2 h3
          have h1' : a1 = qa2 := by simpa using h1
          have h2' : ¬ eqS veh qveh = true := by simpa [eqS] using h2
          have h3' : ¬ eqS s1 qs2 = true := by simpa [eqS] using h3
          exact ⟨ret_int (by rw [HP.out, HV.out, if_pos h1', if_neg h2', if_neg h3']; rfl), grow_alloc hgw _⟩
        · go_meet
          rename_i h1 h2 h3
          have h1' : a1 = qa2 := by simpa using h1
          have h2' : ¬ eqS veh qveh = true := by simpa [eqS] using h2
          have h3' : eqS s1 qs2 = true := by simpa [eqS] using h3
          exact ⟨by rw [HV.out, if_pos h1', if_neg h2', if_pos h3'], grow_alloc (World.grownBy.refl _ _) _⟩
    case rest =>
      obtain ⟨hp0, hg3⟩ := hcut
      obtain ⟨w3, hw3⟩ : ∃ w3 : World, w3 = wc := ⟨_, rfl⟩
      rw [← hw3] at hg3 ⊢
      clear hw3
      have hb0 := hb0.grown hg3 (by simp)
      have hb1 := hb1.grown hg3 (by simp)
      have hgw := grow_trans hgw hg3
      have HR := Lib.hid (show R = firstE [0, legInE (decide (i + 1 = n)) ⟨veh, ⟨a1, s1, m1, f1⟩, ⟨a2, s2, m2, f2⟩⟩] by rw [HP.out, hp0])
      have k4 := hb0.cell_of (i := 4) (v := .slice (some ⟨b, off, none⟩) n c) rfl
      have k1 := hb1.cell_of (i := 1) (v := .int .i64 a1) rfl
      have k5 := hb1.cell_of (i := 5) (v := .int .i64 a2) rfl
      have k6 := hb1.cell_of (i := 6) (v := .string s2) rfl
      have k7 := hb1.cell_of (i := 7) (v := .int .i64 m2) rfl
      have k8 := hb1.cell_of (i := 8) (v := .int .i64 f2) rfl
      clear hp0 HP h2 h3 h4 g0 g1 g2 g3 g4 g5 g6 g7 g8
      by_cases ha : a2 = -1
      · subst ha
        have hq := fun w => rd_neq (-1) s2 m2 f2 w
        obtain ⟨Z, hZ⟩ : ∃ Z, Z = rdOut ⟨-1, s2, m2, f2⟩ := ⟨_, rfl⟩
        rw [← hZ] at hq
        have HZ := Lib.hid hZ
        have hlt : decide ((i : Int) < (n : Int) - 1) = !decide (i + 1 = n) := by
          by_cases hl : i + 1 = n <;> simp [hl] <;> omega
        obtain ⟨L, hL⟩ : ∃ L, L = decide (i + 1 = n) := ⟨_, rfl⟩
        rw [← hL] at hlt HR
        clear hZ hL
        go_wp2_with fail
        refine wp_region_still_tail 12 (by kernel_rfl) (by kernel_rfl) ?_
        change wpStill _ _ (World.drew _) _ _ _
        simp only [List.take_succ_cons, List.take_zero, List.drop_succ_cons, List.drop_zero]
        repeat still_step
        still_call (flipw (when_any _ _ _))
        repeat still_step
        still_call (flipw (when_any _ _ _))
        repeat still_step
        refine wpStill_nil ?_
        change wpList _ _ _ _ _ (World.drew _)
        go_wp2_with fail
        refine (first_any [whenE Z 3, whenE (!L) 11] _ _ _ _ ((Blk.at_ _ rfl _ _).drew) (by simp)).mono ?_
        rintro e w4 ⟨rfl, rfl⟩
        go_wp2_with fail
        go_ret
        refine ⟨ret_int ?_, grow_drew (grow_alloc hgw _)⟩
        rw [HR.out, HZ.out]; simp [legInE, firstE_zero]
      · have hne : (a2 == -1) = false := by simpa using ha
        have hfin := fun (e : Int) (h : e = firstE [readingE ⟨a2, s2, m2, f2⟩, whenE (decide (a2 ≤ a1)) 7]) => (show e = R by rw [HR.out, h]; simp only [legInE, if_neg ha, firstE_zero])
        have Hfin := Lib.hid hfin
        clear hfin
        go_wp2_with fail
        go_region_held3 (fun wx => wx.cell? ⟨w.heap.size + 1, 1, none⟩ = some (.int .i64 a1) ∧ wx.cell? ⟨w.heap.size + 1, 5, none⟩ = some (.int .i64 a2) ∧ wx.cell? ⟨w.heap.size + 1, 6, none⟩ = some (.string s2) ∧ wx.cell? ⟨w.heap.size + 1, 7, none⟩ = some (.int .i64 m2) ∧ wx.cell? ⟨w.heap.size + 1, 8, none⟩ = some (.int .i64 f2))
          (first
            | exact ⟨k1, k5, k6, k7, k8⟩
            | exact q4
            | exact q5 _)
          (first
            | (go_at_call 184; refine (checkReading_any ⟨a2, s2, m2, f2⟩ _ Ho2.out).mono ?_; rintro e w4 ⟨rfl, hg4⟩; have hb2 : Blk w4 (w.heap.size + 1) 68 [.string veh, .int .i64 a1, .string s1, .int .i64 m1, .int .i64 f1, .int .i64 a2, .string s2, .int .i64 m2, .int .i64 f2] := (hb1.drewN 1).grown hg4 (by simp); have q5 := fun o => And.intro ((hb2.alloc o).cell_of (i := 1) (v := .int .i64 a1) rfl) (And.intro ((hb2.alloc o).cell_of (i := 5) (v := .int .i64 a2) rfl) (And.intro ((hb2.alloc o).cell_of (i := 6) (v := .string s2) rfl) (And.intro ((hb2.alloc o).cell_of (i := 7) (v := .int .i64 m2) rfl) ((hb2.alloc o).cell_of (i := 8) (v := .int .i64 f2) rfl)))); have q4 := And.intro (hb2.cell_of (i := 1) (v := .int .i64 a1) rfl) (And.intro (hb2.cell_of (i := 5) (v := .int .i64 a2) rfl) (And.intro (hb2.cell_of (i := 6) (v := .string s2) rfl) (And.intro (hb2.cell_of (i := 7) (v := .int .i64 m2) rfl) (hb2.cell_of (i := 8) (v := .int .i64 f2) rfl)))))
            | (go_at_call 42; refine (when_any _ _ _).mono ?_; rintro e w5 ⟨rfl, rfl⟩)
            | (go_at_call 41; refine (first_any [readingE ⟨a2, s2, m2, f2⟩, whenE (decide (a2 ≤ a1)) 7] _ _ _ _ (Blk.at_ _ rfl _ _) (by simp)).mono ?_; rintro e w6 ⟨rfl, rfl⟩))
        all_goals
          go_wp2_with fail
          go_ret
          exact ⟨ret_int (Hfin.out _ rfl), grow_alloc (grow_trans (grow_drew hgw) hg4) _⟩
  · have hne : (E1 != 0) = true := by simpa using hE0
    have HR := Lib.hid (Hstop.out hE0)
    clear hE0
    go_wp2_with fail
    go_ret
    exact ⟨ret_int HR.out.symm, hgw⟩
end Go.Proofs.YtiendebcdicjnaaGreatDoor
namespace Go.Proofs.YtiendebcdicjnaaGreatDoor
open Go.RowKit
theorem b_ne_self (a : ByteArray) : (!(a.toList == a.toList)) = false := by simp
theorem i_ne_self (a : Int) : (!decide (a = a)) = false := by simp
theorem nan_string (a : ByteArray) (w : World) : Calls Tryz.prog 122 #[.string a] w (fun e w' => e = .returned (.bool false) ∧ w.grownBy w' none) := by
 refine gw_enter ⟨6, w, none, []⟩ Tryz.func122 rfl Tryz.ntmps122 rfl (mem0 (X := []) allF_nil allL_nil) ?_
 refine sr_ (sg_ rfl (nn_ (sr_ (mv_ rfl (mv_ rfl (wl_ov (ov_sneq rfl rfl) rfl ?_))))))
 refine wl_set 5 (v' := .bool false) rfl (congrArg Value.bool (b_ne_self a)) ?_
 refine sg_ rfl (nn_ ?_)
 refine gw_ret ?_
 refine nx_ret1 rfl rfl fun wx hm => ?_
 exact ⟨rfl, hm.g⟩
theorem cmp_string (a b : ByteArray) (w : World) : Calls Tryz.prog 52 #[.string a, .string b] w (fun e w' => e = .returned (.int .i64 (cmpS a b)) ∧ w.grownBy w' none) := by
 refine gw_enter ⟨20, w, none, []⟩ Tryz.func52 rfl Tryz.ntmps52 rfl (mem0 (X := []) allF_nil allL_nil) ?_
 refine sr_ (sg_ rfl (nn_ (sr_ (mv_ rfl ?_))))
 refine wl_callv rfl cb122 rfl rfl (fun wx hm => (nan_string _ wx)) ?_
 refine sg_ rfl (nn_ (sr_ (mv_ rfl ?_)))
 refine wl_callv rfl cb122 rfl rfl (fun wx hm => (nan_string _ wx)) ?_
 refine sg_ rfl (nn_ (gw_seq (sr_ (mv_ rfl (nn_ (cf_ rfl (gw_skip (nx_then (gw_seq (gw_seq ?_))))))))))
 refine gw_region (mv_ rfl (nn_ (cf_ rfl (gw_skip (nx_then (gw_seq (sr_ (mv_ rfl (mv_ rfl ?_)))))))))
 refine wl_ov (ov_slss rfl rfl) rfl ?_
 refine nn_ ?_
 refine gw_cond rfl (fun hh => ?_) (fun hh => ?_)
 ·have h1 : (Op.bytesLess a.toList b.toList) = true := by simpa using hh
  clear hh
  refine sr_ (sg_ rfl ?_)
  refine wl_set 4 (v' := .int .i64 (-1)) rfl rfl ?_
  refine nn_ ?_
  refine gw_ret ?_
  refine nx_then_ret ?_
  refine nx_ret1 rfl rfl fun wx hm => ?_
  refine ⟨?_, hm.g⟩
  unfold cmpS; rw [if_pos h1]
 have h1 : (Op.bytesLess a.toList b.toList) = false := by simpa using hh
 clear hh
 refine gw_skip (nx_then (gw_seq (sr_ (mv_ rfl (mv_ rfl ?_)))))
 refine wl_ov (ov_sgtr rfl rfl) rfl ?_
 refine nn_ ?_
 refine gw_cond rfl (fun hh => ?_) (fun hh => ?_)
 ·have h2 : (Op.bytesLess a.toList b.toList || a.toList == b.toList) = false := by simpa only [Bool.not_eq_true', Bool.not_eq_false'] using hh
  clear hh
  refine sr_ (sg_ rfl (nn_ ?_))
  refine gw_ret ?_
  refine nx_then_ret ?_
  refine nx_ret1 rfl rfl fun wx hm => ?_
  refine ⟨?_, hm.g⟩
  unfold cmpS; rw [if_neg (by rw [h1]; decide), if_pos h2]
 have h2 : (Op.bytesLess a.toList b.toList || a.toList == b.toList) = true := by simpa only [Bool.not_eq_true', Bool.not_eq_false'] using hh
 clear hh
 refine gw_skip (nx_then (sr_ (sg_ rfl (nn_ ?_))))
 refine gw_ret ?_
 refine nx_ret1 rfl rfl fun wx hm => ?_
 refine ⟨?_, hm.g⟩
 unfold cmpS; rw [if_neg (by rw [h1]; decide), if_neg (by rw [h2]; decide)]
theorem nan_int (a : Int) (w : World) : Calls Tryz.prog 121 #[.int .i64 a] w (fun e w' => e = .returned (.bool false) ∧ w.grownBy w' none) := by
 refine gw_enter ⟨6, w, none, []⟩ Tryz.func121 rfl Tryz.ntmps121 rfl (mem0 (X := []) allF_nil allL_nil) ?_
 refine sr_ (sg_ rfl (nn_ (sr_ (mv_ rfl (mv_ rfl (wl_ov (ov_neq rfl rfl) rfl ?_))))))
 refine wl_set 5 (v' := .bool false) rfl (congrArg Value.bool (i_ne_self a)) ?_
 refine sg_ rfl (nn_ ?_)
 refine gw_ret ?_
 refine nx_ret1 rfl rfl fun wx hm => ?_
 exact ⟨rfl, hm.g⟩
theorem cmp_int (a b : Int) (w : World) : Calls Tryz.prog 51 #[.int .i64 a, .int .i64 b] w (fun e w' => e = .returned (.int .i64 (cmpI a b)) ∧ w.grownBy w' none) := by
 refine gw_enter ⟨20, w, none, []⟩ Tryz.func51 rfl Tryz.ntmps51 rfl (mem0 (X := []) allF_nil allL_nil) ?_
 refine sr_ (sg_ rfl (nn_ (sr_ (mv_ rfl ?_))))
 refine wl_callv rfl cb121 rfl rfl (fun wx hm => (nan_int _ wx)) ?_
 refine sg_ rfl (nn_ (sr_ (mv_ rfl ?_)))
 refine wl_callv rfl cb121 rfl rfl (fun wx hm => (nan_int _ wx)) ?_
 refine sg_ rfl (nn_ (gw_seq (sr_ (mv_ rfl (nn_ (cf_ rfl (gw_skip (nx_then (gw_seq (gw_seq ?_))))))))))
 refine gw_region (mv_ rfl (nn_ (cf_ rfl (gw_skip (nx_then (gw_seq (sr_ (mv_ rfl (mv_ rfl (wl_ov (ov_lss rfl rfl) rfl (wl_nil ?_)))))))))))
 refine nx_then ?_
 refine gw_cond rfl (fun hh => ?_) (fun hh => ?_)
 ·have h1 : a < b := by simpa using hh
  clear hh
  refine sr_ (sg_ rfl ?_)
  refine wl_set 4 (v' := .int .i64 (-1)) rfl rfl ?_
  refine nn_ ?_
  refine gw_ret ?_
  refine nx_then_ret ?_
  refine nx_ret1 rfl rfl fun wx hm => ?_
  refine ⟨?_, hm.g⟩
  unfold cmpI; rw [if_pos h1]
 have h1 : ¬ (a < b) := by simpa using hh
 clear hh
 refine gw_skip (nx_then (gw_seq (sr_ (mv_ rfl (mv_ rfl ?_)))))
 refine wl_ov (ov_gtr rfl rfl) rfl ?_
 refine nn_ ?_
 refine gw_cond rfl (fun hh => ?_) (fun hh => ?_)
 ·have h2 : b < a := by simpa using hh
  clear hh
  refine sr_ (sg_ rfl (nn_ ?_))
  refine gw_ret ?_
  refine nx_then_ret ?_
  refine nx_ret1 rfl rfl fun wx hm => ?_
  refine ⟨?_, hm.g⟩
  unfold cmpI; rw [if_neg h1, if_pos h2]
 have h2 : ¬ (b < a) := by simpa using hh
 clear hh
 refine gw_skip (nx_then (sr_ (sg_ rfl (nn_ ?_))))
 refine gw_ret ?_
 refine nx_ret1 rfl rfl fun wx hm => ?_
 refine ⟨?_, hm.g⟩
 unfold cmpI; rw [if_neg h1, if_neg h2]
theorem or_two (a b : Int) (g T c : Nat) (w : World) (h : Blk w g T [.int .i64 a, .int .i64 b]) : Calls Tryz.prog 50 #[.slice (some ⟨g, 0, none⟩) 2 c] w (fun e w' => e = .returned (.int .i64 (firstE [a, b])) ∧ w.grownBy w' none) := by
 refine gw_enter ⟨18, w, none, []⟩ Tryz.func50 rfl Tryz.ntmps50 rfl (mem0 (X := [BlkOld w.heap.size none g T [.int .i64 a, .int .i64 b] ]) (allF_cons h.old allF_nil) (allL_cons BlkOld.lasts allL_nil)) ?_
 refine sr_ (sg_ rfl (nn_ (sr_ (sg_ rfl (nn_ (gw_seq (sr_ (mv_ rfl ?_))))))))
 refine wl_ov (ov_len es22 rfl) rfl ?_
 refine wl_set 7 (v' := .int .i64 2) rfl rfl ?_
 refine mv_ rfl (nn_ (gw_block ?_))
 refine gw_rounds 3 ?_
 refine gr_next ?_
 refine sr_ (wl_ov (ov_lss rfl rfl) rfl ?_)
 refine wl_set 9 (v' := .bool true) rfl (congrArg Value.bool (by decide)) ?_
 refine nn_ (gw_seq (ct_ rfl (gw_skip (nx_then (gw_seq (gw_block (sr_ ?_)))))))
 refine wl_ov (ov_index (j := 0) es22 rfl rfl (by decide)) rfl ?_
 refine wl_ov (ov_load (v := .int .i64 a) sc3 rfl (fun _ hm => (hm.fact 0 rfl).2) rfl) rfl ?_
 refine sg_ rfl (nn_ (sr_ (mv_ rfl (mv_ rfl (wl_ov (ov_neq rfl rfl) rfl (nn_ ?_))))))
 refine gw_cond rfl (fun hh => ?_) (fun hh => ?_)
 ·have h1 : ¬ (a = 0) := by simpa using hh
  clear hh
  refine sr_ (mv_ rfl (sg_ rfl (nn_ ?_)))
  refine gw_ret ?_
  refine nx_blk_ret (nx_then_ret (nx_then_ret (nx_blk_ret (nx_then_ret ?_))))
  refine nx_ret1 rfl rfl fun wx hm => ?_
  refine ⟨?_, hm.g⟩
  rw [firstE_pair, if_neg h1]
 have h1 : a = 0 := by simpa using hh
 clear hh
 refine gw_skip (nx_blk_nrm (nx_then (gw_region (ad_ rfl rfl ?_))))
 refine wl_set 16 (v' := .int .i64 1) rfl rfl ?_
 refine mv_ rfl (wl_nil ?_)
 refine nx_next ?_
 refine gr_next ?_
 refine sr_ (wl_ov (ov_lss rfl rfl) rfl ?_)
 refine wl_set 9 (v' := .bool true) rfl (congrArg Value.bool (by decide)) ?_
 refine nn_ (gw_seq (ct_ rfl (gw_skip (nx_then (gw_seq (gw_block (sr_ ?_)))))))
 refine wl_ov (ov_index (j := 1) es22 rfl rfl (by decide)) rfl ?_
 refine wl_ov (ov_load (v := .int .i64 b) sc3 rfl (fun _ hm => (hm.fact 0 rfl).2) rfl) rfl ?_
 refine sg_ rfl (nn_ (sr_ (mv_ rfl (mv_ rfl (wl_ov (ov_neq rfl rfl) rfl (nn_ ?_))))))
 refine gw_cond rfl (fun hh => ?_) (fun hh => ?_)
 ·have h2 : ¬ (b = 0) := by simpa using hh
  clear hh
  refine sr_ (mv_ rfl (sg_ rfl (nn_ ?_)))
  refine gw_ret ?_
  refine nx_blk_ret (nx_then_ret (nx_then_ret (nx_blk_ret (nx_then_ret ?_))))
  refine nx_ret1 rfl rfl fun wx hm => ?_
  refine ⟨?_, hm.g⟩
  rw [firstE_pair, if_pos h1]
 have h2 : b = 0 := by simpa using hh
 clear hh
 refine gw_skip (nx_blk_nrm (nx_then (gw_region (ad_ rfl rfl ?_))))
 refine wl_set 16 (v' := .int .i64 2) rfl rfl ?_
 refine mv_ rfl (wl_nil ?_)
 refine nx_next ?_
 refine gr_next ?_
 refine sr_ (wl_ov (ov_lss rfl rfl) rfl ?_)
 refine wl_set 9 (v' := .bool false) rfl (congrArg Value.bool (by decide)) ?_
 refine nn_ (gw_seq (cf_ rfl ?_))
 refine gw_exit ?_
 refine nx_then_exit (nx_then_exit ?_)
 refine nx_blk_here ?_
 refine nx_then (sr_ (mv_ rfl (sg_ rfl (nn_ ?_))))
 refine gw_ret ?_
 refine nx_ret1 rfl rfl fun wx hm => ?_
 refine ⟨?_, hm.g⟩
 rw [firstE_pair, if_pos h1, h2]
end Go.Proofs.YtiendebcdicjnaaGreatDoor
namespace Go.Proofs.YtiendebcdicjnaaGreatDoor
open Go.RowKit
theorem pred_VehicleAt_1_rentref1 (vk : ByteArray) (vc : ByteArray) (gk : Nat) (k : ByteArray) (w : World) (hk : Blk w gk 9 [.string k]) :
  Calls Tryz.prog 137 #[.agg #[.string vk, .string vc], .pointer (some ⟨gk, 0, none⟩)] w (fun e w' => e = .returned (.bool (vhP k ⟨vk, vc⟩)) ∧ w.grownBy w' none) := by
 refine gw_enter ⟨8, w, none, []⟩ Tryz.func137 rfl Tryz.ntmps137 rfl (mem0 (X := [BlkOld w.heap.size none gk 9 [.string k]]) (allF_cons hk.old allF_nil) (allL_cons BlkOld.lasts allL_nil)) ?_
 refine sr_ ?_
 refine wl_box rfl rfl rfl fun g1 => ?_
 refine sg_ rfl (nn_ (sr_ (fd_ fo57_0 rfl rfl (lk_ sc9 0 rfl rfl rfl ?_))))
 refine wl_ov (ov_load (v := .string k) sc9 rfl (fun _ hm => (hm.fact 0 rfl).2) rfl) rfl ?_
 refine wl_ov (ov_seql rfl rfl) rfl (sg_ rfl (nn_ ?_))
 refine gw_ret ?_
 refine nx_ret1 rfl rfl fun wx hm => ?_
 exact ⟨rfl, hm.g⟩
theorem index_VehicleAt_1_rentref1 (l : List Vh) (A : Option Addr) (n c0 : Nat) (gk : Nat) (k : ByteArray) (w : World) (hl : SlT vhEnc 2 57 w A n l) (hn : n ≤ 1000000) (hk : Blk w gk 9 [.string k]) :
  Calls Tryz.prog 136 #[.slice A n c0, .func (.func 137) #[] #[.pointer (some ⟨gk, 0, none⟩)]] w (GotE w (ixP (vhP k) l 0)) := by
 refine gw_enter ⟨19, w, none, []⟩ Tryz.func136 rfl Tryz.ntmps136 rfl (mem0 (X := [SlOld vhEnc 2 57 w.heap.size none A n l, BlkOld w.heap.size none gk 9 [.string k]]) (allF_cons hl.old (allF_cons hk.old allF_nil)) (allL_cons SlOld.lasts (allL_cons BlkOld.lasts allL_nil))) ?_
 refine sr_ ?_
 have hlen := hl.len
 refine sg_ rfl (nn_ (gw_seq (sr_ (mv_ rfl (wl_ov (ov_len es28 rfl) rfl (mv_ rfl (nn_ (gw_block ?_))))))))
 refine gw_loop (γ := Nat) (fun (i : Nat) => i ≤ n ∧ ixP (vhP k) l 0 = ixP (vhP k) (l.drop i) i) (fun (i : Nat) => [(0, .slice A n c0), (1, .func (.func 137) #[] #[.pointer (some ⟨gk, 0, none⟩)]), (7, .int .i64 ((n : Nat) : Int)), (8, .int .i64 ((i : Nat) : Int))]) (fun (i : Nat) => fun _ => True) (fun (i : Nat) => []) (fun (i : Nat) => []) (fun (i : Nat) => [SlOld vhEnc 2 57 w.heap.size none A n l, BlkOld w.heap.size none gk 9 [.string k]]) (fun (i : Nat) => n - i) 0 ⟨Nat.zero_le _, rfl⟩ ⟨rfl, rfl, rfl, rfl, trivial⟩ (fun _ hm => hm.pick [] [] [0, 1] rfl rfl) ?_
 intro i hinv
 replace hinv : i ≤ n ∧ ixP (vhP k) l 0 = ixP (vhP k) (l.drop i) i := hinv
 refine sr_ (wl_ov (ov_lss rfl rfl) rfl (nn_ (gw_seq ?_)))
 refine gw_cond rfl (fun hh => ?_) (fun hh => ?_)
 ·have hi : ((i : Nat) : Int) < ((n : Nat) : Int) := by simpa using hh
  clear hh
  refine gw_skip (nx_then (gw_seq (gw_block (sr_ ?_))))
  obtain ⟨b, off, hA, _, _⟩ := hl.get (by omega)
  subst hA
  obtain ⟨x, hx⟩ : ∃ x, l[i]? = some x := ⟨_, List.getElem?_eq_getElem (by omega)⟩
  obtain ⟨vk, vc⟩ := x
  have hat := ixP_at (p := vhP k) hx
  refine mv_ rfl (sg_ rfl (nn_ (sr_ (mv_ rfl (mv_ rfl (mv_ rfl ?_))))))
  refine wl_ov (ov_index (j := i) es28 rfl rfl (by omega)) rfl ?_
  refine wl_ov (ov_elem (vs := [.string vk, .string vc]) rz57 rfl (fun _ hm => (hm.fact 0 rfl).1) hx rfl rfl) rfl ?_
  refine wl_callv rfl cb137 rfl rfl (fun wx hm => (pred_VehicleAt_1_rentref1 vk vc gk k wx (hm.fact 1 rfl).2)) ?_
  refine nn_ ?_
  refine gw_cond rfl (fun hh => ?_) (fun hh => ?_)
  ·have hq : (vhP k ⟨vk, vc⟩) = true := by simpa using hh
   clear hh
   refine sr_ (mv_ rfl (sg_ rfl (nn_ ?_)))
   refine gw_ret ?_
   refine nx_blk_ret (nx_then_ret (nx_then_ret (nx_blk_ret (nx_then_ret ?_))))
   refine nx_ret1 rfl rfl fun wx hm => ?_
   exact ⟨ret_int (by rw [hinv.2, hat, if_pos hq]), hm.g⟩
  have hq : (vhP k ⟨vk, vc⟩) = false := by simpa using hh
  clear hh
  refine gw_skip (nx_blk_nrm (nx_then (gw_region (ad_ rfl rfl (mv_ rfl (wl_nil ?_))))))
  exact nx_round (i + 1) ⟨by omega, by rw [hinv.2, hat, if_neg (by rw [hq]; decide)]⟩ (by omega) ⟨rfl, rfl, rfl, (some_int (by omega)), trivial⟩ (fun _ hm => hm.pick [] [] [0, 1] rfl rfl)
 have hi : ¬ (((i : Nat) : Int) < ((n : Nat) : Int)) := by simpa using hh
 clear hh
 refine gw_exit ?_
 refine nx_then_exit (nx_then_exit ?_)
 refine nx_blk_here ?_
 refine nx_then (sr_ (sg_ rfl ?_))
 refine wl_set 4 (v' := .int .i64 (-1)) rfl rfl ?_
 refine nn_ ?_
 refine gw_ret ?_
 refine nx_ret1 rfl rfl fun wx hm => ?_
 exact ⟨ret_int (by rw [hinv.2, List.drop_eq_nil_of_le (by omega)]; rfl), hm.g⟩
theorem rVehicleAt_any (vl : List Vh) (sA cA vA pA : Option Addr) (sn sc cn cc vn vc pn pc : Nat) (k : ByteArray) (w : World) (hv : SlT vhEnc 2 57 w vA vn vl) (hn : vn ≤ 1000000) :
  Calls Tryz.prog 68 #[.agg #[.slice sA sn sc, .slice cA cn cc, .slice vA vn vc, .slice pA pn pc], .string k] w (GotE w (ixP (vhP k) vl 0)) := by
 refine gw_enter ⟨9, w, none, []⟩ Tryz.func68 rfl Tryz.ntmps68 rfl (mem0 (X := [SlOld vhEnc 2 57 w.heap.size none vA vn vl]) (allF_cons hv.old allF_nil) (allL_cons SlOld.lasts allL_nil)) ?_
 refine sr_ ?_
 refine wl_box rfl rfl rfl fun g1 => ?_
 refine wl_box rfl rfl rfl fun g2 => ?_
 refine sg_ rfl (nn_ (sr_ (fd_ fo31_2 rfl rfl (lk_ sc28 1 rfl rfl rfl (wl_ov (ov_makeFunc rfl rfl) rfl ?_)))))
 refine wl_callv rfl cb136 rfl rfl (fun wx hm => (index_VehicleAt_1_rentref1 vl vA vn vc _ k wx (hm.fact 0 rfl).1 hn (hm.blkI 0 rfl))) ?_
 refine sg_ rfl (nn_ ?_)
 refine gw_ret ?_
 refine nx_ret1 rfl rfl fun wx hm => ?_
 exact ⟨rfl, hm.g⟩
theorem vehCmp (vk vc k : ByteArray) (w : World) : Calls Tryz.prog 111 #[.agg #[.string vk, .string vc], .string k] w (fun e w' => e = .returned (.int .i64 (cmpS vk k)) ∧ w.grownBy w' none) := by
 refine gw_enter ⟨9, w, none, []⟩ Tryz.func111 rfl Tryz.ntmps111 rfl (mem0 (X := []) allF_nil allL_nil) ?_
 refine sr_ ?_
 refine wl_box rfl rfl rfl fun g1 => ?_
 refine sg_ rfl (nn_ (sr_ (fd_ fo57_0 rfl rfl (lk_ sc9 0 rfl rfl rfl (mv_ rfl ?_)))))
 refine wl_callv rfl cb52 rfl rfl (fun wx hm => (cmp_string _ _ wx)) ?_
 refine sg_ rfl (nn_ ?_)
 refine gw_ret ?_
 refine nx_ret1 rfl rfl fun wx hm => ?_
 exact ⟨rfl, hm.g⟩
theorem bsearch_any (vl : List Vh) (vA : Option Addr) (vn vc : Nat) (k : ByteArray) (w : World) (hv : SlT vhEnc 2 57 w vA vn vl) (hn : vn ≤ 1000000) (hr : Rise vl) :
  Calls Tryz.prog 110 #[.slice vA vn vc, .string k, .func (.func 111) #[] #[]] w (fun e w' => ∃ (i : Nat) (f : Bool), e = .returned (.tuple #[.int .i64 ((i : Nat) : Int), .bool f]) ∧ (f = true → ixP (vhP k) vl 0 = (i : Int)) ∧ (f = false → ixP (vhP k) vl 0 = -1) ∧ w.grownBy w' none) := by
 refine gw_enter ⟨49, w, none, []⟩ Tryz.func110 rfl Tryz.ntmps110 rfl (mem0 (X := [SlOld vhEnc 2 57 w.heap.size none vA vn vl]) (allF_cons hv.old allF_nil) (allL_cons SlOld.lasts allL_nil)) ?_
 refine sr_ ?_
 have hlen := hv.len
 refine sg_ rfl (sg_ rfl (nn_ (sr_ (mv_ rfl (wl_ov (ov_len es28 rfl) rfl (sg_ rfl (nn_ (sr_ (mv_ rfl ?_)))))))))
 refine sg_ rfl (sg_ rfl (nn_ (gw_seq (gw_block ?_))))
 refine gw_loop (γ := Nat × Nat) (fun g => (g.1 ≤ g.2 ∧ g.2 ≤ vn) ∧ Low vl k g.1 ∧ High vl k g.2) (fun g => [(0, .slice vA vn vc), (1, .string k), (2, .func (.func 111) #[] #[]), (6, .int .i64 0), (7, .bool false), (8, .int .i64 ((vn : Nat) : Int)), (9, .int .i64 ((g.1 : Nat) : Int)), (10, .int .i64 ((g.2 : Nat) : Int))]) (fun g => fun _ => True) (fun g => []) (fun g => []) (fun g => [SlOld vhEnc 2 57 w.heap.size none vA vn vl]) (fun g => g.2 - g.1) (0, vn) ⟨⟨Nat.zero_le _, Nat.le_refl _⟩, (fun i h => by omega), fun i h x hx => by have := (List.getElem?_eq_some_iff.1 hx).1; omega⟩ ⟨rfl, rfl, rfl, rfl, rfl, rfl, (some_int (by omega)), rfl, trivial⟩ (fun _ hm => hm.pick [] [] [0] rfl rfl) ?_
 rintro ⟨a, b⟩ hinv
 replace hinv : (a ≤ b ∧ b ≤ vn) ∧ Low vl k a ∧ High vl k b := hinv
 dsimp only
 refine gw_seq (sr_ ?_)
 obtain ⟨⟨hab, hbn⟩, hlow, hhigh⟩ := hinv
 refine mv_ rfl (mv_ rfl (wl_ov (ov_lss rfl rfl) rfl (nn_ ?_)))
 refine gw_cond rfl (fun hh => ?_) (fun hh => ?_)
 ·have hc : ((a : Nat) : Int) < ((b : Nat) : Int) := by simpa using hh
  clear hh
  refine gw_skip (nx_then (gw_block (sr_ ?_)))
  obtain ⟨h, hh⟩ : ∃ h, h = (a + b) / 2 := ⟨_, rfl⟩
  have hha : a ≤ h := by omega
  have hhb : h < b := by omega
  obtain ⟨x, hx⟩ : ∃ x, vl[h]? = some x := ⟨_, List.getElem?_eq_getElem (by omega)⟩
  obtain ⟨vk, vc2⟩ := x
  obtain ⟨bv, ov, hA, _, _⟩ := hv.get (by omega)
  subst hA
  refine mv_ rfl (mv_ rfl (ad_ rfl rfl ?_))
  refine wl_set 20 (v' := .int .i64 (((a + b) : Nat) : Int)) rfl (congrArg (Value.int .i64) (by omega)) ?_
  refine wl_ov (ov_u64 (a := (a + b)) (by kernel_rfl) (by kernel_rfl) rfl (by omega)) rfl ?_
  refine wl_ov (ov_shru1 (a := (a + b)) rfl rfl) rfl ?_
  refine wl_ov (ov_i64 (a := (a + b) / 2) (by kernel_rfl) (by kernel_rfl) rfl (by omega)) rfl ?_
  refine wl_set 23 (v' := .int .i64 ((h : Nat) : Int)) rfl (congrArg (Value.int .i64) (by omega)) ?_
  refine sg_ rfl (nn_ (sr_ (mv_ rfl (mv_ rfl (mv_ rfl ?_)))))
  refine wl_ov (ov_index (j := h) es28 rfl rfl (by omega)) rfl ?_
  refine wl_ov (ov_elem (vs := [.string vk, .string vc2]) rz57 rfl (fun _ hm => (hm.fact 0 rfl).1) hx rfl rfl) rfl ?_
  refine mv_ rfl ?_
  refine wl_callv rfl cb111 rfl rfl (fun wx hm => (vehCmp vk vc2 k wx)) ?_
  refine wl_ov (ov_lss rfl rfl) rfl (nn_ ?_)
  refine gw_cond rfl (fun hh => ?_) (fun hh => ?_)
  ·have hl : cmpS vk k < 0 := by simpa using hh
   clear hh
   refine gw_region (mv_ rfl (ad_ rfl rfl (sg_ rfl (wl_nil (nx_blk_nrm ?_)))))
   exact nx_round (h + 1, b) ⟨⟨by dsimp only; omega, hbn⟩, low_next hr hx hl, hhigh⟩ (by dsimp only; omega) ⟨rfl, rfl, rfl, rfl, rfl, rfl, (some_int (by omega)), rfl, trivial⟩ (fun _ hm => hm.pick [] [] [0] rfl rfl)
  have hl : ¬ (cmpS vk k < 0) := by simpa using hh
  clear hh
  refine gw_region (mv_ rfl (sg_ rfl (wl_nil (nx_blk_nrm ?_))))
  exact nx_round (a, h) ⟨⟨by dsimp only; omega, by dsimp only; omega⟩, hlow, high_next hr hx hl⟩ (by dsimp only; omega) ⟨rfl, rfl, rfl, rfl, rfl, rfl, rfl, (some_int (by omega)), trivial⟩ (fun _ hm => hm.pick [] [] [0] rfl rfl)
 have hc : ¬ (((a : Nat) : Int) < ((b : Nat) : Int)) := by simpa using hh
 clear hh
 refine gw_exit ?_
 refine nx_then_exit (nx_then_exit ?_)
 refine nx_blk_here ?_
 refine nx_then (sr_ ?_)
 obtain rfl : b = a := by omega
 by_cases hbv : b < vn
 ·obtain ⟨x, hx⟩ : ∃ x, vl[b]? = some x := ⟨_, List.getElem?_eq_getElem (by omega)⟩
  obtain ⟨vk, vc2⟩ := x
  obtain ⟨bv, ov, hA, _, _⟩ := hv.get (by omega)
  subst hA
  refine mv_ rfl (mv_ rfl (mv_ rfl (wl_ov (ov_lss rfl rfl) rfl ?_)))
  refine wl_set 38 (v' := .bool true) rfl (congrArg Value.bool (decide_eq_true (by omega))) ?_
  refine mv_ rfl (wl_guard_on rfl rfl rfl (mv_ rfl (wl_guard_on rfl rfl rfl (mv_ rfl (wl_guard_on rfl rfl rfl (mv_ rfl (wl_guard_on rfl rfl rfl ?_)))))))
  refine wl_ov (ov_index (j := b) es28 rfl rfl (by omega)) rfl ?_
  refine wl_guard_on rfl rfl rfl ?_
  refine wl_ov (ov_elem (vs := [.string vk, .string vc2]) rz57 rfl (fun _ hm => (hm.fact 0 rfl).1) hx rfl rfl) rfl ?_
  refine wl_guard_on rfl rfl rfl (mv_ rfl (wl_guard_on rfl rfl rfl ?_))
  refine wl_callv rfl cb111 rfl rfl (fun wx hm => (vehCmp vk vc2 k wx)) ?_
  refine wl_guard_on rfl rfl rfl (wl_ov (ov_eql rfl rfl) rfl (pt_ rfl rfl (sg_ rfl (sg_ rfl (nn_ ?_)))))
  refine gw_ret ?_
  refine nx_ret2 rfl rfl rfl fun wx hm => ?_
  exact ⟨_, _, rfl, fun h => bs_yes hlow hx (of_decide_eq_true h), fun h => bs_no hr hlow hhigh (fun y hy => by rw [hx] at hy; cases hy; exact of_decide_eq_false h), hm.g⟩
 refine mv_ rfl (mv_ rfl (mv_ rfl (wl_ov (ov_lss rfl rfl) rfl ?_)))
 refine wl_set 38 (v' := .bool false) rfl (congrArg Value.bool (decide_eq_false (by omega))) ?_
 refine mv_ rfl (goff rfl rfl rfl (goff rfl rfl rfl (goff rfl rfl rfl (goff rfl rfl rfl (goff rfl rfl rfl (goff rfl rfl rfl (goff rfl rfl rfl (goff rfl rfl rfl (pf_ rfl rfl (sg_ rfl (sg_ rfl (nn_ ?_))))))))))))
 refine gw_ret ?_
 refine nx_ret2 rfl rfl rfl fun wx hm => ?_
 exact ⟨_, _, rfl, (fun h => by cases h), fun _ => bs_no hr hlow hhigh (fun y hy => by have := (List.getElem?_eq_some_iff.1 hy).1; omega), hm.g⟩
theorem vehicleAt_any (vl : List Vh) (sA cA vA pA : Option Addr) (sn sc cn cc vn vc pn pc : Nat) (k : ByteArray) (w : World) (hv : SlT vhEnc 2 57 w vA vn vl) (hn : vn ≤ 1000000) (hr : Rise vl) :
  Calls Tryz.prog 43 #[.agg #[.slice sA sn sc, .slice cA cn cc, .slice vA vn vc, .slice pA pn pc], .string k] w (GotE w (ixP (vhP k) vl 0)) := by
 refine gw_enter ⟨17, w, none, []⟩ Tryz.func43 rfl Tryz.ntmps43 rfl (mem0 (X := [SlOld vhEnc 2 57 w.heap.size none vA vn vl]) (allF_cons hv.old allF_nil) (allL_cons SlOld.lasts allL_nil)) ?_
 refine sr_ ?_
 refine wl_box rfl rfl rfl fun g1 => ?_
 refine sg_ rfl (nn_ (sr_ (fd_ fo31_2 rfl rfl (lk_ sc28 0 rfl rfl rfl (mv_ rfl ?_)))))
 refine wl_callx (γ := Nat × Bool) (val := (fun g => .tuple #[.int .i64 ((g.1 : Nat) : Int), .bool g.2])) (φ := (fun g => (g.2 = true → ixP (vhP k) vl 0 = (g.1 : Int)) ∧ (g.2 = false → ixP (vhP k) vl 0 = -1))) (Y := (fun g => fun _ => True)) rfl cb110 rfl rfl (fun wx hm => (bsearch_any vl vA vn vc k wx (hm.fact 0 rfl).1 hn hr).mono fun _ _ ⟨i, f, he, h1, h2, hg⟩ => ⟨(i, f), he, ⟨h1, h2⟩, hg, trivial⟩) (fun _ => Lasts2.true_) ?_
 rintro ⟨i, f⟩ hif
 dsimp only at hif ⊢
 refine mv_ rfl (wl_ov (ov_extract rfl rfl) rfl (wl_ov (ov_extract rfl rfl) rfl (sg_ rfl (sg_ rfl (nn_ (gw_seq (sr_ (mv_ rfl (wl_ov (ov_un_not rfl) rfl (nn_ ?_))))))))))
 refine gw_cond rfl (fun hh => ?_) (fun hh => ?_)
 ·have hf : f = false := by simpa using hh
  clear hh
  refine sr_ (sg_ rfl ?_)
  refine wl_set 4 (v' := .int .i64 (-1)) rfl rfl ?_
  refine nn_ ?_
  refine gw_ret ?_
  refine nx_then_ret ?_
  refine nx_ret1 rfl rfl fun wx hm => ?_
  exact ⟨ret_int (by rw [hif.2 hf]), hm.g⟩
 have hf : f = true := by simpa using hh
 clear hh
 refine gw_skip (nx_then (sr_ (mv_ rfl (sg_ rfl (nn_ ?_)))))
 refine gw_ret ?_
 refine nx_ret1 rfl rfl fun wx hm => ?_
 exact ⟨ret_int (by rw [hif.1 hf]), hm.g⟩
theorem plateForm_any (p : ByteArray) (w : World) (hp : p.size ≤ 1000000) : Calls Tryz.prog 130 #[.string p] w (fun e w' => e = .returned (.bool (plateB p)) ∧ w.grownBy w' none) := by
 refine gw_enter ⟨10, w, none, []⟩ Tryz.func130 rfl Tryz.ntmps130 rfl (mem0 (X := []) allF_nil allL_nil) ?_
 refine sr_ ?_
 obtain ⟨Q, hQ⟩ : ∃ Q, Q = onlyB p.data.toList plateBytes := ⟨_, rfl⟩
 refine sg_ rfl (nn_ (sr_ (mv_ rfl ?_)))
 refine wl_ov (ov_lens us9 rfl) rfl ?_
 refine wl_callw rfl cb70 rfl rfl (fun wx hm => (rin_any _ _ _ wx)) ?_
 refine mv_ rfl ?_
 rcases Bool.eq_false_or_eq_true (inB ((p).size : Int) 2 10) with hI2 | hI2
 ·refine wl_set 6 rfl (congrArg Value.bool hI2) ?_
  refine wl_guard_on rfl rfl rfl (mv_ rfl (wl_guard_on rfl rfl rfl ?_))
  refine wl_callv (v := .bool Q) rfl cb200 rfl rfl (fun wx hm => (by rw [hQ]; exact only_plate p wx (by omega))) ?_
  refine pt_ rfl rfl (sg_ rfl (nn_ ?_))
  refine gw_ret ?_
  refine nx_ret1 rfl rfl fun wx hm => ?_
  exact ⟨by rw [plate_only, ← hQ, hI2]; rfl, hm.g⟩
 refine wl_set 6 rfl (congrArg Value.bool hI2) ?_
 refine goff rfl rfl rfl (goff rfl rfl rfl (pf_ rfl rfl (sg_ rfl (nn_ ?_))))
 refine gw_ret ?_
 refine nx_ret1 rfl rfl fun wx hm => ?_
 exact ⟨by rw [plate_only, hI2]; rfl, hm.g⟩
theorem compare2_any (g1 g2 : Nat) (a1 a2 b1 b2 : ByteArray) (w : World) (h1 : Blk w g1 9 [.string a1, .string a2]) (h2 : Blk w g2 9 [.string b1, .string b2]) :
  Calls Tryz.prog 203 #[.slice (some ⟨g1, 0, none⟩) 2 2, .slice (some ⟨g2, 0, none⟩) 2 2] w (GotE w (firstE [cmpS a1 b1, cmpS a2 b2])) := by
 refine gw_enter ⟨36, w, none, []⟩ Tryz.func203 rfl Tryz.ntmps203 rfl (mem0 (X := [BlkOld w.heap.size none g1 9 [.string a1, .string a2], BlkOld w.heap.size none g2 9 [.string b1, .string b2]]) (allF_cons h1.old (allF_cons h2.old allF_nil)) (allL_cons BlkOld.lasts (allL_cons BlkOld.lasts allL_nil))) ?_
 refine sr_ (sg_ rfl (nn_ (gw_seq (sr_ (mv_ rfl (wl_ov (ov_len es107 rfl) rfl ?_))))))
 refine wl_set 10 (v' := .int .i64 2) rfl rfl ?_
 refine mv_ rfl (nn_ (gw_block ?_))
 refine gw_rounds 3 ?_
 refine gr_next ?_
 refine sr_ (wl_ov (ov_lss rfl rfl) rfl ?_)
 refine wl_set 12 (v' := .bool true) rfl (congrArg Value.bool (by decide)) ?_
 refine nn_ (gw_seq (ct_ rfl (gw_skip (nx_then (gw_seq (gw_block (sr_ (mv_ rfl ?_))))))))
 refine wl_ov (ov_index (j := 0) es107 rfl rfl (by decide)) rfl ?_
 refine wl_ov (ov_load (v := .string a1) sc9 rfl (fun _ hm => (hm.fact 0 rfl).2) rfl) rfl ?_
 refine sg_ rfl (sg_ rfl (nn_ (gw_seq (sr_ (mv_ rfl (mv_ rfl (wl_ov (ov_len es107 rfl) rfl ?_)))))))
 refine wl_set 18 (v' := .int .i64 2) rfl rfl ?_
 refine wl_ov (ov_geq rfl rfl) rfl ?_
 refine wl_set 19 (v' := .bool false) rfl (congrArg Value.bool (by decide)) ?_
 refine nn_ (cf_ rfl (gw_skip (nx_then (sr_ (mv_ rfl (mv_ rfl ?_))))))
 refine wl_ov (ov_index (j := 0) es107 rfl rfl (by decide)) rfl ?_
 refine wl_ov (ov_load (v := .string b1) sc9 rfl (fun _ hm => (hm.fact 1 rfl).2) rfl) rfl ?_
 refine sg_ rfl (nn_ (sr_ (mv_ rfl (mv_ rfl ?_))))
 refine wl_callv rfl cb52 rfl rfl (fun wx hm => (cmp_string _ _ wx)) ?_
 refine sg_ rfl (nn_ (sr_ (mv_ rfl (wl_ov (ov_neq rfl rfl) rfl (nn_ ?_)))))
 refine gw_cond rfl (fun hh => ?_) (fun hh => ?_)
 ·have h3 : ¬ (cmpS a1 b1 = 0) := by simpa using hh
  clear hh
  refine sr_ (mv_ rfl (sg_ rfl (nn_ ?_)))
  refine gw_ret ?_
  refine nx_blk_ret (nx_then_ret (nx_then_ret (nx_blk_ret (nx_then_ret ?_))))
  refine nx_ret1 rfl rfl fun wx hm => ?_
  exact ⟨ret_int (by simp [firstE, h3]), hm.g⟩
 have h3 : cmpS a1 b1 = 0 := by simpa using hh
 clear hh
 refine gw_skip (nx_blk_nrm (nx_then (gw_region (ad_ rfl rfl ?_))))
 refine wl_set 30 (v' := .int .i64 1) rfl rfl ?_
 refine mv_ rfl (wl_nil ?_)
 refine nx_next ?_
 refine gr_next ?_
 refine sr_ (wl_ov (ov_lss rfl rfl) rfl ?_)
 refine wl_set 12 (v' := .bool true) rfl (congrArg Value.bool (by decide)) ?_
 refine nn_ (gw_seq (ct_ rfl (gw_skip (nx_then (gw_seq (gw_block (sr_ (mv_ rfl ?_))))))))
 refine wl_ov (ov_index (j := 1) es107 rfl rfl (by decide)) rfl ?_
 refine wl_ov (ov_load (v := .string a2) sc9 rfl (fun _ hm => (hm.fact 0 rfl).2) rfl) rfl ?_
 refine sg_ rfl (sg_ rfl (nn_ (gw_seq (sr_ (mv_ rfl (mv_ rfl (wl_ov (ov_len es107 rfl) rfl ?_)))))))
 refine wl_set 18 (v' := .int .i64 2) rfl rfl ?_
 refine wl_ov (ov_geq rfl rfl) rfl ?_
 refine wl_set 19 (v' := .bool false) rfl (congrArg Value.bool (by decide)) ?_
 refine nn_ (cf_ rfl (gw_skip (nx_then (sr_ (mv_ rfl (mv_ rfl ?_))))))
 refine wl_ov (ov_index (j := 1) es107 rfl rfl (by decide)) rfl ?_
 refine wl_ov (ov_load (v := .string b2) sc9 rfl (fun _ hm => (hm.fact 1 rfl).2) rfl) rfl ?_
 refine sg_ rfl (nn_ (sr_ (mv_ rfl (mv_ rfl ?_))))
 refine wl_callv rfl cb52 rfl rfl (fun wx hm => (cmp_string _ _ wx)) ?_
 refine sg_ rfl (nn_ (sr_ (mv_ rfl (wl_ov (ov_neq rfl rfl) rfl (nn_ ?_)))))
 refine gw_cond rfl (fun hh => ?_) (fun hh => ?_)
 ·have h4 : ¬ (cmpS a2 b2 = 0) := by simpa using hh
  clear hh
  refine sr_ (mv_ rfl (sg_ rfl (nn_ ?_)))
  refine gw_ret ?_
  refine nx_blk_ret (nx_then_ret (nx_then_ret (nx_blk_ret (nx_then_ret ?_))))
  refine nx_ret1 rfl rfl fun wx hm => ?_
  exact ⟨ret_int (by simp [firstE, h3, h4]), hm.g⟩
 have h4 : cmpS a2 b2 = 0 := by simpa using hh
 clear hh
 refine gw_skip (nx_blk_nrm (nx_then (gw_region (ad_ rfl rfl ?_))))
 refine wl_set 30 (v' := .int .i64 2) rfl rfl ?_
 refine mv_ rfl (wl_nil ?_)
 refine nx_next ?_
 refine gr_next ?_
 refine sr_ (wl_ov (ov_lss rfl rfl) rfl ?_)
 refine wl_set 12 (v' := .bool false) rfl (congrArg Value.bool (by decide)) ?_
 refine nn_ (gw_seq (cf_ rfl ?_))
 refine gw_exit ?_
 refine nx_then_exit (nx_then_exit ?_)
 refine nx_blk_here ?_
 refine nx_then (gw_seq (sr_ (mv_ rfl (wl_ov (ov_len es107 rfl) rfl ?_))))
 refine wl_set 32 (v' := .int .i64 2) rfl rfl ?_
 refine mv_ rfl (wl_ov (ov_len es107 rfl) rfl ?_)
 refine wl_set 34 (v' := .int .i64 2) rfl rfl ?_
 refine wl_ov (ov_lss rfl rfl) rfl ?_
 refine wl_set 35 (v' := .bool false) rfl (congrArg Value.bool (by decide)) ?_
 refine nn_ (cf_ rfl (gw_skip (nx_then (sr_ (sg_ rfl (nn_ ?_))))))
 refine gw_ret ?_
 refine nx_ret1 rfl rfl fun wx hm => ?_
 exact ⟨ret_int (by simp [firstE, h3, h4]), hm.g⟩
end Go.Proofs.YtiendebcdicjnaaGreatDoor
namespace Go.Proofs.YtiendebcdicjnaaGreatDoor
open Go.RowKit
def sgV3 (n : Int) : Int := if n < 0 then -1 else if 0 < n then 1 else 0
theorem ord_fr {a b : Pl} (h : ¬ a.fr = b.fr) : sgV3 (a.fr - b.fr) = plOrd a b := by
  unfold sgV3 plOrd cmpI
  by_cases h1 : a.fr < b.fr
  · simp [firstE, h1, show a.fr - b.fr < 0 by omega]
  · have h2 : b.fr < a.fr := by omega
    simp [firstE, h1, h2, show ¬ a.fr - b.fr < 0 by omega]
theorem ord_eq {a b : Pl} (h : a.fr = b.fr) : firstE [cmpS a.veh b.veh, cmpS a.plate b.plate] = plOrd a b := by
  unfold plOrd cmpI
  rw [if_neg (by omega), if_neg (by omega)]
  simp [firstE]
theorem ord_le {a b : Pl} (h : ¬ 0 ≤ plOrd a b) : a.fr ≤ b.fr := by
  refine Classical.byContradiction fun hn => h ?_
  unfold plOrd cmpI
  rw [if_neg (by omega), if_pos (by omega)]
  simp [firstE]
def PSort (l : List Pl) : Prop := l.Pairwise fun q r => q.fr ≤ r.fr
theorem psort_snoc {l : List Pl} {p : Pl} (h : PSort l) (hl : ∀ q, l.getLast? = some q → q.fr ≤ p.fr) : PSort (l ++ [p]) := by
  unfold PSort at *
  rw [List.pairwise_append]
  refine ⟨h, List.pairwise_singleton _ _, fun q hq r hr => ?_⟩
  rw [List.mem_singleton.1 hr]
  cases hg : l.getLast? with
  | none =>
    rw [List.getLast?_eq_none_iff.1 hg] at hq; cases hq
  | some z =>
    have hz := hl z hg
    rcases List.getLast?_eq_some_iff.1 hg with ⟨ys, rfl⟩
    rw [List.pairwise_append] at h
    rcases List.mem_append.1 hq with h1 | h1
    · have := h.2.2 q h1 z (by simp); omega
    · rw [List.mem_singleton.1 h1]; exact hz
theorem psort_at {l : List Pl} (h : PSort l) {i j : Nat} {x y : Pl} (hij : i ≤ j) (hx : l[i]? = some x) (hy : l[j]? = some y) : x.fr ≤ y.fr := by
  rcases Nat.eq_or_lt_of_le hij with rfl | h1
  · rw [hx] at hy; cases hy; exact Int.le_refl _
  · obtain ⟨hi, rfl⟩ := List.getElem?_eq_some_iff.1 hx
    obtain ⟨hj, rfl⟩ := List.getElem?_eq_some_iff.1 hy
    exact List.pairwise_iff_getElem.1 h i j hi hj h1
theorem plG_at {vs : List Vh} {l : List Pl} {i : Nat} {p : Pl} (h : l[i]? = some p) : plG vs (l.take i) (l.drop i) = if plE vs (l.take i) p = 0 then plG vs (l.take (i + 1)) (l.drop (i + 1)) else plE vs (l.take i) p := by
  obtain ⟨hi, rfl⟩ := List.getElem?_eq_some_iff.1 h
  rw [List.drop_eq_getElem_cons hi, List.take_succ_eq_append_getElem hi]
  rfl
theorem last_take {l : List Pl} {i : Nat} (hi : i ≤ l.length) : (l.take i).getLast? = if i = 0 then none else l[i - 1]? := by
  rw [List.getLast?_eq_getElem?, List.length_take, Nat.min_eq_left hi]
  by_cases h : i = 0
  · subst h; simp
  · rw [if_neg h, List.getElem?_take, if_pos (by omega)]
theorem plE_one {vs : List Vh} {pre : List Pl} {p : Pl} (h1 : inB p.fr 0 5761439 = false) : plE vs pre p = 1 := by unfold plE; rw [h1]; rfl
theorem plE_two {vs : List Vh} {pre : List Pl} {p : Pl} (h1 : inB p.fr 0 5761439 = true) (h2 : ixP (vhP p.veh) vs 0 < 0) : plE vs pre p = 8 := by unfold plE; rw [h1, if_neg (by decide), if_pos h2]
theorem plE_three {vs : List Vh} {pre : List Pl} {p : Pl} (h1 : inB p.fr 0 5761439 = true) (h2 : ¬ ixP (vhP p.veh) vs 0 < 0) (h3 : plateB p.plate = false) : plE vs pre p = 3 := by unfold plE; rw [h1, if_neg (by decide), if_neg h2, h3]; rfl
def plO (pre : List Pl) (p : Pl) : Bool := match pre.getLast? with | none => false | some q => decide (0 ≤ plOrd q p)
theorem plE_four {vs : List Vh} {pre : List Pl} {p : Pl} (h1 : inB p.fr 0 5761439 = true) (h2 : ¬ ixP (vhP p.veh) vs 0 < 0) (h3 : plateB p.plate = true) : plE vs pre p = if plO pre p = true then 7 else if pre.any (plTwin p) = true then 6 else 0 := by
  unfold plE
  rw [h1, if_neg (by decide), if_neg h2, h3, if_neg (by decide)]; rfl
theorem plO_zero {l : List Pl} {p : Pl} : plO (l.take 0) p = false := rfl
theorem plO_pos {l : List Pl} {i : Nat} {p q : Pl} (hi : i < l.length) (h0 : ¬ i = 0) (hq : l[i - 1]? = some q) : plO (l.take i) p = decide (0 ≤ plOrd q p) := by
  unfold plO
  rw [last_take (by omega), if_neg h0, hq]
theorem twin_none {l : List Pl} {i j : Nat} {p : Pl} (hs : PSort (l.take i)) (hi : i ≤ l.length) (hj : j ≤ i) (hlast : ∀ q, l[i - 1]? = some q → ¬ i = 0 → q.fr ≤ p.fr) (hno : ∀ t, j ≤ t → t < i → ∀ x, l[t]? = some x → plTwin p x = false) (hend : j = 0 ∨ ∃ x, l[j - 1]? = some x ∧ x.fr ≠ p.fr) : (l.take i).any (plTwin p) = false := by
  rw [List.any_eq_false]
  intro x hx
  obtain ⟨t, ht⟩ := List.getElem?_of_mem hx
  have hti : t < i := by
    have := (List.getElem?_eq_some_iff.1 ht).1
    rw [List.length_take] at this; omega
  have hlt : l[t]? = some x := by rw [List.getElem?_take, if_pos hti] at ht; exact ht
  rcases Nat.lt_or_ge t j with h1 | h1
  · rcases hend with rfl | ⟨y, hy, hne⟩
    · omega
    · have hyt : (l.take i)[j - 1]? = some y := by rw [List.getElem?_take, if_pos (by omega)]; exact hy
      have h2 := psort_at hs (show t ≤ j - 1 by omega) ht hyt
      obtain ⟨z, hz⟩ : ∃ z, l[i - 1]? = some z := ⟨_, List.getElem?_eq_getElem (by omega)⟩
      have hzt : (l.take i)[i - 1]? = some z := by rw [List.getElem?_take, if_pos (by omega)]; exact hz
      have h3 := psort_at hs (show j - 1 ≤ i - 1 by omega) hyt hzt
      have h4 := hlast z hz (by omega)
      have h5 : ¬ x.fr = p.fr := by omega
      unfold plTwin
      rw [decide_eq_false h5]; simp
  · rw [hno t h1 hti x hlt]; decide
theorem sign3_any (n : Int) (w : World) : Calls Tryz.prog 140 #[.int .i64 n] w (GotE w (sgV3 n)) := by
 refine gw_enter ⟨9, w, none, []⟩ Tryz.func140 rfl Tryz.ntmps140 rfl (mem0 (X := []) allF_nil allL_nil) ?_
 refine sr_ (sg_ rfl (nn_ (gw_seq (gw_block (sr_ (mv_ rfl (wl_ov (ov_lss rfl rfl) rfl (sg_ rfl (nn_ ?_)))))))))
 refine gw_cond rfl (fun hh => ?_) (fun hh => ?_)
 ·have h0 : n < 0 := by simpa using hh
  clear hh
  refine sr_ (sg_ rfl ?_)
  refine wl_set 2 (v' := .int .i64 (-1)) rfl rfl ?_
  refine nn_ ?_
  refine gw_ret ?_
  refine nx_blk_ret (nx_then_ret ?_)
  refine nx_ret1 rfl rfl fun wx hm => ?_
  exact ⟨ret_int (by unfold sgV3; simp [h0]), hm.g⟩
 have h0 : ¬ (n < 0) := by simpa using hh
 clear hh
 refine sr_ (mv_ rfl ?_)
 refine wl_ov (ov_gtr rfl rfl) rfl ?_
 refine sg_ rfl (nn_ ?_)
 refine gw_cond rfl (fun hh => ?_) (fun hh => ?_)
 ·have h1 : 0 < n := by simpa using hh
  clear hh
  refine sr_ (sg_ rfl (nn_ ?_))
  refine gw_ret ?_
  refine nx_blk_ret (nx_then_ret ?_)
  refine nx_ret1 rfl rfl fun wx hm => ?_
  exact ⟨ret_int (by unfold sgV3; simp [h0, h1]), hm.g⟩
 have h1 : ¬ (0 < n) := by simpa using hh
 clear hh
 refine gw_skip (nx_blk_nrm (nx_then (sr_ (sg_ rfl (nn_ ?_)))))
 refine gw_ret ?_
 refine nx_ret1 rfl rfl fun wx hm => ?_
 exact ⟨ret_int (by unfold sgV3; simp [h0, h1]), hm.g⟩
theorem plateOrder_any (af : Int) (av ap : ByteArray) (bf : Int) (bv bp : ByteArray) (w : World) (hA : -4000000000000000000 ≤ af ∧ af ≤ 4000000000000000000) (hB : -4000000000000000000 ≤ bf ∧ bf ≤ 4000000000000000000) :
  Calls Tryz.prog 131 #[.agg #[.int .i64 af, .string av, .string ap], .agg #[.int .i64 bf, .string bv, .string bp]] w (GotE w (plOrd ⟨af, av, ap⟩ ⟨bf, bv, bp⟩)) := by
 refine gw_enter ⟨27, w, none, []⟩ Tryz.func131 rfl Tryz.ntmps131 rfl (mem0 (X := []) allF_nil allL_nil) ?_
 refine sr_ ?_
 refine wl_box rfl rfl rfl fun g1 => ?_
 refine wl_box rfl rfl rfl fun g2 => ?_
 refine sg_ rfl (nn_ (gw_seq (sr_ (fd_ fo151_0 rfl rfl (lk_ sc3 1 rfl rfl rfl (fd_ fo151_0 rfl rfl (lk_ sc3 0 rfl rfl rfl (wl_ov (ov_neq rfl rfl) rfl (nn_ ?_)))))))))
 refine gw_cond rfl (fun hh => ?_) (fun hh => ?_)
 ·have h1 : ¬ (af = bf) := by simpa using hh
  clear hh
  refine sr_ ?_
  have h2 : ¬ af = bf := by simpa using h1
  have hs1 : -9223372036854775808 ≤ af - bf := by omega
  have hs2 : af - bf ≤ 9223372036854775807 := by omega
  refine fd_ fo151_0 rfl rfl (lk_ sc3 1 rfl rfl rfl (fd_ fo151_0 rfl rfl (lk_ sc3 0 rfl rfl rfl ?_)))
  refine wl_ov (ov_sub rfl rfl hs1 hs2) rfl ?_
  refine wl_callv rfl cb140 rfl rfl (fun wx hm => (sign3_any _ wx)) ?_
  refine sg_ rfl (nn_ ?_)
  refine gw_ret ?_
  refine nx_then_ret ?_
  refine nx_ret1 rfl rfl fun wx hm => ?_
  exact ⟨ret_int (ord_fr (a := ⟨af, av, ap⟩) (b := ⟨bf, bv, bp⟩) h2), hm.g⟩
 have h1 : af = bf := by simpa using hh
 clear hh
 refine gw_skip (nx_then (sr_ (fd_ fo151_1 rfl rfl (lk_ sc9 1 rfl rfl rfl (fd_ fo151_2 rfl rfl (lk_ sc9 1 rfl rfl rfl ?_))))))
 refine wl_buildSlice (e := 9) (cs := [.string av, .string ap]) rfl (by kernel_rfl) rfl fun g3 => ?_
 refine fd_ fo151_1 rfl rfl (lk_ sc9 1 rfl rfl rfl (fd_ fo151_2 rfl rfl (lk_ sc9 1 rfl rfl rfl ?_)))
 refine wl_buildSlice (e := 9) (cs := [.string bv, .string bp]) rfl (by kernel_rfl) rfl fun g4 => ?_
 refine wl_callv rfl cb203 rfl rfl (fun wx hm => (compare2_any g3 g4 av ap bv bp wx (hm.blkI 1 rfl) (hm.blkI 0 rfl))) ?_
 refine sg_ rfl (nn_ ?_)
 refine gw_ret ?_
 refine nx_ret1 rfl rfl fun wx hm => ?_
 exact ⟨ret_int (ord_eq (a := ⟨af, av, ap⟩) (b := ⟨bf, bv, bp⟩) (by simpa using h1)), hm.g⟩
theorem or_three (g : Nat) (a b c : Int) (w : World) (h : Blk w g 3 [.int .i64 a, .int .i64 b, .int .i64 c]) :
  Calls Tryz.prog 50 #[.slice (some ⟨g, 0, none⟩) 3 3] w (GotE w (firstE [a, b, c])) := by
 refine gw_enter ⟨18, w, none, []⟩ Tryz.func50 rfl Tryz.ntmps50 rfl (mem0 (X := [BlkOld w.heap.size none g 3 [.int .i64 a, .int .i64 b, .int .i64 c]]) (allF_cons h.old allF_nil) (allL_cons BlkOld.lasts allL_nil)) ?_
 refine sr_ (sg_ rfl (nn_ (sr_ (sg_ rfl (nn_ (gw_seq (sr_ (mv_ rfl ?_))))))))
 refine wl_ov (ov_len es22 rfl) rfl ?_
 refine wl_set 7 (v' := .int .i64 3) rfl rfl ?_
 refine mv_ rfl (nn_ (gw_block ?_))
 refine gw_rounds 4 ?_
 refine gr_next ?_
 refine sr_ (wl_ov (ov_lss rfl rfl) rfl ?_)
 refine wl_set 9 (v' := .bool true) rfl (congrArg Value.bool (by decide)) ?_
 refine nn_ (gw_seq (ct_ rfl (gw_skip (nx_then (gw_seq (gw_block (sr_ ?_)))))))
 refine wl_ov (ov_index (j := 0) es22 rfl rfl (by decide)) rfl ?_
 refine wl_ov (ov_load (v := .int .i64 a) sc3 rfl (fun _ hm => (hm.fact 0 rfl).2) rfl) rfl ?_
 refine sg_ rfl (nn_ (sr_ (mv_ rfl (mv_ rfl (wl_ov (ov_neq rfl rfl) rfl (nn_ ?_))))))
 refine gw_cond rfl (fun hh => ?_) (fun hh => ?_)
 ·have h1 : ¬ (a = 0) := by simpa using hh
  clear hh
  refine sr_ (mv_ rfl (sg_ rfl (nn_ ?_)))
  refine gw_ret ?_
  refine nx_blk_ret (nx_then_ret (nx_then_ret (nx_blk_ret (nx_then_ret ?_))))
  refine nx_ret1 rfl rfl fun wx hm => ?_
  exact ⟨ret_int (by simp [firstE, h1]), hm.g⟩
 have h1 : a = 0 := by simpa using hh
 clear hh
 refine gw_skip (nx_blk_nrm (nx_then (gw_region (ad_ rfl rfl ?_))))
 refine wl_set 16 (v' := .int .i64 1) rfl rfl ?_
 refine mv_ rfl (wl_nil ?_)
 refine nx_next ?_
 refine gr_next ?_
 refine sr_ (wl_ov (ov_lss rfl rfl) rfl ?_)
 refine wl_set 9 (v' := .bool true) rfl (congrArg Value.bool (by decide)) ?_
 refine nn_ (gw_seq (ct_ rfl (gw_skip (nx_then (gw_seq (gw_block (sr_ ?_)))))))
 refine wl_ov (ov_index (j := 1) es22 rfl rfl (by decide)) rfl ?_
 refine wl_ov (ov_load (v := .int .i64 b) sc3 rfl (fun _ hm => (hm.fact 0 rfl).2) rfl) rfl ?_
 refine sg_ rfl (nn_ (sr_ (mv_ rfl (mv_ rfl (wl_ov (ov_neq rfl rfl) rfl (nn_ ?_))))))
 refine gw_cond rfl (fun hh => ?_) (fun hh => ?_)
 ·have h2 : ¬ (b = 0) := by simpa using hh
  clear hh
  refine sr_ (mv_ rfl (sg_ rfl (nn_ ?_)))
  refine gw_ret ?_
  refine nx_blk_ret (nx_then_ret (nx_then_ret (nx_blk_ret (nx_then_ret ?_))))
  refine nx_ret1 rfl rfl fun wx hm => ?_
  exact ⟨ret_int (by simp [firstE, h1, h2]), hm.g⟩
 have h2 : b = 0 := by simpa using hh
 clear hh
 refine gw_skip (nx_blk_nrm (nx_then (gw_region (ad_ rfl rfl ?_))))
 refine wl_set 16 (v' := .int .i64 2) rfl rfl ?_
 refine mv_ rfl (wl_nil ?_)
 refine nx_next ?_
 refine gr_next ?_
 refine sr_ (wl_ov (ov_lss rfl rfl) rfl ?_)
 refine wl_set 9 (v' := .bool true) rfl (congrArg Value.bool (by decide)) ?_
 refine nn_ (gw_seq (ct_ rfl (gw_skip (nx_then (gw_seq (gw_block (sr_ ?_)))))))
 refine wl_ov (ov_index (j := 2) es22 rfl rfl (by decide)) rfl ?_
 refine wl_ov (ov_load (v := .int .i64 c) sc3 rfl (fun _ hm => (hm.fact 0 rfl).2) rfl) rfl ?_
 refine sg_ rfl (nn_ (sr_ (mv_ rfl (mv_ rfl (wl_ov (ov_neq rfl rfl) rfl (nn_ ?_))))))
 refine gw_cond rfl (fun hh => ?_) (fun hh => ?_)
 ·have h3 : ¬ (c = 0) := by simpa using hh
  clear hh
  refine sr_ (mv_ rfl (sg_ rfl (nn_ ?_)))
  refine gw_ret ?_
  refine nx_blk_ret (nx_then_ret (nx_then_ret (nx_blk_ret (nx_then_ret ?_))))
  refine nx_ret1 rfl rfl fun wx hm => ?_
  exact ⟨ret_int (by simp [firstE, h1, h2, h3]), hm.g⟩
 have h3 : c = 0 := by simpa using hh
 clear hh
 refine gw_skip (nx_blk_nrm (nx_then (gw_region (ad_ rfl rfl ?_))))
 refine wl_set 16 (v' := .int .i64 3) rfl rfl ?_
 refine mv_ rfl (wl_nil ?_)
 refine nx_next ?_
 refine gr_next ?_
 refine sr_ (wl_ov (ov_lss rfl rfl) rfl ?_)
 refine wl_set 9 (v' := .bool false) rfl (congrArg Value.bool (by decide)) ?_
 refine nn_ (gw_seq (cf_ rfl ?_))
 refine gw_exit ?_
 refine nx_then_exit (nx_then_exit ?_)
 refine nx_blk_here ?_
 refine nx_then (sr_ (mv_ rfl (sg_ rfl (nn_ ?_))))
 refine gw_ret ?_
 refine nx_ret1 rfl rfl fun wx hm => ?_
 exact ⟨ret_int (by simp [firstE, h1, h2, h3]), hm.g⟩
end Go.Proofs.YtiendebcdicjnaaGreatDoor
namespace Go.Proofs.YtiendebcdicjnaaGreatDoor
open Go.RowKit
theorem ord_last {l : List Pl} {i : Nat} {p : Pl} (hi : i < l.length) (hO : plO (l.take i) p = false) : ∀ q, l[i - 1]? = some q → ¬ i = 0 → q.fr ≤ p.fr := fun q hq h0 => by
  rw [plO_pos hi h0 hq] at hO
  exact ord_le (of_decide_eq_false hO)
theorem psort_next {l : List Pl} {i : Nat} {p : Pl} (hs : PSort (l.take i)) (hp : l[i]? = some p) (hO : plO (l.take i) p = false) : PSort (l.take (i + 1)) := by
  have hi := (List.getElem?_eq_some_iff.1 hp).1
  rw [List.take_add_one, hp]
  refine psort_snoc hs fun q hq => ?_
  rw [last_take (by omega)] at hq
  split at hq
  · cases hq
  · rename_i h0
    exact ord_last hi hO q hq h0
theorem plates_end {vs : List Vh} {l : List Pl} {i : Nat} (h : l.length ≤ i) (hh : platesE vs l = plG vs (l.take i) (l.drop i)) : platesE vs l = 0 := by
  rw [hh, List.drop_eq_nil_of_le h]; rfl
theorem checkPlates_any (vl : List Vh) (pl : List Pl) (sA cA vA pA : Option Addr) (sn sc cn cc vn vc pn pc : Nat) (w : World) (hv : SlT vhEnc 2 57 w vA vn vl) (hp : SlT plEnc 3 151 w pA pn pl) (hvn : vn ≤ 1000000) (hpn : pn ≤ 1000000) (hr : Rise vl) (hpok : ∀ x ∈ pl, PlOk x) :
  Calls Tryz.prog 144 #[.agg #[.slice sA sn sc, .slice cA cn cc, .slice vA vn vc, .slice pA pn pc]] w (GotE w (platesE vl pl)) := by
 refine gw_enter ⟨97, w, none, []⟩ Tryz.func144 rfl Tryz.ntmps144 rfl (mem0 (X := [SlOld vhEnc 2 57 w.heap.size none vA vn vl, SlOld plEnc 3 151 w.heap.size none pA pn pl]) (allF_cons hv.old (allF_cons hp.old allF_nil)) (allL_cons SlOld.lasts (allL_cons SlOld.lasts allL_nil))) ?_
 refine sr_ ?_
 have hlen := hp.len
 refine wl_box rfl rfl rfl fun g1 => ?_
 refine sg_ rfl (nn_ (gw_seq (sr_ (fd_ fo31_3 rfl rfl (lk_ sc29 0 rfl rfl rfl (wl_ov (ov_len es29 rfl) rfl ?_))))))
 refine wl_ov (ov_gtr rfl rfl) rfl ?_
 refine nn_ ?_
 refine gw_cond rfl (fun hh => ?_) (fun hh => ?_)
 ·have h1 : 1000 < ((pn : Nat) : Int) := by simpa using hh
  clear hh
  refine sr_ (sg_ rfl (nn_ ?_))
  refine gw_ret ?_
  refine nx_then_ret ?_
  refine nx_ret1 rfl rfl fun wx hm => ?_
  exact ⟨ret_int (by unfold platesE; rw [if_pos (by omega)]), hm.g⟩
 have h1 : ¬ (1000 < ((pn : Nat) : Int)) := by simpa using hh
 clear hh
 refine gw_skip (nx_then (gw_seq (sr_ (fd_ fo31_3 rfl rfl (lk_ sc29 0 rfl rfl rfl (wl_ov (ov_len es29 rfl) rfl (mv_ rfl (nn_ (gw_block ?_)))))))))
 refine gw_loop (γ := Nat) (fun (i : Nat) => i ≤ pn ∧ platesE vl pl = plG vl (pl.take i) (pl.drop i) ∧ PSort (pl.take i)) (fun (i : Nat) => [(1, .pointer (some ⟨g1, 0, none⟩)), (13, .slice pA pn pc), (14, .int .i64 ((pn : Nat) : Int)), (15, .int .i64 ((i : Nat) : Int))]) (fun (i : Nat) => fun _ => True) (fun (i : Nat) => [(g1, 31, [.slice sA sn sc, .slice cA cn cc, .slice vA vn vc, .slice pA pn pc])]) (fun (i : Nat) => []) (fun (i : Nat) => [SlOld vhEnc 2 57 w.heap.size none vA vn vl, SlOld plEnc 3 151 w.heap.size none pA pn pl]) (fun (i : Nat) => pn - i) 0 ⟨Nat.zero_le _, by unfold platesE; rw [if_neg (by omega)]; rfl, List.Pairwise.nil⟩ ⟨rfl, rfl, rfl, rfl, trivial⟩ (fun _ hm => hm.pick [0] [] [0, 1] rfl rfl) ?_
 intro i hinv
 replace hinv : i ≤ pn ∧ platesE vl pl = plG vl (pl.take i) (pl.drop i) ∧ PSort (pl.take i) := hinv
 refine sr_ ?_
 obtain ⟨hi0, hpe, hps⟩ := hinv
 refine wl_ov (ov_lss rfl rfl) rfl (nn_ (gw_seq ?_))
 refine gw_cond rfl (fun hh => ?_) (fun hh => ?_)
 ·have hi : ((i : Nat) : Int) < ((pn : Nat) : Int) := by simpa using hh
  clear hh
  refine gw_skip (nx_then (gw_seq (gw_block (sr_ ?_))))
  obtain ⟨bp, op, hA, _, _⟩ := hp.get (by omega)
  subst hA
  obtain ⟨x, hx⟩ : ∃ x, pl[i]? = some x := ⟨_, List.getElem?_eq_getElem (by omega)⟩
  obtain ⟨pf, pv, pp⟩ := x
  have hat := plG_at (vs := vl) hx
  obtain ⟨hpf, hpv, hpp⟩ := hpok _ (List.mem_of_getElem? hx)
  have hpv : pv.size ≤ 1000000 := hpv
  have hpp : pp.size ≤ 1000000 := hpp
  have hil : i < pl.length := by omega
  refine mv_ rfl ?_
  refine wl_ov (ov_index (j := i) es29 rfl rfl (by omega)) rfl ?_
  refine wl_ov (ov_elem (vs := [.int .i64 pf, .string pv, .string pp]) rz151 rfl (fun _ hm => (hm.fact 1 rfl).1) hx rfl rfl) rfl ?_
  refine wl_alloc zc151 rfl fun g2 => ?_
  refine sg_ rfl ?_
  refine wl_stores (cs' := [.int .i64 pf, .string pv, .string pp]) 0 rz151 rfl rfl rfl rfl rfl rfl rfl rfl ?_
  refine nn_ (gw_seq (gw_block (sr_ (fd_ fo151_0 rfl rfl (lk_ sc3 0 rfl rfl rfl ?_)))))
  refine wl_callv rfl cb145 rfl rfl (fun wx hm => ((isMoment_any _ wx).mono fun _ _ ⟨he, hw⟩ => ⟨he, hw ▸ World.grownBy.refl _ _⟩)) ?_
  refine wl_ov (ov_un_not rfl) rfl (sg_ rfl (nn_ ?_))
  refine gw_cond rfl (fun hh => ?_) (fun hh => ?_)
  ·have h2 : (inB pf 0 5761439) = false := by simpa using hh
   clear hh
   refine sr_ (sg_ rfl (nn_ ?_))
   refine gw_ret ?_
   refine nx_blk_ret (nx_then_ret (nx_blk_ret (nx_then_ret (nx_then_ret (nx_blk_ret (nx_then_ret ?_))))))
   have hE : plE vl (pl.take i) ⟨pf, pv, pp⟩ = 1 := plE_one (by simpa using h2)
   refine nx_ret1 rfl rfl fun wx hm => ?_
   exact ⟨ret_int (by rw [hpe, hat, if_neg (by rw [hE]; decide), hE]), hm.g⟩
  have h2 : (inB pf 0 5761439) = true := by simpa using hh
  clear hh
  refine sr_ ?_
  refine wl_ov (ov_loads rz31 rfl (fun _ hm => hm.blkI 1 rfl) rfl rfl) rfl ?_
  refine fd_ fo151_1 rfl rfl (lk_ sc9 0 rfl rfl rfl ?_)
  refine wl_callv rfl cb43 rfl rfl (fun wx hm => (vehicleAt_any vl sA cA vA (some ⟨bp, op, none⟩) sn sc cn cc vn vc pn pc pv wx (hm.fact 0 rfl).1 hvn hr)) ?_
  refine wl_ov (ov_lss rfl rfl) rfl (sg_ rfl (nn_ ?_))
  refine gw_cond rfl (fun hh => ?_) (fun hh => ?_)
  ·have h3 : ixP (vhP pv) vl 0 < 0 := by simpa using hh
   clear hh
   refine sr_ (sg_ rfl (nn_ ?_))
   refine gw_ret ?_
   refine nx_blk_ret (nx_then_ret (nx_blk_ret (nx_then_ret (nx_then_ret (nx_blk_ret (nx_then_ret ?_))))))
   have hE : plE vl (pl.take i) ⟨pf, pv, pp⟩ = 8 := plE_two (by simpa using h2) h3
   refine nx_ret1 rfl rfl fun wx hm => ?_
   exact ⟨ret_int (by rw [hpe, hat, if_neg (by rw [hE]; decide), hE]), hm.g⟩
  have h3 : ¬ (ixP (vhP pv) vl 0 < 0) := by simpa using hh
  clear hh
  refine sr_ (fd_ fo151_2 rfl rfl (lk_ sc9 0 rfl rfl rfl ?_))
  refine wl_callv rfl cb209 rfl rfl (fun wx hm => ((isPlate_any pp wx (by omega)).mono fun _ _ ⟨he, hw⟩ => ⟨he, hw ▸ World.grownBy.refl _ _⟩)) ?_
  refine wl_ov (ov_un_not rfl) rfl (sg_ rfl (nn_ ?_))
  refine gw_cond rfl (fun hh => ?_) (fun hh => ?_)
  ·have h4 : (plateB pp) = false := by simpa using hh
   clear hh
   refine sr_ (sg_ rfl (nn_ ?_))
   refine gw_ret ?_
   refine nx_blk_ret (nx_then_ret (nx_blk_ret (nx_then_ret (nx_then_ret (nx_blk_ret (nx_then_ret ?_))))))
   have hE : plE vl (pl.take i) ⟨pf, pv, pp⟩ = 3 := plE_three (by simpa using h2) h3 (by simpa using h4)
   refine nx_ret1 rfl rfl fun wx hm => ?_
   exact ⟨ret_int (by rw [hpe, hat, if_neg (by rw [hE]; decide), hE]), hm.g⟩
  have h4 : (plateB pp) = true := by simpa using hh
  clear hh
  refine gw_skip (nx_blk_nrm (nx_then ?_))
  have hfour := plE_four (vs := vl) (pre := pl.take i) (p := ⟨pf, pv, pp⟩) (by simpa using h2) h3 (by simpa using h4)
  refine gw_cut (γ := Unit) (I := (fun (uu : Unit) => plO (pl.take i) ⟨pf, pv, pp⟩ = false)) (S' := (fun (uu : Unit) => [(1, .pointer (some ⟨g1, 0, none⟩)), (3, .int .i64 ((i : Nat) : Int)), (4, .pointer (some ⟨g2, 0, none⟩)), (13, .slice (some ⟨bp, op, none⟩) pn pc), (14, .int .i64 ((pn : Nat) : Int)), (15, .int .i64 ((i : Nat) : Int))])) (K' := (fun (uu : Unit) => fun _ => True)) (L' := (fun (uu : Unit) => [(g2, 151, [.int .i64 pf, .string pv, .string pp]), (g1, 31, [.slice sA sn sc, .slice cA cn cc, .slice vA vn vc, .slice (some ⟨bp, op, none⟩) pn pc])])) (O' := (fun (uu : Unit) => [])) (X' := (fun (uu : Unit) => [SlOld vhEnc 2 57 w.heap.size none vA vn vl, SlOld plEnc 3 151 w.heap.size none (some ⟨bp, op, none⟩) pn pl])) ?_ ?_
  ·refine sr_ (mv_ rfl ?_)
   refine wl_ov (ov_gtr rfl rfl) rfl ?_
   refine nn_ ?_
   refine gw_cond rfl (fun hh => ?_) (fun hh => ?_)
   ·have h5 : 0 < ((i : Nat) : Int) := by simpa using hh
    clear hh
    refine sr_ ?_
    have hi1 : i - 1 < pn := by omega
    have h0 : ¬ i = 0 := by omega
    obtain ⟨q, hq⟩ : ∃ x, pl[i - 1]? = some x := ⟨_, List.getElem?_eq_getElem (by omega)⟩
    obtain ⟨qf, qv, qp⟩ := q
    have hO := plO_pos (p := ⟨pf, pv, pp⟩) hil h0 hq
    refine fd_ fo31_3 rfl rfl (lk_ sc29 1 rfl rfl rfl (mv_ rfl ?_))
    refine wl_ov (ov_sub rfl rfl (by omega) (by omega)) rfl ?_
    refine wl_set 41 (v' := .int .i64 (((i - 1) : Nat) : Int)) rfl (congrArg (Value.int .i64) (by omega)) ?_
    refine wl_ov (ov_index (j := (i - 1)) es29 rfl rfl (by omega)) rfl ?_
    refine wl_ov (ov_elem (vs := [.int .i64 qf, .string qv, .string qp]) rz151 rfl (fun _ hm => (hm.fact 1 rfl).1) hq rfl rfl) rfl ?_
    refine wl_alloc zc151 rfl fun g3 => ?_
    refine wl_stores (cs' := [.int .i64 qf, .string qv, .string qp]) 0 rz151 rfl rfl rfl rfl rfl rfl rfl rfl ?_
    refine nn_ (gw_seq ?_)
    refine gd (fun wz => Blk wz g3 151 [.int .i64 qf, .string qv, .string qp] ∧ Blk wz g2 151 [.int .i64 pf, .string pv, .string pp] ∧ Blk wz g1 31 [.slice sA sn sc, .slice cA cn cc, .slice vA vn vc, .slice (some ⟨bp, op, none⟩) pn pc] ∧ (SlOld vhEnc 2 57 w.heap.size none vA vn vl) wz ∧ (SlOld plEnc 3 151 w.heap.size none (some ⟨bp, op, none⟩) pn pl) wz ∧ True) mixed (fun _ hm => ⟨hm.bl 0, hm.bl 1, hm.bl 2, hm.fa 0, hm.fa 1, trivial⟩) fun z => ?_
    refine wt 0 18 1 rfl z (ov_field fo151_0 rfl rfl) ?_
    refine wt 1 18 3 rfl z (ov_load sc3 rfl (fun _ hm => hm.1) rfl) ?_
    refine wt 2 18 7 rfl z (ov_field fo151_0 rfl rfl) ?_
    refine wt 3 18 15 rfl z (ov_load sc3 rfl (fun _ hm => hm.2.1) rfl) ?_
    refine wt 5 18 47 rfl z (ov_field fo151_1 rfl rfl) ?_
    refine wt 6 18 111 rfl z (ov_load sc9 rfl (fun _ hm => hm.1) rfl) ?_
    refine wt 7 18 239 rfl z (ov_field fo151_1 rfl rfl) ?_
    refine wt 8 18 495 rfl z (ov_load sc9 rfl (fun _ hm => hm.2.1) rfl) ?_
    refine wt 10 18 1519 rfl z (ov_field fo151_2 rfl rfl) ?_
    refine wt 11 18 3567 rfl z (ov_load sc9 rfl (fun _ hm => hm.1) rfl) ?_
    refine wt 12 18 7663 rfl z (ov_field fo151_2 rfl rfl) ?_
    refine wt 13 18 15855 rfl z (ov_load sc9 rfl (fun _ hm => hm.2.1) rfl) ?_
    refine wa1 4 rfl ?_
    refine wl_callv rfl cb51 rfl rfl (fun wx hm => (cmp_int _ _ wx)) ?_
    refine wl_nil ?_
    refine nw 18 15871 (fun _ hm => ⟨hm.bl 0, hm.bl 1, hm.bl 2, hm.fa 0, hm.fa 1, trivial⟩) fun z => ?_
    refine wa1 9 rfl ?_
    refine wl_callv rfl cb52 rfl rfl (fun wx hm => (cmp_string _ _ wx)) ?_
    refine wl_nil ?_
    refine nw 18 16383 (fun _ hm => ⟨hm.bl 0, hm.bl 1, hm.bl 2, hm.fa 0, hm.fa 1, trivial⟩) fun z => ?_
    refine wa1 14 rfl ?_
    refine wl_callv rfl cb52 rfl rfl (fun wx hm => (cmp_string _ _ wx)) ?_
    refine wl_nil ?_
    refine nw 18 32767 (fun _ hm => ⟨hm.bl 0, hm.bl 1, hm.bl 2, hm.fa 0, hm.fa 1, trivial⟩) fun z => ?_
    refine wa1 15 rfl ?_
    refine wl_buildSlice (e := 3) (cs := [.int .i64 (cmpI qf pf), .int .i64 (cmpS qv pv), .int .i64 (cmpS qp pp)]) rfl (by kernel_rfl) rfl fun g4 => ?_
    refine wl_nil ?_
    refine nw 18 65535 (fun _ hm => ⟨hm.bl 1, hm.bl 2, hm.bl 3, hm.fa 0, hm.fa 1, trivial⟩) fun z => ?_
    refine wa1 16 rfl ?_
    refine wl_callv rfl cb50 rfl rfl (fun wx hm => (or_three g4 _ _ _ wx (hm.blkI 0 rfl))) ?_
    refine wl_nil ?_
    refine nw 18 131071 (fun _ hm => ⟨hm.bl 1, hm.bl 2, hm.bl 3, hm.fa 0, hm.fa 1, trivial⟩) fun z => ?_
    refine wt 17 18 262143 rfl z (ov_geq rfl rfl) ?_
    refine wa_done (by kernel_rfl) ?_
    refine nx_then ?_
    refine gw_cond rfl (fun hh => ?_) (fun hh => ?_)
    ·have h6 : 0 ≤ firstE [cmpI qf pf, cmpS qv pv, cmpS qp pp] := by simpa using hh
     clear hh
     refine sr_ ?_
     have hO2 : plO (pl.take i) ⟨pf, pv, pp⟩ = true := by rw [hO]; exact decide_eq_true h6
     refine sg_ rfl (nn_ ?_)
     refine gw_ret ?_
     refine nx_then_ret (nx_blk_ret (nx_then_ret (nx_then_ret (nx_blk_ret (nx_then_ret ?_)))))
     have hE : plE vl (pl.take i) ⟨pf, pv, pp⟩ = 7 := by rw [hfour, if_pos hO2]
     refine nx_ret1 rfl rfl fun wx hm => ?_
     exact ⟨ret_int (by rw [hpe, hat, if_neg (by rw [hE]; decide), hE]), hm.g⟩
    have h6 : ¬ (0 ≤ firstE [cmpI qf pf, cmpS qv pv, cmpS qp pp]) := by simpa using hh
    clear hh
    refine gw_skip ?_
    have hO2 : plO (pl.take i) ⟨pf, pv, pp⟩ = false := by rw [hO]; exact decide_eq_false h6
    exact nx_meet () hO2 ⟨rfl, rfl, rfl, rfl, rfl, rfl, trivial⟩ (fun _ hm => hm.pick [2, 3] [] [0, 1] rfl rfl)
   have h5 : ¬ (0 < ((i : Nat) : Int)) := by simpa using hh
   clear hh
   refine gw_skip ?_
   obtain rfl : i = 0 := by omega
   exact nx_meet () plO_zero ⟨rfl, rfl, rfl, rfl, rfl, rfl, trivial⟩ (fun _ hm => hm.pick [0, 1] [] [0, 1] rfl rfl)
  intro uu hinv
  replace hinv : plO (pl.take i) ⟨pf, pv, pp⟩ = false := hinv
  refine sr_ ?_
  have hO : plO (pl.take i) ⟨pf, pv, pp⟩ = false := hinv
  have hlast := ord_last hil hO
  refine mv_ rfl ?_
  refine wl_ov (ov_sub rfl rfl (by omega) (by omega)) rfl ?_
  refine sg_ rfl (nn_ (gw_block ?_))
  refine gw_loop (γ := Nat) (fun (j : Nat) => j ≤ i ∧ ∀ t, j ≤ t → t < i → ∀ x, pl[t]? = some x → plTwin ⟨pf, pv, pp⟩ x = false) (fun (j : Nat) => [(1, .pointer (some ⟨g1, 0, none⟩)), (4, .pointer (some ⟨g2, 0, none⟩)), (6, .int .i64 (((j : Nat) : Int) - 1)), (13, .slice (some ⟨bp, op, none⟩) pn pc), (14, .int .i64 ((pn : Nat) : Int)), (15, .int .i64 ((i : Nat) : Int))]) (fun (j : Nat) => fun _ => True) (fun (j : Nat) => [(g2, 151, [.int .i64 pf, .string pv, .string pp]), (g1, 31, [.slice sA sn sc, .slice cA cn cc, .slice vA vn vc, .slice (some ⟨bp, op, none⟩) pn pc])]) (fun (j : Nat) => []) (fun (j : Nat) => [SlOld vhEnc 2 57 w.heap.size none vA vn vl, SlOld plEnc 3 151 w.heap.size none (some ⟨bp, op, none⟩) pn pl]) (fun (j : Nat) => j) i ⟨Nat.le_refl _, fun t h1 h2 => by omega⟩ ⟨rfl, rfl, rfl, rfl, rfl, rfl, trivial⟩ (fun _ hm => hm.pick [0, 1] [] [0, 1] rfl rfl) ?_
  intro j hinv
  replace hinv : j ≤ i ∧ ∀ t, j ≤ t → t < i → ∀ x, pl[t]? = some x → plTwin ⟨pf, pv, pp⟩ x = false := hinv
  refine gw_seq (gw_seq ?_)
  obtain ⟨hji, hno⟩ := hinv
  rcases j with _ | j
  ·refine gd (fun wz => Blk wz g2 151 [.int .i64 pf, .string pv, .string pp] ∧ Blk wz g1 31 [.slice sA sn sc, .slice cA cn cc, .slice vA vn vc, .slice (some ⟨bp, op, none⟩) pn pc] ∧ (SlOld vhEnc 2 57 w.heap.size none vA vn vl) wz ∧ (SlOld plEnc 3 151 w.heap.size none (some ⟨bp, op, none⟩) pn pl) wz ∧ True) mixed (fun _ hm => ⟨hm.bl 0, hm.bl 1, hm.fa 0, hm.fa 1, trivial⟩) fun z => ?_
   refine wt 0 13 1 rfl z (ov_move rfl) ?_
   refine wa_set 64 (v' := .int .i64 (-1)) rfl rfl ?_
   refine wt 1 13 3 rfl z (ov_geq rfl rfl) ?_
   refine wa_set 65 (v' := .bool false) rfl (congrArg Value.bool (by decide)) ?_
   refine wt 2 13 7 rfl z (ov_move rfl) ?_
   refine wtf 3 13 15 rfl rfl rfl z ?_
   refine wtf 4 13 31 rfl rfl rfl z ?_
   refine wtf 5 13 63 rfl rfl rfl z ?_
   refine wtf 6 13 127 rfl rfl rfl z ?_
   refine wtf 7 13 255 rfl rfl rfl z ?_
   refine wtf 8 13 511 rfl rfl rfl z ?_
   refine wtf 9 13 1023 rfl rfl rfl z ?_
   refine wtf 10 13 2047 rfl rfl rfl z ?_
   refine wtf 11 13 4095 rfl rfl rfl z ?_
   refine wt 12 13 8191 rfl z (ov_pick_f rfl rfl) ?_
   refine wa_done (by kernel_rfl) ?_
   refine nx_then (cf_ rfl ?_)
   refine gw_exit ?_
   refine nx_then_exit (nx_then_exit ?_)
   refine nx_blk_here ?_
   refine nx_blk_nrm (nx_then (gw_region (ad_ rfl rfl (mv_ rfl (wl_nil ?_)))))
   have hany := twin_none (p := ⟨pf, pv, pp⟩) hps (by omega) (by omega) hlast hno (.inl rfl)
   have hE : plE vl (pl.take i) ⟨pf, pv, pp⟩ = 0 := by rw [hfour, if_neg (by rw [hO]; decide), if_neg (by rw [hany]; decide)]
   exact nx_round (i + 1) ⟨by omega, by rw [hpe, hat, if_pos hE], psort_next hps hx hO⟩ (by omega) ⟨rfl, rfl, rfl, (some_int (by omega)), trivial⟩ (fun _ hm => hm.pick [1] [] [0, 1] rfl rfl)
  obtain ⟨tx, ht⟩ : ∃ x, pl[j]? = some x := ⟨_, List.getElem?_eq_getElem (by omega)⟩
  obtain ⟨tf, tv, tp⟩ := tx
  refine gd (fun wz => Blk wz g2 151 [.int .i64 pf, .string pv, .string pp] ∧ Blk wz g1 31 [.slice sA sn sc, .slice cA cn cc, .slice vA vn vc, .slice (some ⟨bp, op, none⟩) pn pc] ∧ (SlOld vhEnc 2 57 w.heap.size none vA vn vl) wz ∧ (SlOld plEnc 3 151 w.heap.size none (some ⟨bp, op, none⟩) pn pl) wz ∧ True) mixed (fun _ hm => ⟨hm.bl 0, hm.bl 1, hm.fa 0, hm.fa 1, trivial⟩) fun z => ?_
  refine wt 0 13 1 rfl z (ov_move rfl) ?_
  refine wa_set 64 (v' := .int .i64 ((j : Nat) : Int)) rfl (congrArg (Value.int .i64) (by omega)) ?_
  refine wt 1 13 3 rfl z (ov_geq rfl rfl) ?_
  refine wa_set 65 (v' := .bool true) rfl (congrArg Value.bool (decide_eq_true (by omega))) ?_
  refine wt 2 13 7 rfl z (ov_move rfl) ?_
  refine wto 3 13 15 rfl rfl rfl z (ov_field fo31_3 rfl rfl) ?_
  refine wto 4 13 31 rfl rfl rfl z (ov_load sc29 rfl (fun _ hm => hm.2.1) rfl) ?_
  refine wto 5 13 63 rfl rfl rfl z (ov_move rfl) ?_
  refine wa_set 69 (v' := .int .i64 ((j : Nat) : Int)) rfl (congrArg (Value.int .i64) (by omega)) ?_
  refine wto 6 13 127 rfl rfl rfl z (ov_index (j := j) es29 rfl rfl (by omega)) ?_
  refine wto 7 13 255 rfl rfl rfl z (ov_field fo151_0 rfl rfl) ?_
  refine wto 8 13 511 rfl rfl rfl z (ov_elem1 (k := 0) (v := .int .i64 tf) sc3 rfl (fun _ hm => (hm.2.2.2.1).1) ht rfl rfl) ?_
  refine wto 9 13 1023 rfl rfl rfl z (ov_field fo151_0 rfl rfl) ?_
  refine wto 10 13 2047 rfl rfl rfl z (ov_load sc3 rfl (fun _ hm => hm.1) rfl) ?_
  refine wto 11 13 4095 rfl rfl rfl z (ov_eql rfl rfl) ?_
  refine wt 12 13 8191 rfl z (ov_pick_t rfl rfl) ?_
  refine wa_done (by kernel_rfl) ?_
  refine nx_then ?_
  refine gw_cond rfl (fun hh => ?_) (fun hh => ?_)
  ·have h7 : tf = pf := by simpa using hh
   clear hh
   refine gw_skip (nx_then (gw_seq (gw_block (sr_ (fd_ fo31_3 rfl rfl (lk_ sc29 1 rfl rfl rfl (mv_ rfl ?_)))))))
   refine wl_set 81 (v' := .int .i64 ((j : Nat) : Int)) rfl (congrArg (Value.int .i64) (by omega)) ?_
   refine wl_ov (ov_index (j := j) es29 rfl rfl (by omega)) rfl ?_
   refine wl_ov (ov_elem (vs := [.int .i64 tf, .string tv, .string tp]) rz151 rfl (fun _ hm => (hm.fact 1 rfl).1) ht rfl rfl) rfl ?_
   refine wl_alloc zc151 rfl fun g5 => ?_
   refine wl_stores (cs' := [.int .i64 tf, .string tv, .string tp]) 0 rz151 rfl rfl rfl rfl rfl rfl rfl rfl ?_
   refine nn_ (sr_ (fd_ fo151_1 rfl rfl (lk_ sc9 0 rfl rfl rfl (fd_ fo151_1 rfl rfl (lk_ sc9 1 rfl rfl rfl (wl_ov (ov_seql rfl rfl) rfl (mv_ rfl ?_)))))))
   rcases Bool.eq_false_or_eq_true (tv.toList == pv.toList) with h8 | h8
   ·refine wl_set 89 rfl (congrArg Value.bool h8) ?_
    have htw : plTwin ⟨pf, pv, pp⟩ ⟨tf, tv, tp⟩ = true := by unfold plTwin; rw [decide_eq_true (show (⟨tf, tv, tp⟩ : Pl).fr = (⟨pf, pv, pp⟩ : Pl).fr from h7), h8]; rfl
    refine goff rfl rfl rfl (goff rfl rfl rfl (goff rfl rfl rfl (goff rfl rfl rfl (goff rfl rfl rfl (pt_ rfl rfl (nn_ (ct_ rfl (sr_ (sg_ rfl (nn_ ?_))))))))))
    refine gw_ret ?_
    refine nx_blk_ret (nx_then_ret (nx_then_ret (nx_blk_ret (nx_blk_ret (nx_then_ret (nx_then_ret (nx_blk_ret (nx_then_ret ?_))))))))
    have hany : (pl.take i).any (plTwin ⟨pf, pv, pp⟩) = true := List.any_eq_true.2 ⟨_, List.mem_of_getElem? (i := j) (by rw [List.getElem?_take, if_pos (by omega)]; exact ht), htw⟩
    have hE : plE vl (pl.take i) ⟨pf, pv, pp⟩ = 6 := by rw [hfour, if_neg (by rw [hO]; decide), if_pos hany]
    refine nx_ret1 rfl rfl fun wx hm => ?_
    exact ⟨ret_int (by rw [hpe, hat, if_neg (by rw [hE]; decide), hE]), hm.g⟩
   refine wl_set 89 rfl (congrArg Value.bool h8) ?_
   refine wl_guard_on rfl rfl rfl (fd_ fo151_2 rfl rfl (wl_guard_on rfl rfl rfl (lk_ sc9 0 rfl rfl rfl (wl_guard_on rfl rfl rfl (fd_ fo151_2 rfl rfl (wl_guard_on rfl rfl rfl (lk_ sc9 1 rfl rfl rfl (wl_guard_on rfl rfl rfl (wl_ov (ov_seql rfl rfl) rfl (pf_ rfl rfl (nn_ ?_)))))))))))
   refine gw_cond rfl (fun hh => ?_) (fun hh => ?_)
   ·have h9 : (tp.toList == pp.toList) = true := by simpa using hh
    clear hh
    refine sr_ ?_
    have htw : plTwin ⟨pf, pv, pp⟩ ⟨tf, tv, tp⟩ = true := by unfold plTwin; rw [decide_eq_true (show (⟨tf, tv, tp⟩ : Pl).fr = (⟨pf, pv, pp⟩ : Pl).fr from h7), h8, h9]; rfl
    refine sg_ rfl (nn_ ?_)
    refine gw_ret ?_
    refine nx_blk_ret (nx_then_ret (nx_then_ret (nx_blk_ret (nx_blk_ret (nx_then_ret (nx_then_ret (nx_blk_ret (nx_then_ret ?_))))))))
    have hany : (pl.take i).any (plTwin ⟨pf, pv, pp⟩) = true := List.any_eq_true.2 ⟨_, List.mem_of_getElem? (i := j) (by rw [List.getElem?_take, if_pos (by omega)]; exact ht), htw⟩
    have hE : plE vl (pl.take i) ⟨pf, pv, pp⟩ = 6 := by rw [hfour, if_neg (by rw [hO]; decide), if_pos hany]
    refine nx_ret1 rfl rfl fun wx hm => ?_
    exact ⟨ret_int (by rw [hpe, hat, if_neg (by rw [hE]; decide), hE]), hm.g⟩
   have h9 : (tp.toList == pp.toList) = false := by simpa using hh
   clear hh
   refine gw_skip (nx_blk_nrm (nx_then (gw_region ?_)))
   have htw : plTwin ⟨pf, pv, pp⟩ ⟨tf, tv, tp⟩ = false := by unfold plTwin; rw [decide_eq_true (show (⟨tf, tv, tp⟩ : Pl).fr = (⟨pf, pv, pp⟩ : Pl).fr from h7), h8, h9]; rfl
   refine mv_ rfl ?_
   refine wl_set 77 (v' := .int .i64 ((j : Nat) : Int)) rfl (congrArg (Value.int .i64) (by omega)) ?_
   refine wl_ov (ov_sub rfl rfl (by omega) (by omega)) rfl ?_
   refine sg_ rfl (wl_nil ?_)
   exact nx_round j ⟨by omega, fun t h1 h2 y hy => by
    rcases Nat.eq_or_lt_of_le h1 with rfl | h3
    ·rw [ht] at hy; cases hy; exact htw
    exact hno t h3 h2 y hy⟩ (by omega) ⟨rfl, rfl, rfl, rfl, rfl, rfl, trivial⟩ (fun _ hm => hm.pick [1, 2] [] [0, 1] rfl rfl)
  have h7 : ¬ (tf = pf) := by simpa using hh
  clear hh
  refine gw_exit ?_
  refine nx_then_exit (nx_then_exit ?_)
  refine nx_blk_here ?_
  refine nx_blk_nrm (nx_then (gw_region (ad_ rfl rfl (mv_ rfl (wl_nil ?_)))))
  have hany := twin_none (p := ⟨pf, pv, pp⟩) hps (by omega) (by omega) hlast hno (.inr ⟨_, ht, h7⟩)
  have hE : plE vl (pl.take i) ⟨pf, pv, pp⟩ = 0 := by rw [hfour, if_neg (by rw [hO]; decide), if_neg (by rw [hany]; decide)]
  exact nx_round (i + 1) ⟨by omega, by rw [hpe, hat, if_pos hE], psort_next hps hx hO⟩ (by omega) ⟨rfl, rfl, rfl, (some_int (by omega)), trivial⟩ (fun _ hm => hm.pick [1] [] [0, 1] rfl rfl)
 have hi : ¬ (((i : Nat) : Int) < ((pn : Nat) : Int)) := by simpa using hh
 clear hh
 refine gw_exit ?_
 refine nx_then_exit (nx_then_exit ?_)
 refine nx_blk_here ?_
 refine nx_then (sr_ (sg_ rfl (nn_ ?_)))
 refine gw_ret ?_
 refine nx_ret1 rfl rfl fun wx hm => ?_
 exact ⟨ret_int (by rw [plates_end (by omega) hpe]), hm.g⟩
end Go.Proofs.YtiendebcdicjnaaGreatDoor
namespace Go.Proofs.YtiendebcdicjnaaGreatDoor
open Go.RowKit
theorem fleet_head {sl : List St} {cl : List Cs} {vl : List Vh} {pl : List Pl} {vn : Nat} (hl : vl.length = vn) (h : firstE [stationsE sl, classesE cl, whenE (decide ((500 : Int) < ((vn : Nat) : Int))) 2] ≠ 0) : fleetE sl cl vl pl = firstE [stationsE sl, classesE cl, whenE (decide ((500 : Int) < ((vn : Nat) : Int))) 2] := by
  unfold fleetE
  by_cases h1 : stationsE sl = 0
  · by_cases h2 : classesE cl = 0
    · by_cases h3 : (500 : Int) < ((vn : Nat) : Int)
      · have h4 : vehsE cl vl = 2 := by unfold vehsE; rw [if_pos (by omega)]
        rw [h1, h2, h4, decide_eq_true h3]; rfl
      · rw [h1, h2, decide_eq_false h3] at h
        exact absurd rfl h
    · simp [firstE, h1, h2]
  · simp [firstE, h1]
theorem fleet_tail {sl : List St} {cl : List Cs} {vl : List Vh} {pl : List Pl} {vn : Nat} (hl : vl.length = vn) (h : firstE [stationsE sl, classesE cl, whenE (decide ((500 : Int) < ((vn : Nat) : Int))) 2] = 0) : stationsE sl = 0 ∧ classesE cl = 0 ∧ vn ≤ 500 ∧ fleetE sl cl vl pl = firstE [scanE (vhE cl) none vl, platesE vl pl] := by
  have hz := fe_all h
  have h1 := hz (stationsE sl) (by simp)
  have h2 := hz (classesE cl) (by simp)
  have h3 := hz (whenE (decide ((500 : Int) < ((vn : Nat) : Int))) 2) (by simp)
  have h4 : ¬ (500 : Int) < ((vn : Nat) : Int) := fun h => by rw [decide_eq_true h] at h3; cases h3
  refine ⟨h1, h2, by omega, ?_⟩
  unfold fleetE vehsE
  rw [h1, h2, if_neg (by omega)]; rfl
theorem fe_left {a b : Int} (h : a ≠ 0) : firstE [a, b] = a := by simp [firstE, h]
theorem fe_right {b : Int} : firstE [0, b] = b := by
  by_cases h : b = 0
  · subst h; rfl
  · simp [firstE, h]
theorem vhE_one {cl : List Cs} {p : Option Vh} {b : Vh} (h : keyB b.key = false) : vhE cl p b = 5 := by unfold vhE; rw [h]; rfl
theorem vhE_two {cl : List Cs} {p : Option Vh} {b : Vh} (h : keyB b.key = true) (h2 : leVh p b = true) : vhE cl p b = 7 := by unfold vhE; rw [h, h2]; rfl
theorem vhE_three {cl : List Cs} {p : Option Vh} {b : Vh} (h : keyB b.key = true) (h2 : leVh p b = false) : vhE cl p b = if ixP (csP b.cls) cl 0 < 0 then 8 else 0 := by unfold vhE; rw [h, h2]; rfl
theorem checkFleet_any (sl : List St) (cl : List Cs) (vl : List Vh) (pl : List Pl) (sA cA vA pA : Option Addr) (sn sc cn cc vn vc pn pc : Nat) (w : World) (hs : SlT stEnc 15 105 w sA sn sl) (hc : SlT csEnc 2 90 w cA cn cl) (hv : SlT vhEnc 2 57 w vA vn vl) (hp : SlT plEnc 3 151 w pA pn pl) (hsok : ∀ x ∈ sl, StOk x) (hcok : ∀ x ∈ cl, CsOk x) (hvok : ∀ x ∈ vl, VhOk x) (hpok : ∀ x ∈ pl, PlOk x) (hsn : sn ≤ 1000000) (hcn : cn ≤ 1000000) (hvn : vn ≤ 1000000) (hpn : pn ≤ 1000000) :
  Calls Tryz.prog 72 #[.agg #[.slice sA sn sc, .slice cA cn cc, .slice vA vn vc, .slice pA pn pc]] w (GotE w (fleetE sl cl vl pl)) := by
 refine gw_enter ⟨60, w, none, []⟩ Tryz.func72 rfl Tryz.ntmps72 rfl (mem0 (X := [SlOld stEnc 15 105 w.heap.size none sA sn sl, SlOld csEnc 2 90 w.heap.size none cA cn cl, SlOld vhEnc 2 57 w.heap.size none vA vn vl, SlOld plEnc 3 151 w.heap.size none pA pn pl]) (allF_cons hs.old (allF_cons hc.old (allF_cons hv.old (allF_cons hp.old allF_nil)))) (allL_cons SlOld.lasts (allL_cons SlOld.lasts (allL_cons SlOld.lasts (allL_cons SlOld.lasts allL_nil))))) ?_
 refine sr_ ?_
 have hlen := hv.len
 obtain ⟨SE, hSE⟩ : ∃ z, z = stationsE sl := ⟨_, rfl⟩
 obtain ⟨CE, hCE⟩ : ∃ z, z = classesE cl := ⟨_, rfl⟩
 obtain ⟨FE, hFE⟩ : ∃ z, z = firstE [stationsE sl, classesE cl, whenE (decide ((500 : Int) < ((vn : Nat) : Int))) 2] := ⟨_, rfl⟩
 have hFE2 : FE = firstE [SE, CE, whenE (decide ((500 : Int) < ((vn : Nat) : Int))) 2] := by rw [hFE, hSE, hCE]
 refine wl_box rfl rfl rfl fun g1 => ?_
 refine sg_ rfl (nn_ (gw_seq ?_))
 refine gw_cut (γ := Unit) (I := (fun (uu : Unit) => True)) (S' := (fun (uu : Unit) => [(1, .pointer (some ⟨g1, 0, none⟩)), (2, .int .i64 0), (3, .int .i64 FE)])) (K' := (fun (uu : Unit) => fun _ => True)) (L' := (fun (uu : Unit) => [(g1, 31, [.slice sA sn sc, .slice cA cn cc, .slice vA vn vc, .slice pA pn pc])])) (O' := (fun (uu : Unit) => [])) (X' := (fun (uu : Unit) => [SlOld stEnc 15 105 w.heap.size none sA sn sl, SlOld csEnc 2 90 w.heap.size none cA cn cl, SlOld vhEnc 2 57 w.heap.size none vA vn vl, SlOld plEnc 3 151 w.heap.size none pA pn pl])) ?_ ?_
 ·refine gd (fun wz => Blk wz g1 31 [.slice sA sn sc, .slice cA cn cc, .slice vA vn vc, .slice pA pn pc] ∧ (SlOld stEnc 15 105 w.heap.size none sA sn sl) wz ∧ (SlOld csEnc 2 90 w.heap.size none cA cn cl) wz ∧ (SlOld vhEnc 2 57 w.heap.size none vA vn vl) wz ∧ (SlOld plEnc 3 151 w.heap.size none pA pn pl) wz ∧ True) mixed (fun _ hm => ⟨hm.bl 0, hm.fa 0, hm.fa 1, hm.fa 2, hm.fa 3, trivial⟩) fun z => ?_
  refine wt 0 14 1 rfl z (ov_field fo31_0 rfl rfl) ?_
  refine wt 1 14 3 rfl z (ov_load sc26 rfl (fun _ hm => hm.1) rfl) ?_
  refine wt 3 14 11 rfl z (ov_field fo31_1 rfl rfl) ?_
  refine wt 4 14 27 rfl z (ov_load sc27 rfl (fun _ hm => hm.1) rfl) ?_
  refine wt 6 14 91 rfl z (ov_field fo31_2 rfl rfl) ?_
  refine wt 7 14 219 rfl z (ov_load sc28 rfl (fun _ hm => hm.1) rfl) ?_
  refine wt 8 14 475 rfl z (ov_len es28 rfl) ?_
  refine wt 9 14 987 rfl z (ov_gtr rfl rfl) ?_
  refine wa1 2 rfl ?_
  refine wl_callv (v := .int .i64 SE) rfl cb141 rfl rfl (fun wx hm => (by rw [hSE]; exact checkStations_any sl sA sn sc wx (hm.fact 0 rfl).1 hsok (by omega))) ?_
  refine wl_nil ?_
  refine nw 14 991 (fun _ hm => ⟨hm.bl 0, hm.fa 0, hm.fa 1, hm.fa 2, hm.fa 3, trivial⟩) fun z => ?_
  refine wa1 5 rfl ?_
  refine wl_callv (v := .int .i64 CE) rfl cb142 rfl rfl (fun wx hm => (by rw [hCE]; exact checkClasses_any cl cA cn cc wx (hm.fact 1 rfl).1 hcok (by omega))) ?_
  refine wl_nil ?_
  refine nw 14 1023 (fun _ hm => ⟨hm.bl 0, hm.fa 0, hm.fa 1, hm.fa 2, hm.fa 3, trivial⟩) fun z => ?_
  refine wa1 10 rfl ?_
  refine wl_callw rfl cb42 rfl rfl (fun wx hm => (when_any _ _ wx)) ?_
  refine wl_nil ?_
  refine nw 14 2047 (fun _ hm => ⟨hm.bl 0, hm.fa 0, hm.fa 1, hm.fa 2, hm.fa 3, trivial⟩) fun z => ?_
  refine wa1 11 rfl ?_
  refine wl_buildSlice (e := 48) (cs := [.int .i64 SE, .int .i64 CE, .int .i64 (whenE (decide (500 < ((vn : Nat) : Int))) 2)]) rfl (by kernel_rfl) rfl fun g2 => ?_
  refine wl_nil ?_
  refine nw 14 4095 (fun _ hm => ⟨hm.bl 1, hm.fa 0, hm.fa 1, hm.fa 2, hm.fa 3, trivial⟩) fun z => ?_
  refine wa1 12 rfl ?_
  refine wl_callw rfl cb41 rfl rfl (fun wx hm => (first_any [SE, CE, whenE (decide (500 < ((vn : Nat) : Int))) 2] _ _ _ wx (hm.blkI 0 rfl) (by simp))) ?_
  refine wl_nil ?_
  refine nw 14 8191 (fun _ hm => ⟨hm.bl 1, hm.fa 0, hm.fa 1, hm.fa 2, hm.fa 3, trivial⟩) fun z => ?_
  refine wt 13 14 16383 rfl z (ov_assign rfl) ?_
  refine wa_done (by kernel_rfl) ?_
  exact nx_meet () trivial ⟨rfl, rfl, (some_int hFE2.symm), trivial⟩ (fun _ hm => hm.pick [1] [] [0, 1, 2, 3] rfl rfl)
 intro uu hinv
 replace hinv : True := hinv
 refine sr_ (mv_ rfl (wl_ov (ov_neq rfl rfl) rfl (nn_ ?_)))
 refine gw_cond rfl (fun hh => ?_) (fun hh => ?_)
 ·have h1 : ¬ (FE = 0) := by simpa using hh
  clear hh
  refine sr_ ?_
  have h2 : FE ≠ 0 := by simpa using h1
  have h3 : fleetE sl cl vl pl = FE := by rw [hFE]; exact fleet_head hlen (by rw [← hFE]; exact h2)
  refine mv_ rfl (sg_ rfl (nn_ ?_))
  refine gw_ret ?_
  refine nx_then_ret ?_
  refine nx_ret1 rfl rfl fun wx hm => ?_
  exact ⟨ret_int (by rw [h3]), hm.g⟩
 have h1 : FE = 0 := by simpa using hh
 clear hh
 refine gw_skip (nx_then (gw_seq (sr_ ?_)))
 have h2 : FE = 0 := by simpa using h1
 obtain ⟨_, hcz, hv5, hfl⟩ := fleet_tail (sl := sl) (cl := cl) (pl := pl) hlen (hFE.symm.trans h2)
 refine fd_ fo31_2 rfl rfl (lk_ sc28 0 rfl rfl rfl (wl_ov (ov_len es28 rfl) rfl (mv_ rfl (nn_ (gw_block ?_)))))
 refine gw_loop (γ := Nat) (fun (i : Nat) => i ≤ vn ∧ scanE (vhE cl) none vl = scanE (vhE cl) (prevOf vl i) (vl.drop i)) (fun (i : Nat) => [(1, .pointer (some ⟨g1, 0, none⟩)), (23, .slice vA vn vc), (24, .int .i64 ((vn : Nat) : Int)), (25, .int .i64 ((i : Nat) : Int))]) (fun (i : Nat) => fun _ => True) (fun (i : Nat) => [(g1, 31, [.slice sA sn sc, .slice cA cn cc, .slice vA vn vc, .slice pA pn pc])]) (fun (i : Nat) => []) (fun (i : Nat) => [SlOld stEnc 15 105 w.heap.size none sA sn sl, SlOld csEnc 2 90 w.heap.size none cA cn cl, SlOld vhEnc 2 57 w.heap.size none vA vn vl, SlOld plEnc 3 151 w.heap.size none pA pn pl]) (fun (i : Nat) => vn - i) 0 ⟨Nat.zero_le _, rfl⟩ ⟨rfl, rfl, rfl, rfl, trivial⟩ (fun _ hm => hm.pick [0] [] [0, 1, 2, 3] rfl rfl) ?_
 intro i hinv
 replace hinv : i ≤ vn ∧ scanE (vhE cl) none vl = scanE (vhE cl) (prevOf vl i) (vl.drop i) := hinv
 refine sr_ ?_
 obtain ⟨hi0, hsc⟩ := hinv
 refine wl_ov (ov_lss rfl rfl) rfl (nn_ (gw_seq ?_))
 refine gw_cond rfl (fun hh => ?_) (fun hh => ?_)
 ·have hi : ((i : Nat) : Int) < ((vn : Nat) : Int) := by simpa using hh
  clear hh
  refine gw_skip (nx_then (gw_seq (gw_block (sr_ ?_))))
  obtain ⟨bv, ov, hA, _, _⟩ := hv.get (by omega)
  subst hA
  obtain ⟨x, hx⟩ : ∃ x, vl[i]? = some x := ⟨_, List.getElem?_eq_getElem (by omega)⟩
  obtain ⟨vk, vc2⟩ := x
  have hat := scanE_at (vhE cl) vl i _ hx
  obtain ⟨hvk, hvc2⟩ := hvok _ (List.mem_of_getElem? hx)
  have hvk : vk.size ≤ 1000000 := hvk
  refine mv_ rfl ?_
  refine wl_ov (ov_index (j := i) es28 rfl rfl (by omega)) rfl ?_
  refine wl_ov (ov_elem (vs := [.string vk, .string vc2]) rz57 rfl (fun _ hm => (hm.fact 2 rfl).1) hx rfl rfl) rfl ?_
  refine wl_alloc zc57 rfl fun g3 => ?_
  refine sg_ rfl ?_
  refine wl_stores (cs' := [.string vk, .string vc2]) 0 rz57 rfl rfl rfl rfl rfl rfl rfl rfl ?_
  refine nn_ (gw_block (sr_ (fd_ fo57_0 rfl rfl (lk_ sc9 0 rfl rfl rfl ?_))))
  refine wl_callw rfl cb117 rfl rfl (fun wx hm => (isKey_any _ wx (by omega))) ?_
  refine wl_ov (ov_un_not rfl) rfl (sg_ rfl (nn_ ?_))
  refine gw_cond rfl (fun hh => ?_) (fun hh => ?_)
  ·have h3 : (keyB vk) = false := by simpa using hh
   clear hh
   refine sr_ (sg_ rfl (nn_ ?_))
   refine gw_ret ?_
   refine nx_blk_ret (nx_blk_ret (nx_then_ret (nx_then_ret (nx_blk_ret (nx_then_ret ?_)))))
   have hE : vhE cl (prevOf vl i) ⟨vk, vc2⟩ = 5 := vhE_one (by simpa using h3)
   have hF : scanE (vhE cl) none vl = 5 := by rw [hsc, hat, if_neg (by rw [hE]; decide), hE]
   refine nx_ret1 rfl rfl fun wx hm => ?_
   exact ⟨ret_int (by rw [hfl, hF, fe_left (by decide)]), hm.g⟩
  have h3 : (keyB vk) = true := by simpa using hh
  clear hh
  refine gw_seq ?_
  by_cases h0 : i = 0
  ·have hle : leVh (prevOf vl i) ⟨vk, vc2⟩ = false := by rw [prevOf_zero h0]; rfl
   have h8 := vhE_three (cl := cl) (b := ⟨vk, vc2⟩) (by simpa using h3) hle
   refine gd (fun wz => Blk wz g3 57 [.string vk, .string vc2] ∧ Blk wz g1 31 [.slice sA sn sc, .slice cA cn cc, .slice (some ⟨bv, ov, none⟩) vn vc, .slice pA pn pc] ∧ (SlOld stEnc 15 105 w.heap.size none sA sn sl) wz ∧ (SlOld csEnc 2 90 w.heap.size none cA cn cl) wz ∧ (SlOld vhEnc 2 57 w.heap.size none (some ⟨bv, ov, none⟩) vn vl) wz ∧ (SlOld plEnc 3 151 w.heap.size none pA pn pl) wz ∧ True) mixed (fun _ hm => ⟨hm.bl 0, hm.bl 1, hm.fa 0, hm.fa 1, hm.fa 2, hm.fa 3, trivial⟩) fun z => ?_
   refine wt 0 15 1 rfl z (ov_move rfl) ?_
   refine wt 1 15 3 rfl z (ov_gtr rfl rfl) ?_
   refine wa_set 37 (v' := .bool false) rfl (congrArg Value.bool (decide_eq_false (by omega))) ?_
   refine wt 2 15 7 rfl z (ov_move rfl) ?_
   refine wtf 3 15 15 rfl rfl rfl z ?_
   refine wtf 4 15 31 rfl rfl rfl z ?_
   refine wtf 5 15 63 rfl rfl rfl z ?_
   refine wtf 6 15 127 rfl rfl rfl z ?_
   refine wtf 7 15 255 rfl rfl rfl z ?_
   refine wtf 8 15 511 rfl rfl rfl z ?_
   refine wtf 9 15 1023 rfl rfl rfl z ?_
   refine wtf 10 15 2047 rfl rfl rfl z ?_
   refine wtf 11 15 4095 rfl rfl rfl z ?_
   refine wtf 12 15 8191 rfl rfl rfl z ?_
   refine wt 13 15 16383 rfl z (ov_pick_f rfl rfl) ?_
   refine wt 14 15 32767 rfl z (ov_assign rfl) ?_
   refine wa_done (by kernel_rfl) ?_
   refine nx_then (cf_ rfl (sr_ (fd_ fo31_1 rfl rfl (lk_ sc27 1 rfl rfl rfl (fd_ fo57_1 rfl rfl (lk_ sc9 0 rfl rfl rfl ?_))))))
   refine wl_callv rfl cb143 rfl rfl (fun wx hm => (classAt_any cl cA cn cc vc2 wx (hm.fact 1 rfl).1 (by omega))) ?_
   refine wl_ov (ov_lss rfl rfl) rfl (sg_ rfl (nn_ ?_))
   refine gw_cond rfl (fun hh => ?_) (fun hh => ?_)
   ·have h5 : ixP (csP vc2) cl 0 < 0 := by simpa using hh
    clear hh
    refine sr_ (sg_ rfl (nn_ ?_))
    refine gw_ret ?_
    refine nx_blk_ret (nx_blk_ret (nx_then_ret (nx_then_ret (nx_blk_ret (nx_then_ret ?_)))))
    have hE : vhE cl (prevOf vl i) ⟨vk, vc2⟩ = 8 := by rw [h8, if_pos h5]
    have hF : scanE (vhE cl) none vl = 8 := by rw [hsc, hat, if_neg (by rw [hE]; decide), hE]
    refine nx_ret1 rfl rfl fun wx hm => ?_
    exact ⟨ret_int (by rw [hfl, hF, fe_left (by decide)]), hm.g⟩
   have h5 : ¬ (ixP (csP vc2) cl 0 < 0) := by simpa using hh
   clear hh
   refine gw_skip (nx_blk_nrm (nx_blk_nrm (nx_then (gw_region ?_))))
   have hE : vhE cl (prevOf vl i) ⟨vk, vc2⟩ = 0 := by rw [h8, if_neg h5]
   refine ad_ rfl rfl (mv_ rfl (wl_nil ?_))
   exact nx_round (i + 1) ⟨by omega, by rw [hsc, hat, if_pos hE]⟩ (by omega) ⟨rfl, rfl, rfl, (some_int (by omega)), trivial⟩ (fun _ hm => hm.pick [1] [] [0, 1, 2, 3] rfl rfl)
  obtain ⟨yy, hy⟩ : ∃ x, vl[i - 1]? = some x := ⟨_, List.getElem?_eq_getElem (by omega)⟩
  obtain ⟨uk, uc⟩ := yy
  refine gd (fun wz => Blk wz g3 57 [.string vk, .string vc2] ∧ Blk wz g1 31 [.slice sA sn sc, .slice cA cn cc, .slice (some ⟨bv, ov, none⟩) vn vc, .slice pA pn pc] ∧ (SlOld stEnc 15 105 w.heap.size none sA sn sl) wz ∧ (SlOld csEnc 2 90 w.heap.size none cA cn cl) wz ∧ (SlOld vhEnc 2 57 w.heap.size none (some ⟨bv, ov, none⟩) vn vl) wz ∧ (SlOld plEnc 3 151 w.heap.size none pA pn pl) wz ∧ True) mixed (fun _ hm => ⟨hm.bl 0, hm.bl 1, hm.fa 0, hm.fa 1, hm.fa 2, hm.fa 3, trivial⟩) fun z => ?_
  refine wt 0 15 1 rfl z (ov_move rfl) ?_
  refine wt 1 15 3 rfl z (ov_gtr rfl rfl) ?_
  refine wa_set 37 (v' := .bool true) rfl (congrArg Value.bool (decide_eq_true (by omega))) ?_
  refine wt 2 15 7 rfl z (ov_move rfl) ?_
  refine wto 3 15 15 rfl rfl rfl z (ov_field fo57_0 rfl rfl) ?_
  refine wto 4 15 31 rfl rfl rfl z (ov_load sc9 rfl (fun _ hm => hm.1) rfl) ?_
  refine wto 5 15 63 rfl rfl rfl z (ov_field fo31_2 rfl rfl) ?_
  refine wto 6 15 127 rfl rfl rfl z (ov_load sc28 rfl (fun _ hm => hm.2.1) rfl) ?_
  refine wto 7 15 255 rfl rfl rfl z (ov_move rfl) ?_
  refine wto 8 15 511 rfl rfl rfl z (ov_sub rfl rfl (by omega) (by omega)) ?_
  refine wa_set 44 (v' := .int .i64 (((i - 1) : Nat) : Int)) rfl (congrArg (Value.int .i64) (by omega)) ?_
  refine wto 9 15 1023 rfl rfl rfl z (ov_index (j := (i - 1)) es28 rfl rfl (by omega)) ?_
  refine wto 10 15 2047 rfl rfl rfl z (ov_field fo57_0 rfl rfl) ?_
  refine wto 11 15 4095 rfl rfl rfl z (ov_elem1 (k := 0) (v := .string uk) sc9 rfl (fun _ hm => (hm.2.2.2.2.1).1) hy rfl rfl) ?_
  refine wto 12 15 8191 rfl rfl rfl z (ov_sleq rfl rfl) ?_
  refine wt 13 15 16383 rfl z (ov_pick_t rfl rfl) ?_
  refine wt 14 15 32767 rfl z (ov_assign rfl) ?_
  refine wa_done (by kernel_rfl) ?_
  refine nx_then ?_
  refine gw_cond rfl (fun hh => ?_) (fun hh => ?_)
  ·have h4 : (Op.bytesLess vk.toList uk.toList || vk.toList == uk.toList) = true := by simpa using hh
   clear hh
   refine sr_ ?_
   have hle : leVh (prevOf vl i) ⟨vk, vc2⟩ = true := by rw [prevOf_pos h0 hy]; exact h4
   refine sg_ rfl (nn_ ?_)
   refine gw_ret ?_
   refine nx_blk_ret (nx_blk_ret (nx_then_ret (nx_then_ret (nx_blk_ret (nx_then_ret ?_)))))
   have hE : vhE cl (prevOf vl i) ⟨vk, vc2⟩ = 7 := vhE_two (by simpa using h3) hle
   have hF : scanE (vhE cl) none vl = 7 := by rw [hsc, hat, if_neg (by rw [hE]; decide), hE]
   refine nx_ret1 rfl rfl fun wx hm => ?_
   exact ⟨ret_int (by rw [hfl, hF, fe_left (by decide)]), hm.g⟩
  have h4 : (Op.bytesLess vk.toList uk.toList || vk.toList == uk.toList) = false := by simpa using hh
  clear hh
  refine sr_ ?_
  have hle : leVh (prevOf vl i) ⟨vk, vc2⟩ = false := by rw [prevOf_pos h0 hy]; exact h4
  have h8 := vhE_three (cl := cl) (b := ⟨vk, vc2⟩) (by simpa using h3) hle
  refine fd_ fo31_1 rfl rfl (lk_ sc27 1 rfl rfl rfl (fd_ fo57_1 rfl rfl (lk_ sc9 0 rfl rfl rfl ?_)))
  refine wl_callv rfl cb143 rfl rfl (fun wx hm => (classAt_any cl cA cn cc vc2 wx (hm.fact 1 rfl).1 (by omega))) ?_
  refine wl_ov (ov_lss rfl rfl) rfl (sg_ rfl (nn_ ?_))
  refine gw_cond rfl (fun hh => ?_) (fun hh => ?_)
  ·have h5 : ixP (csP vc2) cl 0 < 0 := by simpa using hh
   clear hh
   refine sr_ (sg_ rfl (nn_ ?_))
   refine gw_ret ?_
   refine nx_blk_ret (nx_blk_ret (nx_then_ret (nx_then_ret (nx_blk_ret (nx_then_ret ?_)))))
   have hE : vhE cl (prevOf vl i) ⟨vk, vc2⟩ = 8 := by rw [h8, if_pos h5]
   have hF : scanE (vhE cl) none vl = 8 := by rw [hsc, hat, if_neg (by rw [hE]; decide), hE]
   refine nx_ret1 rfl rfl fun wx hm => ?_
   exact ⟨ret_int (by rw [hfl, hF, fe_left (by decide)]), hm.g⟩
  have h5 : ¬ (ixP (csP vc2) cl 0 < 0) := by simpa using hh
  clear hh
  refine gw_skip (nx_blk_nrm (nx_blk_nrm (nx_then (gw_region ?_))))
  have hE : vhE cl (prevOf vl i) ⟨vk, vc2⟩ = 0 := by rw [h8, if_neg h5]
  refine ad_ rfl rfl (mv_ rfl (wl_nil ?_))
  exact nx_round (i + 1) ⟨by omega, by rw [hsc, hat, if_pos hE]⟩ (by omega) ⟨rfl, rfl, rfl, (some_int (by omega)), trivial⟩ (fun _ hm => hm.pick [1] [] [0, 1, 2, 3] rfl rfl)
 have hi : ¬ (((i : Nat) : Int) < ((vn : Nat) : Int)) := by simpa using hh
 clear hh
 refine gw_exit ?_
 refine nx_then_exit (nx_then_exit ?_)
 refine nx_blk_here ?_
 refine nx_then (sr_ ?_)
 have hz : scanE (vhE cl) none vl = 0 := by rw [hsc, List.drop_eq_nil_of_le (by omega)]; rfl
 have hrise : Rise vl := (rise_of hz).1
 obtain ⟨PE, hPE⟩ : ∃ z, z = platesE vl pl := ⟨_, rfl⟩
 refine wl_ov (ov_loads rz31 rfl (fun _ hm => hm.blkI 0 rfl) rfl rfl) rfl ?_
 refine wl_callv (v := .int .i64 PE) rfl cb144 rfl rfl (fun wx hm => (by rw [hPE]; exact checkPlates_any vl pl sA cA vA pA sn sc cn cc vn vc pn pc wx (hm.fact 2 rfl).1 (hm.fact 3 rfl).1 (by omega) (by omega) hrise hpok)) ?_
 refine sg_ rfl (nn_ ?_)
 refine gw_ret ?_
 refine nx_ret1 rfl rfl fun wx hm => ?_
 exact ⟨ret_int (by rw [hfl, hz, fe_right, hPE]), hm.g⟩
end Go.Proofs.YtiendebcdicjnaaGreatDoor
namespace Go.Proofs.YtiendebcdicjnaaGreatDoor
open Go.RowKit
theorem isBelow_lt {n v : Int} (h : IsBelow n v) (hn : 1 ≤ n) : 0 ≤ v ∧ v < n := by unfold IsBelow at h; omega
set_option maxHeartbeats 400000 in
theorem range_any (lo hi : Int) (w : World) (B sb m : Nat) (hS : Strm 25 w B sb m) (hm : m ≤ 1000000000000) (h1 : -4611686018427387904 ≤ lo) (h2 : hi ≤ 4611686018427387902) (h3 : lo ≤ 4611686018427387902) (h4 : -4611686018427387904 ≤ hi) :
    Calls Tryz.prog 9 #[.pointer (some ⟨sb, 0, none⟩), .int .i64 lo, .int .i64 hi] w (GotInt 25 w B sb (m + 1) (fun v => lo ≤ v ∧ (v ≤ hi ∨ v = lo))) := by
  by_cases hlt : hi < lo
  · go_enter Tryz.func9, Tryz.ntmps9
    go_wp2_with fail
    go_ret
    exact ⟨lo, ⟨by omega, .inr rfl⟩, rfl, hS.more (by omega), World.grownBy.refl _ _⟩
  · go_enter Tryz.func9, Tryz.ntmps9
    go_wp2_with fail
    refine (next_any _ _ B sb m hS hm (by omega) (by omega)).mono ?_
    rintro e w1 ⟨v, hv, rfl, hS1, hg1⟩
    have hv := isBelow_lt hv (by omega)
    go_wp2_with fail
    go_ret
    exact ⟨lo + v, ⟨by omega, .inl (by omega)⟩, rfl, hS1, hg1⟩
set_option maxHeartbeats 400000 in
theorem flip_any (n : Int) (w : World) (B sb m : Nat) (hS : Strm 25 w B sb m) (hm : m ≤ 1000000000000) (hn1 : -9223372036854775808 ≤ n) (hn2 : n ≤ 9223372036854775807) :
    Calls Tryz.prog 56 #[.pointer (some ⟨sb, 0, none⟩), .int .i64 n] w (GotBool 25 w B sb (m + 1)) := by
  go_enter Tryz.func56, Tryz.ntmps56
  go_wp2_with fail
  refine (next_any _ _ B sb m hS hm hn1 hn2).mono ?_
  rintro e w1 ⟨v, hv, rfl, hS1, hg1⟩
  go_wp2_with fail
  go_ret
  exact ⟨_, rfl, hS1, hg1⟩
set_option maxHeartbeats 400000 in
theorem pick_any (xs : List Int) (g c : Nat) (T : TypeId) (w : World) (B sb m : Nat) (hS : Strm 25 w B sb m) (hm : m ≤ 1000000000000) (hx : 0 < xs.length) (hx2 : xs.length ≤ 1000000) (hg : Blk w g T (xs.map (Value.int .i64))) (hne : g ≠ sb) :
    Calls Tryz.prog 57 #[.pointer (some ⟨sb, 0, none⟩), .slice (some ⟨g, 0, none⟩) xs.length c] w (GotInt 25 w B sb (m + 1) (fun v => v ∈ xs)) := by
  obtain ⟨n, hn⟩ : ∃ n, n = xs.length := ⟨_, rfl⟩
  rw [← hn] at hx hx2 ⊢
  have Hn := Lib.hid hn; clear hn
  go_enter Tryz.func57, Tryz.ntmps57
  go_wp2_with fail
  refine (next_any _ _ B sb m hS hm (by omega) (by omega)).mono ?_
  rintro e w1 ⟨v, hv, rfl, hS1, hg1⟩
  have hv := isBelow_lt hv (by omega)
  obtain ⟨i, rfl⟩ := Int.eq_ofNat_of_zero_le hv.1
  have hi : i < n := by omega
  have hgb := hg.grown hg1 (by simpa using hne)
  obtain ⟨x, hx⟩ : ∃ x, xs[i]? = some x := ⟨_, List.getElem?_eq_getElem (by have := Hn.out; omega)⟩
  have hc : w1.cell? ⟨g, i, none⟩ = some (.int .i64 x) := hgb.cell_of (by simp [hx])
  have hmem : x ∈ xs := List.mem_of_getElem? hx
  clear hx hgb
  go_wp2_with fail
  go_ret
  exact ⟨x, hmem, rfl, hS1, hg1⟩
set_option maxHeartbeats 400000 in
theorem some_any (xs : List ByteArray) (g c : Nat) (T : TypeId) (w : World) (B sb m : Nat) (hS : Strm 25 w B sb m) (hm : m ≤ 1000000000000) (hx : 0 < xs.length) (hx2 : xs.length ≤ 1000000) (hg : Blk w g T (xs.map Value.string)) (hne : g ≠ sb) :
    Calls Tryz.prog 34 #[.pointer (some ⟨sb, 0, none⟩), .slice (some ⟨g, 0, none⟩) xs.length c] w (GotStr 25 w B sb (m + 1) (fun v => v ∈ xs)) := by
  obtain ⟨n, hn⟩ : ∃ n, n = xs.length := ⟨_, rfl⟩
  rw [← hn] at hx hx2 ⊢
  have Hn := Lib.hid hn; clear hn
  go_enter Tryz.func34, Tryz.ntmps34
  go_wp2_with fail
  refine (next_any _ _ B sb m hS hm (by omega) (by omega)).mono ?_
  rintro e w1 ⟨v, hv, rfl, hS1, hg1⟩
  have hv := isBelow_lt hv (by omega)
  obtain ⟨i, rfl⟩ := Int.eq_ofNat_of_zero_le hv.1
  have hi : i < n := by omega
  have hgb := hg.grown hg1 (by simpa using hne)
  obtain ⟨x, hx⟩ : ∃ x, xs[i]? = some x := ⟨_, List.getElem?_eq_getElem (by have := Hn.out; omega)⟩
  have hc : w1.cell? ⟨g, i, none⟩ = some (.string x) := hgb.cell_of (by simp [hx])
  have hmem : x ∈ xs := List.mem_of_getElem? hx
  clear hx hgb
  go_wp2_with fail
  go_ret
  exact ⟨x, hmem, rfl, hS1, hg1⟩
set_option maxHeartbeats 400000 in
theorem odd_any (lo hi : Int) (w : World) (B sb m : Nat) (hS : Strm 25 w B sb m) (hm : m ≤ 900000000000) (h1 : -1000000000000000 ≤ lo) (h2 : hi ≤ 1000000000000000) (h3 : lo ≤ hi) :
    Calls Tryz.prog 64 #[.pointer (some ⟨sb, 0, none⟩), .int .i64 lo, .int .i64 hi] w (GotInt 25 w B sb (m + 2) (fun v => -2000000000000000 ≤ v ∧ v ≤ 2000000000000000)) := by
  go_enter Tryz.func64, Tryz.ntmps64
  go_wp2_with fail
  refine (flip_any _ _ B sb m hS (by omega) (by omega) (by omega)).mono ?_
  rintro e w1 ⟨b, rfl, hS1, hg1⟩
  rcases b with _ | _
  · go_wp2_with fail
    refine (range_any _ _ _ B sb (m + 1) hS1 (by omega) (by omega) (by omega) (by omega) (by omega)).mono ?_
    rintro e w2 ⟨v, hv, rfl, hS2, hg2⟩
    go_wp2_with fail
    go_ret
    exact ⟨v, by omega, rfl, hS2, grow_trans hg1 hg2⟩
  · go_wp2_with fail
    refine (pick_any [lo - 1, hi + 1, lo, hi, -1099511627776, 1099511627776] _ _ _ _ B sb (m + 1) (hS1.alloc _) (by omega) (by simp) (by simp) (Blk.new _ _ _) (by have := hS1.lt; omega)).mono ?_
    rintro e w2 ⟨v, hv, rfl, hS2, hg2⟩
    go_wp2_with fail
    go_ret
    refine ⟨v, by simp at hv; omega, rfl, hS2, grow_trans hg1 (grow_trans (grow_alloc (World.grownBy.refl _ _) _) hg2)⟩
end Go.Proofs.YtiendebcdicjnaaGreatDoor
namespace Go.Proofs.YtiendebcdicjnaaGreatDoor
open Go.RowKit
theorem list14 (hs : List Int) (h : hs.length = 14) : ∃ a0 a1 a2 a3 a4 a5 a6 a7 a8 a9 a10 a11 a12 a13, hs = [a0, a1, a2, a3, a4, a5, a6, a7, a8, a9, a10, a11, a12, a13] := by
  match hs, h with
  | [a0, a1, a2, a3, a4, a5, a6, a7, a8, a9, a10, a11, a12, a13], _ => exact ⟨a0, a1, a2, a3, a4, a5, a6, a7, a8, a9, a10, a11, a12, a13, rfl⟩
def hourFr (hs : List Int) (d : Int) : Int := d * 1440 + frAt hs (d % 7).toNat
def hourTo (hs : List Int) (d : Int) : Int := d * 1440 + toAt hs (d % 7).toNat
def GotWin (w : World) (a b : Int) (e : Ending) (w' : World) : Prop := e = .returned (.agg #[.int .i64 a, .int .i64 b]) ∧ w.grownBy w' none
set_option maxRecDepth 100000 in
set_option maxHeartbeats 1000000 in
theorem hours_any (key : ByteArray) (hs : List Int) (d : Int) (w : World) (hl : hs.length = 14) (hd0 : 0 ≤ d) (hd1 : d ≤ 1000000000) (hb : ∀ h ∈ hs, -1000000000000000000 ≤ h ∧ h ≤ 1000000000000000000) :
    Calls Tryz.prog 116 #[.agg (stCells key hs).toArray, .int .i64 d] w (GotWin w (hourFr hs d) (hourTo hs d)) := by
  obtain ⟨j, hj⟩ : ∃ j : Nat, (j : Int) = d % 7 := ⟨(d % 7).toNat, by omega⟩
  have hj7 : j < 7 := by omega
  have hF : hourFr hs d = d * 1440 + frAt hs j := by unfold hourFr; rw [← hj]; simp
  have hT : hourTo hs d = d * 1440 + toAt hs j := by unfold hourTo; rw [← hj]; simp
  have hf : -1000000000000000000 ≤ frAt hs j ∧ frAt hs j ≤ 1000000000000000000 := by
    unfold frAt; rw [List.getD_eq_getElem?_getD, List.getElem?_eq_getElem (by omega)]; exact hb _ (List.getElem_mem _)
  have ht : -1000000000000000000 ≤ toAt hs j ∧ toAt hs j ≤ 1000000000000000000 := by
    unfold toAt; rw [List.getD_eq_getElem?_getD, List.getElem?_eq_getElem (by omega)]; exact hb _ (List.getElem_mem _)
  rw [hF, hT]
  have hvs : ((hs.map (Value.int .i64)).drop (j * 2)).take 2 = [.int .i64 (frAt hs j), .int .i64 (toAt hs j)] := hrs_pair hs j (by omega)
  generalize frAt hs j = f at *
  generalize toAt hs j = t at *
  have hvv : ∀ i v, [Value.int .i64 f, Value.int .i64 t][i]? = some v → (stCells key hs)[1 + j * 2 + i]? = some v := fun i v hv => by
    rw [← hvs, List.getElem?_take] at hv
    split at hv
    · rw [List.getElem?_drop] at hv
      rw [show 1 + j * 2 + i = (j * 2 + i) + 1 by omega]
      exact hv
    · cases hv
  have Hvv := Lib.hid hvv
  have hj' : d % 7 = (j : Int) := hj.symm
  have hbox : Blk ((w.alloc (.cells (stCells key hs).toArray 105)).alloc (.cells #[.int .i64 0, .int .i64 0] 55)) w.heap.size 105 (stCells key hs) := (Blk.at_ w rfl _ _).alloc _
  clear hvv hvs hF hT hj
  go_enter Tryz.func116, Tryz.ntmps116
  go_wp2_with (with_reducible refine wpList_load_blk rfl 55 (.tmp 9) rfl w.heap.size (1 + j * 2) _ (stCells key hs) [.int .i64 f, .int .i64 t] _ hbox rfl Tryz.underlying55 rfl 2 info_win (by simp) Hvv.out ?_)
  refine bodyPost_ret (v := .agg #[.int .i64 (d * 1440 + f), .int .i64 (d * 1440 + t)]) (by simp [results, Tryz.results116, go_sem]) rfl ⟨rfl, ?_⟩
  exact grow_alloc (grow_alloc (grow_alloc (World.grownBy.refl _ _) _) _) _
theorem stEnc_len {s : St} (h : StOk s) : (stEnc s).length = 15 := st_len _ _ h.1
theorem sl_one {key : ByteArray} {hs : List Int} {w : World} {g : Nat} (h : Blk w g 105 (stCells key hs)) : SlT stEnc 15 105 w (some ⟨g, 0, none⟩) 1 [⟨key, hs⟩] :=
  ⟨rfl, fun _ => ⟨g, 0, _, _, rfl, h, fun i x hx j v hv => by
    match i, hx with
    | 0, hx =>
      simp at hx; subst hx
      simpa [stEnc] using hv⟩⟩
set_option maxRecDepth 100000 in
set_option maxHeartbeats 1000000 in
theorem checkStation_any (key : ByteArray) (hs : List Int) (f : Int) (w : World) (hok : StOk ⟨key, hs⟩) :
    Calls Tryz.prog 114 #[.agg (stCells key hs).toArray, .int .i64 f] w fun e w' => e = .returned (.int .i64 (firstE [stationsE [⟨key, hs⟩], f])) ∧ w.grownBy w' none := by
  have hsl := fun (wz : World) (hz : wz.heap.size = w.heap.size + 1) => sl_one (Blk.at_ wz hz 105 (stCells key hs))
  have Hsl := Lib.hid hsl
  have Hok := Lib.hid hok
  clear hsl
  obtain ⟨a0, a1, a2, a3, a4, a5, a6, a7, a8, a9, a10, a11, a12, a13, rfl⟩ := list14 hs hok.1
  clear hok
  show Calls Tryz.prog 114 #[.agg #[.string key, .int .i64 a0, .int .i64 a1, .int .i64 a2, .int .i64 a3, .int .i64 a4, .int .i64 a5, .int .i64 a6, .int .i64 a7, .int .i64 a8, .int .i64 a9, .int .i64 a10, .int .i64 a11, .int .i64 a12, .int .i64 a13], .int .i64 f] w _
  go_enter Tryz.func114, Tryz.ntmps114
  go_wp2_with fail
  refine (checkStations_any [⟨key, [a0, a1, a2, a3, a4, a5, a6, a7, a8, a9, a10, a11, a12, a13]⟩] _ _ _ _ (Hsl.out (w.alloc (.cells #[.string key, .int .i64 a0, .int .i64 a1, .int .i64 a2, .int .i64 a3, .int .i64 a4, .int .i64 a5, .int .i64 a6, .int .i64 a7, .int .i64 a8, .int .i64 a9, .int .i64 a10, .int .i64 a11, .int .i64 a12, .int .i64 a13] 105)) (by simp)) (by intro s hs; simp at hs; subst hs; exact Hok.out) (by omega)).mono ?_
  rintro e w1 ⟨rfl, hg1⟩
  have hg1' : w.grownBy w1 none := grow_trans (grow_alloc (grow_alloc (World.grownBy.refl _ _) _) _) hg1
  obtain ⟨E, hE⟩ : ∃ E, E = stationsE [⟨key, [a0, a1, a2, a3, a4, a5, a6, a7, a8, a9, a10, a11, a12, a13]⟩] := ⟨_, rfl⟩
  rw [← hE]
  have HE := Lib.hid hE; clear hE
  go_wp2_with fail
  refine (first_any [E, f] _ _ _ _ (Blk.at_ _ rfl _ _) (by simp)).mono ?_
  rintro e w2 ⟨rfl, rfl⟩
  go_wp2_with fail
  go_ret
  exact ⟨by rw [← HE.out]; rfl, grow_alloc hg1' _⟩
def isOpenE (s : St) (at_ : Int) : Int := firstE [stationsE [s], momentE at_]
def isOpenV (s : St) (at_ : Int) : Bool := isOpenE s at_ == 0 && decide (hourFr s.hs (at_ / 1440) ≤ at_) && decide (at_ < hourTo s.hs (at_ / 1440))
end Go.Proofs.YtiendebcdicjnaaGreatDoor
namespace Go.Proofs.YtiendebcdicjnaaGreatDoor
open Go.RowKit
set_option maxRecDepth 100000 in
set_option maxHeartbeats 2000000 in
theorem lotOpen_any (key : ByteArray) (hs : List Int) (at_ : Int) (w : World) (hok : StOk ⟨key, hs⟩) (hb : ∀ h ∈ hs, -1000000000000000000 ≤ h ∧ h ≤ 1000000000000000000) :
    Calls Tryz.prog 46 #[.agg (stCells key hs).toArray, .int .i64 at_] w (RetBE w (isOpenV ⟨key, hs⟩ at_) (isOpenE ⟨key, hs⟩ at_)) := by
  have Hok := Lib.hid hok
  have Hb := Lib.hid hb
  clear hb
  obtain ⟨a0, a1, a2, a3, a4, a5, a6, a7, a8, a9, a10, a11, a12, a13, rfl⟩ := list14 hs hok.1
  clear hok
  show Calls Tryz.prog 46 #[.agg #[.string key, .int .i64 a0, .int .i64 a1, .int .i64 a2, .int .i64 a3, .int .i64 a4, .int .i64 a5, .int .i64 a6, .int .i64 a7, .int .i64 a8, .int .i64 a9, .int .i64 a10, .int .i64 a11, .int .i64 a12, .int .i64 a13], .int .i64 at_] w _
  go_enter Tryz.func46, Tryz.ntmps46
  go_wp2_with fail
  refine wp_region_still_tail 3 (by kernel_rfl) (by kernel_rfl) ?_
  change wpStill _ _ (World.drew _) _ _ _
  simp only [List.take_succ_cons, List.take_zero, List.drop_succ_cons, List.drop_zero]
  still_step
  still_step
  still_call ((moment_any at_ _).mono fun _ _ h => ⟨h.1, h.2.symm⟩)
  refine wpStill_nil ?_
  change wpList _ _ _ _ _ (World.drew _)
  go_wp2_with fail
  refine (checkStation_any key [a0, a1, a2, a3, a4, a5, a6, a7, a8, a9, a10, a11, a12, a13] _ _ Hok.out).mono ?_
  rintro e w1 ⟨rfl, hg1⟩
  obtain ⟨E, hE⟩ : ∃ E, E = isOpenE ⟨key, [a0, a1, a2, a3, a4, a5, a6, a7, a8, a9, a10, a11, a12, a13]⟩ at_ := ⟨_, rfl⟩
  rw [show firstE [stationsE [⟨key, [a0, a1, a2, a3, a4, a5, a6, a7, a8, a9, a10, a11, a12, a13]⟩], momentE at_] = E from hE.symm]
  have HE := Lib.hid hE; clear hE
  have hbox : Blk w1 w.heap.size 105 (stCells key [a0, a1, a2, a3, a4, a5, a6, a7, a8, a9, a10, a11, a12, a13]) := ((Blk.at_ w rfl _ _).drewN 1).grown hg1 (by simp)
  have hgw : w.grownBy w1 none := grow_trans (grow_drew (grow_alloc (World.grownBy.refl _ _) _)) hg1
  clear hg1
  by_cases h0 : E = 0
  · have hm := momentE_ok (firstE_two (HE.out.symm.trans h0)).2
    have hdv : at_.tdiv 1440 = at_ / 1440 := Int.tdiv_eq_ediv_of_nonneg hm.1
    have hd0 : 0 ≤ at_ / 1440 := by omega
    have hd1 : at_ / 1440 ≤ 1000000000 := by omega
    obtain ⟨d, hd⟩ : ∃ d, d = at_ / 1440 := ⟨_, rfl⟩
    have hV : isOpenV ⟨key, [a0, a1, a2, a3, a4, a5, a6, a7, a8, a9, a10, a11, a12, a13]⟩ at_ = (decide (hourFr [a0, a1, a2, a3, a4, a5, a6, a7, a8, a9, a10, a11, a12, a13] d ≤ at_) && decide (at_ < hourTo [a0, a1, a2, a3, a4, a5, a6, a7, a8, a9, a10, a11, a12, a13] d)) := by
      unfold isOpenV
      rw [← HE.out, h0, ← hd]; rfl
    rw [← hd] at hdv hd0 hd1
    have hd' : at_ / 1440 = d := hd.symm
    have HV := Lib.hid hV
    subst h0
    clear hV hd
    go_wp2_with (with_reducible refine wpList_load_all rfl 105 (.tmp 2) rfl w.heap.size _ (stCells key [a0, a1, a2, a3, a4, a5, a6, a7, a8, a9, a10, a11, a12, a13]) _ hbox rfl Tryz.underlying105 rfl 15 info_st rfl ?_)
    refine (hours_any key [a0, a1, a2, a3, a4, a5, a6, a7, a8, a9, a10, a11, a12, a13] _ _ rfl hd0 hd1 Hb.out).mono ?_
    rintro e w2 ⟨rfl, hg2⟩
    have hgw2 := grow_trans hgw hg2
    obtain ⟨F, hF⟩ : ∃ F, F = hourFr [a0, a1, a2, a3, a4, a5, a6, a7, a8, a9, a10, a11, a12, a13] d := ⟨_, rfl⟩
    obtain ⟨T, hT⟩ : ∃ T, T = hourTo [a0, a1, a2, a3, a4, a5, a6, a7, a8, a9, a10, a11, a12, a13] d := ⟨_, rfl⟩
    rw [← hF, ← hT] at HV ⊢
    clear hF hT hbox hgw hg2
    go_wp2_with fail
    all_goals
      go_ret2
      exact ⟨ret_be (by rw [HV.out]; simp [*] <;> (intros; omega)) HE.out, grow_alloc hgw2 _⟩
  · have hne : (E != 0) = true := by simpa using h0
    have hV : isOpenV ⟨key, [a0, a1, a2, a3, a4, a5, a6, a7, a8, a9, a10, a11, a12, a13]⟩ at_ = false := by
      unfold isOpenV
      rw [← HE.out]; simp [h0]
    have HV := Lib.hid hV
    clear hV h0
    go_wp2_with fail
    go_ret2
    exact ⟨ret_be HV.out.symm HE.out, hgw⟩
end Go.Proofs.YtiendebcdicjnaaGreatDoor
namespace Go.Proofs.YtiendebcdicjnaaGreatDoor
open Go.RowKit
/-- The next opening from day d on; n days are left. -/
def nextFrom (hs : List Int) (at_ : Int) : Nat → Int → Option Int
  | 0, _ => none
  | n + 1, d => if max at_ (hourFr hs d) < hourTo hs d then some (max at_ (hourFr hs d)) else nextFrom hs at_ n (d + 1)
end Go.Proofs.YtiendebcdicjnaaGreatDoor
namespace Go.Proofs.YtiendebcdicjnaaGreatDoor
def frD (hs : List Int) (d : Int) : Int := frAt hs (d % 7).toNat
def toD (hs : List Int) (d : Int) : Int := toAt hs (d % 7).toNat
theorem hourFr_eq (hs : List Int) (d : Int) : hourFr hs d = d * 1440 + frD hs d := rfl
theorem hourTo_eq (hs : List Int) (d : Int) : hourTo hs d = d * 1440 + toD hs d := rfl
section
variable {hs : List Int} {at_ : Int}
theorem never (h : ∀ e, ¬ frD hs e < toD hs e) : ∀ (n : Nat) (d : Int), nextFrom hs at_ n d = none
  | 0, _ => rfl
  | n + 1, d => by
    have h1 := h d
    rw [nextFrom, if_neg (by rw [hourFr_eq, hourTo_eq]; omega)]
    exact never h n (d + 1)
end
end Go.Proofs.YtiendebcdicjnaaGreatDoor
namespace Go.Proofs.YtiendebcdicjnaaGreatDoor
open Go.RowKit
theorem scanE_snoc {α : Type} {f : Option α → α → Int} {x : α} : ∀ {l : List α} {p : Option α}, scanE f p l = 0 → f p x = 0 → (∀ y ∈ l, f (some y) x = 0) → scanE f p (l ++ [x]) = 0
  | [], p, _, h, _ => by
    show (if f p x = 0 then 0 else f p x) = 0
    rw [if_pos h]
  | y :: r, p, h, _, hq => by
    have h1 : f p y = 0 := by
      unfold scanE at h
      by_cases e : f p y = 0
      · exact e
      · rw [if_neg e] at h; exact h
    show (if f p y = 0 then scanE f (some y) (r ++ [x]) else f p y) = 0
    rw [if_pos h1]
    refine scanE_snoc ?_ (hq y (List.mem_cons_self ..)) (fun z hz => hq z (List.mem_cons_of_mem _ hz))
    unfold scanE at h
    rw [if_pos h1] at h; exact h
theorem mem_take_more {α : Type} {l : List α} {i : Nat} {x : α} (h : x ∈ l.take i) : x ∈ l.take (i + 1) := by
  obtain ⟨j, hj⟩ := List.getElem?_of_mem h
  rw [List.getElem?_take] at hj
  split at hj
  · exact List.mem_of_getElem? (i := j) (by rw [List.getElem?_take, if_pos (by omega)]; exact hj)
  · cases hj
theorem mem_take_at {α : Type} {l : List α} {i : Nat} {x : α} (h : l[i]? = some x) : x ∈ l.take (i + 1) :=
  List.mem_of_getElem? (i := i) (by rw [List.getElem?_take, if_pos (by omega)]; exact h)
def Wd (a b : Int) : Prop := 0 ≤ a ∧ a ≤ b ∧ b ≤ 1440
def K3 : List ByteArray := [⟨#[115, 49]⟩, ⟨#[115, 50]⟩, ⟨#[115, 51]⟩]
def K4 : List ByteArray := [⟨#[118, 49]⟩, ⟨#[118, 50]⟩, ⟨#[118, 51]⟩, ⟨#[118, 52]⟩]
def riseK (l : List ByteArray) : Bool := (List.range l.length).all fun i => (l[i]?.elim true fun k => keyB k && (l.take i).all fun a => !leB k a)
theorem rise3 : riseK K3 = true := by decide +kernel
theorem rise4 : riseK K4 = true := by decide +kernel
theorem riseK_at {l : List ByteArray} {i : Nat} {k : ByteArray} (h : riseK l = true) (hk : l[i]? = some k) : keyB k = true ∧ ∀ a ∈ l.take i, leB k a = false := by
  have hi := (List.getElem?_eq_some_iff.1 hk).1
  have h1 := (List.all_eq_true.1 h) i (List.mem_range.2 hi)
  rw [hk] at h1
  have h2 : (keyB k && (l.take i).all fun a => !leB k a) = true := h1
  rw [Bool.and_eq_true] at h2
  refine ⟨h2.1, fun a ha => ?_⟩
  have h3 := (List.all_eq_true.1 h2.2) a ha
  cases h4 : leB k a with
  | false => rfl
  | true => rw [h4] at h3; cases h3
def StG (i : Nat) (l : List St) : Prop := scanE stationE none l = 0 ∧ ∀ x ∈ l, x.key ∈ K3.take i
theorem stG_nil {i : Nat} : StG i [] := ⟨rfl, fun _ h => by cases h⟩
theorem stG_more {i : Nat} {l : List St} (h : StG i l) : StG (i + 1) l := ⟨h.1, fun x hx => mem_take_more (h.2 x hx)⟩
theorem stationE_zero {p : Option St} {x : St} (h1 : keyB x.key = true) (h2 : prevB p (fun q => leB x.key q.key) = false) (h3 : hoursBad x.hs = false) : stationE p x = 0 := by
  unfold stationE
  rw [h1, h2, h3]; rfl
theorem stG_snoc {i : Nat} {l : List St} {k : ByteArray} {hs : List Int} (h : StG i l) (hk : K3[i]? = some k) (hh : hoursBad hs = false) : StG (i + 1) (l ++ [⟨k, hs⟩]) := by
  obtain ⟨h1, h2⟩ := riseK_at rise3 hk
  refine ⟨scanE_snoc h.1 (stationE_zero h1 rfl hh) (fun y hy => stationE_zero h1 (h2 _ (h.2 y hy)) hh), fun x hx => ?_⟩
  rcases List.mem_append.1 hx with hx | hx
  · exact mem_take_more (h.2 x hx)
  · rw [List.mem_singleton.1 hx]; exact mem_take_at hk
theorem hours_fine {h0 h1 h2 h3 h4 h5 h6 h7 h8 h9 h10 h11 h12 h13 : Int} (p : Wd h0 h1 ∧ Wd h2 h3 ∧ Wd h4 h5 ∧ Wd h6 h7 ∧ Wd h8 h9 ∧ Wd h10 h11 ∧ Wd h12 h13) :
    hoursBad [h0, h1, h2, h3, h4, h5, h6, h7, h8, h9, h10, h11, h12, h13] = false := by
  have good : ∀ {a b : Int}, Wd a b → winBad a b = false := fun {a b} ⟨h1, h2, h3⟩ => by
    unfold winBad inB
    rw [decide_eq_true h1, decide_eq_true h2, decide_eq_false (show ¬ 1440 < b by omega)]; rfl
  obtain ⟨p0, p1, p2, p3, p4, p5, p6⟩ := p
  show (winBad h0 h1 || (winBad h2 h3 || (winBad h4 h5 || (winBad h6 h7 || (winBad h8 h9 || (winBad h10 h11 || (winBad h12 h13 || false))))))) = false
  rw [good p0, good p1, good p2, good p3, good p4, good p5, good p6]; rfl
theorem stG_right {i : Nat} {l : List St} (h : StG i l) (hl : l.length ≤ 50) : stationsE l = 0 := by
  unfold stationsE
  rw [if_neg (by omega)]; exact h.1
theorem s1_right : stationsE [⟨⟨#[115, 49]⟩, [0, 0, 0, 0, 0, 0, 0, 0, 0, 0, 0, 0, 0, 0]⟩] = 0 := by decide +kernel
def kBig : ByteArray := ⟨#[98, 105, 103]⟩
def kMaxi : ByteArray := ⟨#[109, 97, 120, 105]⟩
def kMidi : ByteArray := ⟨#[109, 105, 100, 105]⟩
def kMini : ByteArray := ⟨#[109, 105, 110, 105]⟩
def kNo : ByteArray := ⟨#[]⟩
def clOf (u1 u2 u3 : ByteArray) : List Cs := [⟨kBig, kNo⟩, ⟨kMaxi, u1⟩, ⟨kMidi, u2⟩, ⟨kMini, u3⟩]
def ClG (l : List Cs) : Prop := ∃ u1 u2 u3, u1 ∈ [kNo, kBig] ∧ u2 ∈ [kNo, kBig, kMaxi] ∧ u3 ∈ [kNo, kBig, kMaxi, kMidi] ∧ l = clOf u1 u2 u3
theorem clG_start : ClG [⟨⟨#[98, 105, 103]⟩, ⟨#[]⟩⟩, ⟨⟨#[109, 97, 120, 105]⟩, ⟨#[]⟩⟩, ⟨⟨#[109, 105, 100, 105]⟩, ⟨#[]⟩⟩, ⟨⟨#[109, 105, 110, 105]⟩, ⟨#[]⟩⟩] :=
  ⟨kNo, kNo, kNo, List.mem_cons_self .., List.mem_cons_self .., List.mem_cons_self .., rfl⟩
theorem cl_all : ([kNo, kBig].all fun u1 => [kNo, kBig, kMaxi].all fun u2 => [kNo, kBig, kMaxi, kMidi].all fun u3 => decide (classesE (clOf u1 u2 u3) = 0)) = true := by decide +kernel
theorem clG_right {l : List Cs} (h : ClG l) : classesE l = 0 := by
  obtain ⟨u1, u2, u3, h1, h2, h3, rfl⟩ := h
  exact of_decide_eq_true (List.all_eq_true.1 (List.all_eq_true.1 (List.all_eq_true.1 cl_all u1 h1) u2 h2) u3 h3)
theorem clG_set {l : List Cs} {i j : Nat} {y0 y1 z0 z1 : ByteArray} (h : ClG l) (hj : j < i) (hi : i < 4) (hy : l[j]? = some ⟨y0, y1⟩) (hz : l[i]? = some ⟨z0, z1⟩) : ClG (l.set i ⟨z0, y0⟩) := by
  obtain ⟨u1, u2, u3, h1, h2, h3, rfl⟩ := h
  unfold clOf at hy hz ⊢
  have hc : i = 1 ∨ i = 2 ∨ i = 3 := by omega
  have hd : j = 0 ∨ j = 1 ∨ j = 2 := by omega
  rcases hc with rfl | rfl | rfl <;> rcases hd with rfl | rfl | rfl <;> try omega
  all_goals
    simp only [List.getElem?_cons_zero, List.getElem?_cons_succ, Option.some.injEq, Cs.mk.injEq] at hy hz
    obtain ⟨rfl, _⟩ := hy
    obtain ⟨rfl, _⟩ := hz
    first
      | exact ⟨_, u2, u3, List.mem_cons_of_mem _ (List.mem_cons_self ..), h2, h3, rfl⟩
      | exact ⟨u1, _, u3, h1, List.mem_cons_of_mem _ (List.mem_cons_self ..), h3, rfl⟩
      | exact ⟨u1, _, u3, h1, List.mem_cons_of_mem _ (List.mem_cons_of_mem _ (List.mem_cons_self ..)), h3, rfl⟩
      | exact ⟨u1, u2, _, h1, h2, List.mem_cons_of_mem _ (List.mem_cons_self ..), rfl⟩
      | exact ⟨u1, u2, _, h1, h2, List.mem_cons_of_mem _ (List.mem_cons_of_mem _ (List.mem_cons_self ..)), rfl⟩
      | exact ⟨u1, u2, _, h1, h2, List.mem_cons_of_mem _ (List.mem_cons_of_mem _ (List.mem_cons_of_mem _ (List.mem_cons_self ..))), rfl⟩
def VhG (cl : List Cs) (i : Nat) (l : List Vh) : Prop := scanE (vhE cl) none l = 0 ∧ ∀ x ∈ l, x.key ∈ K4.take i
theorem vhG_nil {cl : List Cs} {i : Nat} : VhG cl i [] := ⟨rfl, fun _ h => by cases h⟩
theorem vhG_more {cl : List Cs} {i : Nat} {l : List Vh} (h : VhG cl i l) : VhG cl (i + 1) l := ⟨h.1, fun x hx => mem_take_more (h.2 x hx)⟩
theorem vhE_zero {cl : List Cs} {p : Option Vh} {x : Vh} (h1 : keyB x.key = true) (h2 : leVh p x = false) (h3 : ¬ ixP (csP x.cls) cl 0 < 0) : vhE cl p x = 0 := by
  unfold vhE
  rw [h1, h2, if_neg h3]; rfl
theorem cls_in {cl : List Cs} {j : Nat} {c : Cs} (h : cl[j]? = some c) : ¬ ixP (csP c.key) cl 0 < 0 := by
  rcases ixP_spec (p := csP c.key) cl 0 with ⟨_, h2⟩ | ⟨j, y, h2, _⟩
  · have := h2 c (List.mem_of_getElem? h)
    unfold csP at this
    simp at this
  · omega
theorem vhG_snoc {cl : List Cs} {i j : Nat} {l : List Vh} {k c0 c1 : ByteArray} (h : VhG cl i l) (hk : K4[i]? = some k) (hc : cl[j]? = some ⟨c0, c1⟩) : VhG cl (i + 1) (l ++ [⟨k, c0⟩]) := by
  obtain ⟨h1, h2⟩ := riseK_at rise4 hk
  refine ⟨scanE_snoc h.1 (vhE_zero h1 rfl (cls_in hc)) (fun y hy => vhE_zero h1 (h2 _ (h.2 y hy)) (cls_in hc)), fun x hx => ?_⟩
  rcases List.mem_append.1 hx with hx | hx
  · exact mem_take_more (h.2 x hx)
  · rw [List.mem_singleton.1 hx]; exact mem_take_at hk
theorem fleet_start {sl : List St} {cl : List Cs} {vl : List Vh} {i : Nat} (hs : stationsE sl = 0) (hc : classesE cl = 0) (hv : VhG cl i vl) (hl : vl.length ≤ 500) : fleetE sl cl vl [] = 0 := by
  unfold fleetE vehsE
  rw [hs, hc, if_neg (by omega), hv.1]; rfl
end Go.Proofs.YtiendebcdicjnaaGreatDoor
namespace Go.Proofs.YtiendebcdicjnaaGreatDoor
open Go.RowKit
theorem ar103 : arrSz Tryz.prog 103 = some (7, 2) := by kernel_rfl
def Bd (x : Int) : Prop := -3000 ≤ x ∧ x ≤ 3000
theorem wd_l {a b : Int} (h : Wd a b) : Bd a := by unfold Wd at h; unfold Bd; omega
theorem wd_r {a b : Int} (h : Wd a b) : Bd b := by unfold Wd at h; unfold Bd; omega
def StB (s : St) : Prop := s.hs.length = 14 ∧ s.key.size ≤ 10 ∧ ∀ h ∈ s.hs, -3000 ≤ h ∧ h ≤ 3000
theorem stB_ok {s : St} (h : StB s) : StOk s := ⟨h.1, by have := h.2.1; omega, fun x hx => by have := h.2.2 x hx; omega⟩
theorem bd_all {h0 h1 h2 h3 h4 h5 h6 h7 h8 h9 h10 h11 h12 h13 : Int} (h : Bd h0 ∧ Bd h1 ∧ Bd h2 ∧ Bd h3 ∧ Bd h4 ∧ Bd h5 ∧ Bd h6 ∧ Bd h7 ∧ Bd h8 ∧ Bd h9 ∧ Bd h10 ∧ Bd h11 ∧ Bd h12 ∧ Bd h13) : ∀ x ∈ [h0, h1, h2, h3, h4, h5, h6, h7, h8, h9, h10, h11, h12, h13], -3000 ≤ x ∧ x ≤ 3000 := fun x hx => by
  simp only [List.mem_cons, List.not_mem_nil, or_false] at hx
  obtain ⟨b0, b1, b2, b3, b4, b5, b6, b7, b8, b9, b10, b11, b12, b13⟩ := h
  rcases hx with rfl | rfl | rfl | rfl | rfl | rfl | rfl | rfl | rfl | rfl | rfl | rfl | rfl | rfl <;> assumption
theorem stB_snoc {l : List St} {x : St} (h : ∀ y ∈ l, StB y) (hx : StB x) : ∀ y ∈ l ++ [x], StB y := fun y hy => by
  rcases List.mem_append.1 hy with hy | hy
  · exact h y hy
  · rw [List.mem_singleton.1 hy]; exact hx
theorem gstations_anyF (w : World) (B sb m : Nat) (hS : Strm 25 w B sb m) (hm : m ≤ 100000000) :
  Calls Tryz.prog 55 #[.pointer (some ⟨sb, 0, none⟩)] w (fun e w' => ∃ (A : Option Addr) (n c : Nat) (l : List St), e = .returned (.slice A n c) ∧ w'.ownsRow w.heap.size 105 15 (.slice A n c) n (l.flatMap stEnc) ∧ (l.length = n ∧ stationsE l = 0) ∧ (∀ x ∈ l, StB x) ∧ n ≤ 3 ∧ Strm 25 w' B sb (m + 100) ∧ w.grownBy w' (some sb)) := by
 refine gw_enter ⟨47, w, (some sb), []⟩ Tryz.func55 rfl Tryz.ntmps55 rfl (memS (X := []) hS allF_nil allL_nil) ?_
 refine sr_ ?_
 refine wl_nilOwn 105 15 ?_
 refine sg_ rfl (nn_ (sr_ (sg_ rfl (nn_ (gw_seq (sr_ ?_))))))
 refine wl_buildSlice (e := 9) (cs := [.string ⟨#[115, 49]⟩, .string ⟨#[115, 50]⟩, .string ⟨#[115, 51]⟩]) rfl (by kernel_rfl) rfl fun g1 => ?_
 refine wl_ov (ov_len es107 rfl) rfl ?_
 refine wl_set 10 (v' := .int .i64 3) rfl rfl ?_
 refine mv_ rfl (nn_ (gw_block ?_))
 refine gw_loop (γ := Nat × Nat × Value × List St × List Value) (fun g => g.1 ≤ 3 ∧ g.2.1 ≤ g.1 ∧ g.2.2.2.1.length = g.2.1 ∧ (∀ x ∈ g.2.2.2.1, StB x) ∧ StG g.1 g.2.2.2.1 ∧ g.2.2.2.2 = g.2.2.2.1.flatMap stEnc) (fun g => [(0, .pointer (some ⟨sb, 0, none⟩)), (2, .slice none 0 0), (3, g.2.2.1), (9, .slice (some ⟨g1, 0, none⟩) 3 3), (10, .int .i64 3), (11, .int .i64 ((g.1 : Nat) : Int))]) (fun g => fun w => Strm 25 w B sb (m + 30 * g.1)) (fun g => [(g1, 9, [.string ⟨#[115, 49]⟩, .string ⟨#[115, 50]⟩, .string ⟨#[115, 51]⟩])]) (fun g => [⟨g.2.2.1, 105, 15, g.2.1, g.2.2.2.2⟩]) (fun g => []) (fun g => 3 - g.1) (0, 0, .slice none 0 0, [], []) ⟨Nat.zero_le _, Nat.le_refl _, rfl, (fun _ h => by cases h), stG_nil, rfl⟩ ⟨rfl, rfl, rfl, rfl, rfl, rfl, trivial⟩ (fun _ hm => (hm.more rfl (by first | omega | (dsimp only; omega))).pick [0] [0] [] rfl rfl) ?_
 rintro ⟨i, k, v, l, xs⟩ hinv
 replace hinv : i ≤ 3 ∧ k ≤ i ∧ l.length = k ∧ (∀ x ∈ l, StB x) ∧ StG i l ∧ xs = l.flatMap stEnc := hinv
 dsimp only
 refine sr_ ?_
 obtain ⟨hi0, hki, hl, hok, hsg, rfl⟩ := hinv
 refine wl_ov (ov_lss rfl rfl) rfl (nn_ (gw_seq ?_))
 refine gw_cond rfl (fun hh => ?_) (fun hh => ?_)
 ·have hi : ((i : Nat) : Int) < 3 := by simpa using hh
  clear hh
  refine gw_skip (nx_then (gw_seq (gw_block (sr_ ?_))))
  obtain ⟨nm, hx⟩ : ∃ x, ([⟨#[115, 49]⟩, ⟨#[115, 50]⟩, ⟨#[115, 51]⟩] : List ByteArray)[i]? = some x := ⟨_, List.getElem?_eq_getElem (by simp; omega)⟩
  have hnm : nm.size ≤ 100 := mem_sz (List.mem_of_getElem? hx) (by decide)
  have hnm2 : nm.size ≤ 10 := by
   have := List.mem_of_getElem? hx
   simp only [List.mem_cons, List.not_mem_nil, or_false] at this
   rcases this with rfl | rfl | rfl <;> decide
  refine wl_ov (ov_index (j := i) es107 rfl rfl (by omega)) rfl ?_
  refine wl_ov (ov_elem1 (k := 0) (v := .string nm) sc9 rfl (fun _ hm => (SlT.ofBlk (l := [⟨#[115, 49]⟩, ⟨#[115, 50]⟩, ⟨#[115, 51]⟩]) sg_len (hm.blkI 0 rfl))) hx rfl rfl) rfl ?_
  refine sg_ rfl (nn_ (gw_seq (sr_ (mv_ rfl ?_))))
  refine wl_got (γ := Bool) (val := fun v => .bool v) (φ := fun v => True) rfl cb56 rfl rfl rfl rfl (fun wx hm => ((flip_any _ wx B sb _ hm.k (by omega) (by omega) (by omega)).mono fun _ _ ⟨v, he, hS, hg⟩ => ⟨v, trivial, he, hS, hg⟩)) fun f2 _ => ?_
  refine nn_ ?_
  refine gw_cond rfl (fun hh => ?_) (fun hh => ?_)
  ·have hf : f2 = true := by simpa using hh
   clear hh
   refine gw_exit ?_
   refine nx_then_exit ?_
   refine nx_blk_here ?_
   refine nx_then (gw_region (ad_ rfl rfl (mv_ rfl (wl_nil ?_))))
   exact nx_round (i + 1, k, v, l, l.flatMap stEnc) ⟨by dsimp only; omega, by dsimp only; omega, hl, hok, stG_more hsg, rfl⟩ (by dsimp only; omega) ⟨rfl, rfl, rfl, rfl, rfl, (some_int (by omega)), trivial⟩ (fun _ hm => (hm.more rfl (by first | omega | (dsimp only; omega))).pick [0] [0] [] rfl rfl)
  have hf : f2 = false := by simpa using hh
  clear hh
  refine gw_skip (nx_then (sr_ (mv_ rfl ?_)))
  refine wl_ov (ov_build (cs := [.string nm, .int .i64 0, .int .i64 0, .int .i64 0, .int .i64 0, .int .i64 0, .int .i64 0, .int .i64 0, .int .i64 0, .int .i64 0, .int .i64 0, .int .i64 0, .int .i64 0, .int .i64 0, .int .i64 0]) rfl (by kernel_rfl)) rfl ?_
  refine wl_alloc zc105 rfl fun g3 => ?_
  refine wl_stores (cs' := [.string nm, .int .i64 0, .int .i64 0, .int .i64 0, .int .i64 0, .int .i64 0, .int .i64 0, .int .i64 0, .int .i64 0, .int .i64 0, .int .i64 0, .int .i64 0, .int .i64 0, .int .i64 0, .int .i64 0]) 0 rz105 rfl rfl rfl rfl rfl rfl rfl rfl ?_
  refine nn_ (gw_seq (sr_ (mv_ rfl (nn_ (gw_block ?_)))))
  refine gw_loop (γ := Nat × Int × Int × Int × Int × Int × Int × Int × Int × Int × Int × Int × Int × Int × Int) (fun g => g.1 ≤ 7 ∧ Wd g.2.1 g.2.2.1 ∧ Wd g.2.2.2.1 g.2.2.2.2.1 ∧ Wd g.2.2.2.2.2.1 g.2.2.2.2.2.2.1 ∧ Wd g.2.2.2.2.2.2.2.1 g.2.2.2.2.2.2.2.2.1 ∧ Wd g.2.2.2.2.2.2.2.2.2.1 g.2.2.2.2.2.2.2.2.2.2.1 ∧ Wd g.2.2.2.2.2.2.2.2.2.2.2.1 g.2.2.2.2.2.2.2.2.2.2.2.2.1 ∧ Wd g.2.2.2.2.2.2.2.2.2.2.2.2.2.1 g.2.2.2.2.2.2.2.2.2.2.2.2.2.2) (fun g => [(0, .pointer (some ⟨sb, 0, none⟩)), (2, .slice none 0 0), (3, v), (6, .pointer (some ⟨g3, 0, none⟩)), (9, .slice (some ⟨g1, 0, none⟩) 3 3), (10, .int .i64 3), (11, .int .i64 ((i : Nat) : Int)), (19, .int .i64 ((g.1 : Nat) : Int))]) (fun g => fun w => Strm 25 w B sb (m + 30 * i + 1 + 3 * g.1)) (fun g => [(g3, 105, [.string nm, .int .i64 g.2.1, .int .i64 g.2.2.1, .int .i64 g.2.2.2.1, .int .i64 g.2.2.2.2.1, .int .i64 g.2.2.2.2.2.1, .int .i64 g.2.2.2.2.2.2.1, .int .i64 g.2.2.2.2.2.2.2.1, .int .i64 g.2.2.2.2.2.2.2.2.1, .int .i64 g.2.2.2.2.2.2.2.2.2.1, .int .i64 g.2.2.2.2.2.2.2.2.2.2.1, .int .i64 g.2.2.2.2.2.2.2.2.2.2.2.1, .int .i64 g.2.2.2.2.2.2.2.2.2.2.2.2.1, .int .i64 g.2.2.2.2.2.2.2.2.2.2.2.2.2.1, .int .i64 g.2.2.2.2.2.2.2.2.2.2.2.2.2.2]), (g1, 9, [.string ⟨#[115, 49]⟩, .string ⟨#[115, 50]⟩, .string ⟨#[115, 51]⟩])]) (fun g => [⟨v, 105, 15, k, l.flatMap stEnc⟩]) (fun g => []) (fun g => 7 - g.1) (0, 0, 0, 0, 0, 0, 0, 0, 0, 0, 0, 0, 0, 0, 0) ⟨Nat.zero_le _, (⟨by decide, by decide, by decide⟩ : Wd 0 0), (⟨by decide, by decide, by decide⟩ : Wd 0 0), (⟨by decide, by decide, by decide⟩ : Wd 0 0), (⟨by decide, by decide, by decide⟩ : Wd 0 0), (⟨by decide, by decide, by decide⟩ : Wd 0 0), (⟨by decide, by decide, by decide⟩ : Wd 0 0), (⟨by decide, by decide, by decide⟩ : Wd 0 0)⟩ ⟨rfl, rfl, rfl, rfl, rfl, rfl, rfl, rfl, trivial⟩ (fun _ hm => (hm.more rfl (by first | omega | (dsimp only; omega))).pick [0, 1] [0] [] rfl rfl) ?_
  rintro ⟨j, h0, h1, h2, h3, h4, h5, h6, h7, h8, h9, h10, h11, h12, h13⟩ hinv
  replace hinv : j ≤ 7 ∧ Wd h0 h1 ∧ Wd h2 h3 ∧ Wd h4 h5 ∧ Wd h6 h7 ∧ Wd h8 h9 ∧ Wd h10 h11 ∧ Wd h12 h13 := hinv
  dsimp only
  refine sr_ ?_
  obtain ⟨hj0, p0, p1, p2, p3, p4, p5, p6⟩ := hinv
  refine wl_ov (ov_lss rfl rfl) rfl (nn_ (gw_seq ?_))
  refine gw_cond rfl (fun hh => ?_) (fun hh => ?_)
  ·have hj : ((j : Nat) : Int) < 7 := by simpa using hh
   clear hh
   refine gw_skip (nx_then (gw_seq (gw_block (sr_ ?_))))
   have hjc : j = 0 ∨ j = 1 ∨ j = 2 ∨ j = 3 ∨ j = 4 ∨ j = 5 ∨ j = 6 := by omega
   rcases hjc with hjc | hjc | hjc | hjc | hjc | hjc | hjc
   ·subst hjc
    refine mv_ rfl ?_
    refine wl_set 21 (v' := .int .i64 0) rfl rfl ?_
    refine sg_ rfl (nn_ (sr_ (mv_ rfl ?_)))
    refine wl_buildSlice (e := 3) (cs := [.int .i64 0, .int .i64 0, .int .i64 480, .int .i64 600, .int .i64 1440]) rfl (by kernel_rfl) rfl fun g4 => ?_
    refine wl_got (γ := Int) (val := fun v => .int .i64 v) (φ := fun v => v ∈ ([0, 0, 480, 600, 1440] : List Int)) rfl cb57 rfl rfl rfl rfl (fun wx hm => (pick_any [0, 0, 480, 600, 1440] _ _ _ wx B sb _ hm.k (by omega) (by simp) (by simp) (hm.blkI 0 rfl) (hm.neRow 0 rfl rfl))) fun v5 hv5 => ?_
    have bv5 : 0 ≤ v5 ∧ v5 ≤ 1440 := mem_rng hv5 (by decide)
    have bv50 := bv5.1
    have bv51 := bv5.2
    clear bv5
    refine sg_ rfl (nn_ (sr_ (mv_ rfl (mv_ rfl (mv_ rfl (mv_ rfl ?_))))))
    refine wl_got (γ := Int) (val := fun v => .int .i64 v) (φ := fun v => v5 ≤ v ∧ (v ≤ 1440 ∨ v = v5)) rfl cb9 rfl rfl rfl rfl (fun wx hm => (range_any _ _ wx B sb _ hm.k (by omega) (by omega) (by omega) (by omega) (by omega))) fun v6 hv6 => ?_
    refine wl_ov (ov_build (cs := [.int .i64 v5, .int .i64 v6]) rfl (by kernel_rfl)) rfl ?_
    refine fd_ fo105_1 rfl rfl ?_
    refine wl_ov (ov_indexP (j := 0) ar103 rfl rfl (by decide) rfl) rfl ?_
    refine wl_stores (cs' := [.string nm, .int .i64 v5, .int .i64 v6, .int .i64 h2, .int .i64 h3, .int .i64 h4, .int .i64 h5, .int .i64 h6, .int .i64 h7, .int .i64 h8, .int .i64 h9, .int .i64 h10, .int .i64 h11, .int .i64 h12, .int .i64 h13]) 1 rz55 rfl rfl rfl rfl rfl rfl rfl rfl ?_
    refine nn_ (sr_ (mv_ rfl ?_))
    refine wl_got (γ := Bool) (val := fun v => .bool v) (φ := fun v => True) rfl cb56 rfl rfl rfl rfl (fun wx hm => ((flip_any _ wx B sb _ hm.k (by omega) (by omega) (by omega)).mono fun _ _ ⟨v, he, hS, hg⟩ => ⟨v, trivial, he, hS, hg⟩)) fun f7 _ => ?_
    refine nn_ ?_
    refine gw_cond rfl (fun hh => ?_) (fun hh => ?_)
    ·have hf4 : f7 = true := by simpa using hh
     clear hh
     refine gw_region (mv_ rfl (mv_ rfl (fd_ fo105_1 rfl rfl ?_)))
     refine wl_ov (ov_indexP (j := 0) ar103 rfl rfl (by decide) rfl) rfl ?_
     refine fd_ fo55_1 rfl rfl ?_
     refine wl_store 1 sc3 rfl rfl rfl rfl rfl rfl ?_
     refine wl_nil (nx_blk_nrm (nx_then (gw_region (ad_ rfl rfl ?_))))
     refine wl_set 40 (v' := .int .i64 1) rfl rfl ?_
     refine mv_ rfl (wl_nil ?_)
     exact nx_round (1, v5, v5, h2, h3, h4, h5, h6, h7, h8, h9, h10, h11, h12, h13) ⟨by dsimp only; omega, (by unfold Wd; dsimp only; omega), p1, p2, p3, p4, p5, p6⟩ (by dsimp only; omega) ⟨rfl, rfl, rfl, rfl, rfl, rfl, rfl, rfl, trivial⟩ (fun _ hm => (hm.more rfl (by first | omega | (dsimp only; omega))).pick [1, 2] [0] [] rfl rfl)
    have hf4 : f7 = false := by simpa using hh
    clear hh
    refine gw_skip (nx_blk_nrm (nx_then (gw_region (ad_ rfl rfl ?_))))
    refine wl_set 40 (v' := .int .i64 1) rfl rfl ?_
    refine mv_ rfl (wl_nil ?_)
    exact nx_round (1, v5, v6, h2, h3, h4, h5, h6, h7, h8, h9, h10, h11, h12, h13) ⟨by dsimp only; omega, (by unfold Wd; dsimp only; omega), p1, p2, p3, p4, p5, p6⟩ (by dsimp only; omega) ⟨rfl, rfl, rfl, rfl, rfl, rfl, rfl, rfl, trivial⟩ (fun _ hm => (hm.more rfl (by first | omega | (dsimp only; omega))).pick [1, 2] [0] [] rfl rfl)
   ·subst hjc
    refine mv_ rfl ?_
    refine wl_set 21 (v' := .int .i64 1) rfl rfl ?_
    refine sg_ rfl (nn_ (sr_ (mv_ rfl ?_)))
    refine wl_buildSlice (e := 3) (cs := [.int .i64 0, .int .i64 0, .int .i64 480, .int .i64 600, .int .i64 1440]) rfl (by kernel_rfl) rfl fun g8 => ?_
    refine wl_got (γ := Int) (val := fun v => .int .i64 v) (φ := fun v => v ∈ ([0, 0, 480, 600, 1440] : List Int)) rfl cb57 rfl rfl rfl rfl (fun wx hm => (pick_any [0, 0, 480, 600, 1440] _ _ _ wx B sb _ hm.k (by omega) (by simp) (by simp) (hm.blkI 0 rfl) (hm.neRow 0 rfl rfl))) fun v9 hv9 => ?_
    have bv9 : 0 ≤ v9 ∧ v9 ≤ 1440 := mem_rng hv9 (by decide)
    have bv90 := bv9.1
    have bv91 := bv9.2
    clear bv9
    refine sg_ rfl (nn_ (sr_ (mv_ rfl (mv_ rfl (mv_ rfl (mv_ rfl ?_))))))
    refine wl_got (γ := Int) (val := fun v => .int .i64 v) (φ := fun v => v9 ≤ v ∧ (v ≤ 1440 ∨ v = v9)) rfl cb9 rfl rfl rfl rfl (fun wx hm => (range_any _ _ wx B sb _ hm.k (by omega) (by omega) (by omega) (by omega) (by omega))) fun v10 hv10 => ?_
    refine wl_ov (ov_build (cs := [.int .i64 v9, .int .i64 v10]) rfl (by kernel_rfl)) rfl ?_
    refine fd_ fo105_1 rfl rfl ?_
    refine wl_ov (ov_indexP (j := 1) ar103 rfl rfl (by decide) rfl) rfl ?_
    refine wl_stores (cs' := [.string nm, .int .i64 h0, .int .i64 h1, .int .i64 v9, .int .i64 v10, .int .i64 h4, .int .i64 h5, .int .i64 h6, .int .i64 h7, .int .i64 h8, .int .i64 h9, .int .i64 h10, .int .i64 h11, .int .i64 h12, .int .i64 h13]) 1 rz55 rfl rfl rfl rfl rfl rfl rfl rfl ?_
    refine nn_ (sr_ (mv_ rfl ?_))
    refine wl_got (γ := Bool) (val := fun v => .bool v) (φ := fun v => True) rfl cb56 rfl rfl rfl rfl (fun wx hm => ((flip_any _ wx B sb _ hm.k (by omega) (by omega) (by omega)).mono fun _ _ ⟨v, he, hS, hg⟩ => ⟨v, trivial, he, hS, hg⟩)) fun f11 _ => ?_
    refine nn_ ?_
    refine gw_cond rfl (fun hh => ?_) (fun hh => ?_)
    ·have hf4 : f11 = true := by simpa using hh
     clear hh
     refine gw_region (mv_ rfl (mv_ rfl (fd_ fo105_1 rfl rfl ?_)))
     refine wl_ov (ov_indexP (j := 1) ar103 rfl rfl (by decide) rfl) rfl ?_
     refine fd_ fo55_1 rfl rfl ?_
     refine wl_store 1 sc3 rfl rfl rfl rfl rfl rfl ?_
     refine wl_nil (nx_blk_nrm (nx_then (gw_region (ad_ rfl rfl ?_))))
     refine wl_set 40 (v' := .int .i64 2) rfl rfl ?_
     refine mv_ rfl (wl_nil ?_)
     exact nx_round (2, h0, h1, v9, v9, h4, h5, h6, h7, h8, h9, h10, h11, h12, h13) ⟨by dsimp only; omega, p0, (by unfold Wd; dsimp only; omega), p2, p3, p4, p5, p6⟩ (by dsimp only; omega) ⟨rfl, rfl, rfl, rfl, rfl, rfl, rfl, rfl, trivial⟩ (fun _ hm => (hm.more rfl (by first | omega | (dsimp only; omega))).pick [1, 2] [0] [] rfl rfl)
    have hf4 : f11 = false := by simpa using hh
    clear hh
    refine gw_skip (nx_blk_nrm (nx_then (gw_region (ad_ rfl rfl ?_))))
    refine wl_set 40 (v' := .int .i64 2) rfl rfl ?_
    refine mv_ rfl (wl_nil ?_)
    exact nx_round (2, h0, h1, v9, v10, h4, h5, h6, h7, h8, h9, h10, h11, h12, h13) ⟨by dsimp only; omega, p0, (by unfold Wd; dsimp only; omega), p2, p3, p4, p5, p6⟩ (by dsimp only; omega) ⟨rfl, rfl, rfl, rfl, rfl, rfl, rfl, rfl, trivial⟩ (fun _ hm => (hm.more rfl (by first | omega | (dsimp only; omega))).pick [1, 2] [0] [] rfl rfl)
   ·subst hjc
    refine mv_ rfl ?_
    refine wl_set 21 (v' := .int .i64 2) rfl rfl ?_
    refine sg_ rfl (nn_ (sr_ (mv_ rfl ?_)))
    refine wl_buildSlice (e := 3) (cs := [.int .i64 0, .int .i64 0, .int .i64 480, .int .i64 600, .int .i64 1440]) rfl (by kernel_rfl) rfl fun g12 => ?_
    refine wl_got (γ := Int) (val := fun v => .int .i64 v) (φ := fun v => v ∈ ([0, 0, 480, 600, 1440] : List Int)) rfl cb57 rfl rfl rfl rfl (fun wx hm => (pick_any [0, 0, 480, 600, 1440] _ _ _ wx B sb _ hm.k (by omega) (by simp) (by simp) (hm.blkI 0 rfl) (hm.neRow 0 rfl rfl))) fun v13 hv13 => ?_
    have bv13 : 0 ≤ v13 ∧ v13 ≤ 1440 := mem_rng hv13 (by decide)
    have bv130 := bv13.1
    have bv131 := bv13.2
    clear bv13
    refine sg_ rfl (nn_ (sr_ (mv_ rfl (mv_ rfl (mv_ rfl (mv_ rfl ?_))))))
    refine wl_got (γ := Int) (val := fun v => .int .i64 v) (φ := fun v => v13 ≤ v ∧ (v ≤ 1440 ∨ v = v13)) rfl cb9 rfl rfl rfl rfl (fun wx hm => (range_any _ _ wx B sb _ hm.k (by omega) (by omega) (by omega) (by omega) (by omega))) fun v14 hv14 => ?_
    refine wl_ov (ov_build (cs := [.int .i64 v13, .int .i64 v14]) rfl (by kernel_rfl)) rfl ?_
    refine fd_ fo105_1 rfl rfl ?_
    refine wl_ov (ov_indexP (j := 2) ar103 rfl rfl (by decide) rfl) rfl ?_
    refine wl_stores (cs' := [.string nm, .int .i64 h0, .int .i64 h1, .int .i64 h2, .int .i64 h3, .int .i64 v13, .int .i64 v14, .int .i64 h6, .int .i64 h7, .int .i64 h8, .int .i64 h9, .int .i64 h10, .int .i64 h11, .int .i64 h12, .int .i64 h13]) 1 rz55 rfl rfl rfl rfl rfl rfl rfl rfl ?_
    refine nn_ (sr_ (mv_ rfl ?_))
    refine wl_got (γ := Bool) (val := fun v => .bool v) (φ := fun v => True) rfl cb56 rfl rfl rfl rfl (fun wx hm => ((flip_any _ wx B sb _ hm.k (by omega) (by omega) (by omega)).mono fun _ _ ⟨v, he, hS, hg⟩ => ⟨v, trivial, he, hS, hg⟩)) fun f15 _ => ?_
    refine nn_ ?_
    refine gw_cond rfl (fun hh => ?_) (fun hh => ?_)
    ·have hf4 : f15 = true := by simpa using hh
     clear hh
     refine gw_region (mv_ rfl (mv_ rfl (fd_ fo105_1 rfl rfl ?_)))
     refine wl_ov (ov_indexP (j := 2) ar103 rfl rfl (by decide) rfl) rfl ?_
     refine fd_ fo55_1 rfl rfl ?_
     refine wl_store 1 sc3 rfl rfl rfl rfl rfl rfl ?_
     refine wl_nil (nx_blk_nrm (nx_then (gw_region (ad_ rfl rfl ?_))))
     refine wl_set 40 (v' := .int .i64 3) rfl rfl ?_
     refine mv_ rfl (wl_nil ?_)
     exact nx_round (3, h0, h1, h2, h3, v13, v13, h6, h7, h8, h9, h10, h11, h12, h13) ⟨by dsimp only; omega, p0, p1, (by unfold Wd; dsimp only; omega), p3, p4, p5, p6⟩ (by dsimp only; omega) ⟨rfl, rfl, rfl, rfl, rfl, rfl, rfl, rfl, trivial⟩ (fun _ hm => (hm.more rfl (by first | omega | (dsimp only; omega))).pick [1, 2] [0] [] rfl rfl)
    have hf4 : f15 = false := by simpa using hh
    clear hh
    refine gw_skip (nx_blk_nrm (nx_then (gw_region (ad_ rfl rfl ?_))))
    refine wl_set 40 (v' := .int .i64 3) rfl rfl ?_
    refine mv_ rfl (wl_nil ?_)
    exact nx_round (3, h0, h1, h2, h3, v13, v14, h6, h7, h8, h9, h10, h11, h12, h13) ⟨by dsimp only; omega, p0, p1, (by unfold Wd; dsimp only; omega), p3, p4, p5, p6⟩ (by dsimp only; omega) ⟨rfl, rfl, rfl, rfl, rfl, rfl, rfl, rfl, trivial⟩ (fun _ hm => (hm.more rfl (by first | omega | (dsimp only; omega))).pick [1, 2] [0] [] rfl rfl)
   ·subst hjc
    refine mv_ rfl ?_
    refine wl_set 21 (v' := .int .i64 3) rfl rfl ?_
    refine sg_ rfl (nn_ (sr_ (mv_ rfl ?_)))
    refine wl_buildSlice (e := 3) (cs := [.int .i64 0, .int .i64 0, .int .i64 480, .int .i64 600, .int .i64 1440]) rfl (by kernel_rfl) rfl fun g16 => ?_
    refine wl_got (γ := Int) (val := fun v => .int .i64 v) (φ := fun v => v ∈ ([0, 0, 480, 600, 1440] : List Int)) rfl cb57 rfl rfl rfl rfl (fun wx hm => (pick_any [0, 0, 480, 600, 1440] _ _ _ wx B sb _ hm.k (by omega) (by simp) (by simp) (hm.blkI 0 rfl) (hm.neRow 0 rfl rfl))) fun v17 hv17 => ?_
    have bv17 : 0 ≤ v17 ∧ v17 ≤ 1440 := mem_rng hv17 (by decide)
    have bv170 := bv17.1
    have bv171 := bv17.2
    clear bv17
    refine sg_ rfl (nn_ (sr_ (mv_ rfl (mv_ rfl (mv_ rfl (mv_ rfl ?_))))))
    refine wl_got (γ := Int) (val := fun v => .int .i64 v) (φ := fun v => v17 ≤ v ∧ (v ≤ 1440 ∨ v = v17)) rfl cb9 rfl rfl rfl rfl (fun wx hm => (range_any _ _ wx B sb _ hm.k (by omega) (by omega) (by omega) (by omega) (by omega))) fun v18 hv18 => ?_
    refine wl_ov (ov_build (cs := [.int .i64 v17, .int .i64 v18]) rfl (by kernel_rfl)) rfl ?_
    refine fd_ fo105_1 rfl rfl ?_
    refine wl_ov (ov_indexP (j := 3) ar103 rfl rfl (by decide) rfl) rfl ?_
    refine wl_stores (cs' := [.string nm, .int .i64 h0, .int .i64 h1, .int .i64 h2, .int .i64 h3, .int .i64 h4, .int .i64 h5, .int .i64 v17, .int .i64 v18, .int .i64 h8, .int .i64 h9, .int .i64 h10, .int .i64 h11, .int .i64 h12, .int .i64 h13]) 1 rz55 rfl rfl rfl rfl rfl rfl rfl rfl ?_
    refine nn_ (sr_ (mv_ rfl ?_))
    refine wl_got (γ := Bool) (val := fun v => .bool v) (φ := fun v => True) rfl cb56 rfl rfl rfl rfl (fun wx hm => ((flip_any _ wx B sb _ hm.k (by omega) (by omega) (by omega)).mono fun _ _ ⟨v, he, hS, hg⟩ => ⟨v, trivial, he, hS, hg⟩)) fun f19 _ => ?_
    refine nn_ ?_
    refine gw_cond rfl (fun hh => ?_) (fun hh => ?_)
    ·have hf4 : f19 = true := by simpa using hh
     clear hh
     refine gw_region (mv_ rfl (mv_ rfl (fd_ fo105_1 rfl rfl ?_)))
     refine wl_ov (ov_indexP (j := 3) ar103 rfl rfl (by decide) rfl) rfl ?_
     refine fd_ fo55_1 rfl rfl ?_
     refine wl_store 1 sc3 rfl rfl rfl rfl rfl rfl ?_
     refine wl_nil (nx_blk_nrm (nx_then (gw_region (ad_ rfl rfl ?_))))
     refine wl_set 40 (v' := .int .i64 4) rfl rfl ?_
     refine mv_ rfl (wl_nil ?_)
     exact nx_round (4, h0, h1, h2, h3, h4, h5, v17, v17, h8, h9, h10, h11, h12, h13) ⟨by dsimp only; omega, p0, p1, p2, (by unfold Wd; dsimp only; omega), p4, p5, p6⟩ (by dsimp only; omega) ⟨rfl, rfl, rfl, rfl, rfl, rfl, rfl, rfl, trivial⟩ (fun _ hm => (hm.more rfl (by first | omega | (dsimp only; omega))).pick [1, 2] [0] [] rfl rfl)
    have hf4 : f19 = false := by simpa using hh
    clear hh
    refine gw_skip (nx_blk_nrm (nx_then (gw_region (ad_ rfl rfl ?_))))
    refine wl_set 40 (v' := .int .i64 4) rfl rfl ?_
    refine mv_ rfl (wl_nil ?_)
    exact nx_round (4, h0, h1, h2, h3, h4, h5, v17, v18, h8, h9, h10, h11, h12, h13) ⟨by dsimp only; omega, p0, p1, p2, (by unfold Wd; dsimp only; omega), p4, p5, p6⟩ (by dsimp only; omega) ⟨rfl, rfl, rfl, rfl, rfl, rfl, rfl, rfl, trivial⟩ (fun _ hm => (hm.more rfl (by first | omega | (dsimp only; omega))).pick [1, 2] [0] [] rfl rfl)
   ·subst hjc
    refine mv_ rfl ?_
    refine wl_set 21 (v' := .int .i64 4) rfl rfl ?_
    refine sg_ rfl (nn_ (sr_ (mv_ rfl ?_)))
    refine wl_buildSlice (e := 3) (cs := [.int .i64 0, .int .i64 0, .int .i64 480, .int .i64 600, .int .i64 1440]) rfl (by kernel_rfl) rfl fun g20 => ?_
    refine wl_got (γ := Int) (val := fun v => .int .i64 v) (φ := fun v => v ∈ ([0, 0, 480, 600, 1440] : List Int)) rfl cb57 rfl rfl rfl rfl (fun wx hm => (pick_any [0, 0, 480, 600, 1440] _ _ _ wx B sb _ hm.k (by omega) (by simp) (by simp) (hm.blkI 0 rfl) (hm.neRow 0 rfl rfl))) fun v21 hv21 => ?_
    have bv21 : 0 ≤ v21 ∧ v21 ≤ 1440 := mem_rng hv21 (by decide)
    have bv210 := bv21.1
    have bv211 := bv21.2
    clear bv21
    refine sg_ rfl (nn_ (sr_ (mv_ rfl (mv_ rfl (mv_ rfl (mv_ rfl ?_))))))
    refine wl_got (γ := Int) (val := fun v => .int .i64 v) (φ := fun v => v21 ≤ v ∧ (v ≤ 1440 ∨ v = v21)) rfl cb9 rfl rfl rfl rfl (fun wx hm => (range_any _ _ wx B sb _ hm.k (by omega) (by omega) (by omega) (by omega) (by omega))) fun v22 hv22 => ?_
    refine wl_ov (ov_build (cs := [.int .i64 v21, .int .i64 v22]) rfl (by kernel_rfl)) rfl ?_
    refine fd_ fo105_1 rfl rfl ?_
    refine wl_ov (ov_indexP (j := 4) ar103 rfl rfl (by decide) rfl) rfl ?_
    refine wl_stores (cs' := [.string nm, .int .i64 h0, .int .i64 h1, .int .i64 h2, .int .i64 h3, .int .i64 h4, .int .i64 h5, .int .i64 h6, .int .i64 h7, .int .i64 v21, .int .i64 v22, .int .i64 h10, .int .i64 h11, .int .i64 h12, .int .i64 h13]) 1 rz55 rfl rfl rfl rfl rfl rfl rfl rfl ?_
    refine nn_ (sr_ (mv_ rfl ?_))
    refine wl_got (γ := Bool) (val := fun v => .bool v) (φ := fun v => True) rfl cb56 rfl rfl rfl rfl (fun wx hm => ((flip_any _ wx B sb _ hm.k (by omega) (by omega) (by omega)).mono fun _ _ ⟨v, he, hS, hg⟩ => ⟨v, trivial, he, hS, hg⟩)) fun f23 _ => ?_
    refine nn_ ?_
    refine gw_cond rfl (fun hh => ?_) (fun hh => ?_)
    ·have hf4 : f23 = true := by simpa using hh
     clear hh
     refine gw_region (mv_ rfl (mv_ rfl (fd_ fo105_1 rfl rfl ?_)))
     refine wl_ov (ov_indexP (j := 4) ar103 rfl rfl (by decide) rfl) rfl ?_
     refine fd_ fo55_1 rfl rfl ?_
     refine wl_store 1 sc3 rfl rfl rfl rfl rfl rfl ?_
     refine wl_nil (nx_blk_nrm (nx_then (gw_region (ad_ rfl rfl ?_))))
     refine wl_set 40 (v' := .int .i64 5) rfl rfl ?_
     refine mv_ rfl (wl_nil ?_)
     exact nx_round (5, h0, h1, h2, h3, h4, h5, h6, h7, v21, v21, h10, h11, h12, h13) ⟨by dsimp only; omega, p0, p1, p2, p3, (by unfold Wd; dsimp only; omega), p5, p6⟩ (by dsimp only; omega) ⟨rfl, rfl, rfl, rfl, rfl, rfl, rfl, rfl, trivial⟩ (fun _ hm => (hm.more rfl (by first | omega | (dsimp only; omega))).pick [1, 2] [0] [] rfl rfl)
    have hf4 : f23 = false := by simpa using hh
    clear hh
    refine gw_skip (nx_blk_nrm (nx_then (gw_region (ad_ rfl rfl ?_))))
    refine wl_set 40 (v' := .int .i64 5) rfl rfl ?_
    refine mv_ rfl (wl_nil ?_)
    exact nx_round (5, h0, h1, h2, h3, h4, h5, h6, h7, v21, v22, h10, h11, h12, h13) ⟨by dsimp only; omega, p0, p1, p2, p3, (by unfold Wd; dsimp only; omega), p5, p6⟩ (by dsimp only; omega) ⟨rfl, rfl, rfl, rfl, rfl, rfl, rfl, rfl, trivial⟩ (fun _ hm => (hm.more rfl (by first | omega | (dsimp only; omega))).pick [1, 2] [0] [] rfl rfl)
   ·subst hjc
    refine mv_ rfl ?_
    refine wl_set 21 (v' := .int .i64 5) rfl rfl ?_
    refine sg_ rfl (nn_ (sr_ (mv_ rfl ?_)))
    refine wl_buildSlice (e := 3) (cs := [.int .i64 0, .int .i64 0, .int .i64 480, .int .i64 600, .int .i64 1440]) rfl (by kernel_rfl) rfl fun g24 => ?_
    refine wl_got (γ := Int) (val := fun v => .int .i64 v) (φ := fun v => v ∈ ([0, 0, 480, 600, 1440] : List Int)) rfl cb57 rfl rfl rfl rfl (fun wx hm => (pick_any [0, 0, 480, 600, 1440] _ _ _ wx B sb _ hm.k (by omega) (by simp) (by simp) (hm.blkI 0 rfl) (hm.neRow 0 rfl rfl))) fun v25 hv25 => ?_
    have bv25 : 0 ≤ v25 ∧ v25 ≤ 1440 := mem_rng hv25 (by decide)
    have bv250 := bv25.1
    have bv251 := bv25.2
    clear bv25
    refine sg_ rfl (nn_ (sr_ (mv_ rfl (mv_ rfl (mv_ rfl (mv_ rfl ?_))))))
    refine wl_got (γ := Int) (val := fun v => .int .i64 v) (φ := fun v => v25 ≤ v ∧ (v ≤ 1440 ∨ v = v25)) rfl cb9 rfl rfl rfl rfl (fun wx hm => (range_any _ _ wx B sb _ hm.k (by omega) (by omega) (by omega) (by omega) (by omega))) fun v26 hv26 => ?_
    refine wl_ov (ov_build (cs := [.int .i64 v25, .int .i64 v26]) rfl (by kernel_rfl)) rfl ?_
    refine fd_ fo105_1 rfl rfl ?_
    refine wl_ov (ov_indexP (j := 5) ar103 rfl rfl (by decide) rfl) rfl ?_
    refine wl_stores (cs' := [.string nm, .int .i64 h0, .int .i64 h1, .int .i64 h2, .int .i64 h3, .int .i64 h4, .int .i64 h5, .int .i64 h6, .int .i64 h7, .int .i64 h8, .int .i64 h9, .int .i64 v25, .int .i64 v26, .int .i64 h12, .int .i64 h13]) 1 rz55 rfl rfl rfl rfl rfl rfl rfl rfl ?_
    refine nn_ (sr_ (mv_ rfl ?_))
    refine wl_got (γ := Bool) (val := fun v => .bool v) (φ := fun v => True) rfl cb56 rfl rfl rfl rfl (fun wx hm => ((flip_any _ wx B sb _ hm.k (by omega) (by omega) (by omega)).mono fun _ _ ⟨v, he, hS, hg⟩ => ⟨v, trivial, he, hS, hg⟩)) fun f27 _ => ?_
    refine nn_ ?_
    refine gw_cond rfl (fun hh => ?_) (fun hh => ?_)
    ·have hf4 : f27 = true := by simpa using hh
     clear hh
     refine gw_region (mv_ rfl (mv_ rfl (fd_ fo105_1 rfl rfl ?_)))
     refine wl_ov (ov_indexP (j := 5) ar103 rfl rfl (by decide) rfl) rfl ?_
     refine fd_ fo55_1 rfl rfl ?_
     refine wl_store 1 sc3 rfl rfl rfl rfl rfl rfl ?_
     refine wl_nil (nx_blk_nrm (nx_then (gw_region (ad_ rfl rfl ?_))))
     refine wl_set 40 (v' := .int .i64 6) rfl rfl ?_
     refine mv_ rfl (wl_nil ?_)
     exact nx_round (6, h0, h1, h2, h3, h4, h5, h6, h7, h8, h9, v25, v25, h12, h13) ⟨by dsimp only; omega, p0, p1, p2, p3, p4, (by unfold Wd; dsimp only; omega), p6⟩ (by dsimp only; omega) ⟨rfl, rfl, rfl, rfl, rfl, rfl, rfl, rfl, trivial⟩ (fun _ hm => (hm.more rfl (by first | omega | (dsimp only; omega))).pick [1, 2] [0] [] rfl rfl)
    have hf4 : f27 = false := by simpa using hh
    clear hh
    refine gw_skip (nx_blk_nrm (nx_then (gw_region (ad_ rfl rfl ?_))))
    refine wl_set 40 (v' := .int .i64 6) rfl rfl ?_
    refine mv_ rfl (wl_nil ?_)
    exact nx_round (6, h0, h1, h2, h3, h4, h5, h6, h7, h8, h9, v25, v26, h12, h13) ⟨by dsimp only; omega, p0, p1, p2, p3, p4, (by unfold Wd; dsimp only; omega), p6⟩ (by dsimp only; omega) ⟨rfl, rfl, rfl, rfl, rfl, rfl, rfl, rfl, trivial⟩ (fun _ hm => (hm.more rfl (by first | omega | (dsimp only; omega))).pick [1, 2] [0] [] rfl rfl)
   subst hjc
   refine mv_ rfl ?_
   refine wl_set 21 (v' := .int .i64 6) rfl rfl ?_
   refine sg_ rfl (nn_ (sr_ (mv_ rfl ?_)))
   refine wl_buildSlice (e := 3) (cs := [.int .i64 0, .int .i64 0, .int .i64 480, .int .i64 600, .int .i64 1440]) rfl (by kernel_rfl) rfl fun g28 => ?_
   refine wl_got (γ := Int) (val := fun v => .int .i64 v) (φ := fun v => v ∈ ([0, 0, 480, 600, 1440] : List Int)) rfl cb57 rfl rfl rfl rfl (fun wx hm => (pick_any [0, 0, 480, 600, 1440] _ _ _ wx B sb _ hm.k (by omega) (by simp) (by simp) (hm.blkI 0 rfl) (hm.neRow 0 rfl rfl))) fun v29 hv29 => ?_
   have bv29 : 0 ≤ v29 ∧ v29 ≤ 1440 := mem_rng hv29 (by decide)
   have bv290 := bv29.1
   have bv291 := bv29.2
   clear bv29
   refine sg_ rfl (nn_ (sr_ (mv_ rfl (mv_ rfl (mv_ rfl (mv_ rfl ?_))))))
   refine wl_got (γ := Int) (val := fun v => .int .i64 v) (φ := fun v => v29 ≤ v ∧ (v ≤ 1440 ∨ v = v29)) rfl cb9 rfl rfl rfl rfl (fun wx hm => (range_any _ _ wx B sb _ hm.k (by omega) (by omega) (by omega) (by omega) (by omega))) fun v30 hv30 => ?_
   refine wl_ov (ov_build (cs := [.int .i64 v29, .int .i64 v30]) rfl (by kernel_rfl)) rfl ?_
   refine fd_ fo105_1 rfl rfl ?_
   refine wl_ov (ov_indexP (j := 6) ar103 rfl rfl (by decide) rfl) rfl ?_
   refine wl_stores (cs' := [.string nm, .int .i64 h0, .int .i64 h1, .int .i64 h2, .int .i64 h3, .int .i64 h4, .int .i64 h5, .int .i64 h6, .int .i64 h7, .int .i64 h8, .int .i64 h9, .int .i64 h10, .int .i64 h11, .int .i64 v29, .int .i64 v30]) 1 rz55 rfl rfl rfl rfl rfl rfl rfl rfl ?_
   refine nn_ (sr_ (mv_ rfl ?_))
   refine wl_got (γ := Bool) (val := fun v => .bool v) (φ := fun v => True) rfl cb56 rfl rfl rfl rfl (fun wx hm => ((flip_any _ wx B sb _ hm.k (by omega) (by omega) (by omega)).mono fun _ _ ⟨v, he, hS, hg⟩ => ⟨v, trivial, he, hS, hg⟩)) fun f31 _ => ?_
   refine nn_ ?_
   refine gw_cond rfl (fun hh => ?_) (fun hh => ?_)
   ·have hf4 : f31 = true := by simpa using hh
    clear hh
    refine gw_region (mv_ rfl (mv_ rfl (fd_ fo105_1 rfl rfl ?_)))
    refine wl_ov (ov_indexP (j := 6) ar103 rfl rfl (by decide) rfl) rfl ?_
    refine fd_ fo55_1 rfl rfl ?_
    refine wl_store 1 sc3 rfl rfl rfl rfl rfl rfl ?_
    refine wl_nil (nx_blk_nrm (nx_then (gw_region (ad_ rfl rfl ?_))))
    refine wl_set 40 (v' := .int .i64 7) rfl rfl ?_
    refine mv_ rfl (wl_nil ?_)
    exact nx_round (7, h0, h1, h2, h3, h4, h5, h6, h7, h8, h9, h10, h11, v29, v29) ⟨by dsimp only; omega, p0, p1, p2, p3, p4, p5, (by unfold Wd; dsimp only; omega)⟩ (by dsimp only; omega) ⟨rfl, rfl, rfl, rfl, rfl, rfl, rfl, rfl, trivial⟩ (fun _ hm => (hm.more rfl (by first | omega | (dsimp only; omega))).pick [1, 2] [0] [] rfl rfl)
   have hf4 : f31 = false := by simpa using hh
   clear hh
   refine gw_skip (nx_blk_nrm (nx_then (gw_region (ad_ rfl rfl ?_))))
   refine wl_set 40 (v' := .int .i64 7) rfl rfl ?_
   refine mv_ rfl (wl_nil ?_)
   exact nx_round (7, h0, h1, h2, h3, h4, h5, h6, h7, h8, h9, h10, h11, v29, v30) ⟨by dsimp only; omega, p0, p1, p2, p3, p4, p5, (by unfold Wd; dsimp only; omega)⟩ (by dsimp only; omega) ⟨rfl, rfl, rfl, rfl, rfl, rfl, rfl, rfl, trivial⟩ (fun _ hm => (hm.more rfl (by first | omega | (dsimp only; omega))).pick [1, 2] [0] [] rfl rfl)
  have hj : ¬ (((j : Nat) : Int) < 7) := by simpa using hh
  clear hh
  refine gw_exit ?_
  refine nx_then_exit (nx_then_exit ?_)
  refine nx_blk_here ?_
  refine nx_then (gw_region ?_)
  have hall : ∀ x ∈ [h0, h1, h2, h3, h4, h5, h6, h7, h8, h9, h10, h11, h12, h13], -3000 ≤ x ∧ x ≤ 3000 := bd_all ⟨wd_l p0, wd_r p0, wd_l p1, wd_r p1, wd_l p2, wd_r p2, wd_l p3, wd_r p3, wd_l p4, wd_r p4, wd_l p5, wd_r p5, wd_l p6, wd_r p6⟩
  have hfin := hours_fine ⟨p0, p1, p2, p3, p4, p5, p6⟩
  refine mv_ rfl ?_
  refine wl_ov (ov_loads rz105 rfl (fun _ hm => hm.blkI 0 rfl) rfl rfl) rfl ?_
  refine wl_buildSlice (e := 105) (cs := [.string nm, .int .i64 h0, .int .i64 h1, .int .i64 h2, .int .i64 h3, .int .i64 h4, .int .i64 h5, .int .i64 h6, .int .i64 h7, .int .i64 h8, .int .i64 h9, .int .i64 h10, .int .i64 h11, .int .i64 h12, .int .i64 h13]) rfl (by kernel_rfl) rfl fun g32 => ?_
  refine wl_append (news := [.string nm, .int .i64 h0, .int .i64 h1, .int .i64 h2, .int .i64 h3, .int .i64 h4, .int .i64 h5, .int .i64 h6, .int .i64 h7, .int .i64 h8, .int .i64 h9, .int .i64 h10, .int .i64 h11, .int .i64 h12, .int .i64 h13]) 0 0 ap26 rfl rfl rfl rfl rfl rfl rfl (by omega) (by unfold maxLen; omega) rfl rfl fun v2 hv2 => ?_
  refine sg_ rfl (wl_nil (nx_blk_nrm (nx_then (gw_region (ad_ rfl rfl (mv_ rfl (wl_nil ?_)))))))
  exact nx_round (i + 1, k + 1, v2, l ++ [⟨nm, [h0, h1, h2, h3, h4, h5, h6, h7, h8, h9, h10, h11, h12, h13]⟩], l.flatMap stEnc ++ ([.string nm, .int .i64 h0, .int .i64 h1, .int .i64 h2, .int .i64 h3, .int .i64 h4, .int .i64 h5, .int .i64 h6, .int .i64 h7, .int .i64 h8, .int .i64 h9, .int .i64 h10, .int .i64 h11, .int .i64 h12, .int .i64 h13] : List Value)) ⟨by dsimp only; omega, by dsimp only; omega, by simp [hl], stB_snoc hok ⟨rfl, hnm2, hall⟩, stG_snoc hsg hx hfin, by simp [stEnc, stCells]⟩ (by dsimp only; omega) ⟨rfl, rfl, rfl, rfl, rfl, (some_int (by omega)), trivial⟩ (fun _ hm => (hm.more rfl (by first | omega | (dsimp only; omega))).pick [2] [0] [] rfl rfl)
 have hi : ¬ (((i : Nat) : Int) < 3) := by simpa using hh
 clear hh
 refine gw_exit ?_
 refine nx_then_exit (nx_then_exit ?_)
 refine nx_blk_here ?_
 refine nx_then (sr_ ?_)
 refine wl_look (R := ∃ A cc, v = .slice A k cc) (fun wx hm => own_slice (hm.ownI 0 rfl)) ?_
 rintro ⟨A, c, rfl⟩
 refine mv_ rfl (sg_ rfl (nn_ ?_))
 refine gw_ret ?_
 refine nx_ret1 rfl rfl fun wx hm => ?_
 exact ⟨A, k, c, l, rfl, hm.ownI 0 rfl, ⟨hl, stG_right hsg (by omega)⟩, hok, by omega, hm.k.more (by omega), hm.g⟩
end Go.Proofs.YtiendebcdicjnaaGreatDoor
namespace Go.Proofs.YtiendebcdicjnaaGreatDoor
open Go.RowKit
def rowArr (P : Program) (t : TypeId) : Option (Nat × TypeId × Nat) :=
  match P.underlying t with
  | some (.array n e) => match P.underlying e with
    | some d => if d.isRow then (P.info? e).map fun i => (n, e, i.size) else none
    | none => none
  | _ => none
section
variable {P : Program} {nn : Nat} {S : List (Nat × Value)} {Z : World → Prop} {d : Nat} {ty : TypeId} {pos : String} {aft : Array Edge}
theorem ov_indexA {t e : TypeId} {x y : Operand} {len sz i : Nat} {cs vs : List Value} (ht : rowArr P t = some (len, e, sz)) (hx : rd S x = some (.agg cs.toArray)) (hy : rd S y = some (.int .i64 (i : Int))) (hlt : i < len) (hv : (cs.drop (i * sz)).take sz = vs) :
    OV P nn S Z ⟨some d, .index t x y, ty, pos, aft, none⟩ (.agg vs.toArray) := fun a w ha hm => by
  unfold rowArr at ht
  split at ht
  · rename_i n e' hu
    split at ht
    · rename_i dd he
      split at ht
      · rename_i hrow
        cases hq : P.info? e' with
        | none => simp [hq] at ht
        | some inf =>
          simp only [hq, Option.map_some, Option.some.injEq, Prod.mk.injEq] at ht
          obtain ⟨rfl, rfl, hs⟩ := ht
          have hagg : (isAgg e').run P w = .ok true w := by
            unfold isAgg
            rw [Sem.run_bind, run_underlying he w]
            cases dd <;> simp_all [TypeDesc.isRow]
          have hb : 0 ≤ (i : Int) ∧ (i : Int) < (n : Int) := ⟨by omega, by omega⟩
          have hr : (Instr.index t (.agg cs.toArray) (.int .i64 (i : Int))).run P w = .ok (.agg vs.toArray) w := by
            subst hv
            simp [Instr.index, asIntOf, run_underlying hu, sizeOf, typeInfo, hq, hs, part, hagg]
            omega
          simp [execOp, ha.eval hx, ha.eval hy, hr, Result.andThen]
      · cases ht
    · cases ht
  · cases ht
end
end Go.Proofs.YtiendebcdicjnaaGreatDoor
