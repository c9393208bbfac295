/- Several texts as one: Ix Fta Ftb Rdk Sl Sk Stc Hd Rt Ta Fw -/
import Derived.Test.YtnpcbfllnkiopaaGreatDoorN5a
import Derived.Test.YtnpcbfllnkiopaaGreatDoorN5b
import Derived.Test.YtnpcbfllnkiopaaGreatDoorProg
import Derived.Ground.NamesProg
import Derived.Shelf.Small.Bits
import Derived.Shelf.Small.Strs
import Derived.Deep.RegionHeld3
set_option maxRecDepth 100000
set_option maxHeartbeats 4000000
namespace Go.Proofs.YtnpcbfllnkiopaaGreatDoor
open Go.RowKit
def rowArr (P : Program) (t : TypeId) : Option (Nat × TypeId × Nat) :=
  match P.underlying t with
  | some (.array n e) => match P.underlying e with
    | some d => if d.isRow then (P.info? e).map fun i => (n, e, i.size) else none
    | none => none
  | _ => none
section
variable {P : Program} {nn : Nat} {S : List (Nat × Value)} {Z : World → Prop} {d : Nat} {ty : TypeId} {pos : String} {aft : Array Edge}
theorem ov_indexA {t e : TypeId} {x y : Operand} {len sz i : Nat} {cs vs : List Value} (ht : rowArr P t = some (len, e, sz)) (hx : rd S x = some (.agg cs.toArray)) (hy : rd S y = some (.int .i64 (i : Int))) (hlt : i < len) (hv : (cs.drop (i * sz)).take sz = vs) :
    OV P nn S Z ⟨some d, .index t x y, ty, pos, aft, none⟩ (.agg vs.toArray) := fun a w ha hm => by
  unfold rowArr at ht
  split at ht
  · rename_i n e' hu
    split at ht
    · rename_i dd he
      split at ht
      · rename_i hrow
        cases hq : P.info? e' with
        | none => simp [hq] at ht
        | some inf =>
          simp only [hq, Option.map_some, Option.some.injEq, Prod.mk.injEq] at ht
          obtain ⟨rfl, rfl, hs⟩ := ht
          have hagg : (isAgg e').run P w = .ok true w := by
            unfold isAgg
            rw [Sem.run_bind, run_underlying he w]
            cases dd <;> simp_all [TypeDesc.isRow]
          have hb : 0 ≤ (i : Int) ∧ (i : Int) < (n : Int) := ⟨by omega, by omega⟩
          have hr : (Instr.index t (.agg cs.toArray) (.int .i64 (i : Int))).run P w = .ok (.agg vs.toArray) w := by
            subst hv
            simp [Instr.index, asIntOf, run_underlying hu, sizeOf, typeInfo, hq, hs, part, hagg]
            omega
          simp [execOp, ha.eval hx, ha.eval hy, hr, Result.andThen]
      · cases ht
    · cases ht
  · cases ht
end
end Go.Proofs.YtnpcbfllnkiopaaGreatDoor
namespace Go.Proofs.YtnpcbfllnkiopaaGreatDoor
open Go.RowKit
theorem fnot_t {b : Bool} (h : (!b) = true) : b = false := by cases b <;> simp_all
theorem fnot_f {b : Bool} (h : (!b) = false) : b = true := by cases b <;> simp_all
theorem wd_pos (t : ByteArray) : 1 ≤ (wdL t).length := by
  unfold wdL
  rw [words_len t ⟨#[32]⟩ (by decide)]; omega
theorem fcons_of {l : List ByteArray} {a : ByteArray} (h : l[0]? = some a) : ∃ r, l = a :: r := by
  cases l with
  | nil => cases h
  | cons x r => exact ⟨r, by simp at h; rw [h]⟩
theorem eqS_iff {a b : ByteArray} : eqS a b = true ↔ a = b := ⟨fun h => bytes_ext (by unfold eqS at h; simpa using h), fun h => by subst h; unfold eqS; simp⟩
theorem a0_cases (a : ByteArray) : a = stW ∨ a = clW ∨ a = vhW ∨ a = plW ∨ (eqS a stW = false ∧ eqS a clW = false ∧ eqS a vhW = false ∧ eqS a plW = false) := by
  cases h1 : eqS a stW with
  | true => exact .inl (eqS_iff.1 h1)
  | false =>
    cases h2 : eqS a clW with
    | true => exact .inr (.inl (eqS_iff.1 h2))
    | false =>
      cases h3 : eqS a vhW with
      | true => exact .inr (.inr (.inl (eqS_iff.1 h3)))
      | false =>
        cases h4 : eqS a plW with
        | true => exact .inr (.inr (.inr (.inl (eqS_iff.1 h4))))
        | false => exact .inr (.inr (.inr (.inr ⟨rfl, rfl, rfl, rfl⟩)))
theorem fItem_bad {l : List ByteArray} {a : ByteArray} (e : l[0]? = some a) (h3 : l.length = 3 → eqS a clW = false ∧ eqS a vhW = false) (h4 : l.length = 4 → eqS a plW = false) (h9 : l.length = 9 → eqS a stW = false) : fItem l = none := by
  obtain ⟨r, rfl⟩ := fcons_of e
  unfold fItem
  split
  · rename_i e; cases e; rw [(h3 rfl).1, (h3 rfl).2]; rfl
  · rename_i e; cases e; rw [h4 rfl]; rfl
  · rename_i e; cases e; rw [h9 rfl]; rfl
  · rfl
theorem item_cs (a1 a2 : ByteArray) : fItem [clW, a1, a2] = some (.cs ⟨a1, und a2⟩) := if_pos (by decide +kernel)
theorem item_vh (a1 a2 : ByteArray) : fItem [vhW, a1, a2] = some (.vh ⟨a1, a2⟩) := (if_neg (by decide +kernel)).trans (if_pos (by decide +kernel))
theorem item_pl {a1 : ByteArray} (a2 a3 : ByteArray) (h : numB a1 = true) : fItem [plW, a1, a2, a3] = some (.pl ⟨numV a1, a2, a3⟩) := if_pos (by rw [h, show eqS plW plW = true by decide +kernel]; rfl)
theorem item_pl_no {a1 : ByteArray} (a2 a3 : ByteArray) (h : numB a1 = false) : fItem [plW, a1, a2, a3] = none := if_neg (by rw [h, Bool.and_false]; decide)
theorem item_st {a1 x0 x1 x2 x3 x4 x5 x6 : ByteArray} (h : [x0, x1, x2, x3, x4, x5, x6].all winB = true) : fItem [stW, a1, x0, x1, x2, x3, x4, x5, x6] = some (.st (stOf a1 x0 x1 x2 x3 x4 x5 x6)) := if_pos (by rw [h, show eqS stW stW = true by decide +kernel]; rfl)
theorem item_st_no {a1 x0 x1 x2 x3 x4 x5 x6 : ByteArray} (h : [x0, x1, x2, x3, x4, x5, x6].all winB = false) : fItem [stW, a1, x0, x1, x2, x3, x4, x5, x6] = none := if_neg (by rw [h, Bool.and_false]; decide)
theorem all_no {l : List ByteArray} {j : Nat} {x : ByteArray} (h : l[j]? = some x) (hx : winB x = false) : l.all winB = false := by
  cases h0 : l.all winB with
  | false => rfl
  | true => rw [List.all_eq_true.1 h0 x (List.mem_of_getElem? h)] at hx; cases hx
theorem all_take_succ {l : List ByteArray} {j : Nat} {x : ByteArray} (h : l[j]? = some x) (ha : (l.take j).all winB = true) (hx : winB x = true) : (l.take (j + 1)).all winB = true := by
  rw [List.take_add_one, h, Option.toList_some, List.all_append, ha]; simp [hx]
def itK (o : Option FIt) : Int := match o with
  | none => 0
  | some x => x.kd
theorem kd_bd (x : FIt) : 1 ≤ x.kd ∧ x.kd ≤ 4 := by cases x <;> simp [FIt.kd]
theorem push_last (s : FsZ) (x : FIt) : (fPush s x).last = x.kd := by cases x <;> rfl
def f4 (s : FsZ) : List St × List Cs × List Vh × List Pl := (s.sl, s.cl, s.vl, s.pl)
theorem push_f4 (s s' : FsZ) (x : FIt) (h : f4 s = f4 s') : f4 (fPush s x) = f4 (fPush s' x) := by
  unfold f4 at h
  simp only [Prod.mk.injEq] at h
  obtain ⟨h1, h2, h3, h4⟩ := h
  cases x <;> (unfold f4 fPush; simp [h1, h2, h3, h4])
theorem ar166 : arrSz Tryz.prog 166 = some (7, 2) := by kernel_rfl
theorem station_w (a0 a1 x0 x1 x2 x3 x4 x5 x6 : ByteArray) (A : Option Addr) (w : World) (ht : TxtW w) (hw : SlT sgEnc 1 9 w A 9 [a0, a1, x0, x1, x2, x3, x4, x5, x6]) (zx0 : x0.size ≤ 1000000) (zx1 : x1.size ≤ 1000000) (zx2 : x2.size ≤ 1000000) (zx3 : x3.size ≤ 1000000) (zx4 : x4.size ≤ 1000000) (zx5 : x5.size ≤ 1000000) (zx6 : x6.size ≤ 1000000) :
  Calls Tryz.prog 212 #[.slice A 9 9] w (fun e w' => ∃ (k : ByteArray) (m0 m1 m2 m3 m4 m5 m6 m7 m8 m9 m10 m11 m12 m13 : Int), e = .returned (.tuple #[.agg #[.string k, .int .i64 m0, .int .i64 m1, .int .i64 m2, .int .i64 m3, .int .i64 m4, .int .i64 m5, .int .i64 m6, .int .i64 m7, .int .i64 m8, .int .i64 m9, .int .i64 m10, .int .i64 m11, .int .i64 m12, .int .i64 m13], .bool ([x0, x1, x2, x3, x4, x5, x6].all winB)]) ∧ ([x0, x1, x2, x3, x4, x5, x6].all winB = true → (⟨k, [m0, m1, m2, m3, m4, m5, m6, m7, m8, m9, m10, m11, m12, m13]⟩ : St) = stOf a1 x0 x1 x2 x3 x4 x5 x6) ∧ w.grownBy w' none) := by
 refine gw_enter ⟨68, w, none, [9, 3]⟩ Tryz.func212 rfl Tryz.ntmps212 rfl (mem0 (X := [SlOld sgEnc 1 9 w.heap.size none A 9 [a0, a1, x0, x1, x2, x3, x4, x5, x6], TxtO w.heap.size none]) (allF_cons hw.old (allF_cons ht.old allF_nil)) (allL_cons SlOld.lasts (allL_cons TxtO.lasts allL_nil))) ?_
 refine sr_ ?_
 obtain ⟨b, off, hA, _, _⟩ := hw.get (by omega)
 subst hA
 refine wl_alloc zc168 rfl fun g1 => ?_
 refine sg_ rfl (nn_ (sr_ (mv_ rfl ?_)))
 refine wl_ov (ov_index (j := 1) es112 rfl rfl (by omega)) rfl ?_
 refine wl_ov (ov_elem1 (k := 0) (v := .string a1) sc9 rfl (fun _ hm => (hm.fact 0 rfl).1) (show ([a0, a1, x0, x1, x2, x3, x4, x5, x6] : List ByteArray)[1]? = some a1 from rfl) rfl rfl) rfl ?_
 refine wl_ov (ov_build (cs := [.string a1, .int .i64 0, .int .i64 0, .int .i64 0, .int .i64 0, .int .i64 0, .int .i64 0, .int .i64 0, .int .i64 0, .int .i64 0, .int .i64 0, .int .i64 0, .int .i64 0, .int .i64 0, .int .i64 0]) rfl (by kernel_rfl)) rfl ?_
 refine wl_alloc zc168 rfl fun g2 => ?_
 refine wl_stores (cs' := [.string a1, .int .i64 0, .int .i64 0, .int .i64 0, .int .i64 0, .int .i64 0, .int .i64 0, .int .i64 0, .int .i64 0, .int .i64 0, .int .i64 0, .int .i64 0, .int .i64 0, .int .i64 0, .int .i64 0]) 0 rz168 rfl rfl rfl rfl rfl rfl rfl rfl ?_
 refine nn_ (gw_seq (sr_ (mv_ rfl ?_)))
 refine wl_ov (ov_sliceLo (lo := 2) es112 rfl rfl rfl (by omega)) rfl ?_
 refine wl_set 17 (v' := .slice (some ⟨b, off + 2, none⟩) 7 7) rfl rfl ?_
 refine wl_ov (ov_len es112 rfl) rfl ?_
 refine wl_set 18 (v' := .int .i64 7) rfl rfl ?_
 refine mv_ rfl (nn_ (gw_block ?_))
 refine gw_loop (γ := Nat × Int × Int × Int × Int × Int × Int × Int × Int × Int × Int × Int × Int × Int × Int) (fun (gy : Nat × Int × Int × Int × Int × Int × Int × Int × Int × Int × Int × Int × Int × Int × Int) => gy.1 ≤ 7 ∧ ([x0, x1, x2, x3, x4, x5, x6].take gy.1).all winB = true ∧ ([gy.2.1, gy.2.2.1, gy.2.2.2.1, gy.2.2.2.2.1, gy.2.2.2.2.2.1, gy.2.2.2.2.2.2.1, gy.2.2.2.2.2.2.2.1, gy.2.2.2.2.2.2.2.2.1, gy.2.2.2.2.2.2.2.2.2.1, gy.2.2.2.2.2.2.2.2.2.2.1, gy.2.2.2.2.2.2.2.2.2.2.2.1, gy.2.2.2.2.2.2.2.2.2.2.2.2.1, gy.2.2.2.2.2.2.2.2.2.2.2.2.2.1, gy.2.2.2.2.2.2.2.2.2.2.2.2.2.2] : List Int).take (2 * gy.1) = ([wF x0, wT x0, wF x1, wT x1, wF x2, wT x2, wF x3, wT x3, wF x4, wT x4, wF x5, wT x5, wF x6, wT x6] : List Int).take (2 * gy.1)) (fun (gy : Nat × Int × Int × Int × Int × Int × Int × Int × Int × Int × Int × Int × Int × Int × Int) => [(2, .pointer (some ⟨g1, 0, none⟩)), (4, .pointer (some ⟨g2, 0, none⟩)), (17, .slice (some ⟨b, off + 2, none⟩) 7 7), (18, .int .i64 7), (19, .int .i64 ((gy.1 : Nat) : Int))]) (fun (gy : Nat × Int × Int × Int × Int × Int × Int × Int × Int × Int × Int × Int × Int × Int × Int) => fun _ => True) (fun (gy : Nat × Int × Int × Int × Int × Int × Int × Int × Int × Int × Int × Int × Int × Int × Int) => [(g2, 168, [.string a1, .int .i64 gy.2.1, .int .i64 gy.2.2.1, .int .i64 gy.2.2.2.1, .int .i64 gy.2.2.2.2.1, .int .i64 gy.2.2.2.2.2.1, .int .i64 gy.2.2.2.2.2.2.1, .int .i64 gy.2.2.2.2.2.2.2.1, .int .i64 gy.2.2.2.2.2.2.2.2.1, .int .i64 gy.2.2.2.2.2.2.2.2.2.1, .int .i64 gy.2.2.2.2.2.2.2.2.2.2.1, .int .i64 gy.2.2.2.2.2.2.2.2.2.2.2.1, .int .i64 gy.2.2.2.2.2.2.2.2.2.2.2.2.1, .int .i64 gy.2.2.2.2.2.2.2.2.2.2.2.2.2.1, .int .i64 gy.2.2.2.2.2.2.2.2.2.2.2.2.2.2]), (g1, 168, [.string ⟨#[]⟩, .int .i64 0, .int .i64 0, .int .i64 0, .int .i64 0, .int .i64 0, .int .i64 0, .int .i64 0, .int .i64 0, .int .i64 0, .int .i64 0, .int .i64 0, .int .i64 0, .int .i64 0, .int .i64 0])]) (fun (gy : Nat × Int × Int × Int × Int × Int × Int × Int × Int × Int × Int × Int × Int × Int × Int) => []) (fun (gy : Nat × Int × Int × Int × Int × Int × Int × Int × Int × Int × Int × Int × Int × Int × Int) => [SlOld sgEnc 1 9 w.heap.size none (some ⟨b, off, none⟩) 9 [a0, a1, x0, x1, x2, x3, x4, x5, x6], TxtO w.heap.size none]) (fun (gy : Nat × Int × Int × Int × Int × Int × Int × Int × Int × Int × Int × Int × Int × Int × Int) => 7 - gy.1) (0, 0, 0, 0, 0, 0, 0, 0, 0, 0, 0, 0, 0, 0, 0) ⟨Nat.zero_le _, rfl, rfl⟩ ⟨rfl, rfl, rfl, rfl, rfl, trivial⟩ (fun _ hm => hm.pick [0, 1] [] [0, 1] rfl rfl) ?_
 rintro ⟨j, y0, y1, y2, y3, y4, y5, y6, y7, y8, y9, y10, y11, y12, y13⟩ hinv
 replace hinv : j ≤ 7 ∧ ([x0, x1, x2, x3, x4, x5, x6].take j).all winB = true ∧ ([y0, y1, y2, y3, y4, y5, y6, y7, y8, y9, y10, y11, y12, y13] : List Int).take (2 * j) = ([wF x0, wT x0, wF x1, wT x1, wF x2, wT x2, wF x3, wT x3, wF x4, wT x4, wF x5, wT x5, wF x6, wT x6] : List Int).take (2 * j) := hinv
 dsimp only
 refine sr_ ?_
 obtain ⟨hj7, hall, hyv⟩ := hinv
 refine wl_ov (ov_lss rfl rfl) rfl (nn_ (gw_seq ?_))
 refine gw_cond rfl (fun hh => ?_) (fun hh => ?_)
 ·have hj : ((j : Nat) : Int) < 7 := by simpa using hh
  clear hh
  refine gw_skip (nx_then (gw_seq (gw_block (sr_ ?_))))
  obtain ⟨x, hx7⟩ : ∃ x, ([x0, x1, x2, x3, x4, x5, x6] : List ByteArray)[j]? = some x := ⟨_, List.getElem?_eq_getElem (show j < 7 by omega)⟩
  have zx : x.size ≤ 1000000 := by
   have hm := List.mem_of_getElem? hx7
   simp only [List.mem_cons, List.not_mem_nil, or_false] at hm
   rcases hm with rfl | rfl | rfl | rfl | rfl | rfl | rfl <;> assumption
  have s1x : (cutD x).1.size ≤ 1000000 := Nat.le_trans (cut_sz x dashS (by decide)).1 zx
  have s2x : (cutD x).2.1.size ≤ 1000000 := Nat.le_trans (cut_sz x dashS (by decide)).2.2 zx
  obtain ⟨NBx, hNBx⟩ : ∃ z, z = [(cutD x).1, (cutD x).2.1].all numB := ⟨_, rfl⟩
  refine mv_ rfl ?_
  refine wl_ov (ov_index (j := j) es112 rfl rfl (by omega)) rfl ?_
  refine wl_ov (ov_elem1 (k := 0) (v := .string x) sc9 rfl (fun _ hm => (show SlT sgEnc 1 9 _ (some ⟨b, off + 2, none⟩) 7 [x0, x1, x2, x3, x4, x5, x6] from SlT.dropS (c := 9) (hm.fact 0 rfl).1 2 (by omega) (by omega))) hx7 rfl rfl) rfl ?_
  refine sg_ rfl (sg_ rfl (nn_ (sr_ (mv_ rfl ?_))))
  refine wl_callv (v := .tuple #[.string ((cutD x).1), .string ((cutD x).2.1), .bool ((cutD x).2.2)]) rfl cb163 rfl rfl (fun wx hm => (by have h := cut_any x dashS wx (hm.fact 1 rfl).1 (by omega); exact h)) ?_
  refine mv_ rfl (wl_ov (ov_extract rfl rfl) rfl (wl_ov (ov_extract rfl rfl) rfl (wl_ov (ov_extract rfl rfl) rfl (sg_ rfl (sg_ rfl (sg_ rfl (nn_ (sr_ (mv_ rfl (mv_ rfl ?_))))))))))
  refine wl_buildSlice (e := 9) (cs := [.string ((cutD x).1), .string ((cutD x).2.1)]) rfl (by kernel_rfl) rfl fun g3 => ?_
  refine wl_callx (γ := Option Addr × Nat × Nat) (val := (fun g => .tuple #[.slice g.1 g.2.1 g.2.2, .bool NBx])) (φ := (fun g => True)) (Y := (fun g => fun wy => IfT NBx (SlT tiEnc 1 3 wy g.1 g.2.1 [wF x, wT x] ∧ g.2.1 = 2))) rfl cb69 rfl rfl (fun wx hm => (by have h := numbers_any [(cutD x).1, (cutD x).2.1] (some ⟨g3, 0, none⟩) 2 2 wx (hm.fact 1 rfl).1 (SlT.ofBlk (l := [(cutD x).1, (cutD x).2.1]) sg_len (hm.blkI 0 rfl)) (by omega) (fun y hy => by simp only [List.mem_cons, List.not_mem_nil, or_false] at hy; rcases hy with rfl | rfl <;> assumption); rw [← hNBx] at h; exact h.mono fun _ _ ⟨A2, k, c2, he, h1, hg⟩ => ⟨(A2, k, c2), he, trivial, hg, h1⟩)) (fun _ => (SlT.lasts2 rfl).ift) ?_
  rintro ⟨nAx, nkx, ncx⟩ hphi
  dsimp only
  clear hphi
  refine mv_ rfl (wl_ov (ov_extract rfl rfl) rfl (wl_ov (ov_extract rfl rfl) rfl (sg_ rfl (sg_ rfl (nn_ (gw_seq (sr_ (mv_ rfl (wl_ov (ov_un_not rfl) rfl (mv_ rfl ?_))))))))))
  rcases Bool.eq_false_or_eq_true (!((cutD x).2.2)) with hax | hax
  ·refine wl_set 39 rfl (congrArg Value.bool hax) ?_
   refine goff rfl rfl rfl (goff rfl rfl rfl (pt_ rfl rfl (mv_ rfl (goff rfl rfl rfl (goff rfl rfl rfl (goff rfl rfl rfl (goff rfl rfl rfl (pt_ rfl rfl (mv_ rfl (goff rfl rfl rfl (goff rfl rfl rfl (goff rfl rfl rfl (goff rfl rfl rfl ?_)))))))))))))
   refine pt_ rfl rfl (nn_ (ct_ rfl (sr_ ?_)))
   refine wl_ov (ov_loads rz168 rfl (fun _ hm => hm.blkI 1 rfl) rfl rfl) rfl ?_
   refine wl_stores (cs' := [.string a1, .int .i64 y0, .int .i64 y1, .int .i64 y2, .int .i64 y3, .int .i64 y4, .int .i64 y5, .int .i64 y6, .int .i64 y7, .int .i64 y8, .int .i64 y9, .int .i64 y10, .int .i64 y11, .int .i64 y12, .int .i64 y13]) 2 rz168 rfl rfl rfl rfl rfl rfl rfl rfl ?_
   refine sg_ rfl (nn_ ?_)
   refine gw_ret ?_
   refine nx_then_ret (nx_blk_ret (nx_then_ret (nx_then_ret (nx_blk_ret (nx_then_ret ?_)))))
   have hF : [x0, x1, x2, x3, x4, x5, x6].all winB = false := all_no hx7 (win_no1 (fnot_t hax))
   refine nx_retct 2 rfl rz168 rfl rfl rfl rfl fun wx hm => ?_
   exact ⟨a1, y0, y1, y2, y3, y4, y5, y6, y7, y8, y9, y10, y11, y12, y13, by rw [hF], fun h => (by rw [hF] at h; cases h), hm.g⟩
  refine wl_set 39 rfl (congrArg Value.bool hax) ?_
  by_cases hbx : NBx = true
  ·subst hbx
   refine wl_look (R := nkx = 2) (fun wx hm => ((hm.fact 0 rfl) rfl).2) ?_
   rintro hnk
   subst hnk
   refine wl_look (R := ∃ b o, nAx = some ⟨b, o, none⟩) (fun wx hm => by obtain ⟨b, off, hA, _, _⟩ := SlT.get ((hm.fact 0 rfl) rfl).1 (by omega); exact ⟨b, off, hA⟩) ?_
   rintro ⟨bnx, onx, rfl⟩
   refine wl_guard_on rfl rfl rfl (mv_ rfl (wl_guard_on rfl rfl rfl (wl_ov (ov_un_not rfl) rfl ?_)))
   refine wl_set 41 (v' := .bool false) rfl (congrArg Value.bool (by decide)) ?_
   refine pf_ rfl rfl (mv_ rfl (wl_guard_on rfl rfl rfl (mv_ rfl (wl_guard_on rfl rfl rfl ?_))))
   refine wl_ov (ov_index (j := 0) es22 rfl rfl (by omega)) rfl ?_
   refine wl_guard_on rfl rfl rfl ?_
   refine wl_ov (ov_elem1 (k := 0) (v := .int .i64 (wF x)) sc3 rfl (fun _ hm => ((hm.fact 0 rfl) rfl).1) (show ([wF x, wT x] : List Int)[0]? = some (wF x) from rfl) rfl rfl) rfl ?_
   refine wl_guard_on rfl rfl rfl (wl_ov (ov_lss rfl rfl) rfl (pf_ rfl rfl (mv_ rfl ?_)))
   rcases Bool.eq_false_or_eq_true (decide (wF x < 0)) with hcx | hcx
   ·refine wl_set 49 rfl (congrArg Value.bool hcx) ?_
    replace hcx := of_decide_eq_true hcx
    refine goff rfl rfl rfl (goff rfl rfl rfl (goff rfl rfl rfl (goff rfl rfl rfl (pt_ rfl rfl (nn_ (ct_ rfl (sr_ ?_)))))))
    refine wl_ov (ov_loads rz168 rfl (fun _ hm => hm.blkI 1 rfl) rfl rfl) rfl ?_
    refine wl_stores (cs' := [.string a1, .int .i64 y0, .int .i64 y1, .int .i64 y2, .int .i64 y3, .int .i64 y4, .int .i64 y5, .int .i64 y6, .int .i64 y7, .int .i64 y8, .int .i64 y9, .int .i64 y10, .int .i64 y11, .int .i64 y12, .int .i64 y13]) 2 rz168 rfl rfl rfl rfl rfl rfl rfl rfl ?_
    refine sg_ rfl (nn_ ?_)
    refine gw_ret ?_
    refine nx_then_ret (nx_blk_ret (nx_then_ret (nx_then_ret (nx_blk_ret (nx_then_ret ?_)))))
    have hF : [x0, x1, x2, x3, x4, x5, x6].all winB = false := all_no hx7 (win_no3 hcx)
    refine nx_retct 2 rfl rz168 rfl rfl rfl rfl fun wx hm => ?_
    exact ⟨a1, y0, y1, y2, y3, y4, y5, y6, y7, y8, y9, y10, y11, y12, y13, by rw [hF], fun h => (by rw [hF] at h; cases h), hm.g⟩
   refine wl_set 49 rfl (congrArg Value.bool hcx) ?_
   replace hcx := of_decide_eq_false hcx
   refine wl_guard_on rfl rfl rfl (mv_ rfl (wl_guard_on rfl rfl rfl ?_))
   refine wl_ov (ov_index (j := 1) es22 rfl rfl (by omega)) rfl ?_
   refine wl_guard_on rfl rfl rfl ?_
   refine wl_ov (ov_elem1 (k := 0) (v := .int .i64 (wT x)) sc3 rfl (fun _ hm => ((hm.fact 0 rfl) rfl).1) (show ([wF x, wT x] : List Int)[1]? = some (wT x) from rfl) rfl rfl) rfl ?_
   refine wl_guard_on rfl rfl rfl (wl_ov (ov_lss rfl rfl) rfl (pf_ rfl rfl (nn_ ?_)))
   rcases Bool.eq_false_or_eq_true (decide (wT x < 0)) with hdx | hdx
   ·refine gw_set 54 rfl (congrArg Value.bool hdx) ?_
    replace hdx := of_decide_eq_true hdx
    refine ct_ rfl (sr_ ?_)
    refine wl_ov (ov_loads rz168 rfl (fun _ hm => hm.blkI 1 rfl) rfl rfl) rfl ?_
    refine wl_stores (cs' := [.string a1, .int .i64 y0, .int .i64 y1, .int .i64 y2, .int .i64 y3, .int .i64 y4, .int .i64 y5, .int .i64 y6, .int .i64 y7, .int .i64 y8, .int .i64 y9, .int .i64 y10, .int .i64 y11, .int .i64 y12, .int .i64 y13]) 2 rz168 rfl rfl rfl rfl rfl rfl rfl rfl ?_
    refine sg_ rfl (nn_ ?_)
    refine gw_ret ?_
    refine nx_then_ret (nx_blk_ret (nx_then_ret (nx_then_ret (nx_blk_ret (nx_then_ret ?_)))))
    have hF : [x0, x1, x2, x3, x4, x5, x6].all winB = false := all_no hx7 (win_no4 hdx)
    refine nx_retct 2 rfl rz168 rfl rfl rfl rfl fun wx hm => ?_
    exact ⟨a1, y0, y1, y2, y3, y4, y5, y6, y7, y8, y9, y10, y11, y12, y13, by rw [hF], fun h => (by rw [hF] at h; cases h), hm.g⟩
   refine gw_set 54 rfl (congrArg Value.bool hdx) ?_
   replace hdx := of_decide_eq_false hdx
   have hWx := win_yes (fnot_f hax) hNBx.symm hcx hdx
   have hall2 := all_take_succ hx7 hall hWx
   obtain hv4 | hv4 | hv4 | hv4 | hv4 | hv4 | hv4 : j = 0 ∨ j = 1 ∨ j = 2 ∨ j = 3 ∨ j = 4 ∨ j = 5 ∨ j = 6 := (by omega)
   ·subst hv4
    have e9 : x0 = x := Option.some.inj hx7
    subst e9
    refine cf_ rfl (gw_skip (nx_then ?_))
    refine gd (fun wz => Blk wz g3 9 [.string ((cutD x0).1), .string ((cutD x0).2.1)] ∧ Blk wz g1 168 [.string ⟨#[]⟩, .int .i64 0, .int .i64 0, .int .i64 0, .int .i64 0, .int .i64 0, .int .i64 0, .int .i64 0, .int .i64 0, .int .i64 0, .int .i64 0, .int .i64 0, .int .i64 0, .int .i64 0, .int .i64 0] ∧ (fun wy => IfT true (SlT tiEnc 1 3 wy (some ⟨bnx, onx, none⟩) 2 [wF x0, wT x0] ∧ 2 = 2)) wz ∧ (SlOld sgEnc 1 9 w.heap.size none (some ⟨b, off, none⟩) 9 [a0, a1, x0, x1, x2, x3, x4, x5, x6]) wz ∧ (TxtO w.heap.size none) wz ∧ True) mixed (fun _ hm => ⟨hm.bl 0, hm.bl 2, hm.fa 0, hm.fa 1, hm.fa 2, trivial⟩) fun z => ?_
    refine wt 0 11 1 rfl z (ov_move rfl) ?_
    refine wa_set 56 (v' := .int .i64 0) rfl rfl ?_
    refine wt 1 11 3 rfl z (ov_move rfl) ?_
    refine wt 2 11 7 rfl z (ov_index (j := 0) es22 rfl rfl (by omega)) ?_
    refine wt 3 11 15 rfl z (ov_elem1 (k := 0) (v := .int .i64 (wF x0)) sc3 rfl (fun _ hm => ((hm.2.2.1) rfl).1) (show ([wF x0, wT x0] : List Int)[0]? = some (wF x0) from rfl) rfl rfl) ?_
    refine wt 4 11 31 rfl z (ov_move rfl) ?_
    refine wt 5 11 63 rfl z (ov_index (j := 1) es22 rfl rfl (by omega)) ?_
    refine wt 6 11 127 rfl z (ov_elem1 (k := 0) (v := .int .i64 (wT x0)) sc3 rfl (fun _ hm => ((hm.2.2.1) rfl).1) (show ([wF x0, wT x0] : List Int)[1]? = some (wT x0) from rfl) rfl rfl) ?_
    refine wt 7 11 255 rfl z (ov_build (cs := [.int .i64 (wF x0), .int .i64 (wT x0)]) rfl (by kernel_rfl)) ?_
    refine wt 8 11 511 rfl z (ov_field fo168_1 rfl rfl) ?_
    refine wt 9 11 1023 rfl z (ov_indexP (j := 0) ar166 rfl rfl (by decide) rfl) ?_
    refine wa1 10 rfl ?_
    refine wl_stores (cs' := [.string a1, .int .i64 (wF x0), .int .i64 (wT x0), .int .i64 y2, .int .i64 y3, .int .i64 y4, .int .i64 y5, .int .i64 y6, .int .i64 y7, .int .i64 y8, .int .i64 y9, .int .i64 y10, .int .i64 y11, .int .i64 y12, .int .i64 y13]) 1 rz42 rfl rfl rfl rfl rfl rfl rfl rfl ?_
    refine wl_nil ?_
    refine nw 11 2047 (fun _ hm => ⟨hm.bl 0, hm.bl 2, hm.fa 0, hm.fa 1, hm.fa 2, trivial⟩) fun z => ?_
    refine wa_done (by kernel_rfl) ?_
    refine nx_blk_nrm (nx_then (gw_region (ad_ rfl rfl ?_)))
    refine wl_set 66 (v' := .int .i64 1) rfl rfl ?_
    refine mv_ rfl (wl_nil ?_)
    exact nx_round (1, (wF x0), (wT x0), y2, y3, y4, y5, y6, y7, y8, y9, y10, y11, y12, y13) ⟨by dsimp only; omega, hall2, by rfl⟩ (by dsimp only; omega) ⟨rfl, rfl, rfl, rfl, rfl, trivial⟩ (fun _ hm => hm.pick [1, 2] [] [1, 2] rfl rfl)
   ·subst hv4
    have e9 : x1 = x := Option.some.inj hx7
    subst e9
    refine cf_ rfl (gw_skip (nx_then ?_))
    refine gd (fun wz => Blk wz g3 9 [.string ((cutD x1).1), .string ((cutD x1).2.1)] ∧ Blk wz g1 168 [.string ⟨#[]⟩, .int .i64 0, .int .i64 0, .int .i64 0, .int .i64 0, .int .i64 0, .int .i64 0, .int .i64 0, .int .i64 0, .int .i64 0, .int .i64 0, .int .i64 0, .int .i64 0, .int .i64 0, .int .i64 0] ∧ (fun wy => IfT true (SlT tiEnc 1 3 wy (some ⟨bnx, onx, none⟩) 2 [wF x1, wT x1] ∧ 2 = 2)) wz ∧ (SlOld sgEnc 1 9 w.heap.size none (some ⟨b, off, none⟩) 9 [a0, a1, x0, x1, x2, x3, x4, x5, x6]) wz ∧ (TxtO w.heap.size none) wz ∧ True) mixed (fun _ hm => ⟨hm.bl 0, hm.bl 2, hm.fa 0, hm.fa 1, hm.fa 2, trivial⟩) fun z => ?_
    refine wt 0 11 1 rfl z (ov_move rfl) ?_
    refine wa_set 56 (v' := .int .i64 1) rfl rfl ?_
    refine wt 1 11 3 rfl z (ov_move rfl) ?_
    refine wt 2 11 7 rfl z (ov_index (j := 0) es22 rfl rfl (by omega)) ?_
    refine wt 3 11 15 rfl z (ov_elem1 (k := 0) (v := .int .i64 (wF x1)) sc3 rfl (fun _ hm => ((hm.2.2.1) rfl).1) (show ([wF x1, wT x1] : List Int)[0]? = some (wF x1) from rfl) rfl rfl) ?_
    refine wt 4 11 31 rfl z (ov_move rfl) ?_
    refine wt 5 11 63 rfl z (ov_index (j := 1) es22 rfl rfl (by omega)) ?_
    refine wt 6 11 127 rfl z (ov_elem1 (k := 0) (v := .int .i64 (wT x1)) sc3 rfl (fun _ hm => ((hm.2.2.1) rfl).1) (show ([wF x1, wT x1] : List Int)[1]? = some (wT x1) from rfl) rfl rfl) ?_
    refine wt 7 11 255 rfl z (ov_build (cs := [.int .i64 (wF x1), .int .i64 (wT x1)]) rfl (by kernel_rfl)) ?_
    refine wt 8 11 511 rfl z (ov_field fo168_1 rfl rfl) ?_
    refine wt 9 11 1023 rfl z (ov_indexP (j := 1) ar166 rfl rfl (by decide) rfl) ?_
    refine wa1 10 rfl ?_
    refine wl_stores (cs' := [.string a1, .int .i64 y0, .int .i64 y1, .int .i64 (wF x1), .int .i64 (wT x1), .int .i64 y4, .int .i64 y5, .int .i64 y6, .int .i64 y7, .int .i64 y8, .int .i64 y9, .int .i64 y10, .int .i64 y11, .int .i64 y12, .int .i64 y13]) 1 rz42 rfl rfl rfl rfl rfl rfl rfl rfl ?_
    refine wl_nil ?_
    refine nw 11 2047 (fun _ hm => ⟨hm.bl 0, hm.bl 2, hm.fa 0, hm.fa 1, hm.fa 2, trivial⟩) fun z => ?_
    refine wa_done (by kernel_rfl) ?_
    refine nx_blk_nrm (nx_then (gw_region (ad_ rfl rfl ?_)))
    refine wl_set 66 (v' := .int .i64 2) rfl rfl ?_
    refine mv_ rfl (wl_nil ?_)
    exact nx_round (2, y0, y1, (wF x1), (wT x1), y4, y5, y6, y7, y8, y9, y10, y11, y12, y13) ⟨by dsimp only; omega, hall2, by simpa using hyv⟩ (by dsimp only; omega) ⟨rfl, rfl, rfl, rfl, rfl, trivial⟩ (fun _ hm => hm.pick [1, 2] [] [1, 2] rfl rfl)
   ·subst hv4
    have e9 : x2 = x := Option.some.inj hx7
    subst e9
    refine cf_ rfl (gw_skip (nx_then ?_))
    refine gd (fun wz => Blk wz g3 9 [.string ((cutD x2).1), .string ((cutD x2).2.1)] ∧ Blk wz g1 168 [.string ⟨#[]⟩, .int .i64 0, .int .i64 0, .int .i64 0, .int .i64 0, .int .i64 0, .int .i64 0, .int .i64 0, .int .i64 0, .int .i64 0, .int .i64 0, .int .i64 0, .int .i64 0, .int .i64 0, .int .i64 0] ∧ (fun wy => IfT true (SlT tiEnc 1 3 wy (some ⟨bnx, onx, none⟩) 2 [wF x2, wT x2] ∧ 2 = 2)) wz ∧ (SlOld sgEnc 1 9 w.heap.size none (some ⟨b, off, none⟩) 9 [a0, a1, x0, x1, x2, x3, x4, x5, x6]) wz ∧ (TxtO w.heap.size none) wz ∧ True) mixed (fun _ hm => ⟨hm.bl 0, hm.bl 2, hm.fa 0, hm.fa 1, hm.fa 2, trivial⟩) fun z => ?_
    refine wt 0 11 1 rfl z (ov_move rfl) ?_
    refine wa_set 56 (v' := .int .i64 2) rfl rfl ?_
    refine wt 1 11 3 rfl z (ov_move rfl) ?_
    refine wt 2 11 7 rfl z (ov_index (j := 0) es22 rfl rfl (by omega)) ?_
    refine wt 3 11 15 rfl z (ov_elem1 (k := 0) (v := .int .i64 (wF x2)) sc3 rfl (fun _ hm => ((hm.2.2.1) rfl).1) (show ([wF x2, wT x2] : List Int)[0]? = some (wF x2) from rfl) rfl rfl) ?_
    refine wt 4 11 31 rfl z (ov_move rfl) ?_
    refine wt 5 11 63 rfl z (ov_index (j := 1) es22 rfl rfl (by omega)) ?_
    refine wt 6 11 127 rfl z (ov_elem1 (k := 0) (v := .int .i64 (wT x2)) sc3 rfl (fun _ hm => ((hm.2.2.1) rfl).1) (show ([wF x2, wT x2] : List Int)[1]? = some (wT x2) from rfl) rfl rfl) ?_
    refine wt 7 11 255 rfl z (ov_build (cs := [.int .i64 (wF x2), .int .i64 (wT x2)]) rfl (by kernel_rfl)) ?_
    refine wt 8 11 511 rfl z (ov_field fo168_1 rfl rfl) ?_
    refine wt 9 11 1023 rfl z (ov_indexP (j := 2) ar166 rfl rfl (by decide) rfl) ?_
    refine wa1 10 rfl ?_
    refine wl_stores (cs' := [.string a1, .int .i64 y0, .int .i64 y1, .int .i64 y2, .int .i64 y3, .int .i64 (wF x2), .int .i64 (wT x2), .int .i64 y6, .int .i64 y7, .int .i64 y8, .int .i64 y9, .int .i64 y10, .int .i64 y11, .int .i64 y12, .int .i64 y13]) 1 rz42 rfl rfl rfl rfl rfl rfl rfl rfl ?_
    refine wl_nil ?_
    refine nw 11 2047 (fun _ hm => ⟨hm.bl 0, hm.bl 2, hm.fa 0, hm.fa 1, hm.fa 2, trivial⟩) fun z => ?_
    refine wa_done (by kernel_rfl) ?_
    refine nx_blk_nrm (nx_then (gw_region (ad_ rfl rfl ?_)))
    refine wl_set 66 (v' := .int .i64 3) rfl rfl ?_
    refine mv_ rfl (wl_nil ?_)
    exact nx_round (3, y0, y1, y2, y3, (wF x2), (wT x2), y6, y7, y8, y9, y10, y11, y12, y13) ⟨by dsimp only; omega, hall2, by simpa using hyv⟩ (by dsimp only; omega) ⟨rfl, rfl, rfl, rfl, rfl, trivial⟩ (fun _ hm => hm.pick [1, 2] [] [1, 2] rfl rfl)
   ·subst hv4
    have e9 : x3 = x := Option.some.inj hx7
    subst e9
    refine cf_ rfl (gw_skip (nx_then ?_))
    refine gd (fun wz => Blk wz g3 9 [.string ((cutD x3).1), .string ((cutD x3).2.1)] ∧ Blk wz g1 168 [.string ⟨#[]⟩, .int .i64 0, .int .i64 0, .int .i64 0, .int .i64 0, .int .i64 0, .int .i64 0, .int .i64 0, .int .i64 0, .int .i64 0, .int .i64 0, .int .i64 0, .int .i64 0, .int .i64 0, .int .i64 0] ∧ (fun wy => IfT true (SlT tiEnc 1 3 wy (some ⟨bnx, onx, none⟩) 2 [wF x3, wT x3] ∧ 2 = 2)) wz ∧ (SlOld sgEnc 1 9 w.heap.size none (some ⟨b, off, none⟩) 9 [a0, a1, x0, x1, x2, x3, x4, x5, x6]) wz ∧ (TxtO w.heap.size none) wz ∧ True) mixed (fun _ hm => ⟨hm.bl 0, hm.bl 2, hm.fa 0, hm.fa 1, hm.fa 2, trivial⟩) fun z => ?_
    refine wt 0 11 1 rfl z (ov_move rfl) ?_
    refine wa_set 56 (v' := .int .i64 3) rfl rfl ?_
    refine wt 1 11 3 rfl z (ov_move rfl) ?_
    refine wt 2 11 7 rfl z (ov_index (j := 0) es22 rfl rfl (by omega)) ?_
    refine wt 3 11 15 rfl z (ov_elem1 (k := 0) (v := .int .i64 (wF x3)) sc3 rfl (fun _ hm => ((hm.2.2.1) rfl).1) (show ([wF x3, wT x3] : List Int)[0]? = some (wF x3) from rfl) rfl rfl) ?_
    refine wt 4 11 31 rfl z (ov_move rfl) ?_
    refine wt 5 11 63 rfl z (ov_index (j := 1) es22 rfl rfl (by omega)) ?_
    refine wt 6 11 127 rfl z (ov_elem1 (k := 0) (v := .int .i64 (wT x3)) sc3 rfl (fun _ hm => ((hm.2.2.1) rfl).1) (show ([wF x3, wT x3] : List Int)[1]? = some (wT x3) from rfl) rfl rfl) ?_
    refine wt 7 11 255 rfl z (ov_build (cs := [.int .i64 (wF x3), .int .i64 (wT x3)]) rfl (by kernel_rfl)) ?_
    refine wt 8 11 511 rfl z (ov_field fo168_1 rfl rfl) ?_
    refine wt 9 11 1023 rfl z (ov_indexP (j := 3) ar166 rfl rfl (by decide) rfl) ?_
    refine wa1 10 rfl ?_
    refine wl_stores (cs' := [.string a1, .int .i64 y0, .int .i64 y1, .int .i64 y2, .int .i64 y3, .int .i64 y4, .int .i64 y5, .int .i64 (wF x3), .int .i64 (wT x3), .int .i64 y8, .int .i64 y9, .int .i64 y10, .int .i64 y11, .int .i64 y12, .int .i64 y13]) 1 rz42 rfl rfl rfl rfl rfl rfl rfl rfl ?_
    refine wl_nil ?_
    refine nw 11 2047 (fun _ hm => ⟨hm.bl 0, hm.bl 2, hm.fa 0, hm.fa 1, hm.fa 2, trivial⟩) fun z => ?_
    refine wa_done (by kernel_rfl) ?_
    refine nx_blk_nrm (nx_then (gw_region (ad_ rfl rfl ?_)))
    refine wl_set 66 (v' := .int .i64 4) rfl rfl ?_
    refine mv_ rfl (wl_nil ?_)
    exact nx_round (4, y0, y1, y2, y3, y4, y5, (wF x3), (wT x3), y8, y9, y10, y11, y12, y13) ⟨by dsimp only; omega, hall2, by simpa using hyv⟩ (by dsimp only; omega) ⟨rfl, rfl, rfl, rfl, rfl, trivial⟩ (fun _ hm => hm.pick [1, 2] [] [1, 2] rfl rfl)
   ·subst hv4
    have e9 : x4 = x := Option.some.inj hx7
    subst e9
    refine cf_ rfl (gw_skip (nx_then ?_))
    refine gd (fun wz => Blk wz g3 9 [.string ((cutD x4).1), .string ((cutD x4).2.1)] ∧ Blk wz g1 168 [.string ⟨#[]⟩, .int .i64 0, .int .i64 0, .int .i64 0, .int .i64 0, .int .i64 0, .int .i64 0, .int .i64 0, .int .i64 0, .int .i64 0, .int .i64 0, .int .i64 0, .int .i64 0, .int .i64 0, .int .i64 0] ∧ (fun wy => IfT true (SlT tiEnc 1 3 wy (some ⟨bnx, onx, none⟩) 2 [wF x4, wT x4] ∧ 2 = 2)) wz ∧ (SlOld sgEnc 1 9 w.heap.size none (some ⟨b, off, none⟩) 9 [a0, a1, x0, x1, x2, x3, x4, x5, x6]) wz ∧ (TxtO w.heap.size none) wz ∧ True) mixed (fun _ hm => ⟨hm.bl 0, hm.bl 2, hm.fa 0, hm.fa 1, hm.fa 2, trivial⟩) fun z => ?_
    refine wt 0 11 1 rfl z (ov_move rfl) ?_
    refine wa_set 56 (v' := .int .i64 4) rfl rfl ?_
    refine wt 1 11 3 rfl z (ov_move rfl) ?_
    refine wt 2 11 7 rfl z (ov_index (j := 0) es22 rfl rfl (by omega)) ?_
    refine wt 3 11 15 rfl z (ov_elem1 (k := 0) (v := .int .i64 (wF x4)) sc3 rfl (fun _ hm => ((hm.2.2.1) rfl).1) (show ([wF x4, wT x4] : List Int)[0]? = some (wF x4) from rfl) rfl rfl) ?_
    refine wt 4 11 31 rfl z (ov_move rfl) ?_
    refine wt 5 11 63 rfl z (ov_index (j := 1) es22 rfl rfl (by omega)) ?_
    refine wt 6 11 127 rfl z (ov_elem1 (k := 0) (v := .int .i64 (wT x4)) sc3 rfl (fun _ hm => ((hm.2.2.1) rfl).1) (show ([wF x4, wT x4] : List Int)[1]? = some (wT x4) from rfl) rfl rfl) ?_
    refine wt 7 11 255 rfl z (ov_build (cs := [.int .i64 (wF x4), .int .i64 (wT x4)]) rfl (by kernel_rfl)) ?_
    refine wt 8 11 511 rfl z (ov_field fo168_1 rfl rfl) ?_
    refine wt 9 11 1023 rfl z (ov_indexP (j := 4) ar166 rfl rfl (by decide) rfl) ?_
    refine wa1 10 rfl ?_
    refine wl_stores (cs' := [.string a1, .int .i64 y0, .int .i64 y1, .int .i64 y2, .int .i64 y3, .int .i64 y4, .int .i64 y5, .int .i64 y6, .int .i64 y7, .int .i64 (wF x4), .int .i64 (wT x4), .int .i64 y10, .int .i64 y11, .int .i64 y12, .int .i64 y13]) 1 rz42 rfl rfl rfl rfl rfl rfl rfl rfl ?_
    refine wl_nil ?_
    refine nw 11 2047 (fun _ hm => ⟨hm.bl 0, hm.bl 2, hm.fa 0, hm.fa 1, hm.fa 2, trivial⟩) fun z => ?_
    refine wa_done (by kernel_rfl) ?_
    refine nx_blk_nrm (nx_then (gw_region (ad_ rfl rfl ?_)))
    refine wl_set 66 (v' := .int .i64 5) rfl rfl ?_
    refine mv_ rfl (wl_nil ?_)
    exact nx_round (5, y0, y1, y2, y3, y4, y5, y6, y7, (wF x4), (wT x4), y10, y11, y12, y13) ⟨by dsimp only; omega, hall2, by simpa using hyv⟩ (by dsimp only; omega) ⟨rfl, rfl, rfl, rfl, rfl, trivial⟩ (fun _ hm => hm.pick [1, 2] [] [1, 2] rfl rfl)
   ·subst hv4
    have e9 : x5 = x := Option.some.inj hx7
    subst e9
    refine cf_ rfl (gw_skip (nx_then ?_))
    refine gd (fun wz => Blk wz g3 9 [.string ((cutD x5).1), .string ((cutD x5).2.1)] ∧ Blk wz g1 168 [.string ⟨#[]⟩, .int .i64 0, .int .i64 0, .int .i64 0, .int .i64 0, .int .i64 0, .int .i64 0, .int .i64 0, .int .i64 0, .int .i64 0, .int .i64 0, .int .i64 0, .int .i64 0, .int .i64 0, .int .i64 0] ∧ (fun wy => IfT true (SlT tiEnc 1 3 wy (some ⟨bnx, onx, none⟩) 2 [wF x5, wT x5] ∧ 2 = 2)) wz ∧ (SlOld sgEnc 1 9 w.heap.size none (some ⟨b, off, none⟩) 9 [a0, a1, x0, x1, x2, x3, x4, x5, x6]) wz ∧ (TxtO w.heap.size none) wz ∧ True) mixed (fun _ hm => ⟨hm.bl 0, hm.bl 2, hm.fa 0, hm.fa 1, hm.fa 2, trivial⟩) fun z => ?_
    refine wt 0 11 1 rfl z (ov_move rfl) ?_
    refine wa_set 56 (v' := .int .i64 5) rfl rfl ?_
    refine wt 1 11 3 rfl z (ov_move rfl) ?_
    refine wt 2 11 7 rfl z (ov_index (j := 0) es22 rfl rfl (by omega)) ?_
    refine wt 3 11 15 rfl z (ov_elem1 (k := 0) (v := .int .i64 (wF x5)) sc3 rfl (fun _ hm => ((hm.2.2.1) rfl).1) (show ([wF x5, wT x5] : List Int)[0]? = some (wF x5) from rfl) rfl rfl) ?_
    refine wt 4 11 31 rfl z (ov_move rfl) ?_
    refine wt 5 11 63 rfl z (ov_index (j := 1) es22 rfl rfl (by omega)) ?_
    refine wt 6 11 127 rfl z (ov_elem1 (k := 0) (v := .int .i64 (wT x5)) sc3 rfl (fun _ hm => ((hm.2.2.1) rfl).1) (show ([wF x5, wT x5] : List Int)[1]? = some (wT x5) from rfl) rfl rfl) ?_
    refine wt 7 11 255 rfl z (ov_build (cs := [.int .i64 (wF x5), .int .i64 (wT x5)]) rfl (by kernel_rfl)) ?_
    refine wt 8 11 511 rfl z (ov_field fo168_1 rfl rfl) ?_
    refine wt 9 11 1023 rfl z (ov_indexP (j := 5) ar166 rfl rfl (by decide) rfl) ?_
    refine wa1 10 rfl ?_
    refine wl_stores (cs' := [.string a1, .int .i64 y0, .int .i64 y1, .int .i64 y2, .int .i64 y3, .int .i64 y4, .int .i64 y5, .int .i64 y6, .int .i64 y7, .int .i64 y8, .int .i64 y9, .int .i64 (wF x5), .int .i64 (wT x5), .int .i64 y12, .int .i64 y13]) 1 rz42 rfl rfl rfl rfl rfl rfl rfl rfl ?_
    refine wl_nil ?_
    refine nw 11 2047 (fun _ hm => ⟨hm.bl 0, hm.bl 2, hm.fa 0, hm.fa 1, hm.fa 2, trivial⟩) fun z => ?_
    refine wa_done (by kernel_rfl) ?_
    refine nx_blk_nrm (nx_then (gw_region (ad_ rfl rfl ?_)))
    refine wl_set 66 (v' := .int .i64 6) rfl rfl ?_
    refine mv_ rfl (wl_nil ?_)
    exact nx_round (6, y0, y1, y2, y3, y4, y5, y6, y7, y8, y9, (wF x5), (wT x5), y12, y13) ⟨by dsimp only; omega, hall2, by simpa using hyv⟩ (by dsimp only; omega) ⟨rfl, rfl, rfl, rfl, rfl, trivial⟩ (fun _ hm => hm.pick [1, 2] [] [1, 2] rfl rfl)
   subst hv4
   have e9 : x6 = x := Option.some.inj hx7
   subst e9
   refine cf_ rfl (gw_skip (nx_then ?_))
   refine gd (fun wz => Blk wz g3 9 [.string ((cutD x6).1), .string ((cutD x6).2.1)] ∧ Blk wz g1 168 [.string ⟨#[]⟩, .int .i64 0, .int .i64 0, .int .i64 0, .int .i64 0, .int .i64 0, .int .i64 0, .int .i64 0, .int .i64 0, .int .i64 0, .int .i64 0, .int .i64 0, .int .i64 0, .int .i64 0, .int .i64 0] ∧ (fun wy => IfT true (SlT tiEnc 1 3 wy (some ⟨bnx, onx, none⟩) 2 [wF x6, wT x6] ∧ 2 = 2)) wz ∧ (SlOld sgEnc 1 9 w.heap.size none (some ⟨b, off, none⟩) 9 [a0, a1, x0, x1, x2, x3, x4, x5, x6]) wz ∧ (TxtO w.heap.size none) wz ∧ True) mixed (fun _ hm => ⟨hm.bl 0, hm.bl 2, hm.fa 0, hm.fa 1, hm.fa 2, trivial⟩) fun z => ?_
   refine wt 0 11 1 rfl z (ov_move rfl) ?_
   refine wa_set 56 (v' := .int .i64 6) rfl rfl ?_
   refine wt 1 11 3 rfl z (ov_move rfl) ?_
   refine wt 2 11 7 rfl z (ov_index (j := 0) es22 rfl rfl (by omega)) ?_
   refine wt 3 11 15 rfl z (ov_elem1 (k := 0) (v := .int .i64 (wF x6)) sc3 rfl (fun _ hm => ((hm.2.2.1) rfl).1) (show ([wF x6, wT x6] : List Int)[0]? = some (wF x6) from rfl) rfl rfl) ?_
   refine wt 4 11 31 rfl z (ov_move rfl) ?_
   refine wt 5 11 63 rfl z (ov_index (j := 1) es22 rfl rfl (by omega)) ?_
   refine wt 6 11 127 rfl z (ov_elem1 (k := 0) (v := .int .i64 (wT x6)) sc3 rfl (fun _ hm => ((hm.2.2.1) rfl).1) (show ([wF x6, wT x6] : List Int)[1]? = some (wT x6) from rfl) rfl rfl) ?_
   refine wt 7 11 255 rfl z (ov_build (cs := [.int .i64 (wF x6), .int .i64 (wT x6)]) rfl (by kernel_rfl)) ?_
   refine wt 8 11 511 rfl z (ov_field fo168_1 rfl rfl) ?_
   refine wt 9 11 1023 rfl z (ov_indexP (j := 6) ar166 rfl rfl (by decide) rfl) ?_
   refine wa1 10 rfl ?_
   refine wl_stores (cs' := [.string a1, .int .i64 y0, .int .i64 y1, .int .i64 y2, .int .i64 y3, .int .i64 y4, .int .i64 y5, .int .i64 y6, .int .i64 y7, .int .i64 y8, .int .i64 y9, .int .i64 y10, .int .i64 y11, .int .i64 (wF x6), .int .i64 (wT x6)]) 1 rz42 rfl rfl rfl rfl rfl rfl rfl rfl ?_
   refine wl_nil ?_
   refine nw 11 2047 (fun _ hm => ⟨hm.bl 0, hm.bl 2, hm.fa 0, hm.fa 1, hm.fa 2, trivial⟩) fun z => ?_
   refine wa_done (by kernel_rfl) ?_
   refine nx_blk_nrm (nx_then (gw_region (ad_ rfl rfl ?_)))
   refine wl_set 66 (v' := .int .i64 7) rfl rfl ?_
   refine mv_ rfl (wl_nil ?_)
   exact nx_round (7, y0, y1, y2, y3, y4, y5, y6, y7, y8, y9, y10, y11, (wF x6), (wT x6)) ⟨by dsimp only; omega, hall2, by simpa using hyv⟩ (by dsimp only; omega) ⟨rfl, rfl, rfl, rfl, rfl, trivial⟩ (fun _ hm => hm.pick [1, 2] [] [1, 2] rfl rfl)
  have hb2x : NBx = false := by simpa using hbx
  refine wl_guard_on rfl rfl rfl (mv_ rfl (wl_guard_on rfl rfl rfl (wl_ov (ov_un_not rfl) rfl (pf_ rfl rfl (mv_ rfl ?_)))))
  refine wl_set 43 (v' := .bool true) rfl (congrArg Value.bool (by rw [hb2x]; rfl)) ?_
  refine goff rfl rfl rfl (goff rfl rfl rfl (goff rfl rfl rfl (goff rfl rfl rfl (pt_ rfl rfl (mv_ rfl (goff rfl rfl rfl (goff rfl rfl rfl (goff rfl rfl rfl (goff rfl rfl rfl (pt_ rfl rfl (nn_ (ct_ rfl ?_))))))))))))
  refine sr_ ?_
  refine wl_ov (ov_loads rz168 rfl (fun _ hm => hm.blkI 1 rfl) rfl rfl) rfl ?_
  refine wl_stores (cs' := [.string a1, .int .i64 y0, .int .i64 y1, .int .i64 y2, .int .i64 y3, .int .i64 y4, .int .i64 y5, .int .i64 y6, .int .i64 y7, .int .i64 y8, .int .i64 y9, .int .i64 y10, .int .i64 y11, .int .i64 y12, .int .i64 y13]) 2 rz168 rfl rfl rfl rfl rfl rfl rfl rfl ?_
  refine sg_ rfl (nn_ ?_)
  refine gw_ret ?_
  refine nx_then_ret (nx_blk_ret (nx_then_ret (nx_then_ret (nx_blk_ret (nx_then_ret ?_)))))
  have hF : [x0, x1, x2, x3, x4, x5, x6].all winB = false := all_no hx7 (win_no2 (hNBx.symm.trans hb2x))
  refine nx_retct 2 rfl rz168 rfl rfl rfl rfl fun wx hm => ?_
  exact ⟨a1, y0, y1, y2, y3, y4, y5, y6, y7, y8, y9, y10, y11, y12, y13, by rw [hF], fun h => (by rw [hF] at h; cases h), hm.g⟩
 have hj : ¬ (((j : Nat) : Int) < 7) := by simpa using hh
 clear hh
 refine gw_exit ?_
 refine nx_then_exit (nx_then_exit ?_)
 refine nx_blk_here ?_
 refine nx_then (sr_ ?_)
 obtain rfl : j = 7 := by omega
 have hA : [x0, x1, x2, x3, x4, x5, x6].all winB = true := hall
 replace hyv : ([y0, y1, y2, y3, y4, y5, y6, y7, y8, y9, y10, y11, y12, y13] : List Int) = [wF x0, wT x0, wF x1, wT x1, wF x2, wT x2, wF x3, wT x3, wF x4, wT x4, wF x5, wT x5, wF x6, wT x6] := hyv
 simp only [List.cons.injEq] at hyv
 obtain ⟨rfl, rfl, rfl, rfl, rfl, rfl, rfl, rfl, rfl, rfl, rfl, rfl, rfl, rfl, -⟩ := hyv
 refine wl_ov (ov_loads rz168 rfl (fun _ hm => hm.blkI 0 rfl) rfl rfl) rfl ?_
 refine wl_stores (cs' := [.string a1, .int .i64 (wF x0), .int .i64 (wT x0), .int .i64 (wF x1), .int .i64 (wT x1), .int .i64 (wF x2), .int .i64 (wT x2), .int .i64 (wF x3), .int .i64 (wT x3), .int .i64 (wF x4), .int .i64 (wT x4), .int .i64 (wF x5), .int .i64 (wT x5), .int .i64 (wF x6), .int .i64 (wT x6)]) 1 rz168 rfl rfl rfl rfl rfl rfl rfl rfl ?_
 refine sg_ rfl (nn_ ?_)
 refine gw_ret ?_
 refine nx_retct 1 rfl rz168 rfl rfl rfl rfl fun wx hm => ?_
 exact ⟨a1, (wF x0), (wT x0), (wF x1), (wT x1), (wF x2), (wT x2), (wF x3), (wT x3), (wF x4), (wT x4), (wF x5), (wT x5), (wF x6), (wT x6), by rw [hA], fun _ => rfl, hm.g⟩
/-- The blocks and the rows that hold a state (the program's). -/
def fpL (gf gl gr : Nat) (la : Int) (v1 v2 v3 v4 : Value) : List (Nat × TypeId × List Value) := [(gf, 66, [v1, v2, v3, v4]), (gl, 3, [.int .i64 la]), (gr, 66, [.slice none 0 0, .slice none 0 0, .slice none 0 0, .slice none 0 0])]
def fpO (q : List St × List Cs × List Vh × List Pl) (v1 v2 v3 v4 : Value) : List Own := [⟨v1, 168, 15, q.1.length, q.1.flatMap stEnc⟩, ⟨v2, 170, 2, q.2.1.length, q.2.1.flatMap csEnc⟩, ⟨v3, 158, 2, q.2.2.1.length, q.2.2.1.flatMap vhEnc⟩, ⟨v4, 161, 3, q.2.2.2.length, q.2.2.2.flatMap plEnc⟩]
theorem take_w (t : ByteArray) (w0 w : World) (gf gl gr : Nat) (la : Int) (v1 v2 v3 v4 : Value) (sl : List St) (cl : List Cs) (vl : List Vh) (pl : List Pl) (hts : t.size ≤ 1000000) (bsl : sl.length ≤ 1000000) (bcl : cl.length ≤ 1000000) (bvl : vl.length ≤ 1000000) (bpl : pl.length ≤ 1000000) (hm : Mem ⟨0, w0, none, [9]⟩ (fun _ => True) (fpL gf gl gr la v1 v2 v3 v4) (fpO (sl, cl, vl, pl) v1 v2 v3 v4) [TxtO w0.heap.size none] w) :
  Calls Tryz.prog 130 #[.pointer (some ⟨gf, 0, none⟩), .string t] w (fun e w' => ∃ (u1 u2 u3 u4 : Value) (q : List St × List Cs × List Vh × List Pl), e = .returned (.int .i64 (itK (fIt t))) ∧ (∀ x, fIt t = some x → q = f4 (fPush ⟨sl, cl, vl, pl, 0⟩ x)) ∧ Mem ⟨0, w0, none, [9]⟩ (fun _ => True) (fpL gf gl gr la u1 u2 u3 u4) (fpO q u1 u2 u3 u4) [TxtO w0.heap.size none] w') := by
 replace hm : Mem ⟨0, w0, none, [9]⟩ (fun _ => True) [(gf, 66, [v1, v2, v3, v4]), (gl, 3, [.int .i64 la]), (gr, 66, [.slice none 0 0, .slice none 0 0, .slice none 0 0, .slice none 0 0])] [⟨v1, 168, 15, sl.length, sl.flatMap stEnc⟩, ⟨v2, 170, 2, cl.length, cl.flatMap csEnc⟩, ⟨v3, 158, 2, vl.length, vl.flatMap vhEnc⟩, ⟨v4, 161, 3, pl.length, pl.flatMap plEnc⟩] [TxtO w0.heap.size none] w := hm
 refine gw_enter ⟨140, w0, none, [9]⟩ Tryz.func130 rfl Tryz.ntmps130 rfl hm.cx ?_
 refine sr_ ?_
 have hpos := wd_pos t
 have hwz : ∀ y ∈ wdL t, y.size ≤ 1000000 := fun y hy => Nat.le_trans (wdL_sz t y hy) hts
 obtain ⟨a0, hx0⟩ : ∃ x, (wdL t)[0]? = some x := ⟨_, List.getElem?_eq_getElem (by omega)⟩
 rcases a0_cases a0 with h | h | h | h | ⟨n1, n2, n3, n4⟩
 ·subst h
  by_cases hN : (wdL t).length = 9
  ·obtain ⟨a0, a1, x0, x1, x2, x3, x4, x5, x6, hw⟩ := list9f hN
   have hb0 : a0 = stW := by rw [hw] at hx0; simpa using hx0
   subst hb0
   rw [hw] at hwz
   have za1 : a1.size ≤ 1000000 := hwz a1 (by simp)
   have zx0 : x0.size ≤ 1000000 := hwz x0 (by simp)
   have zx1 : x1.size ≤ 1000000 := hwz x1 (by simp)
   have zx2 : x2.size ≤ 1000000 := hwz x2 (by simp)
   have zx3 : x3.size ≤ 1000000 := hwz x3 (by simp)
   have zx4 : x4.size ≤ 1000000 := hwz x4 (by simp)
   have zx5 : x5.size ≤ 1000000 := hwz x5 (by simp)
   have zx6 : x6.size ≤ 1000000 := hwz x6 (by simp)
   refine sg_ rfl (nn_ (sr_ (mv_ rfl ?_)))
   refine wl_callx (γ := Nat × Nat) (val := (fun g => .tuple #[.slice (some ⟨g.1, 0, none⟩) g.2 g.2, .bool (wdB t)])) (φ := (fun g => g.2 = 9)) (Y := (fun g => fun wy => SlT sgEnc 1 9 wy (some ⟨g.1, 0, none⟩) g.2 ([stW, a1, x0, x1, x2, x3, x4, x5, x6]))) rfl cb68 rfl rfl (fun wx hm => (words_any t wx (hm.fact 0 rfl).1 hts).mono fun _ _ ⟨gw, k, he, h1, h2, hg⟩ => ⟨(gw, k), he, by have h := h1.len; rw [hw] at h; exact h.symm, hg, by rw [hw] at h1; exact h1⟩) (fun _ => SlT.lasts2 rfl) ?_
   rintro ⟨gw, kw⟩ hkw
   dsimp only at hkw ⊢
   subst hkw
   refine mv_ rfl (wl_ov (ov_extract rfl rfl) rfl (wl_ov (ov_extract rfl rfl) rfl (sg_ rfl (sg_ rfl (nn_ (gw_seq (gw_block (sr_ (mv_ rfl (wl_ov (ov_un_not rfl) rfl (sg_ rfl ?_)))))))))))
   refine nn_ ?_
   rcases Bool.eq_false_or_eq_true (!(wdB t)) with h1 | h1
   ·refine gw_set 17 rfl (congrArg Value.bool h1) ?_
    refine ct_ rfl (sr_ (sg_ rfl (nn_ ?_)))
    refine gw_ret ?_
    refine nx_blk_ret (nx_then_ret ?_)
    refine nx_ret1 rfl rfl fun wx hm => ?_
    exact ⟨v1, v2, v3, v4, (sl, cl, vl, pl), by rw [fIt_wd h1]; rfl, (fun x hx => by rw [fIt_wd h1] at hx; cases hx), (hm.pick [0, 1, 2] [0, 1, 2, 3] [1] rfl rfl).cx⟩
   refine gw_set 17 rfl (congrArg Value.bool h1) ?_
   have hI := fIt_go h1
   rw [hw] at hI
   refine cf_ rfl (sr_ (mv_ rfl ?_))
   refine wl_ov (ov_index (j := 0) es112 rfl rfl (by omega)) rfl ?_
   refine wl_ov (ov_elem1 (k := 0) (v := .string ⟨#[115, 116, 97, 116, 105, 111, 110]⟩) sc9 rfl (fun _ hm => (hm.fact 0 rfl)) (show ([stW, a1, x0, x1, x2, x3, x4, x5, x6] : List ByteArray)[0]? = some stW from rfl) rfl rfl) rfl ?_
   refine wl_ov (ov_seql rfl rfl) rfl ?_
   refine wl_set 24 (v' := .bool true) rfl (congrArg Value.bool (by decide +kernel)) ?_
   refine mv_ rfl (wl_guard_on rfl rfl rfl (mv_ rfl (wl_guard_on rfl rfl rfl (wl_ov (ov_len es112 rfl) rfl ?_))))
   refine wl_set 27 (v' := .int .i64 9) rfl rfl ?_
   refine wl_guard_on rfl rfl rfl (wl_ov (ov_eql rfl rfl) rfl ?_)
   refine wl_set 28 (v' := .bool true) rfl (congrArg Value.bool (by decide)) ?_
   refine pt_ rfl rfl (sg_ rfl (nn_ (ct_ rfl (sr_ (mv_ rfl ?_)))))
   obtain ⟨AW, hAW⟩ : ∃ z, z = [x0, x1, x2, x3, x4, x5, x6].all winB := ⟨_, rfl⟩
   refine wl_callx (γ := ByteArray × Int × Int × Int × Int × Int × Int × Int × Int × Int × Int × Int × Int × Int × Int) (val := (fun g => .tuple #[.agg #[.string g.1, .int .i64 g.2.1, .int .i64 g.2.2.1, .int .i64 g.2.2.2.1, .int .i64 g.2.2.2.2.1, .int .i64 g.2.2.2.2.2.1, .int .i64 g.2.2.2.2.2.2.1, .int .i64 g.2.2.2.2.2.2.2.1, .int .i64 g.2.2.2.2.2.2.2.2.1, .int .i64 g.2.2.2.2.2.2.2.2.2.1, .int .i64 g.2.2.2.2.2.2.2.2.2.2.1, .int .i64 g.2.2.2.2.2.2.2.2.2.2.2.1, .int .i64 g.2.2.2.2.2.2.2.2.2.2.2.2.1, .int .i64 g.2.2.2.2.2.2.2.2.2.2.2.2.2.1, .int .i64 g.2.2.2.2.2.2.2.2.2.2.2.2.2.2], .bool AW])) (φ := (fun g => AW = true → (⟨g.1, [g.2.1, g.2.2.1, g.2.2.2.1, g.2.2.2.2.1, g.2.2.2.2.2.1, g.2.2.2.2.2.2.1, g.2.2.2.2.2.2.2.1, g.2.2.2.2.2.2.2.2.1, g.2.2.2.2.2.2.2.2.2.1, g.2.2.2.2.2.2.2.2.2.2.1, g.2.2.2.2.2.2.2.2.2.2.2.1, g.2.2.2.2.2.2.2.2.2.2.2.2.1, g.2.2.2.2.2.2.2.2.2.2.2.2.2.1, g.2.2.2.2.2.2.2.2.2.2.2.2.2.2]⟩ : St) = stOf a1 x0 x1 x2 x3 x4 x5 x6)) (Y := (fun g => fun _ => True)) rfl cb212 rfl rfl (fun wx hm => (by have h := station_w stW a1 x0 x1 x2 x3 x4 x5 x6 (some ⟨gw, 0, none⟩) wx (hm.fact 1 rfl).1 (hm.fact 0 rfl) zx0 zx1 zx2 zx3 zx4 zx5 zx6; rw [← hAW] at h; exact h.mono fun _ _ ⟨k, m0, m1, m2, m3, m4, m5, m6, m7, m8, m9, m10, m11, m12, m13, he, h1, hg⟩ => ⟨(k, m0, m1, m2, m3, m4, m5, m6, m7, m8, m9, m10, m11, m12, m13), he, h1, hg, trivial⟩)) (fun _ => Lasts2.true_) ?_
   rintro ⟨k, m0, m1, m2, m3, m4, m5, m6, m7, m8, m9, m10, m11, m12, m13⟩ hst
   dsimp only at hst ⊢
   by_cases hA : AW = true
   ·subst hA
    rw [item_st hAW.symm, ← hst rfl] at hI
    refine wl_look (R := ∃ A cc, v1 = .slice A sl.length cc) (fun wx hm => own_slice (hm.ownI 0 rfl)) ?_
    rintro ⟨A_, c_, rfl⟩
    refine mv_ rfl (wl_ov (ov_extract rfl rfl) rfl (wl_ov (ov_extract rfl rfl) rfl ?_))
    refine wl_alloc zc168 rfl fun g3 => ?_
    refine wl_stores (cs' := [.string k, .int .i64 m0, .int .i64 m1, .int .i64 m2, .int .i64 m3, .int .i64 m4, .int .i64 m5, .int .i64 m6, .int .i64 m7, .int .i64 m8, .int .i64 m9, .int .i64 m10, .int .i64 m11, .int .i64 m12, .int .i64 m13]) 0 rz168 rfl rfl rfl rfl rfl rfl rfl rfl ?_
    refine sg_ rfl (nn_ (gw_seq (sr_ (mv_ rfl (wl_ov (ov_un_not rfl) rfl ?_)))))
    refine wl_set 36 (v' := .bool false) rfl (congrArg Value.bool (by decide)) ?_
    refine nn_ (cf_ rfl (gw_skip (nx_then (gw_seq ?_))))
    refine gd (fun wz => Blk wz g3 168 [.string k, .int .i64 m0, .int .i64 m1, .int .i64 m2, .int .i64 m3, .int .i64 m4, .int .i64 m5, .int .i64 m6, .int .i64 m7, .int .i64 m8, .int .i64 m9, .int .i64 m10, .int .i64 m11, .int .i64 m12, .int .i64 m13] ∧ Blk wz gl 3 [.int .i64 la] ∧ Blk wz gr 66 [.slice none 0 0, .slice none 0 0, .slice none 0 0, .slice none 0 0] ∧ (fun _ => True) wz ∧ (fun wy => SlT sgEnc 1 9 wy (some ⟨gw, 0, none⟩) 9 ([stW, a1, x0, x1, x2, x3, x4, x5, x6])) wz ∧ (TxtO w0.heap.size none) wz ∧ True) mixed (fun _ hm => ⟨hm.bl 0, hm.bl 2, hm.bl 3, hm.fa 0, hm.fa 1, hm.fa 2, trivial⟩) fun z => ?_
    refine wt 0 11 1 rfl z (ov_move rfl) ?_
    refine wt 1 11 3 rfl z (ov_move rfl) ?_
    refine wt 2 11 7 rfl z (ov_nilcheck rfl) ?_
    refine wt 3 11 15 rfl z (ov_field fo66_0 rfl rfl) ?_
    refine wt 5 11 47 rfl z (ov_loads rz168 rfl (fun _ hm => hm.1) rfl rfl) ?_
    refine wa_all [4, 6] (by kernel_rfl) rfl ⟨⟨_, rfl, ?_⟩, ⟨_, rfl, ?_⟩, trivial⟩
    ·refine lk_ sc61 1 rfl rfl rfl (wl_nil ?_)
     refine nw 11 63 (fun _ hm => ⟨hm.bl 0, hm.bl 2, hm.bl 3, hm.fa 0, hm.fa 1, hm.fa 2, trivial⟩) fun z => ?_
     refine wa1 6 rfl ?_
     refine wl_buildSlice (e := 168) (cs := [.string k, .int .i64 m0, .int .i64 m1, .int .i64 m2, .int .i64 m3, .int .i64 m4, .int .i64 m5, .int .i64 m6, .int .i64 m7, .int .i64 m8, .int .i64 m9, .int .i64 m10, .int .i64 m11, .int .i64 m12, .int .i64 m13]) rfl (by kernel_rfl) rfl fun g4 => ?_
     refine wl_nil ?_
     refine nw 11 127 (fun _ hm => ⟨hm.bl 1, hm.bl 3, hm.bl 4, hm.fa 0, hm.fa 1, hm.fa 2, trivial⟩) fun z => ?_
     refine wa1 7 rfl ?_
     refine wl_append (news := [.string k, .int .i64 m0, .int .i64 m1, .int .i64 m2, .int .i64 m3, .int .i64 m4, .int .i64 m5, .int .i64 m6, .int .i64 m7, .int .i64 m8, .int .i64 m9, .int .i64 m10, .int .i64 m11, .int .i64 m12, .int .i64 m13]) 0 0 ap61 rfl rfl rfl rfl rfl rfl rfl (by omega) (by unfold maxLen; omega) rfl rfl fun v9 hv => ?_
     refine wl_look (R := ∃ A cc, v9 = .slice A (sl.length + 1) cc) (fun wx hm => own_slice (hm.ownI 0 rfl)) ?_
     rintro ⟨A5, c5, rfl⟩
     refine wl_nil ?_
     refine nw 11 255 (fun _ hm => ⟨hm.bl 1, hm.bl 3, hm.bl 4, hm.fa 0, hm.fa 1, hm.fa 2, trivial⟩) fun z => ?_
     refine wt 8 11 511 rfl z (ov_nilcheck rfl) ?_
     refine wt 9 11 1023 rfl z (ov_field fo66_0 rfl rfl) ?_
     refine wa1 10 rfl ?_
     refine wl_store 2 sc61 rfl rfl rfl rfl rfl rfl ?_
     refine wl_nil ?_
     refine nw 11 2047 (fun _ hm => ⟨hm.bl 1, hm.bl 3, hm.bl 4, hm.fa 0, hm.fa 1, hm.fa 2, trivial⟩) fun z => ?_
     refine wa_done (by kernel_rfl) ?_
     refine nx_then (sr_ (sg_ rfl (nn_ ?_)))
     refine gw_ret ?_
     refine nx_blk_ret (nx_then_ret ?_)
     rw [show sl.flatMap stEnc ++ ([.string k, .int .i64 m0, .int .i64 m1, .int .i64 m2, .int .i64 m3, .int .i64 m4, .int .i64 m5, .int .i64 m6, .int .i64 m7, .int .i64 m8, .int .i64 m9, .int .i64 m10, .int .i64 m11, .int .i64 m12, .int .i64 m13] : List Value) = (sl ++ [((⟨k, [m0, m1, m2, m3, m4, m5, m6, m7, m8, m9, m10, m11, m12, m13]⟩ : St))]).flatMap stEnc from by simp [stEnc, stCells]]
     refine nx_ret1 rfl rfl fun wx hm => ?_
     refine ⟨.slice A5 (sl.length + 1) c5, v2, v3, v4, (sl ++ [(⟨k, [m0, m1, m2, m3, m4, m5, m6, m7, m8, m9, m10, m11, m12, m13]⟩ : St)], cl, vl, pl), by rw [hI]; rfl, (fun x hx => by rw [hI] at hx; cases hx; rfl), ?_⟩
     have e9 : (sl ++ [(⟨k, [m0, m1, m2, m3, m4, m5, m6, m7, m8, m9, m10, m11, m12, m13]⟩ : St)]).length = sl.length + 1 := by simp
     show Mem ⟨0, w0, none, [9]⟩ (fun _ => True) (fpL gf gl gr la (.slice A5 (sl.length + 1) c5) v2 v3 v4) [⟨.slice A5 (sl.length + 1) c5, 168, 15, (sl ++ [(⟨k, [m0, m1, m2, m3, m4, m5, m6, m7, m8, m9, m10, m11, m12, m13]⟩ : St)]).length, (sl ++ [(⟨k, [m0, m1, m2, m3, m4, m5, m6, m7, m8, m9, m10, m11, m12, m13]⟩ : St)]).flatMap stEnc⟩, ⟨v2, 170, 2, (cl).length, (cl).flatMap csEnc⟩, ⟨v3, 158, 2, (vl).length, (vl).flatMap vhEnc⟩, ⟨v4, 161, 3, (pl).length, (pl).flatMap plEnc⟩] [TxtO w0.heap.size none] _
     rw [e9]
     exact (hm.pick [2, 3, 4] [0, 1, 2, 3] [2] rfl rfl).cx
    refine wl_buildSlice (e := 168) (cs := [.string k, .int .i64 m0, .int .i64 m1, .int .i64 m2, .int .i64 m3, .int .i64 m4, .int .i64 m5, .int .i64 m6, .int .i64 m7, .int .i64 m8, .int .i64 m9, .int .i64 m10, .int .i64 m11, .int .i64 m12, .int .i64 m13]) rfl (by kernel_rfl) rfl fun g5 => ?_
    refine wl_nil ?_
    refine nw 11 111 (fun _ hm => ⟨hm.bl 1, hm.bl 3, hm.bl 4, hm.fa 0, hm.fa 1, hm.fa 2, trivial⟩) fun z => ?_
    refine wa1 4 rfl ?_
    refine lk_ sc61 2 rfl rfl rfl (wl_nil ?_)
    refine nw 11 127 (fun _ hm => ⟨hm.bl 1, hm.bl 3, hm.bl 4, hm.fa 0, hm.fa 1, hm.fa 2, trivial⟩) fun z => ?_
    refine wa1 7 rfl ?_
    refine wl_append (news := [.string k, .int .i64 m0, .int .i64 m1, .int .i64 m2, .int .i64 m3, .int .i64 m4, .int .i64 m5, .int .i64 m6, .int .i64 m7, .int .i64 m8, .int .i64 m9, .int .i64 m10, .int .i64 m11, .int .i64 m12, .int .i64 m13]) 0 0 ap61 rfl rfl rfl rfl rfl rfl rfl (by omega) (by unfold maxLen; omega) rfl rfl fun v9 hv => ?_
    refine wl_look (R := ∃ A cc, v9 = .slice A (sl.length + 1) cc) (fun wx hm => own_slice (hm.ownI 0 rfl)) ?_
    rintro ⟨A5, c5, rfl⟩
    refine wl_nil ?_
    refine nw 11 255 (fun _ hm => ⟨hm.bl 1, hm.bl 3, hm.bl 4, hm.fa 0, hm.fa 1, hm.fa 2, trivial⟩) fun z => ?_
    refine wt 8 11 511 rfl z (ov_nilcheck rfl) ?_
    refine wt 9 11 1023 rfl z (ov_field fo66_0 rfl rfl) ?_
    refine wa1 10 rfl ?_
    refine wl_store 2 sc61 rfl rfl rfl rfl rfl rfl ?_
    refine wl_nil ?_
    refine nw 11 2047 (fun _ hm => ⟨hm.bl 1, hm.bl 3, hm.bl 4, hm.fa 0, hm.fa 1, hm.fa 2, trivial⟩) fun z => ?_
    refine wa_done (by kernel_rfl) ?_
    refine nx_then (sr_ (sg_ rfl (nn_ ?_)))
    refine gw_ret ?_
    refine nx_blk_ret (nx_then_ret ?_)
    rw [show sl.flatMap stEnc ++ ([.string k, .int .i64 m0, .int .i64 m1, .int .i64 m2, .int .i64 m3, .int .i64 m4, .int .i64 m5, .int .i64 m6, .int .i64 m7, .int .i64 m8, .int .i64 m9, .int .i64 m10, .int .i64 m11, .int .i64 m12, .int .i64 m13] : List Value) = (sl ++ [((⟨k, [m0, m1, m2, m3, m4, m5, m6, m7, m8, m9, m10, m11, m12, m13]⟩ : St))]).flatMap stEnc from by simp [stEnc, stCells]]
    refine nx_ret1 rfl rfl fun wx hm => ?_
    refine ⟨.slice A5 (sl.length + 1) c5, v2, v3, v4, (sl ++ [(⟨k, [m0, m1, m2, m3, m4, m5, m6, m7, m8, m9, m10, m11, m12, m13]⟩ : St)], cl, vl, pl), by rw [hI]; rfl, (fun x hx => by rw [hI] at hx; cases hx; rfl), ?_⟩
    have e9 : (sl ++ [(⟨k, [m0, m1, m2, m3, m4, m5, m6, m7, m8, m9, m10, m11, m12, m13]⟩ : St)]).length = sl.length + 1 := by simp
    show Mem ⟨0, w0, none, [9]⟩ (fun _ => True) (fpL gf gl gr la (.slice A5 (sl.length + 1) c5) v2 v3 v4) [⟨.slice A5 (sl.length + 1) c5, 168, 15, (sl ++ [(⟨k, [m0, m1, m2, m3, m4, m5, m6, m7, m8, m9, m10, m11, m12, m13]⟩ : St)]).length, (sl ++ [(⟨k, [m0, m1, m2, m3, m4, m5, m6, m7, m8, m9, m10, m11, m12, m13]⟩ : St)]).flatMap stEnc⟩, ⟨v2, 170, 2, (cl).length, (cl).flatMap csEnc⟩, ⟨v3, 158, 2, (vl).length, (vl).flatMap vhEnc⟩, ⟨v4, 161, 3, (pl).length, (pl).flatMap plEnc⟩] [TxtO w0.heap.size none] _
    rw [e9]
    exact (hm.pick [2, 3, 4] [0, 1, 2, 3] [2] rfl rfl).cx
   replace hA : AW = false := by simpa using hA
   subst hA
   rw [item_st_no hAW.symm] at hI
   refine mv_ rfl (wl_ov (ov_extract rfl rfl) rfl (wl_ov (ov_extract rfl rfl) rfl ?_))
   refine wl_alloc zc168 rfl fun g2 => ?_
   refine wl_stores (cs' := [.string k, .int .i64 m0, .int .i64 m1, .int .i64 m2, .int .i64 m3, .int .i64 m4, .int .i64 m5, .int .i64 m6, .int .i64 m7, .int .i64 m8, .int .i64 m9, .int .i64 m10, .int .i64 m11, .int .i64 m12, .int .i64 m13]) 0 rz168 rfl rfl rfl rfl rfl rfl rfl rfl ?_
   refine sg_ rfl (nn_ (gw_seq (sr_ (mv_ rfl (wl_ov (ov_un_not rfl) rfl ?_)))))
   refine wl_set 36 (v' := .bool true) rfl (congrArg Value.bool (by decide)) ?_
   refine nn_ (ct_ rfl (sr_ (sg_ rfl (nn_ ?_))))
   refine gw_ret ?_
   refine nx_then_ret (nx_blk_ret (nx_then_ret ?_))
   refine nx_ret1 rfl rfl fun wx hm => ?_
   exact ⟨v1, v2, v3, v4, (sl, cl, vl, pl), by rw [hI]; rfl, (fun x hx => by rw [hI] at hx; cases hx), (hm.pick [1, 2, 3] [0, 1, 2, 3] [2] rfl rfl).cx⟩
  refine sg_ rfl (nn_ (sr_ (mv_ rfl ?_)))
  refine wl_callx (γ := Nat × Nat) (val := (fun g => .tuple #[.slice (some ⟨g.1, 0, none⟩) g.2 g.2, .bool (wdB t)])) (φ := (fun g => g.2 = (wdL t).length ∧ 1 ≤ g.2 ∧ g.2 ≤ t.size + 1)) (Y := (fun g => fun wy => SlT sgEnc 1 9 wy (some ⟨g.1, 0, none⟩) g.2 (wdL t))) rfl cb68 rfl rfl (fun wx hm => (words_any t wx (hm.fact 0 rfl).1 hts).mono fun _ _ ⟨gw, k, he, h1, h2, hg⟩ => ⟨(gw, k), he, ⟨h1.len.symm, h2⟩, hg, h1⟩) (fun _ => SlT.lasts2 rfl) ?_
  rintro ⟨gw, kw⟩ hkw
  dsimp only at hkw ⊢
  obtain ⟨hkl, hk1, hk2⟩ := hkw
  refine mv_ rfl (wl_ov (ov_extract rfl rfl) rfl (wl_ov (ov_extract rfl rfl) rfl (sg_ rfl (sg_ rfl (nn_ (gw_seq (gw_block (sr_ (mv_ rfl (wl_ov (ov_un_not rfl) rfl (sg_ rfl ?_)))))))))))
  refine nn_ ?_
  rcases Bool.eq_false_or_eq_true (!(wdB t)) with h1 | h1
  ·refine gw_set 17 rfl (congrArg Value.bool h1) ?_
   refine ct_ rfl (sr_ (sg_ rfl (nn_ ?_)))
   refine gw_ret ?_
   refine nx_blk_ret (nx_then_ret ?_)
   refine nx_ret1 rfl rfl fun wx hm => ?_
   exact ⟨v1, v2, v3, v4, (sl, cl, vl, pl), by rw [fIt_wd h1]; rfl, (fun x hx => by rw [fIt_wd h1] at hx; cases hx), (hm.pick [0, 1, 2] [0, 1, 2, 3] [1] rfl rfl).cx⟩
  refine gw_set 17 rfl (congrArg Value.bool h1) ?_
  have hI : fIt t = none := (fIt_go h1).trans (fItem_bad hx0 (fun h => ⟨by decide +kernel, by decide +kernel⟩) (fun h => by decide +kernel) (fun h => absurd h hN))
  refine cf_ rfl (sr_ (mv_ rfl ?_))
  refine wl_ov (ov_index (j := 0) es112 rfl rfl (by omega)) rfl ?_
  refine wl_ov (ov_elem1 (k := 0) (v := .string ⟨#[115, 116, 97, 116, 105, 111, 110]⟩) sc9 rfl (fun _ hm => (hm.fact 0 rfl)) hx0 rfl rfl) rfl ?_
  refine wl_ov (ov_seql rfl rfl) rfl ?_
  refine wl_set 24 (v' := .bool true) rfl (congrArg Value.bool (by decide +kernel)) ?_
  refine mv_ rfl (wl_guard_on rfl rfl rfl (mv_ rfl (wl_guard_on rfl rfl rfl (wl_ov (ov_len es112 rfl) rfl (wl_guard_on rfl rfl rfl (wl_ov (ov_eql rfl rfl) rfl (pt_ rfl rfl (sg_ rfl (nn_ ?_)))))))))
  refine gw_set 20 (v' := .bool false) rfl (congrArg Value.bool (decide_eq_false (by omega))) ?_
  refine cf_ rfl (sr_ (mv_ rfl ?_))
  refine wl_ov (ov_index (j := 0) es112 rfl rfl (by omega)) rfl ?_
  refine wl_ov (ov_elem1 (k := 0) (v := .string ⟨#[115, 116, 97, 116, 105, 111, 110]⟩) sc9 rfl (fun _ hm => (hm.fact 0 rfl)) hx0 rfl rfl) rfl ?_
  refine wl_ov (ov_seql rfl rfl) rfl ?_
  refine wl_set 51 (v' := .bool false) rfl (congrArg Value.bool (by decide +kernel)) ?_
  refine mv_ rfl (goff rfl rfl rfl (goff rfl rfl rfl (goff rfl rfl rfl (pf_ rfl rfl (sg_ rfl (nn_ (cf_ rfl (sr_ (mv_ rfl ?_)))))))))
  refine wl_ov (ov_index (j := 0) es112 rfl rfl (by omega)) rfl ?_
  refine wl_ov (ov_elem1 (k := 0) (v := .string ⟨#[115, 116, 97, 116, 105, 111, 110]⟩) sc9 rfl (fun _ hm => (hm.fact 0 rfl)) hx0 rfl rfl) rfl ?_
  refine wl_ov (ov_seql rfl rfl) rfl ?_
  refine wl_set 82 (v' := .bool false) rfl (congrArg Value.bool (by decide +kernel)) ?_
  refine mv_ rfl (goff rfl rfl rfl (goff rfl rfl rfl (goff rfl rfl rfl (pf_ rfl rfl (sg_ rfl (nn_ (cf_ rfl (sr_ (mv_ rfl ?_)))))))))
  refine wl_ov (ov_index (j := 0) es112 rfl rfl (by omega)) rfl ?_
  refine wl_ov (ov_elem1 (k := 0) (v := .string ⟨#[115, 116, 97, 116, 105, 111, 110]⟩) sc9 rfl (fun _ hm => (hm.fact 0 rfl)) hx0 rfl rfl) rfl ?_
  refine wl_ov (ov_seql rfl rfl) rfl ?_
  refine wl_set 108 (v' := .bool false) rfl (congrArg Value.bool (by decide +kernel)) ?_
  refine mv_ rfl (goff rfl rfl rfl (goff rfl rfl rfl (goff rfl rfl rfl (pf_ rfl rfl (sg_ rfl (nn_ (cf_ rfl (gw_skip (nx_blk_nrm (nx_then (sr_ ?_)))))))))))
  refine sg_ rfl (nn_ ?_)
  refine gw_ret ?_
  refine nx_ret1 rfl rfl fun wx hm => ?_
  exact ⟨v1, v2, v3, v4, (sl, cl, vl, pl), by rw [hI]; rfl, (fun x hx => by rw [hI] at hx; cases hx), (hm.pick [0, 1, 2] [0, 1, 2, 3] [1] rfl rfl).cx⟩
 ·subst h
  by_cases hN : (wdL t).length = 3
  ·obtain ⟨a0, a1, a2, hw⟩ := list3f hN
   have hb0 : a0 = clW := by rw [hw] at hx0; simpa using hx0
   subst hb0
   rw [hw] at hwz
   have za1 : a1.size ≤ 1000000 := hwz a1 (by simp)
   have za2 : a2.size ≤ 1000000 := hwz a2 (by simp)
   refine sg_ rfl (nn_ (sr_ (mv_ rfl ?_)))
   refine wl_callx (γ := Nat × Nat) (val := (fun g => .tuple #[.slice (some ⟨g.1, 0, none⟩) g.2 g.2, .bool (wdB t)])) (φ := (fun g => g.2 = 3)) (Y := (fun g => fun wy => SlT sgEnc 1 9 wy (some ⟨g.1, 0, none⟩) g.2 ([clW, a1, a2]))) rfl cb68 rfl rfl (fun wx hm => (words_any t wx (hm.fact 0 rfl).1 hts).mono fun _ _ ⟨gw, k, he, h1, h2, hg⟩ => ⟨(gw, k), he, by have h := h1.len; rw [hw] at h; exact h.symm, hg, by rw [hw] at h1; exact h1⟩) (fun _ => SlT.lasts2 rfl) ?_
   rintro ⟨gw, kw⟩ hkw
   dsimp only at hkw ⊢
   subst hkw
   refine mv_ rfl (wl_ov (ov_extract rfl rfl) rfl (wl_ov (ov_extract rfl rfl) rfl (sg_ rfl (sg_ rfl (nn_ (gw_seq (gw_block (sr_ (mv_ rfl (wl_ov (ov_un_not rfl) rfl (sg_ rfl ?_)))))))))))
   refine nn_ ?_
   rcases Bool.eq_false_or_eq_true (!(wdB t)) with h1 | h1
   ·refine gw_set 17 rfl (congrArg Value.bool h1) ?_
    refine ct_ rfl (sr_ (sg_ rfl (nn_ ?_)))
    refine gw_ret ?_
    refine nx_blk_ret (nx_then_ret ?_)
    refine nx_ret1 rfl rfl fun wx hm => ?_
    exact ⟨v1, v2, v3, v4, (sl, cl, vl, pl), by rw [fIt_wd h1]; rfl, (fun x hx => by rw [fIt_wd h1] at hx; cases hx), (hm.pick [0, 1, 2] [0, 1, 2, 3] [1] rfl rfl).cx⟩
   refine gw_set 17 rfl (congrArg Value.bool h1) ?_
   have hI := fIt_go h1
   rw [hw] at hI
   refine cf_ rfl (sr_ (mv_ rfl ?_))
   refine wl_ov (ov_index (j := 0) es112 rfl rfl (by omega)) rfl ?_
   refine wl_ov (ov_elem1 (k := 0) (v := .string ⟨#[99, 108, 97, 115, 115]⟩) sc9 rfl (fun _ hm => (hm.fact 0 rfl)) (show ([clW, a1, a2] : List ByteArray)[0]? = some clW from rfl) rfl rfl) rfl ?_
   refine wl_ov (ov_seql rfl rfl) rfl ?_
   refine wl_set 24 (v' := .bool false) rfl (congrArg Value.bool (by decide +kernel)) ?_
   refine mv_ rfl (goff rfl rfl rfl (goff rfl rfl rfl (goff rfl rfl rfl (pf_ rfl rfl (sg_ rfl (nn_ (cf_ rfl (sr_ (mv_ rfl ?_)))))))))
   refine wl_ov (ov_index (j := 0) es112 rfl rfl (by omega)) rfl ?_
   refine wl_ov (ov_elem1 (k := 0) (v := .string ⟨#[99, 108, 97, 115, 115]⟩) sc9 rfl (fun _ hm => (hm.fact 0 rfl)) (show ([clW, a1, a2] : List ByteArray)[0]? = some clW from rfl) rfl rfl) rfl ?_
   refine wl_ov (ov_seql rfl rfl) rfl ?_
   refine wl_set 51 (v' := .bool true) rfl (congrArg Value.bool (by decide +kernel)) ?_
   refine mv_ rfl (wl_guard_on rfl rfl rfl (mv_ rfl (wl_guard_on rfl rfl rfl (wl_ov (ov_len es112 rfl) rfl ?_))))
   refine wl_set 54 (v' := .int .i64 3) rfl rfl ?_
   refine wl_guard_on rfl rfl rfl (wl_ov (ov_eql rfl rfl) rfl ?_)
   refine wl_set 55 (v' := .bool true) rfl (congrArg Value.bool (by decide)) ?_
   refine pt_ rfl rfl (sg_ rfl (nn_ (ct_ rfl (gw_seq ?_))))
   refine gd (fun wz => Blk wz gf 66 [v1, v2, v3, v4] ∧ Blk wz gl 3 [.int .i64 la] ∧ Blk wz gr 66 [.slice none 0 0, .slice none 0 0, .slice none 0 0, .slice none 0 0] ∧ (fun wy => SlT sgEnc 1 9 wy (some ⟨gw, 0, none⟩) 3 ([clW, a1, a2])) wz ∧ (TxtO w0.heap.size none) wz ∧ True) mixed (fun _ hm => ⟨hm.bl 0, hm.bl 1, hm.bl 2, hm.fa 0, hm.fa 1, trivial⟩) fun z => ?_
   refine wt 0 9 1 rfl z (ov_move rfl) ?_
   refine wt 1 9 3 rfl z (ov_index (j := 1) es112 rfl rfl (by omega)) ?_
   refine wt 2 9 7 rfl z (ov_elem1 (k := 0) (v := .string a1) sc9 rfl (fun _ hm => (hm.2.2.2.1)) (show ([clW, a1, a2] : List ByteArray)[1]? = some a1 from rfl) rfl rfl) ?_
   refine wt 3 9 15 rfl z (ov_move rfl) ?_
   refine wt 4 9 31 rfl z (ov_index (j := 2) es112 rfl rfl (by omega)) ?_
   refine wt 5 9 63 rfl z (ov_elem1 (k := 0) (v := .string a2) sc9 rfl (fun _ hm => (hm.2.2.2.1)) (show ([clW, a1, a2] : List ByteArray)[2]? = some a2 from rfl) rfl rfl) ?_
   refine wt 6 9 127 rfl z (ov_build (cs := [.string a1, .string a2]) rfl (by kernel_rfl)) ?_
   refine wa1 7 rfl ?_
   refine wl_alloc zc170 rfl fun g6 => ?_
   refine wl_nil ?_
   refine nw 9 255 (fun _ hm => ⟨hm.bl 1, hm.bl 2, hm.bl 3, hm.fa 0, hm.fa 1, trivial⟩) fun z => ?_
   refine wa1 8 rfl ?_
   refine wl_stores (cs' := [.string a1, .string a2]) 0 rz170 rfl rfl rfl rfl rfl rfl rfl rfl ?_
   refine wl_nil ?_
   refine nw 9 511 (fun _ hm => ⟨hm.bl 1, hm.bl 2, hm.bl 3, hm.fa 0, hm.fa 1, trivial⟩) fun z => ?_
   refine wa_done (by kernel_rfl) ?_
   refine nx_then (gw_seq (sr_ (fd_ fo170_1 rfl rfl (lk_ sc9 0 rfl rfl rfl (wl_ov (ov_seql rfl rfl) rfl (nn_ ?_))))))
   rw [item_cs] at hI
   rcases Bool.eq_false_or_eq_true (a2.toList == (⟨#[45]⟩ : ByteArray).toList) with hd | hd
   ·refine gw_set 66 rfl (congrArg Value.bool hd) ?_
    rw [show und a2 = ⟨#[]⟩ from if_pos hd] at hI
    refine gw_look (R := ∃ A cc, v2 = .slice A cl.length cc) (fun wx hm => own_slice (hm.ownI 1 rfl)) ?_
    rintro ⟨A_, c_, rfl⟩
    refine ct_ rfl (gw_region (fd_ fo170_1 rfl rfl ?_))
    refine wl_store 0 sc9 rfl rfl rfl rfl rfl rfl ?_
    refine nn_ (gw_seq ?_)
    refine gd (fun wz => Blk wz g6 170 [.string a1, .string ⟨#[]⟩] ∧ Blk wz gl 3 [.int .i64 la] ∧ Blk wz gr 66 [.slice none 0 0, .slice none 0 0, .slice none 0 0, .slice none 0 0] ∧ (fun wy => SlT sgEnc 1 9 wy (some ⟨gw, 0, none⟩) 3 ([clW, a1, a2])) wz ∧ (TxtO w0.heap.size none) wz ∧ True) mixed (fun _ hm => ⟨hm.bl 0, hm.bl 2, hm.bl 3, hm.fa 0, hm.fa 1, trivial⟩) fun z => ?_
    refine wt 0 11 1 rfl z (ov_move rfl) ?_
    refine wt 1 11 3 rfl z (ov_move rfl) ?_
    refine wt 2 11 7 rfl z (ov_nilcheck rfl) ?_
    refine wt 3 11 15 rfl z (ov_field fo66_1 rfl rfl) ?_
    refine wt 5 11 47 rfl z (ov_loads rz170 rfl (fun _ hm => hm.1) rfl rfl) ?_
    refine wa_all [4, 6] (by kernel_rfl) rfl ⟨⟨_, rfl, ?_⟩, ⟨_, rfl, ?_⟩, trivial⟩
    ·refine lk_ sc62 1 rfl rfl rfl (wl_nil ?_)
     refine nw 11 63 (fun _ hm => ⟨hm.bl 0, hm.bl 2, hm.bl 3, hm.fa 0, hm.fa 1, trivial⟩) fun z => ?_
     refine wa1 6 rfl ?_
     refine wl_buildSlice (e := 170) (cs := [.string a1, .string ⟨#[]⟩]) rfl (by kernel_rfl) rfl fun g7 => ?_
     refine wl_nil ?_
     refine nw 11 127 (fun _ hm => ⟨hm.bl 1, hm.bl 3, hm.bl 4, hm.fa 0, hm.fa 1, trivial⟩) fun z => ?_
     refine wa1 7 rfl ?_
     refine wl_append (news := [.string a1, .string ⟨#[]⟩]) 1 0 ap62 rfl rfl rfl rfl rfl rfl rfl (by omega) (by unfold maxLen; omega) rfl rfl fun v9 hv => ?_
     refine wl_look (R := ∃ A cc, v9 = .slice A (cl.length + 1) cc) (fun wx hm => own_slice (hm.ownI 1 rfl)) ?_
     rintro ⟨A5, c5, rfl⟩
     refine wl_nil ?_
     refine nw 11 255 (fun _ hm => ⟨hm.bl 1, hm.bl 3, hm.bl 4, hm.fa 0, hm.fa 1, trivial⟩) fun z => ?_
     refine wt 8 11 511 rfl z (ov_nilcheck rfl) ?_
     refine wt 9 11 1023 rfl z (ov_field fo66_1 rfl rfl) ?_
     refine wa1 10 rfl ?_
     refine wl_store 2 sc62 rfl rfl rfl rfl rfl rfl ?_
     refine wl_nil ?_
     refine nw 11 2047 (fun _ hm => ⟨hm.bl 1, hm.bl 3, hm.bl 4, hm.fa 0, hm.fa 1, trivial⟩) fun z => ?_
     refine wa_done (by kernel_rfl) ?_
     refine nx_then (sr_ (sg_ rfl (nn_ ?_)))
     refine gw_ret ?_
     refine nx_blk_ret (nx_then_ret ?_)
     rw [show cl.flatMap csEnc ++ ([.string a1, .string ⟨#[]⟩] : List Value) = (cl ++ [((⟨a1, ⟨#[]⟩⟩ : Cs))]).flatMap csEnc from by simp [csEnc]]
     refine nx_ret1 rfl rfl fun wx hm => ?_
     refine ⟨v1, .slice A5 (cl.length + 1) c5, v3, v4, (sl, cl ++ [(⟨a1, ⟨#[]⟩⟩ : Cs)], vl, pl), by rw [hI]; rfl, (fun x hx => by rw [hI] at hx; cases hx; rfl), ?_⟩
     have e9 : (cl ++ [(⟨a1, ⟨#[]⟩⟩ : Cs)]).length = cl.length + 1 := by simp
     show Mem ⟨0, w0, none, [9]⟩ (fun _ => True) (fpL gf gl gr la v1 (.slice A5 (cl.length + 1) c5) v3 v4) [⟨v1, 168, 15, (sl).length, (sl).flatMap stEnc⟩, ⟨.slice A5 (cl.length + 1) c5, 170, 2, (cl ++ [(⟨a1, ⟨#[]⟩⟩ : Cs)]).length, (cl ++ [(⟨a1, ⟨#[]⟩⟩ : Cs)]).flatMap csEnc⟩, ⟨v3, 158, 2, (vl).length, (vl).flatMap vhEnc⟩, ⟨v4, 161, 3, (pl).length, (pl).flatMap plEnc⟩] [TxtO w0.heap.size none] _
     rw [e9]
     exact (hm.pick [2, 3, 4] [0, 1, 2, 3] [1] rfl rfl).cx
    refine wl_buildSlice (e := 170) (cs := [.string a1, .string ⟨#[]⟩]) rfl (by kernel_rfl) rfl fun g8 => ?_
    refine wl_nil ?_
    refine nw 11 111 (fun _ hm => ⟨hm.bl 1, hm.bl 3, hm.bl 4, hm.fa 0, hm.fa 1, trivial⟩) fun z => ?_
    refine wa1 4 rfl ?_
    refine lk_ sc62 2 rfl rfl rfl (wl_nil ?_)
    refine nw 11 127 (fun _ hm => ⟨hm.bl 1, hm.bl 3, hm.bl 4, hm.fa 0, hm.fa 1, trivial⟩) fun z => ?_
    refine wa1 7 rfl ?_
    refine wl_append (news := [.string a1, .string ⟨#[]⟩]) 1 0 ap62 rfl rfl rfl rfl rfl rfl rfl (by omega) (by unfold maxLen; omega) rfl rfl fun v9 hv => ?_
    refine wl_look (R := ∃ A cc, v9 = .slice A (cl.length + 1) cc) (fun wx hm => own_slice (hm.ownI 1 rfl)) ?_
    rintro ⟨A5, c5, rfl⟩
    refine wl_nil ?_
    refine nw 11 255 (fun _ hm => ⟨hm.bl 1, hm.bl 3, hm.bl 4, hm.fa 0, hm.fa 1, trivial⟩) fun z => ?_
    refine wt 8 11 511 rfl z (ov_nilcheck rfl) ?_
    refine wt 9 11 1023 rfl z (ov_field fo66_1 rfl rfl) ?_
    refine wa1 10 rfl ?_
    refine wl_store 2 sc62 rfl rfl rfl rfl rfl rfl ?_
    refine wl_nil ?_
    refine nw 11 2047 (fun _ hm => ⟨hm.bl 1, hm.bl 3, hm.bl 4, hm.fa 0, hm.fa 1, trivial⟩) fun z => ?_
    refine wa_done (by kernel_rfl) ?_
    refine nx_then (sr_ (sg_ rfl (nn_ ?_)))
    refine gw_ret ?_
    refine nx_blk_ret (nx_then_ret ?_)
    rw [show cl.flatMap csEnc ++ ([.string a1, .string ⟨#[]⟩] : List Value) = (cl ++ [((⟨a1, ⟨#[]⟩⟩ : Cs))]).flatMap csEnc from by simp [csEnc]]
    refine nx_ret1 rfl rfl fun wx hm => ?_
    refine ⟨v1, .slice A5 (cl.length + 1) c5, v3, v4, (sl, cl ++ [(⟨a1, ⟨#[]⟩⟩ : Cs)], vl, pl), by rw [hI]; rfl, (fun x hx => by rw [hI] at hx; cases hx; rfl), ?_⟩
    have e9 : (cl ++ [(⟨a1, ⟨#[]⟩⟩ : Cs)]).length = cl.length + 1 := by simp
    show Mem ⟨0, w0, none, [9]⟩ (fun _ => True) (fpL gf gl gr la v1 (.slice A5 (cl.length + 1) c5) v3 v4) [⟨v1, 168, 15, (sl).length, (sl).flatMap stEnc⟩, ⟨.slice A5 (cl.length + 1) c5, 170, 2, (cl ++ [(⟨a1, ⟨#[]⟩⟩ : Cs)]).length, (cl ++ [(⟨a1, ⟨#[]⟩⟩ : Cs)]).flatMap csEnc⟩, ⟨v3, 158, 2, (vl).length, (vl).flatMap vhEnc⟩, ⟨v4, 161, 3, (pl).length, (pl).flatMap plEnc⟩] [TxtO w0.heap.size none] _
    rw [e9]
    exact (hm.pick [2, 3, 4] [0, 1, 2, 3] [1] rfl rfl).cx
   refine gw_set 66 rfl (congrArg Value.bool hd) ?_
   rw [show und a2 = a2 from if_neg (by rw [show (a2.toList == dashS.toList) = false from hd]; decide)] at hI
   refine gw_look (R := ∃ A cc, v2 = .slice A cl.length cc) (fun wx hm => own_slice (hm.ownI 1 rfl)) ?_
   rintro ⟨A_, c_, rfl⟩
   refine cf_ rfl (gw_skip (nx_then (gw_seq ?_)))
   refine gd (fun wz => Blk wz g6 170 [.string a1, .string a2] ∧ Blk wz gl 3 [.int .i64 la] ∧ Blk wz gr 66 [.slice none 0 0, .slice none 0 0, .slice none 0 0, .slice none 0 0] ∧ (fun wy => SlT sgEnc 1 9 wy (some ⟨gw, 0, none⟩) 3 ([clW, a1, a2])) wz ∧ (TxtO w0.heap.size none) wz ∧ True) mixed (fun _ hm => ⟨hm.bl 0, hm.bl 2, hm.bl 3, hm.fa 0, hm.fa 1, trivial⟩) fun z => ?_
   refine wt 0 11 1 rfl z (ov_move rfl) ?_
   refine wt 1 11 3 rfl z (ov_move rfl) ?_
   refine wt 2 11 7 rfl z (ov_nilcheck rfl) ?_
   refine wt 3 11 15 rfl z (ov_field fo66_1 rfl rfl) ?_
   refine wt 5 11 47 rfl z (ov_loads rz170 rfl (fun _ hm => hm.1) rfl rfl) ?_
   refine wa_all [4, 6] (by kernel_rfl) rfl ⟨⟨_, rfl, ?_⟩, ⟨_, rfl, ?_⟩, trivial⟩
   ·refine lk_ sc62 1 rfl rfl rfl (wl_nil ?_)
    refine nw 11 63 (fun _ hm => ⟨hm.bl 0, hm.bl 2, hm.bl 3, hm.fa 0, hm.fa 1, trivial⟩) fun z => ?_
    refine wa1 6 rfl ?_
    refine wl_buildSlice (e := 170) (cs := [.string a1, .string a2]) rfl (by kernel_rfl) rfl fun g9 => ?_
    refine wl_nil ?_
    refine nw 11 127 (fun _ hm => ⟨hm.bl 1, hm.bl 3, hm.bl 4, hm.fa 0, hm.fa 1, trivial⟩) fun z => ?_
    refine wa1 7 rfl ?_
    refine wl_append (news := [.string a1, .string a2]) 1 0 ap62 rfl rfl rfl rfl rfl rfl rfl (by omega) (by unfold maxLen; omega) rfl rfl fun v9 hv => ?_
    refine wl_look (R := ∃ A cc, v9 = .slice A (cl.length + 1) cc) (fun wx hm => own_slice (hm.ownI 1 rfl)) ?_
    rintro ⟨A5, c5, rfl⟩
    refine wl_nil ?_
    refine nw 11 255 (fun _ hm => ⟨hm.bl 1, hm.bl 3, hm.bl 4, hm.fa 0, hm.fa 1, trivial⟩) fun z => ?_
    refine wt 8 11 511 rfl z (ov_nilcheck rfl) ?_
    refine wt 9 11 1023 rfl z (ov_field fo66_1 rfl rfl) ?_
    refine wa1 10 rfl ?_
    refine wl_store 2 sc62 rfl rfl rfl rfl rfl rfl ?_
    refine wl_nil ?_
    refine nw 11 2047 (fun _ hm => ⟨hm.bl 1, hm.bl 3, hm.bl 4, hm.fa 0, hm.fa 1, trivial⟩) fun z => ?_
    refine wa_done (by kernel_rfl) ?_
    refine nx_then (sr_ (sg_ rfl (nn_ ?_)))
    refine gw_ret ?_
    refine nx_blk_ret (nx_then_ret ?_)
    rw [show cl.flatMap csEnc ++ ([.string a1, .string a2] : List Value) = (cl ++ [((⟨a1, a2⟩ : Cs))]).flatMap csEnc from by simp [csEnc]]
    refine nx_ret1 rfl rfl fun wx hm => ?_
    refine ⟨v1, .slice A5 (cl.length + 1) c5, v3, v4, (sl, cl ++ [(⟨a1, a2⟩ : Cs)], vl, pl), by rw [hI]; rfl, (fun x hx => by rw [hI] at hx; cases hx; rfl), ?_⟩
    have e9 : (cl ++ [(⟨a1, a2⟩ : Cs)]).length = cl.length + 1 := by simp
    show Mem ⟨0, w0, none, [9]⟩ (fun _ => True) (fpL gf gl gr la v1 (.slice A5 (cl.length + 1) c5) v3 v4) [⟨v1, 168, 15, (sl).length, (sl).flatMap stEnc⟩, ⟨.slice A5 (cl.length + 1) c5, 170, 2, (cl ++ [(⟨a1, a2⟩ : Cs)]).length, (cl ++ [(⟨a1, a2⟩ : Cs)]).flatMap csEnc⟩, ⟨v3, 158, 2, (vl).length, (vl).flatMap vhEnc⟩, ⟨v4, 161, 3, (pl).length, (pl).flatMap plEnc⟩] [TxtO w0.heap.size none] _
    rw [e9]
    exact (hm.pick [2, 3, 4] [0, 1, 2, 3] [1] rfl rfl).cx
   refine wl_buildSlice (e := 170) (cs := [.string a1, .string a2]) rfl (by kernel_rfl) rfl fun g10 => ?_
   refine wl_nil ?_
   refine nw 11 111 (fun _ hm => ⟨hm.bl 1, hm.bl 3, hm.bl 4, hm.fa 0, hm.fa 1, trivial⟩) fun z => ?_
   refine wa1 4 rfl ?_
   refine lk_ sc62 2 rfl rfl rfl (wl_nil ?_)
   refine nw 11 127 (fun _ hm => ⟨hm.bl 1, hm.bl 3, hm.bl 4, hm.fa 0, hm.fa 1, trivial⟩) fun z => ?_
   refine wa1 7 rfl ?_
   refine wl_append (news := [.string a1, .string a2]) 1 0 ap62 rfl rfl rfl rfl rfl rfl rfl (by omega) (by unfold maxLen; omega) rfl rfl fun v9 hv => ?_
   refine wl_look (R := ∃ A cc, v9 = .slice A (cl.length + 1) cc) (fun wx hm => own_slice (hm.ownI 1 rfl)) ?_
   rintro ⟨A5, c5, rfl⟩
   refine wl_nil ?_
   refine nw 11 255 (fun _ hm => ⟨hm.bl 1, hm.bl 3, hm.bl 4, hm.fa 0, hm.fa 1, trivial⟩) fun z => ?_
   refine wt 8 11 511 rfl z (ov_nilcheck rfl) ?_
   refine wt 9 11 1023 rfl z (ov_field fo66_1 rfl rfl) ?_
   refine wa1 10 rfl ?_
   refine wl_store 2 sc62 rfl rfl rfl rfl rfl rfl ?_
   refine wl_nil ?_
   refine nw 11 2047 (fun _ hm => ⟨hm.bl 1, hm.bl 3, hm.bl 4, hm.fa 0, hm.fa 1, trivial⟩) fun z => ?_
   refine wa_done (by kernel_rfl) ?_
   refine nx_then (sr_ (sg_ rfl (nn_ ?_)))
   refine gw_ret ?_
   refine nx_blk_ret (nx_then_ret ?_)
   rw [show cl.flatMap csEnc ++ ([.string a1, .string a2] : List Value) = (cl ++ [((⟨a1, a2⟩ : Cs))]).flatMap csEnc from by simp [csEnc]]
   refine nx_ret1 rfl rfl fun wx hm => ?_
   refine ⟨v1, .slice A5 (cl.length + 1) c5, v3, v4, (sl, cl ++ [(⟨a1, a2⟩ : Cs)], vl, pl), by rw [hI]; rfl, (fun x hx => by rw [hI] at hx; cases hx; rfl), ?_⟩
   have e9 : (cl ++ [(⟨a1, a2⟩ : Cs)]).length = cl.length + 1 := by simp
   show Mem ⟨0, w0, none, [9]⟩ (fun _ => True) (fpL gf gl gr la v1 (.slice A5 (cl.length + 1) c5) v3 v4) [⟨v1, 168, 15, (sl).length, (sl).flatMap stEnc⟩, ⟨.slice A5 (cl.length + 1) c5, 170, 2, (cl ++ [(⟨a1, a2⟩ : Cs)]).length, (cl ++ [(⟨a1, a2⟩ : Cs)]).flatMap csEnc⟩, ⟨v3, 158, 2, (vl).length, (vl).flatMap vhEnc⟩, ⟨v4, 161, 3, (pl).length, (pl).flatMap plEnc⟩] [TxtO w0.heap.size none] _
   rw [e9]
   exact (hm.pick [2, 3, 4] [0, 1, 2, 3] [1] rfl rfl).cx
  refine sg_ rfl (nn_ (sr_ (mv_ rfl ?_)))
  refine wl_callx (γ := Nat × Nat) (val := (fun g => .tuple #[.slice (some ⟨g.1, 0, none⟩) g.2 g.2, .bool (wdB t)])) (φ := (fun g => g.2 = (wdL t).length ∧ 1 ≤ g.2 ∧ g.2 ≤ t.size + 1)) (Y := (fun g => fun wy => SlT sgEnc 1 9 wy (some ⟨g.1, 0, none⟩) g.2 (wdL t))) rfl cb68 rfl rfl (fun wx hm => (words_any t wx (hm.fact 0 rfl).1 hts).mono fun _ _ ⟨gw, k, he, h1, h2, hg⟩ => ⟨(gw, k), he, ⟨h1.len.symm, h2⟩, hg, h1⟩) (fun _ => SlT.lasts2 rfl) ?_
  rintro ⟨gw, kw⟩ hkw
  dsimp only at hkw ⊢
  obtain ⟨hkl, hk1, hk2⟩ := hkw
  refine mv_ rfl (wl_ov (ov_extract rfl rfl) rfl (wl_ov (ov_extract rfl rfl) rfl (sg_ rfl (sg_ rfl (nn_ (gw_seq (gw_block (sr_ (mv_ rfl (wl_ov (ov_un_not rfl) rfl (sg_ rfl ?_)))))))))))
  refine nn_ ?_
  rcases Bool.eq_false_or_eq_true (!(wdB t)) with h1 | h1
  ·refine gw_set 17 rfl (congrArg Value.bool h1) ?_
   refine ct_ rfl (sr_ (sg_ rfl (nn_ ?_)))
   refine gw_ret ?_
   refine nx_blk_ret (nx_then_ret ?_)
   refine nx_ret1 rfl rfl fun wx hm => ?_
   exact ⟨v1, v2, v3, v4, (sl, cl, vl, pl), by rw [fIt_wd h1]; rfl, (fun x hx => by rw [fIt_wd h1] at hx; cases hx), (hm.pick [0, 1, 2] [0, 1, 2, 3] [1] rfl rfl).cx⟩
  refine gw_set 17 rfl (congrArg Value.bool h1) ?_
  have hI : fIt t = none := (fIt_go h1).trans (fItem_bad hx0 (fun h => absurd h hN) (fun h => by decide +kernel) (fun h => by decide +kernel))
  refine cf_ rfl (sr_ (mv_ rfl ?_))
  refine wl_ov (ov_index (j := 0) es112 rfl rfl (by omega)) rfl ?_
  refine wl_ov (ov_elem1 (k := 0) (v := .string ⟨#[99, 108, 97, 115, 115]⟩) sc9 rfl (fun _ hm => (hm.fact 0 rfl)) hx0 rfl rfl) rfl ?_
  refine wl_ov (ov_seql rfl rfl) rfl ?_
  refine wl_set 24 (v' := .bool false) rfl (congrArg Value.bool (by decide +kernel)) ?_
  refine mv_ rfl (goff rfl rfl rfl (goff rfl rfl rfl (goff rfl rfl rfl (pf_ rfl rfl (sg_ rfl (nn_ (cf_ rfl (sr_ (mv_ rfl ?_)))))))))
  refine wl_ov (ov_index (j := 0) es112 rfl rfl (by omega)) rfl ?_
  refine wl_ov (ov_elem1 (k := 0) (v := .string ⟨#[99, 108, 97, 115, 115]⟩) sc9 rfl (fun _ hm => (hm.fact 0 rfl)) hx0 rfl rfl) rfl ?_
  refine wl_ov (ov_seql rfl rfl) rfl ?_
  refine wl_set 51 (v' := .bool true) rfl (congrArg Value.bool (by decide +kernel)) ?_
  refine mv_ rfl (wl_guard_on rfl rfl rfl (mv_ rfl (wl_guard_on rfl rfl rfl (wl_ov (ov_len es112 rfl) rfl (wl_guard_on rfl rfl rfl (wl_ov (ov_eql rfl rfl) rfl (pt_ rfl rfl (sg_ rfl (nn_ ?_)))))))))
  refine gw_set 47 (v' := .bool false) rfl (congrArg Value.bool (decide_eq_false (by omega))) ?_
  refine cf_ rfl (sr_ (mv_ rfl ?_))
  refine wl_ov (ov_index (j := 0) es112 rfl rfl (by omega)) rfl ?_
  refine wl_ov (ov_elem1 (k := 0) (v := .string ⟨#[99, 108, 97, 115, 115]⟩) sc9 rfl (fun _ hm => (hm.fact 0 rfl)) hx0 rfl rfl) rfl ?_
  refine wl_ov (ov_seql rfl rfl) rfl ?_
  refine wl_set 82 (v' := .bool false) rfl (congrArg Value.bool (by decide +kernel)) ?_
  refine mv_ rfl (goff rfl rfl rfl (goff rfl rfl rfl (goff rfl rfl rfl (pf_ rfl rfl (sg_ rfl (nn_ (cf_ rfl (sr_ (mv_ rfl ?_)))))))))
  refine wl_ov (ov_index (j := 0) es112 rfl rfl (by omega)) rfl ?_
  refine wl_ov (ov_elem1 (k := 0) (v := .string ⟨#[99, 108, 97, 115, 115]⟩) sc9 rfl (fun _ hm => (hm.fact 0 rfl)) hx0 rfl rfl) rfl ?_
  refine wl_ov (ov_seql rfl rfl) rfl ?_
  refine wl_set 108 (v' := .bool false) rfl (congrArg Value.bool (by decide +kernel)) ?_
  refine mv_ rfl (goff rfl rfl rfl (goff rfl rfl rfl (goff rfl rfl rfl (pf_ rfl rfl (sg_ rfl (nn_ (cf_ rfl (gw_skip (nx_blk_nrm (nx_then (sr_ ?_)))))))))))
  refine sg_ rfl (nn_ ?_)
  refine gw_ret ?_
  refine nx_ret1 rfl rfl fun wx hm => ?_
  exact ⟨v1, v2, v3, v4, (sl, cl, vl, pl), by rw [hI]; rfl, (fun x hx => by rw [hI] at hx; cases hx), (hm.pick [0, 1, 2] [0, 1, 2, 3] [1] rfl rfl).cx⟩
 ·subst h
  by_cases hN : (wdL t).length = 3
  ·obtain ⟨a0, a1, a2, hw⟩ := list3f hN
   have hb0 : a0 = vhW := by rw [hw] at hx0; simpa using hx0
   subst hb0
   rw [hw] at hwz
   have za1 : a1.size ≤ 1000000 := hwz a1 (by simp)
   have za2 : a2.size ≤ 1000000 := hwz a2 (by simp)
   refine sg_ rfl (nn_ (sr_ (mv_ rfl ?_)))
   refine wl_callx (γ := Nat × Nat) (val := (fun g => .tuple #[.slice (some ⟨g.1, 0, none⟩) g.2 g.2, .bool (wdB t)])) (φ := (fun g => g.2 = 3)) (Y := (fun g => fun wy => SlT sgEnc 1 9 wy (some ⟨g.1, 0, none⟩) g.2 ([vhW, a1, a2]))) rfl cb68 rfl rfl (fun wx hm => (words_any t wx (hm.fact 0 rfl).1 hts).mono fun _ _ ⟨gw, k, he, h1, h2, hg⟩ => ⟨(gw, k), he, by have h := h1.len; rw [hw] at h; exact h.symm, hg, by rw [hw] at h1; exact h1⟩) (fun _ => SlT.lasts2 rfl) ?_
   rintro ⟨gw, kw⟩ hkw
   dsimp only at hkw ⊢
   subst hkw
   refine mv_ rfl (wl_ov (ov_extract rfl rfl) rfl (wl_ov (ov_extract rfl rfl) rfl (sg_ rfl (sg_ rfl (nn_ (gw_seq (gw_block (sr_ (mv_ rfl (wl_ov (ov_un_not rfl) rfl (sg_ rfl ?_)))))))))))
   refine nn_ ?_
   rcases Bool.eq_false_or_eq_true (!(wdB t)) with h1 | h1
   ·refine gw_set 17 rfl (congrArg Value.bool h1) ?_
    refine ct_ rfl (sr_ (sg_ rfl (nn_ ?_)))
    refine gw_ret ?_
    refine nx_blk_ret (nx_then_ret ?_)
    refine nx_ret1 rfl rfl fun wx hm => ?_
    exact ⟨v1, v2, v3, v4, (sl, cl, vl, pl), by rw [fIt_wd h1]; rfl, (fun x hx => by rw [fIt_wd h1] at hx; cases hx), (hm.pick [0, 1, 2] [0, 1, 2, 3] [1] rfl rfl).cx⟩
   refine gw_set 17 rfl (congrArg Value.bool h1) ?_
   have hI := fIt_go h1
   rw [hw] at hI
   rw [item_vh] at hI
   refine gw_look (R := ∃ A cc, v3 = .slice A vl.length cc) (fun wx hm => own_slice (hm.ownI 2 rfl)) ?_
   rintro ⟨A_, c_, rfl⟩
   refine cf_ rfl (sr_ (mv_ rfl ?_))
   refine wl_ov (ov_index (j := 0) es112 rfl rfl (by omega)) rfl ?_
   refine wl_ov (ov_elem1 (k := 0) (v := .string ⟨#[118, 101, 104, 105, 99, 108, 101]⟩) sc9 rfl (fun _ hm => (hm.fact 0 rfl)) (show ([vhW, a1, a2] : List ByteArray)[0]? = some vhW from rfl) rfl rfl) rfl ?_
   refine wl_ov (ov_seql rfl rfl) rfl ?_
   refine wl_set 24 (v' := .bool false) rfl (congrArg Value.bool (by decide +kernel)) ?_
   refine mv_ rfl (goff rfl rfl rfl (goff rfl rfl rfl (goff rfl rfl rfl (pf_ rfl rfl (sg_ rfl (nn_ (cf_ rfl (sr_ (mv_ rfl ?_)))))))))
   refine wl_ov (ov_index (j := 0) es112 rfl rfl (by omega)) rfl ?_
   refine wl_ov (ov_elem1 (k := 0) (v := .string ⟨#[118, 101, 104, 105, 99, 108, 101]⟩) sc9 rfl (fun _ hm => (hm.fact 0 rfl)) (show ([vhW, a1, a2] : List ByteArray)[0]? = some vhW from rfl) rfl rfl) rfl ?_
   refine wl_ov (ov_seql rfl rfl) rfl ?_
   refine wl_set 51 (v' := .bool false) rfl (congrArg Value.bool (by decide +kernel)) ?_
   refine mv_ rfl (goff rfl rfl rfl (goff rfl rfl rfl (goff rfl rfl rfl (pf_ rfl rfl (sg_ rfl (nn_ (cf_ rfl (sr_ (mv_ rfl ?_)))))))))
   refine wl_ov (ov_index (j := 0) es112 rfl rfl (by omega)) rfl ?_
   refine wl_ov (ov_elem1 (k := 0) (v := .string ⟨#[118, 101, 104, 105, 99, 108, 101]⟩) sc9 rfl (fun _ hm => (hm.fact 0 rfl)) (show ([vhW, a1, a2] : List ByteArray)[0]? = some vhW from rfl) rfl rfl) rfl ?_
   refine wl_ov (ov_seql rfl rfl) rfl ?_
   refine wl_set 82 (v' := .bool true) rfl (congrArg Value.bool (by decide +kernel)) ?_
   refine mv_ rfl (wl_guard_on rfl rfl rfl (mv_ rfl (wl_guard_on rfl rfl rfl (wl_ov (ov_len es112 rfl) rfl ?_))))
   refine wl_set 85 (v' := .int .i64 3) rfl rfl ?_
   refine wl_guard_on rfl rfl rfl (wl_ov (ov_eql rfl rfl) rfl ?_)
   refine wl_set 86 (v' := .bool true) rfl (congrArg Value.bool (by decide)) ?_
   refine pt_ rfl rfl (sg_ rfl (nn_ (ct_ rfl (gw_seq ?_))))
   refine gd (fun wz => Blk wz gl 3 [.int .i64 la] ∧ Blk wz gr 66 [.slice none 0 0, .slice none 0 0, .slice none 0 0, .slice none 0 0] ∧ (fun wy => SlT sgEnc 1 9 wy (some ⟨gw, 0, none⟩) 3 ([vhW, a1, a2])) wz ∧ (TxtO w0.heap.size none) wz ∧ True) mixed (fun _ hm => ⟨hm.bl 1, hm.bl 2, hm.fa 0, hm.fa 1, trivial⟩) fun z => ?_
   refine wt 0 17 1 rfl z (ov_move rfl) ?_
   refine wt 1 17 3 rfl z (ov_move rfl) ?_
   refine wt 2 17 7 rfl z (ov_nilcheck rfl) ?_
   refine wt 3 17 15 rfl z (ov_field fo66_2 rfl rfl) ?_
   refine wt 5 17 47 rfl z (ov_move rfl) ?_
   refine wt 6 17 111 rfl z (ov_index (j := 1) es112 rfl rfl (by omega)) ?_
   refine wt 7 17 239 rfl z (ov_elem1 (k := 0) (v := .string a1) sc9 rfl (fun _ hm => (hm.2.2.1)) (show ([vhW, a1, a2] : List ByteArray)[1]? = some a1 from rfl) rfl rfl) ?_
   refine wt 8 17 495 rfl z (ov_move rfl) ?_
   refine wt 9 17 1007 rfl z (ov_index (j := 2) es112 rfl rfl (by omega)) ?_
   refine wt 10 17 2031 rfl z (ov_elem1 (k := 0) (v := .string a2) sc9 rfl (fun _ hm => (hm.2.2.1)) (show ([vhW, a1, a2] : List ByteArray)[2]? = some a2 from rfl) rfl rfl) ?_
   refine wt 11 17 4079 rfl z (ov_build (cs := [.string a1, .string a2]) rfl (by kernel_rfl)) ?_
   refine wa_all [4, 12] (by kernel_rfl) rfl ⟨⟨_, rfl, ?_⟩, ⟨_, rfl, ?_⟩, trivial⟩
   ·refine lk_ sc63 0 rfl rfl rfl (wl_nil ?_)
    refine nw 17 4095 (fun _ hm => ⟨hm.bl 1, hm.bl 2, hm.fa 0, hm.fa 1, trivial⟩) fun z => ?_
    refine wa1 12 rfl ?_
    refine wl_buildSlice (e := 158) (cs := [.string a1, .string a2]) rfl (by kernel_rfl) rfl fun g11 => ?_
    refine wl_nil ?_
    refine nw 17 8191 (fun _ hm => ⟨hm.bl 2, hm.bl 3, hm.fa 0, hm.fa 1, trivial⟩) fun z => ?_
    refine wa1 13 rfl ?_
    refine wl_append (news := [.string a1, .string a2]) 2 0 ap63 rfl rfl rfl rfl rfl rfl rfl (by omega) (by unfold maxLen; omega) rfl rfl fun v9 hv => ?_
    refine wl_look (R := ∃ A cc, v9 = .slice A (vl.length + 1) cc) (fun wx hm => own_slice (hm.ownI 2 rfl)) ?_
    rintro ⟨A5, c5, rfl⟩
    refine wl_nil ?_
    refine nw 17 16383 (fun _ hm => ⟨hm.bl 2, hm.bl 3, hm.fa 0, hm.fa 1, trivial⟩) fun z => ?_
    refine wt 14 17 32767 rfl z (ov_nilcheck rfl) ?_
    refine wt 15 17 65535 rfl z (ov_field fo66_2 rfl rfl) ?_
    refine wa1 16 rfl ?_
    refine wl_store 1 sc63 rfl rfl rfl rfl rfl rfl ?_
    refine wl_nil ?_
    refine nw 17 131071 (fun _ hm => ⟨hm.bl 2, hm.bl 3, hm.fa 0, hm.fa 1, trivial⟩) fun z => ?_
    refine wa_done (by kernel_rfl) ?_
    refine nx_then (sr_ (sg_ rfl (nn_ ?_)))
    refine gw_ret ?_
    refine nx_blk_ret (nx_then_ret ?_)
    rw [show vl.flatMap vhEnc ++ ([.string a1, .string a2] : List Value) = (vl ++ [((⟨a1, a2⟩ : Vh))]).flatMap vhEnc from by simp [vhEnc]]
    refine nx_ret1 rfl rfl fun wx hm => ?_
    refine ⟨v1, v2, .slice A5 (vl.length + 1) c5, v4, (sl, cl, vl ++ [(⟨a1, a2⟩ : Vh)], pl), by rw [hI]; rfl, (fun x hx => by rw [hI] at hx; cases hx; rfl), ?_⟩
    have e9 : (vl ++ [(⟨a1, a2⟩ : Vh)]).length = vl.length + 1 := by simp
    show Mem ⟨0, w0, none, [9]⟩ (fun _ => True) (fpL gf gl gr la v1 v2 (.slice A5 (vl.length + 1) c5) v4) [⟨v1, 168, 15, (sl).length, (sl).flatMap stEnc⟩, ⟨v2, 170, 2, (cl).length, (cl).flatMap csEnc⟩, ⟨.slice A5 (vl.length + 1) c5, 158, 2, (vl ++ [(⟨a1, a2⟩ : Vh)]).length, (vl ++ [(⟨a1, a2⟩ : Vh)]).flatMap vhEnc⟩, ⟨v4, 161, 3, (pl).length, (pl).flatMap plEnc⟩] [TxtO w0.heap.size none] _
    rw [e9]
    exact (hm.pick [1, 2, 3] [0, 1, 2, 3] [1] rfl rfl).cx
   refine wl_buildSlice (e := 158) (cs := [.string a1, .string a2]) rfl (by kernel_rfl) rfl fun g12 => ?_
   refine wl_nil ?_
   refine nw 17 8175 (fun _ hm => ⟨hm.bl 2, hm.bl 3, hm.fa 0, hm.fa 1, trivial⟩) fun z => ?_
   refine wa1 4 rfl ?_
   refine lk_ sc63 1 rfl rfl rfl (wl_nil ?_)
   refine nw 17 8191 (fun _ hm => ⟨hm.bl 2, hm.bl 3, hm.fa 0, hm.fa 1, trivial⟩) fun z => ?_
   refine wa1 13 rfl ?_
   refine wl_append (news := [.string a1, .string a2]) 2 0 ap63 rfl rfl rfl rfl rfl rfl rfl (by omega) (by unfold maxLen; omega) rfl rfl fun v9 hv => ?_
   refine wl_look (R := ∃ A cc, v9 = .slice A (vl.length + 1) cc) (fun wx hm => own_slice (hm.ownI 2 rfl)) ?_
   rintro ⟨A5, c5, rfl⟩
   refine wl_nil ?_
   refine nw 17 16383 (fun _ hm => ⟨hm.bl 2, hm.bl 3, hm.fa 0, hm.fa 1, trivial⟩) fun z => ?_
   refine wt 14 17 32767 rfl z (ov_nilcheck rfl) ?_
   refine wt 15 17 65535 rfl z (ov_field fo66_2 rfl rfl) ?_
   refine wa1 16 rfl ?_
   refine wl_store 1 sc63 rfl rfl rfl rfl rfl rfl ?_
   refine wl_nil ?_
   refine nw 17 131071 (fun _ hm => ⟨hm.bl 2, hm.bl 3, hm.fa 0, hm.fa 1, trivial⟩) fun z => ?_
   refine wa_done (by kernel_rfl) ?_
   refine nx_then (sr_ (sg_ rfl (nn_ ?_)))
   refine gw_ret ?_
   refine nx_blk_ret (nx_then_ret ?_)
   rw [show vl.flatMap vhEnc ++ ([.string a1, .string a2] : List Value) = (vl ++ [((⟨a1, a2⟩ : Vh))]).flatMap vhEnc from by simp [vhEnc]]
   refine nx_ret1 rfl rfl fun wx hm => ?_
   refine ⟨v1, v2, .slice A5 (vl.length + 1) c5, v4, (sl, cl, vl ++ [(⟨a1, a2⟩ : Vh)], pl), by rw [hI]; rfl, (fun x hx => by rw [hI] at hx; cases hx; rfl), ?_⟩
   have e9 : (vl ++ [(⟨a1, a2⟩ : Vh)]).length = vl.length + 1 := by simp
   show Mem ⟨0, w0, none, [9]⟩ (fun _ => True) (fpL gf gl gr la v1 v2 (.slice A5 (vl.length + 1) c5) v4) [⟨v1, 168, 15, (sl).length, (sl).flatMap stEnc⟩, ⟨v2, 170, 2, (cl).length, (cl).flatMap csEnc⟩, ⟨.slice A5 (vl.length + 1) c5, 158, 2, (vl ++ [(⟨a1, a2⟩ : Vh)]).length, (vl ++ [(⟨a1, a2⟩ : Vh)]).flatMap vhEnc⟩, ⟨v4, 161, 3, (pl).length, (pl).flatMap plEnc⟩] [TxtO w0.heap.size none] _
   rw [e9]
   exact (hm.pick [1, 2, 3] [0, 1, 2, 3] [1] rfl rfl).cx
  refine sg_ rfl (nn_ (sr_ (mv_ rfl ?_)))
  refine wl_callx (γ := Nat × Nat) (val := (fun g => .tuple #[.slice (some ⟨g.1, 0, none⟩) g.2 g.2, .bool (wdB t)])) (φ := (fun g => g.2 = (wdL t).length ∧ 1 ≤ g.2 ∧ g.2 ≤ t.size + 1)) (Y := (fun g => fun wy => SlT sgEnc 1 9 wy (some ⟨g.1, 0, none⟩) g.2 (wdL t))) rfl cb68 rfl rfl (fun wx hm => (words_any t wx (hm.fact 0 rfl).1 hts).mono fun _ _ ⟨gw, k, he, h1, h2, hg⟩ => ⟨(gw, k), he, ⟨h1.len.symm, h2⟩, hg, h1⟩) (fun _ => SlT.lasts2 rfl) ?_
  rintro ⟨gw, kw⟩ hkw
  dsimp only at hkw ⊢
  obtain ⟨hkl, hk1, hk2⟩ := hkw
  refine mv_ rfl (wl_ov (ov_extract rfl rfl) rfl (wl_ov (ov_extract rfl rfl) rfl (sg_ rfl (sg_ rfl (nn_ (gw_seq (gw_block (sr_ (mv_ rfl (wl_ov (ov_un_not rfl) rfl (sg_ rfl ?_)))))))))))
  refine nn_ ?_
  rcases Bool.eq_false_or_eq_true (!(wdB t)) with h1 | h1
  ·refine gw_set 17 rfl (congrArg Value.bool h1) ?_
   refine ct_ rfl (sr_ (sg_ rfl (nn_ ?_)))
   refine gw_ret ?_
   refine nx_blk_ret (nx_then_ret ?_)
   refine nx_ret1 rfl rfl fun wx hm => ?_
   exact ⟨v1, v2, v3, v4, (sl, cl, vl, pl), by rw [fIt_wd h1]; rfl, (fun x hx => by rw [fIt_wd h1] at hx; cases hx), (hm.pick [0, 1, 2] [0, 1, 2, 3] [1] rfl rfl).cx⟩
  refine gw_set 17 rfl (congrArg Value.bool h1) ?_
  have hI : fIt t = none := (fIt_go h1).trans (fItem_bad hx0 (fun h => absurd h hN) (fun h => by decide +kernel) (fun h => by decide +kernel))
  refine cf_ rfl (sr_ (mv_ rfl ?_))
  refine wl_ov (ov_index (j := 0) es112 rfl rfl (by omega)) rfl ?_
  refine wl_ov (ov_elem1 (k := 0) (v := .string ⟨#[118, 101, 104, 105, 99, 108, 101]⟩) sc9 rfl (fun _ hm => (hm.fact 0 rfl)) hx0 rfl rfl) rfl ?_
  refine wl_ov (ov_seql rfl rfl) rfl ?_
  refine wl_set 24 (v' := .bool false) rfl (congrArg Value.bool (by decide +kernel)) ?_
  refine mv_ rfl (goff rfl rfl rfl (goff rfl rfl rfl (goff rfl rfl rfl (pf_ rfl rfl (sg_ rfl (nn_ (cf_ rfl (sr_ (mv_ rfl ?_)))))))))
  refine wl_ov (ov_index (j := 0) es112 rfl rfl (by omega)) rfl ?_
  refine wl_ov (ov_elem1 (k := 0) (v := .string ⟨#[118, 101, 104, 105, 99, 108, 101]⟩) sc9 rfl (fun _ hm => (hm.fact 0 rfl)) hx0 rfl rfl) rfl ?_
  refine wl_ov (ov_seql rfl rfl) rfl ?_
  refine wl_set 51 (v' := .bool false) rfl (congrArg Value.bool (by decide +kernel)) ?_
  refine mv_ rfl (goff rfl rfl rfl (goff rfl rfl rfl (goff rfl rfl rfl (pf_ rfl rfl (sg_ rfl (nn_ (cf_ rfl (sr_ (mv_ rfl ?_)))))))))
  refine wl_ov (ov_index (j := 0) es112 rfl rfl (by omega)) rfl ?_
  refine wl_ov (ov_elem1 (k := 0) (v := .string ⟨#[118, 101, 104, 105, 99, 108, 101]⟩) sc9 rfl (fun _ hm => (hm.fact 0 rfl)) hx0 rfl rfl) rfl ?_
  refine wl_ov (ov_seql rfl rfl) rfl ?_
  refine wl_set 82 (v' := .bool true) rfl (congrArg Value.bool (by decide +kernel)) ?_
  refine mv_ rfl (wl_guard_on rfl rfl rfl (mv_ rfl (wl_guard_on rfl rfl rfl (wl_ov (ov_len es112 rfl) rfl (wl_guard_on rfl rfl rfl (wl_ov (ov_eql rfl rfl) rfl (pt_ rfl rfl (sg_ rfl (nn_ ?_)))))))))
  refine gw_set 78 (v' := .bool false) rfl (congrArg Value.bool (decide_eq_false (by omega))) ?_
  refine cf_ rfl (sr_ (mv_ rfl ?_))
  refine wl_ov (ov_index (j := 0) es112 rfl rfl (by omega)) rfl ?_
  refine wl_ov (ov_elem1 (k := 0) (v := .string ⟨#[118, 101, 104, 105, 99, 108, 101]⟩) sc9 rfl (fun _ hm => (hm.fact 0 rfl)) hx0 rfl rfl) rfl ?_
  refine wl_ov (ov_seql rfl rfl) rfl ?_
  refine wl_set 108 (v' := .bool false) rfl (congrArg Value.bool (by decide +kernel)) ?_
  refine mv_ rfl (goff rfl rfl rfl (goff rfl rfl rfl (goff rfl rfl rfl (pf_ rfl rfl (sg_ rfl (nn_ (cf_ rfl (gw_skip (nx_blk_nrm (nx_then (sr_ ?_)))))))))))
  refine sg_ rfl (nn_ ?_)
  refine gw_ret ?_
  refine nx_ret1 rfl rfl fun wx hm => ?_
  exact ⟨v1, v2, v3, v4, (sl, cl, vl, pl), by rw [hI]; rfl, (fun x hx => by rw [hI] at hx; cases hx), (hm.pick [0, 1, 2] [0, 1, 2, 3] [1] rfl rfl).cx⟩
 ·subst h
  by_cases hN : (wdL t).length = 4
  ·obtain ⟨a0, a1, a2, a3, hw⟩ := list4f hN
   have hb0 : a0 = plW := by rw [hw] at hx0; simpa using hx0
   subst hb0
   rw [hw] at hwz
   have za1 : a1.size ≤ 1000000 := hwz a1 (by simp)
   have za2 : a2.size ≤ 1000000 := hwz a2 (by simp)
   have za3 : a3.size ≤ 1000000 := hwz a3 (by simp)
   refine sg_ rfl (nn_ (sr_ (mv_ rfl ?_)))
   refine wl_callx (γ := Nat × Nat) (val := (fun g => .tuple #[.slice (some ⟨g.1, 0, none⟩) g.2 g.2, .bool (wdB t)])) (φ := (fun g => g.2 = 4)) (Y := (fun g => fun wy => SlT sgEnc 1 9 wy (some ⟨g.1, 0, none⟩) g.2 ([plW, a1, a2, a3]))) rfl cb68 rfl rfl (fun wx hm => (words_any t wx (hm.fact 0 rfl).1 hts).mono fun _ _ ⟨gw, k, he, h1, h2, hg⟩ => ⟨(gw, k), he, by have h := h1.len; rw [hw] at h; exact h.symm, hg, by rw [hw] at h1; exact h1⟩) (fun _ => SlT.lasts2 rfl) ?_
   rintro ⟨gw, kw⟩ hkw
   dsimp only at hkw ⊢
   subst hkw
   refine mv_ rfl (wl_ov (ov_extract rfl rfl) rfl (wl_ov (ov_extract rfl rfl) rfl (sg_ rfl (sg_ rfl (nn_ (gw_seq (gw_block (sr_ (mv_ rfl (wl_ov (ov_un_not rfl) rfl (sg_ rfl ?_)))))))))))
   refine nn_ ?_
   rcases Bool.eq_false_or_eq_true (!(wdB t)) with h1 | h1
   ·refine gw_set 17 rfl (congrArg Value.bool h1) ?_
    refine ct_ rfl (sr_ (sg_ rfl (nn_ ?_)))
    refine gw_ret ?_
    refine nx_blk_ret (nx_then_ret ?_)
    refine nx_ret1 rfl rfl fun wx hm => ?_
    exact ⟨v1, v2, v3, v4, (sl, cl, vl, pl), by rw [fIt_wd h1]; rfl, (fun x hx => by rw [fIt_wd h1] at hx; cases hx), (hm.pick [0, 1, 2] [0, 1, 2, 3] [1] rfl rfl).cx⟩
   refine gw_set 17 rfl (congrArg Value.bool h1) ?_
   have hI := fIt_go h1
   rw [hw] at hI
   refine cf_ rfl (sr_ (mv_ rfl ?_))
   refine wl_ov (ov_index (j := 0) es112 rfl rfl (by omega)) rfl ?_
   refine wl_ov (ov_elem1 (k := 0) (v := .string ⟨#[112, 108, 97, 116, 101]⟩) sc9 rfl (fun _ hm => (hm.fact 0 rfl)) (show ([plW, a1, a2, a3] : List ByteArray)[0]? = some plW from rfl) rfl rfl) rfl ?_
   refine wl_ov (ov_seql rfl rfl) rfl ?_
   refine wl_set 24 (v' := .bool false) rfl (congrArg Value.bool (by decide +kernel)) ?_
   refine mv_ rfl (goff rfl rfl rfl (goff rfl rfl rfl (goff rfl rfl rfl (pf_ rfl rfl (sg_ rfl (nn_ (cf_ rfl (sr_ (mv_ rfl ?_)))))))))
   refine wl_ov (ov_index (j := 0) es112 rfl rfl (by omega)) rfl ?_
   refine wl_ov (ov_elem1 (k := 0) (v := .string ⟨#[112, 108, 97, 116, 101]⟩) sc9 rfl (fun _ hm => (hm.fact 0 rfl)) (show ([plW, a1, a2, a3] : List ByteArray)[0]? = some plW from rfl) rfl rfl) rfl ?_
   refine wl_ov (ov_seql rfl rfl) rfl ?_
   refine wl_set 51 (v' := .bool false) rfl (congrArg Value.bool (by decide +kernel)) ?_
   refine mv_ rfl (goff rfl rfl rfl (goff rfl rfl rfl (goff rfl rfl rfl (pf_ rfl rfl (sg_ rfl (nn_ (cf_ rfl (sr_ (mv_ rfl ?_)))))))))
   refine wl_ov (ov_index (j := 0) es112 rfl rfl (by omega)) rfl ?_
   refine wl_ov (ov_elem1 (k := 0) (v := .string ⟨#[112, 108, 97, 116, 101]⟩) sc9 rfl (fun _ hm => (hm.fact 0 rfl)) (show ([plW, a1, a2, a3] : List ByteArray)[0]? = some plW from rfl) rfl rfl) rfl ?_
   refine wl_ov (ov_seql rfl rfl) rfl ?_
   refine wl_set 82 (v' := .bool false) rfl (congrArg Value.bool (by decide +kernel)) ?_
   refine mv_ rfl (goff rfl rfl rfl (goff rfl rfl rfl (goff rfl rfl rfl (pf_ rfl rfl (sg_ rfl (nn_ (cf_ rfl (sr_ (mv_ rfl ?_)))))))))
   refine wl_ov (ov_index (j := 0) es112 rfl rfl (by omega)) rfl ?_
   refine wl_ov (ov_elem1 (k := 0) (v := .string ⟨#[112, 108, 97, 116, 101]⟩) sc9 rfl (fun _ hm => (hm.fact 0 rfl)) (show ([plW, a1, a2, a3] : List ByteArray)[0]? = some plW from rfl) rfl rfl) rfl ?_
   refine wl_ov (ov_seql rfl rfl) rfl ?_
   refine wl_set 108 (v' := .bool true) rfl (congrArg Value.bool (by decide +kernel)) ?_
   refine mv_ rfl (wl_guard_on rfl rfl rfl (mv_ rfl (wl_guard_on rfl rfl rfl (wl_ov (ov_len es112 rfl) rfl ?_))))
   refine wl_set 111 (v' := .int .i64 4) rfl rfl ?_
   refine wl_guard_on rfl rfl rfl (wl_ov (ov_eql rfl rfl) rfl ?_)
   refine wl_set 112 (v' := .bool true) rfl (congrArg Value.bool (by decide)) ?_
   refine pt_ rfl rfl (sg_ rfl (nn_ (ct_ rfl (sr_ (mv_ rfl ?_)))))
   refine wl_ov (ov_index (j := 1) es112 rfl rfl (by omega)) rfl ?_
   refine wl_ov (ov_elem1 (k := 0) (v := .string a1) sc9 rfl (fun _ hm => (hm.fact 0 rfl)) (show ([plW, a1, a2, a3] : List ByteArray)[1]? = some a1 from rfl) rfl rfl) rfl ?_
   refine wl_callx (γ := Int) (val := (fun g => .tuple #[.int .i64 g, .bool (numB a1)])) (φ := (fun g => numB a1 = true → g = numV a1)) (Y := (fun g => fun _ => True)) rfl cb108 rfl rfl (fun wx hm => (number_any a1 wx (hm.fact 1 rfl).1 za1).mono fun _ _ ⟨v, he, hv, hg⟩ => ⟨v, he, hv, hg, trivial⟩) (fun _ => Lasts2.true_) ?_
   rintro nv hnv
   refine mv_ rfl (wl_ov (ov_extract rfl rfl) rfl (wl_ov (ov_extract rfl rfl) rfl (sg_ rfl (sg_ rfl (nn_ (gw_seq (sr_ (mv_ rfl (wl_ov (ov_un_not rfl) rfl (nn_ ?_))))))))))
   rcases Bool.eq_false_or_eq_true (!(numB a1)) with hb | hb
   ·refine gw_set 122 rfl (congrArg Value.bool hb) ?_
    rw [item_pl_no a2 a3 (fnot_t hb)] at hI
    refine ct_ rfl (sr_ (sg_ rfl (nn_ ?_)))
    refine gw_ret ?_
    refine nx_then_ret (nx_blk_ret (nx_then_ret ?_))
    refine nx_ret1 rfl rfl fun wx hm => ?_
    exact ⟨v1, v2, v3, v4, (sl, cl, vl, pl), by rw [hI]; rfl, (fun x hx => by rw [hI] at hx; cases hx), (hm.pick [0, 1, 2] [0, 1, 2, 3] [2] rfl rfl).cx⟩
   refine gw_set 122 rfl (congrArg Value.bool hb) ?_
   have hb := fnot_f hb
   obtain rfl := hnv hb
   rw [item_pl a2 a3 hb] at hI
   refine gw_look (R := ∃ A cc, v4 = .slice A pl.length cc) (fun wx hm => own_slice (hm.ownI 3 rfl)) ?_
   rintro ⟨A_, c_, rfl⟩
   refine cf_ rfl (gw_skip (nx_then (gw_seq ?_)))
   refine gd (fun wz => Blk wz gl 3 [.int .i64 la] ∧ Blk wz gr 66 [.slice none 0 0, .slice none 0 0, .slice none 0 0, .slice none 0 0] ∧ (fun _ => True) wz ∧ (fun wy => SlT sgEnc 1 9 wy (some ⟨gw, 0, none⟩) 4 ([plW, a1, a2, a3])) wz ∧ (TxtO w0.heap.size none) wz ∧ True) mixed (fun _ hm => ⟨hm.bl 1, hm.bl 2, hm.fa 0, hm.fa 1, hm.fa 2, trivial⟩) fun z => ?_
   refine wt 0 18 1 rfl z (ov_move rfl) ?_
   refine wt 1 18 3 rfl z (ov_move rfl) ?_
   refine wt 2 18 7 rfl z (ov_nilcheck rfl) ?_
   refine wt 3 18 15 rfl z (ov_field fo66_3 rfl rfl) ?_
   refine wt 5 18 47 rfl z (ov_move rfl) ?_
   refine wt 6 18 111 rfl z (ov_move rfl) ?_
   refine wt 7 18 239 rfl z (ov_index (j := 2) es112 rfl rfl (by omega)) ?_
   refine wt 8 18 495 rfl z (ov_elem1 (k := 0) (v := .string a2) sc9 rfl (fun _ hm => (hm.2.2.2.1)) (show ([plW, a1, a2, a3] : List ByteArray)[2]? = some a2 from rfl) rfl rfl) ?_
   refine wt 9 18 1007 rfl z (ov_move rfl) ?_
   refine wt 10 18 2031 rfl z (ov_index (j := 3) es112 rfl rfl (by omega)) ?_
   refine wt 11 18 4079 rfl z (ov_elem1 (k := 0) (v := .string a3) sc9 rfl (fun _ hm => (hm.2.2.2.1)) (show ([plW, a1, a2, a3] : List ByteArray)[3]? = some a3 from rfl) rfl rfl) ?_
   refine wt 12 18 8175 rfl z (ov_build (cs := [.int .i64 (numV a1), .string a2, .string a3]) rfl (by kernel_rfl)) ?_
   refine wa_all [4, 13] (by kernel_rfl) rfl ⟨⟨_, rfl, ?_⟩, ⟨_, rfl, ?_⟩, trivial⟩
   ·refine lk_ sc64 0 rfl rfl rfl (wl_nil ?_)
    refine nw 18 8191 (fun _ hm => ⟨hm.bl 1, hm.bl 2, hm.fa 0, hm.fa 1, hm.fa 2, trivial⟩) fun z => ?_
    refine wa1 13 rfl ?_
    refine wl_buildSlice (e := 161) (cs := [.int .i64 (numV a1), .string a2, .string a3]) rfl (by kernel_rfl) rfl fun g14 => ?_
    refine wl_nil ?_
    refine nw 18 16383 (fun _ hm => ⟨hm.bl 2, hm.bl 3, hm.fa 0, hm.fa 1, hm.fa 2, trivial⟩) fun z => ?_
    refine wa1 14 rfl ?_
    refine wl_append (news := [.int .i64 (numV a1), .string a2, .string a3]) 3 0 ap64 rfl rfl rfl rfl rfl rfl rfl (by omega) (by unfold maxLen; omega) rfl rfl fun v9 hv => ?_
    refine wl_look (R := ∃ A cc, v9 = .slice A (pl.length + 1) cc) (fun wx hm => own_slice (hm.ownI 3 rfl)) ?_
    rintro ⟨A5, c5, rfl⟩
    refine wl_nil ?_
    refine nw 18 32767 (fun _ hm => ⟨hm.bl 2, hm.bl 3, hm.fa 0, hm.fa 1, hm.fa 2, trivial⟩) fun z => ?_
    refine wt 15 18 65535 rfl z (ov_nilcheck rfl) ?_
    refine wt 16 18 131071 rfl z (ov_field fo66_3 rfl rfl) ?_
    refine wa1 17 rfl ?_
    refine wl_store 1 sc64 rfl rfl rfl rfl rfl rfl ?_
    refine wl_nil ?_
    refine nw 18 262143 (fun _ hm => ⟨hm.bl 2, hm.bl 3, hm.fa 0, hm.fa 1, hm.fa 2, trivial⟩) fun z => ?_
    refine wa_done (by kernel_rfl) ?_
    refine nx_then (sr_ (sg_ rfl (nn_ ?_)))
    refine gw_ret ?_
    refine nx_blk_ret (nx_then_ret ?_)
    rw [show pl.flatMap plEnc ++ ([.int .i64 (numV a1), .string a2, .string a3] : List Value) = (pl ++ [((⟨numV a1, a2, a3⟩ : Pl))]).flatMap plEnc from by simp [plEnc]]
    refine nx_ret1 rfl rfl fun wx hm => ?_
    refine ⟨v1, v2, v3, .slice A5 (pl.length + 1) c5, (sl, cl, vl, pl ++ [(⟨numV a1, a2, a3⟩ : Pl)]), by rw [hI]; rfl, (fun x hx => by rw [hI] at hx; cases hx; rfl), ?_⟩
    have e9 : (pl ++ [(⟨numV a1, a2, a3⟩ : Pl)]).length = pl.length + 1 := by simp
    show Mem ⟨0, w0, none, [9]⟩ (fun _ => True) (fpL gf gl gr la v1 v2 v3 (.slice A5 (pl.length + 1) c5)) [⟨v1, 168, 15, (sl).length, (sl).flatMap stEnc⟩, ⟨v2, 170, 2, (cl).length, (cl).flatMap csEnc⟩, ⟨v3, 158, 2, (vl).length, (vl).flatMap vhEnc⟩, ⟨.slice A5 (pl.length + 1) c5, 161, 3, (pl ++ [(⟨numV a1, a2, a3⟩ : Pl)]).length, (pl ++ [(⟨numV a1, a2, a3⟩ : Pl)]).flatMap plEnc⟩] [TxtO w0.heap.size none] _
    rw [e9]
    exact (hm.pick [1, 2, 3] [0, 1, 2, 3] [2] rfl rfl).cx
   refine wl_buildSlice (e := 161) (cs := [.int .i64 (numV a1), .string a2, .string a3]) rfl (by kernel_rfl) rfl fun g15 => ?_
   refine wl_nil ?_
   refine nw 18 16367 (fun _ hm => ⟨hm.bl 2, hm.bl 3, hm.fa 0, hm.fa 1, hm.fa 2, trivial⟩) fun z => ?_
   refine wa1 4 rfl ?_
   refine lk_ sc64 1 rfl rfl rfl (wl_nil ?_)
   refine nw 18 16383 (fun _ hm => ⟨hm.bl 2, hm.bl 3, hm.fa 0, hm.fa 1, hm.fa 2, trivial⟩) fun z => ?_
   refine wa1 14 rfl ?_
   refine wl_append (news := [.int .i64 (numV a1), .string a2, .string a3]) 3 0 ap64 rfl rfl rfl rfl rfl rfl rfl (by omega) (by unfold maxLen; omega) rfl rfl fun v9 hv => ?_
   refine wl_look (R := ∃ A cc, v9 = .slice A (pl.length + 1) cc) (fun wx hm => own_slice (hm.ownI 3 rfl)) ?_
   rintro ⟨A5, c5, rfl⟩
   refine wl_nil ?_
   refine nw 18 32767 (fun _ hm => ⟨hm.bl 2, hm.bl 3, hm.fa 0, hm.fa 1, hm.fa 2, trivial⟩) fun z => ?_
   refine wt 15 18 65535 rfl z (ov_nilcheck rfl) ?_
   refine wt 16 18 131071 rfl z (ov_field fo66_3 rfl rfl) ?_
   refine wa1 17 rfl ?_
   refine wl_store 1 sc64 rfl rfl rfl rfl rfl rfl ?_
   refine wl_nil ?_
   refine nw 18 262143 (fun _ hm => ⟨hm.bl 2, hm.bl 3, hm.fa 0, hm.fa 1, hm.fa 2, trivial⟩) fun z => ?_
   refine wa_done (by kernel_rfl) ?_
   refine nx_then (sr_ (sg_ rfl (nn_ ?_)))
   refine gw_ret ?_
   refine nx_blk_ret (nx_then_ret ?_)
   rw [show pl.flatMap plEnc ++ ([.int .i64 (numV a1), .string a2, .string a3] : List Value) = (pl ++ [((⟨numV a1, a2, a3⟩ : Pl))]).flatMap plEnc from by simp [plEnc]]
   refine nx_ret1 rfl rfl fun wx hm => ?_
   refine ⟨v1, v2, v3, .slice A5 (pl.length + 1) c5, (sl, cl, vl, pl ++ [(⟨numV a1, a2, a3⟩ : Pl)]), by rw [hI]; rfl, (fun x hx => by rw [hI] at hx; cases hx; rfl), ?_⟩
   have e9 : (pl ++ [(⟨numV a1, a2, a3⟩ : Pl)]).length = pl.length + 1 := by simp
   show Mem ⟨0, w0, none, [9]⟩ (fun _ => True) (fpL gf gl gr la v1 v2 v3 (.slice A5 (pl.length + 1) c5)) [⟨v1, 168, 15, (sl).length, (sl).flatMap stEnc⟩, ⟨v2, 170, 2, (cl).length, (cl).flatMap csEnc⟩, ⟨v3, 158, 2, (vl).length, (vl).flatMap vhEnc⟩, ⟨.slice A5 (pl.length + 1) c5, 161, 3, (pl ++ [(⟨numV a1, a2, a3⟩ : Pl)]).length, (pl ++ [(⟨numV a1, a2, a3⟩ : Pl)]).flatMap plEnc⟩] [TxtO w0.heap.size none] _
   rw [e9]
   exact (hm.pick [1, 2, 3] [0, 1, 2, 3] [2] rfl rfl).cx
  refine sg_ rfl (nn_ (sr_ (mv_ rfl ?_)))
  refine wl_callx (γ := Nat × Nat) (val := (fun g => .tuple #[.slice (some ⟨g.1, 0, none⟩) g.2 g.2, .bool (wdB t)])) (φ := (fun g => g.2 = (wdL t).length ∧ 1 ≤ g.2 ∧ g.2 ≤ t.size + 1)) (Y := (fun g => fun wy => SlT sgEnc 1 9 wy (some ⟨g.1, 0, none⟩) g.2 (wdL t))) rfl cb68 rfl rfl (fun wx hm => (words_any t wx (hm.fact 0 rfl).1 hts).mono fun _ _ ⟨gw, k, he, h1, h2, hg⟩ => ⟨(gw, k), he, ⟨h1.len.symm, h2⟩, hg, h1⟩) (fun _ => SlT.lasts2 rfl) ?_
  rintro ⟨gw, kw⟩ hkw
  dsimp only at hkw ⊢
  obtain ⟨hkl, hk1, hk2⟩ := hkw
  refine mv_ rfl (wl_ov (ov_extract rfl rfl) rfl (wl_ov (ov_extract rfl rfl) rfl (sg_ rfl (sg_ rfl (nn_ (gw_seq (gw_block (sr_ (mv_ rfl (wl_ov (ov_un_not rfl) rfl (sg_ rfl ?_)))))))))))
  refine nn_ ?_
  rcases Bool.eq_false_or_eq_true (!(wdB t)) with h1 | h1
  ·refine gw_set 17 rfl (congrArg Value.bool h1) ?_
   refine ct_ rfl (sr_ (sg_ rfl (nn_ ?_)))
   refine gw_ret ?_
   refine nx_blk_ret (nx_then_ret ?_)
   refine nx_ret1 rfl rfl fun wx hm => ?_
   exact ⟨v1, v2, v3, v4, (sl, cl, vl, pl), by rw [fIt_wd h1]; rfl, (fun x hx => by rw [fIt_wd h1] at hx; cases hx), (hm.pick [0, 1, 2] [0, 1, 2, 3] [1] rfl rfl).cx⟩
  refine gw_set 17 rfl (congrArg Value.bool h1) ?_
  have hI : fIt t = none := (fIt_go h1).trans (fItem_bad hx0 (fun h => ⟨by decide +kernel, by decide +kernel⟩) (fun h => absurd h hN) (fun h => by decide +kernel))
  refine cf_ rfl (sr_ (mv_ rfl ?_))
  refine wl_ov (ov_index (j := 0) es112 rfl rfl (by omega)) rfl ?_
  refine wl_ov (ov_elem1 (k := 0) (v := .string ⟨#[112, 108, 97, 116, 101]⟩) sc9 rfl (fun _ hm => (hm.fact 0 rfl)) hx0 rfl rfl) rfl ?_
  refine wl_ov (ov_seql rfl rfl) rfl ?_
  refine wl_set 24 (v' := .bool false) rfl (congrArg Value.bool (by decide +kernel)) ?_
  refine mv_ rfl (goff rfl rfl rfl (goff rfl rfl rfl (goff rfl rfl rfl (pf_ rfl rfl (sg_ rfl (nn_ (cf_ rfl (sr_ (mv_ rfl ?_)))))))))
  refine wl_ov (ov_index (j := 0) es112 rfl rfl (by omega)) rfl ?_
  refine wl_ov (ov_elem1 (k := 0) (v := .string ⟨#[112, 108, 97, 116, 101]⟩) sc9 rfl (fun _ hm => (hm.fact 0 rfl)) hx0 rfl rfl) rfl ?_
  refine wl_ov (ov_seql rfl rfl) rfl ?_
  refine wl_set 51 (v' := .bool false) rfl (congrArg Value.bool (by decide +kernel)) ?_
  refine mv_ rfl (goff rfl rfl rfl (goff rfl rfl rfl (goff rfl rfl rfl (pf_ rfl rfl (sg_ rfl (nn_ (cf_ rfl (sr_ (mv_ rfl ?_)))))))))
  refine wl_ov (ov_index (j := 0) es112 rfl rfl (by omega)) rfl ?_
  refine wl_ov (ov_elem1 (k := 0) (v := .string ⟨#[112, 108, 97, 116, 101]⟩) sc9 rfl (fun _ hm => (hm.fact 0 rfl)) hx0 rfl rfl) rfl ?_
  refine wl_ov (ov_seql rfl rfl) rfl ?_
  refine wl_set 82 (v' := .bool false) rfl (congrArg Value.bool (by decide +kernel)) ?_
  refine mv_ rfl (goff rfl rfl rfl (goff rfl rfl rfl (goff rfl rfl rfl (pf_ rfl rfl (sg_ rfl (nn_ (cf_ rfl (sr_ (mv_ rfl ?_)))))))))
  refine wl_ov (ov_index (j := 0) es112 rfl rfl (by omega)) rfl ?_
  refine wl_ov (ov_elem1 (k := 0) (v := .string ⟨#[112, 108, 97, 116, 101]⟩) sc9 rfl (fun _ hm => (hm.fact 0 rfl)) hx0 rfl rfl) rfl ?_
  refine wl_ov (ov_seql rfl rfl) rfl ?_
  refine wl_set 108 (v' := .bool true) rfl (congrArg Value.bool (by decide +kernel)) ?_
  refine mv_ rfl (wl_guard_on rfl rfl rfl (mv_ rfl (wl_guard_on rfl rfl rfl (wl_ov (ov_len es112 rfl) rfl (wl_guard_on rfl rfl rfl (wl_ov (ov_eql rfl rfl) rfl (pt_ rfl rfl (sg_ rfl (nn_ ?_)))))))))
  refine gw_set 104 (v' := .bool false) rfl (congrArg Value.bool (decide_eq_false (by omega))) ?_
  refine cf_ rfl (gw_skip (nx_blk_nrm (nx_then (sr_ (sg_ rfl (nn_ ?_))))))
  refine gw_ret ?_
  refine nx_ret1 rfl rfl fun wx hm => ?_
  exact ⟨v1, v2, v3, v4, (sl, cl, vl, pl), by rw [hI]; rfl, (fun x hx => by rw [hI] at hx; cases hx), (hm.pick [0, 1, 2] [0, 1, 2, 3] [1] rfl rfl).cx⟩
 refine sg_ rfl (nn_ (sr_ (mv_ rfl ?_)))
 refine wl_callx (γ := Nat × Nat) (val := (fun g => .tuple #[.slice (some ⟨g.1, 0, none⟩) g.2 g.2, .bool (wdB t)])) (φ := (fun g => g.2 = (wdL t).length ∧ 1 ≤ g.2 ∧ g.2 ≤ t.size + 1)) (Y := (fun g => fun wy => SlT sgEnc 1 9 wy (some ⟨g.1, 0, none⟩) g.2 (wdL t))) rfl cb68 rfl rfl (fun wx hm => (words_any t wx (hm.fact 0 rfl).1 hts).mono fun _ _ ⟨gw, k, he, h1, h2, hg⟩ => ⟨(gw, k), he, ⟨h1.len.symm, h2⟩, hg, h1⟩) (fun _ => SlT.lasts2 rfl) ?_
 rintro ⟨gw, kw⟩ hkw
 dsimp only at hkw ⊢
 obtain ⟨hkl, hk1, hk2⟩ := hkw
 refine mv_ rfl (wl_ov (ov_extract rfl rfl) rfl (wl_ov (ov_extract rfl rfl) rfl (sg_ rfl (sg_ rfl (nn_ (gw_seq (gw_block (sr_ (mv_ rfl (wl_ov (ov_un_not rfl) rfl (sg_ rfl ?_)))))))))))
 refine nn_ ?_
 rcases Bool.eq_false_or_eq_true (!(wdB t)) with h1 | h1
 ·refine gw_set 17 rfl (congrArg Value.bool h1) ?_
  refine ct_ rfl (sr_ (sg_ rfl (nn_ ?_)))
  refine gw_ret ?_
  refine nx_blk_ret (nx_then_ret ?_)
  refine nx_ret1 rfl rfl fun wx hm => ?_
  exact ⟨v1, v2, v3, v4, (sl, cl, vl, pl), by rw [fIt_wd h1]; rfl, (fun x hx => by rw [fIt_wd h1] at hx; cases hx), (hm.pick [0, 1, 2] [0, 1, 2, 3] [1] rfl rfl).cx⟩
 refine gw_set 17 rfl (congrArg Value.bool h1) ?_
 have hI : fIt t = none := (fIt_go h1).trans (fItem_bad hx0 (fun _ => ⟨n2, n3⟩) (fun _ => n4) (fun _ => n1))
 refine cf_ rfl (sr_ (mv_ rfl ?_))
 refine wl_ov (ov_index (j := 0) es112 rfl rfl (by omega)) rfl ?_
 refine wl_ov (ov_elem1 (k := 0) (v := .string a0) sc9 rfl (fun _ hm => (hm.fact 0 rfl)) hx0 rfl rfl) rfl ?_
 refine wl_ov (ov_seql rfl rfl) rfl (mv_ rfl ?_)
 refine wl_set 25 (v' := .bool false) rfl (congrArg Value.bool n1) ?_
 refine goff rfl rfl rfl (goff rfl rfl rfl (goff rfl rfl rfl (pf_ rfl rfl (sg_ rfl (nn_ (cf_ rfl (sr_ (mv_ rfl ?_))))))))
 refine wl_ov (ov_index (j := 0) es112 rfl rfl (by omega)) rfl ?_
 refine wl_ov (ov_elem1 (k := 0) (v := .string a0) sc9 rfl (fun _ hm => (hm.fact 0 rfl)) hx0 rfl rfl) rfl ?_
 refine wl_ov (ov_seql rfl rfl) rfl (mv_ rfl ?_)
 refine wl_set 52 (v' := .bool false) rfl (congrArg Value.bool n2) ?_
 refine goff rfl rfl rfl (goff rfl rfl rfl (goff rfl rfl rfl (pf_ rfl rfl (sg_ rfl (nn_ (cf_ rfl (sr_ (mv_ rfl ?_))))))))
 refine wl_ov (ov_index (j := 0) es112 rfl rfl (by omega)) rfl ?_
 refine wl_ov (ov_elem1 (k := 0) (v := .string a0) sc9 rfl (fun _ hm => (hm.fact 0 rfl)) hx0 rfl rfl) rfl ?_
 refine wl_ov (ov_seql rfl rfl) rfl (mv_ rfl ?_)
 refine wl_set 83 (v' := .bool false) rfl (congrArg Value.bool n3) ?_
 refine goff rfl rfl rfl (goff rfl rfl rfl (goff rfl rfl rfl (pf_ rfl rfl (sg_ rfl (nn_ (cf_ rfl (sr_ (mv_ rfl ?_))))))))
 refine wl_ov (ov_index (j := 0) es112 rfl rfl (by omega)) rfl ?_
 refine wl_ov (ov_elem1 (k := 0) (v := .string a0) sc9 rfl (fun _ hm => (hm.fact 0 rfl)) hx0 rfl rfl) rfl ?_
 refine wl_ov (ov_seql rfl rfl) rfl (mv_ rfl ?_)
 refine wl_set 109 (v' := .bool false) rfl (congrArg Value.bool n4) ?_
 refine goff rfl rfl rfl (goff rfl rfl rfl (goff rfl rfl rfl (pf_ rfl rfl (sg_ rfl (nn_ (cf_ rfl (gw_skip (nx_blk_nrm (nx_then (sr_ (sg_ rfl ?_)))))))))))
 refine nn_ ?_
 refine gw_ret ?_
 refine nx_ret1 rfl rfl fun wx hm => ?_
 exact ⟨v1, v2, v3, v4, (sl, cl, vl, pl), by rw [hI]; rfl, (fun x hx => by rw [hI] at hx; cases hx), (hm.pick [0, 1, 2] [0, 1, 2, 3] [1] rfl rfl).cx⟩
theorem fRead1_w (t : ByteArray) (w0 w : World) (gf gl gr : Nat) (la : Int) (v1 v2 v3 v4 : Value) (sl : List St) (cl : List Cs) (vl : List Vh) (pl : List Pl) (hts : t.size ≤ 1000000) (bsl : sl.length ≤ 1000000) (bcl : cl.length ≤ 1000000) (bvl : vl.length ≤ 1000000) (bpl : pl.length ≤ 1000000) (hla : 1 ≤ la) (hm : Mem ⟨0, w0, none, [9]⟩ (fun _ => True) (fpL gf gl gr la v1 v2 v3 v4) (fpO (sl, cl, vl, pl) v1 v2 v3 v4) [TxtO w0.heap.size none] w) :
  Calls Tryz.prog 129 #[.string t, .pointer (some ⟨gf, 0, none⟩), .pointer (some ⟨gl, 0, none⟩)] w (fun e w' => ∃ (u1 u2 u3 u4 : Value) (st' : FsZ), e = .returned (.bool (fStep t ⟨sl, cl, vl, pl, la⟩).2) ∧ ((fStep t ⟨sl, cl, vl, pl, la⟩).2 = true → st' = (fStep t ⟨sl, cl, vl, pl, la⟩).1) ∧ Mem ⟨0, w0, none, [9]⟩ (fun _ => True) (fpL gf gl gr st'.last u1 u2 u3 u4) (fpO (f4 st') u1 u2 u3 u4) [TxtO w0.heap.size none] w') := by
 replace hm : Mem ⟨0, w0, none, [9]⟩ (fun _ => True) [(gf, 66, [v1, v2, v3, v4]), (gl, 3, [.int .i64 la]), (gr, 66, [.slice none 0 0, .slice none 0 0, .slice none 0 0, .slice none 0 0])] [⟨v1, 168, 15, sl.length, sl.flatMap stEnc⟩, ⟨v2, 170, 2, cl.length, cl.flatMap csEnc⟩, ⟨v3, 158, 2, vl.length, vl.flatMap vhEnc⟩, ⟨v4, 161, 3, pl.length, pl.flatMap plEnc⟩] [TxtO w0.heap.size none] w := hm
 refine gw_enter ⟨12, w0, none, [9]⟩ Tryz.func129 rfl Tryz.ntmps129 rfl hm.cx ?_
 refine sr_ (sg_ rfl (nn_ (sr_ (mv_ rfl ?_))))
 refine wl_callG (γ := Value × Value × Value × Value × (List St × List Cs × List Vh × List Pl)) (val := fun _ => .int .i64 (itK (fIt t))) (φ := fun z => ∀ x, fIt t = some x → z.2.2.2.2 = f4 (fPush ⟨sl, cl, vl, pl, 0⟩ x)) (K' := fun _ => (fun _ => True)) (L' := fun z => [(gf, 66, [z.1, z.2.1, z.2.2.1, z.2.2.2.1]), (gl, 3, [.int .i64 la]), (gr, 66, [.slice none 0 0, .slice none 0 0, .slice none 0 0, .slice none 0 0])]) (O' := fun z => [⟨z.1, 168, 15, z.2.2.2.2.1.length, z.2.2.2.2.1.flatMap stEnc⟩, ⟨z.2.1, 170, 2, z.2.2.2.2.2.1.length, z.2.2.2.2.2.1.flatMap csEnc⟩, ⟨z.2.2.1, 158, 2, z.2.2.2.2.2.2.1.length, z.2.2.2.2.2.2.1.flatMap vhEnc⟩, ⟨z.2.2.2.1, 161, 3, z.2.2.2.2.2.2.2.length, z.2.2.2.2.2.2.2.flatMap plEnc⟩]) (X' := fun _ => [TxtO w0.heap.size none]) rfl cb130 rfl rfl (fun wx hm => (take_w t w0 wx gf gl gr la v1 v2 v3 v4 sl cl vl pl hts bsl bcl bvl bpl (hm.pick [0, 1, 2] [0, 1, 2, 3] [0] rfl rfl).cx).mono fun e w' ⟨u1, u2, u3, u4, q, he, h1, hM⟩ => ⟨(u1, u2, u3, u4, q), he, h1, hM.cx⟩) ?_
 rintro ⟨u1, u2, u3, u4, q⟩ hq
 dsimp only at hq ⊢
 obtain ⟨KD, hKD⟩ : ∃ z, z = itK (fIt t) := ⟨_, rfl⟩
 rw [← hKD]
 refine sg_ rfl (nn_ (gw_seq (sr_ (mv_ rfl (lk_ sc3 1 rfl rfl rfl (wl_ov (ov_lss rfl rfl) rfl (nn_ ?_)))))))
 refine gw_cond rfl (fun hh => ?_) (fun hh => ?_)
 ·have hk : KD < la := by simpa using hh
  clear hh
  refine sr_ ?_
  have hN : (fStep t ⟨sl, cl, vl, pl, la⟩).2 = false := by
   cases hi : fIt t with
   | none => rw [fStep_no hi]
   | some x =>
    rw [hi] at hKD
    have e : KD = x.kd := hKD
    rw [fStep_low (s := ⟨sl, cl, vl, pl, la⟩) hi (show x.kd < la by rw [← e]; exact hk)]
  refine sg_ rfl (nn_ ?_)
  refine gw_ret ?_
  refine nx_then_ret ?_
  refine nx_ret1 rfl rfl fun wx hm => ?_
  exact ⟨u1, u2, u3, u4, ⟨q.1, q.2.1, q.2.2.1, q.2.2.2, la⟩, by rw [hN], (fun h => by rw [hN] at h; cases h), (hm.pick [0, 1, 2] [0, 1, 2, 3] [0] rfl rfl).cx⟩
 have hk : ¬ (KD < la) := by simpa using hh
 clear hh
 refine gw_skip (nx_then (sr_ (mv_ rfl ?_)))
 refine wl_store 1 sc3 rfl rfl rfl rfl rfl rfl ?_
 refine nn_ (sr_ (sg_ rfl (nn_ ?_)))
 refine gw_ret ?_
 obtain ⟨x, hi⟩ : ∃ x, fIt t = some x := by
  cases hi : fIt t with
  | none => rw [hi] at hKD; exact absurd (show KD < la by rw [hKD]; show (0 : Int) < la; omega) hk
  | some x => exact ⟨x, rfl⟩
 have hKx : KD = x.kd := by rw [hKD, hi]; rfl
 have hY := fStep_yes (s := ⟨sl, cl, vl, pl, la⟩) hi (show ¬ x.kd < la by rw [← hKx]; exact hk)
 obtain rfl := hq x hi
 refine nx_ret1 rfl rfl fun wx hm => ?_
 refine ⟨u1, u2, u3, u4, fPush ⟨sl, cl, vl, pl, la⟩ x, by rw [hY], (fun _ => by rw [hY]), ?_⟩
 show Mem ⟨0, w0, none, [9]⟩ (fun _ => True) (fpL gf gl gr (fPush ⟨sl, cl, vl, pl, la⟩ x).last u1 u2 u3 u4) (fpO (f4 (fPush ⟨sl, cl, vl, pl, la⟩ x)) u1 u2 u3 u4) [TxtO w0.heap.size none] _
 rw [push_last, ← hKx, push_f4 ⟨sl, cl, vl, pl, la⟩ ⟨sl, cl, vl, pl, 0⟩ x rfl]
 exact (hm.pick [0, 1, 2] [0, 1, 2, 3] [0] rfl rfl).cx
end Go.Proofs.YtnpcbfllnkiopaaGreatDoor
namespace Go.Proofs.YtnpcbfllnkiopaaGreatDoor
open Go.RowKit
def fpR (gf gr : Nat) (pa : Int) (v1 v2 v3 v4 : Value) : List (Nat × TypeId × List Value) := [(gf, 181, [v1, v2, v3, v4, .int .i64 pa]), (gr, 66, [.slice none 0 0, .slice none 0 0, .slice none 0 0, .slice none 0 0])]
theorem ownBlk {w : World} {base g n : Nat} {T : TypeId} {xs : List Value} (hb : Blk w g T xs) (h : base ≤ g) (hn : xs.length = n) (hm : n ≤ maxLen) : w.ownsRow base T 1 (.slice (some ⟨g, 0, none⟩) n n) n xs :=
  ⟨by omega, .inr ⟨g, n, xs.toArray, rfl, h, hb, Nat.le_refl _, hm, by simp [hn], by simp [← hn]⟩⟩
theorem blkL2 {N : Nat} {row : Option Nat} {Tt : List TypeId} {g : Nat} {T : TypeId} {cs : List Value} (hT : Tt.contains T = true) : Lasts2 N row Tt (fun w => Blk w g T cs) :=
  ⟨fun _ _ h hx => hx.grown h (by simp), fun w w' r T' c h1 h2 _ h3 hx => hx.grown h3 (fun e => by
    injection e with e
    subst e
    have h4 : w.heap[g]? = some (.cells cs.toArray T (0, 0)) := hx
    rw [h4] at h1
    injection h1 with h1
    injection h1 with h5 h6
    subst h6
    exact h2 (by simpa using hT))⟩
theorem sg_flat (l : List ByteArray) : (l.flatMap sgEnc).length = l.length := by rw [flat_len sgEnc 1 sg_len]; omega
theorem split_blk (s sep : ByteArray) (w : World) (ht : TxtW w) (hs : s.size ≤ 1000000) (h1 : 1 ≤ sep.size) :
    Calls Tryz.prog 164 #[.string s, .string sep] w (fun e w' => ∃ g n, e = .returned (.slice (some ⟨g, 0, none⟩) n n) ∧ Blk w' g 9 ((wordsL s sep).flatMap sgEnc) ∧ (w.heap.size ≤ g ∧ n = (wordsL s sep).length ∧ 1 ≤ n ∧ n ≤ s.size + 1) ∧ w.grownBy w' none) := by
  obtain ⟨mx, hm⟩ := ht.max
  refine (Any.strings_Split Tryz.lays146 (by kernel_rfl) s sep mx w (by omega) hm h1).mono fun e w' ⟨he, hw⟩ => ⟨w.heap.size, Lib.countB s sep + 1, he, ?_, ⟨Nat.le_refl _, (words_len s sep h1).symm, by omega, ?_⟩, ?_⟩
  · have e1 : (wordsL s sep).flatMap sgEnc = (wordsL s sep).map Value.string := by
      induction wordsL s sep with
      | nil => rfl
      | cons x r ih => rw [List.flatMap_cons, ih]; rfl
    rw [e1, hw]
    show (w.heap.push _)[w.heap.size]? = _
    rw [Array.getElem?_push_size]; rfl
  · have := Lib.countB_le sep h1 s.size s (Nat.le_refl _); omega
  · rw [hw]; exact grow_alloc grow_self _
def kwd (x : FIt) : ByteArray := match x with
  | .st _ => stW
  | .cs _ => clW
  | .vh _ => vhW
  | .pl _ => plW
theorem fItem_kd {l : List ByteArray} {x : FIt} (h : fItem l = some x) : l[0]? = some (kwd x) := by
  unfold fItem at h
  split at h
  · split at h
    · rename_i e; cases h; rw [eqS_iff.1 e]; rfl
    · split at h
      · rename_i e; cases h; rw [eqS_iff.1 e]; rfl
      · cases h
  · split at h
    · rename_i e; cases h; simp only [Bool.and_eq_true] at e; rw [eqS_iff.1 e.1]; rfl
    · cases h
  · split at h
    · rename_i e; cases h; simp only [Bool.and_eq_true] at e; rw [eqS_iff.1 e.1]; rfl
    · cases h
  · cases h
theorem kwd_kd {x : FIt} {k : Int} {a : ByteArray} (h : kwd x = a) (h1 : eqS stW a = true → k = 1) (h2 : eqS clW a = true → k = 2) (h3 : eqS vhW a = true → k = 3) (h4 : eqS plW a = true → k = 4) : x.kd = k := by
  subst h
  cases x with
  | st y => exact (h1 (show eqS stW stW = true by decide +kernel)).symm
  | cs y => exact (h2 (show eqS clW clW = true by decide +kernel)).symm
  | vh y => exact (h3 (show eqS vhW vhW = true by decide +kernel)).symm
  | pl y => exact (h4 (show eqS plW plW = true by decide +kernel)).symm
theorem st_low {t a : ByteArray} {l : List ByteArray} {s : FsZ} {k : Int} (hI : fIt t = fItem l) (h0 : l[0]? = some a) (h1 : eqS stW a = true → k = 1) (h2 : eqS clW a = true → k = 2) (h3 : eqS vhW a = true → k = 3) (h4 : eqS plW a = true → k = 4) (hk : k < s.last) : (fStep t s).2 = false := by
  cases hi : fIt t with
  | none => rw [fStep_no hi]
  | some x =>
    rw [hI] at hi
    have e := fItem_kd hi
    rw [h0] at e
    have e2 := kwd_kd (Option.some.inj e).symm h1 h2 h3 h4
    rw [fStep_low (hI.trans hi) (by omega)]
theorem ix4_no {a0 : ByteArray} (n1 : eqS a0 stW = false) (n2 : eqS a0 clW = false) (n3 : eqS a0 vhW = false) (n4 : eqS a0 plW = false) : ixP (eqP a0) [⟨#[115, 116, 97, 116, 105, 111, 110]⟩, ⟨#[99, 108, 97, 115, 115]⟩, ⟨#[118, 101, 104, 105, 99, 108, 101]⟩, ⟨#[112, 108, 97, 116, 101]⟩] 0 = -1 := by
  unfold eqS stW at n1
  unfold eqS clW at n2
  unfold eqS vhW at n3
  unfold eqS plW at n4
  unfold ixP ixP ixP ixP ixP eqP
  rw [n1, n2, n3, n4]; rfl
theorem rwords_blk (s : ByteArray) (w : World) (ht : TxtW w) (hs : s.size ≤ 1000000) :
  Calls Tryz.prog 72 #[.string s] w (fun e w' => ∃ g n, e = .returned (.tuple #[.slice (some ⟨g, 0, none⟩) n n, .bool (wdB s)]) ∧ Blk w' g 9 ((wdL s).flatMap sgEnc) ∧ (w.heap.size ≤ g ∧ n = (wdL s).length ∧ 1 ≤ n ∧ n ≤ s.size + 1) ∧ w.grownBy w' none) := by
 refine gw_enter ⟨11, w, none, [9]⟩ Tryz.func72 rfl Tryz.ntmps72 rfl (mem0 (X := [TxtO w.heap.size none]) (allF_cons ht.old allF_nil) (allL_cons TxtO.lasts allL_nil)) ?_
 refine sr_ (sg_ rfl (sg_ rfl (nn_ (sr_ (mv_ rfl ?_)))))
 refine wl_callx (γ := Nat × Nat) (val := (fun g => .slice (some ⟨g.1, 0, none⟩) g.2 g.2)) (φ := (fun g => w.heap.size ≤ g.1 ∧ g.2 = (wdL s).length ∧ 1 ≤ g.2 ∧ g.2 ≤ s.size + 1)) (Y := (fun g => fun wy => Blk wy g.1 9 ((wdL s).flatMap sgEnc))) rfl cb164 rfl rfl (fun wx hm => (split_blk s ⟨#[32]⟩ wx (hm.fact 0 rfl).1 hs (by decide)).mono fun _ _ ⟨g, n, he, h1, h2, hg⟩ => ⟨(g, n), he, ⟨Nat.le_trans hm.g.size h2.1, h2.2⟩, hg, h1⟩) (fun _ => blkL2 rfl) ?_
 rintro ⟨g, n⟩ hn
 dsimp only at hn ⊢
 obtain ⟨hg0, hn0, hn1, hn2⟩ := hn
 refine sg_ rfl (nn_ (sr_ (mv_ rfl (mv_ rfl ?_))))
 refine wl_callv rfl cb165 rfl rfl (fun wx hm => (tContains_any (wdL s) (some ⟨g, 0, none⟩) n n ⟨#[]⟩ wx (by have h := SlT.ofBlk (l := wdL s) sg_len (hm.fact 0 rfl); rw [← hn0] at h; exact h) (by omega))) ?_
 refine wl_ov (ov_un_not rfl) rfl (sg_ rfl (sg_ rfl (nn_ ?_)))
 refine gw_ret ?_
 refine nx_ret2 rfl rfl rfl fun wx hm => ?_
 exact ⟨g, n, rfl, (hm.fact 0 rfl), ⟨hg0, hn0, hn1, hn2⟩, hm.g⟩
theorem rwords_own (s : ByteArray) (w : World) (ht : TxtW w) (hs : s.size ≤ 1000000) :
    Calls Tryz.prog 72 #[.string s] w (fun e w' => ∃ g n, e = .returned (.tuple #[.slice (some ⟨g, 0, none⟩) n n, .bool (wdB s)]) ∧ w'.ownsRow w.heap.size 9 1 (.slice (some ⟨g, 0, none⟩) n n) n ((wdL s).flatMap sgEnc) ∧ (n = (wdL s).length ∧ 1 ≤ n ∧ n ≤ s.size + 1) ∧ w.grownBy w' none) :=
  (rwords_blk s w ht hs).mono fun _ _ ⟨g, n, he, hb, ⟨h0, h1, h2, h3⟩, hg⟩ => ⟨g, n, he, ownBlk hb h0 (by rw [sg_flat]; exact h1.symm) (by unfold maxLen; omega), ⟨h1, h2, h3⟩, hg⟩
section
variable {c : Cx} {K : World → Prop} {L : List (Nat × TypeId × List Value)} {O : List Own} {X : List (World → Prop)} {w w' : World}
theorem Mem.newAt (h : Mem c K L O X w) (hg : w.grownBy w' none) {g : Nat} {T : TypeId} {cs : List Value} (hge : w.heap.size ≤ g) (hB : Blk w' g T cs) : Mem c K ((g, T, cs) :: L) O X w' := by
  have h2 := h.grow hg
  refine ⟨h2.g, h2.k, fun x hx => ?_, List.Pairwise.cons (fun y hy e => by have h3 := (h.b y hy).2.lt; have e2 : g = y.1 := e; omega) h.nd, h2.o, fun r hr x hx => ?_, h.oo, h2.x, h.kk, h.l, h.rs⟩
  · rcases List.mem_cons.1 hx with rfl | hx
    · exact ⟨Nat.le_trans h.g.size hge, hB⟩
    · exact h2.b x hx
  · rcases List.mem_cons.1 hx with rfl | hx
    · intro e
      have h1 := ((h.o r hr).lt _ e).2
      have h2 : g < w.heap.size := h1
      omega
    · exact h.od r hr x hx
end
theorem nwin1 {x : ByteArray} (h : (!numB (cutD x).1) = true) : winB x = false := win_no2 (by rw [List.all_cons, fnot_t h]; rfl)
theorem nwin2 {x : ByteArray} (h : (!numB (cutD x).2.1) = true) : winB x = false := win_no2 (by rw [List.all_cons, List.all_cons, fnot_t h, Bool.false_and, Bool.and_false])
theorem nwin5 {x : ByteArray} (h1 : numB (cutD x).1 = true) (h2 : numB (cutD x).2.1 = true) (h3 : ¬ wF x < 0) (h4 : ¬ wT x < 0) : winB x = true := win_yes (win_cut h2) (by rw [List.all_cons, List.all_cons, h1, h2]; rfl) h3 h4
theorem fRline_w (t : ByteArray) (w0 w : World) (gf gr : Nat) (pa : Int) (v1 v2 v3 v4 : Value) (sl : List St) (cl : List Cs) (vl : List Vh) (pl : List Pl) (hts : t.size ≤ 1000000) (bsl : sl.length ≤ 1000000) (bcl : cl.length ≤ 1000000) (bvl : vl.length ≤ 1000000) (bpl : pl.length ≤ 1000000) (hpa : 0 ≤ pa) (hm : Mem ⟨0, w0, none, []⟩ (fun _ => True) (fpR gf gr pa v1 v2 v3 v4) (fpO (sl, cl, vl, pl) v1 v2 v3 v4) [TxtO w0.heap.size none] w) :
  Calls Tryz.prog 131 #[.pointer (some ⟨gf, 0, none⟩), .string t] w (fun e w' => ∃ (u1 u2 u3 u4 : Value) (pa' : Int) (st' : FsZ), e = .returned (.bool (fStep t ⟨sl, cl, vl, pl, pa + 1⟩).2) ∧ ((fStep t ⟨sl, cl, vl, pl, pa + 1⟩).2 = true → st' = (fStep t ⟨sl, cl, vl, pl, pa + 1⟩).1 ∧ pa' + 1 = st'.last) ∧ Mem ⟨0, w0, none, []⟩ (fun _ => True) (fpR gf gr pa' u1 u2 u3 u4) (fpO (f4 st') u1 u2 u3 u4) [TxtO w0.heap.size none] w') := by
 replace hm : Mem ⟨0, w0, none, []⟩ (fun _ => True) [(gf, 181, [v1, v2, v3, v4, .int .i64 pa]), (gr, 66, [.slice none 0 0, .slice none 0 0, .slice none 0 0, .slice none 0 0])] [⟨v1, 168, 15, sl.length, sl.flatMap stEnc⟩, ⟨v2, 170, 2, cl.length, cl.flatMap csEnc⟩, ⟨v3, 158, 2, vl.length, vl.flatMap vhEnc⟩, ⟨v4, 161, 3, pl.length, pl.flatMap plEnc⟩] [TxtO w0.heap.size none] w := hm
 refine gw_enter ⟨188, w0, none, []⟩ Tryz.func131 rfl Tryz.ntmps131 rfl hm.cx ?_
 refine sr_ ?_
 have hpos := wd_pos t
 have hwz : ∀ y ∈ wdL t, y.size ≤ 1000000 := fun y hy => Nat.le_trans (wdL_sz t y hy) hts
 obtain ⟨a0, hx0⟩ : ∃ x, (wdL t)[0]? = some x := ⟨_, List.getElem?_eq_getElem (by omega)⟩
 rcases a0_cases a0 with h | h | h | h | ⟨n1, n2, n3, n4⟩
 ·subst h
  by_cases hN_ : (wdL t).length = 9
  ·obtain ⟨a0, a1, x0, x1, x2, x3, x4, x5, x6, hw⟩ := list9f hN_
   have hb0 : a0 = stW := by rw [hw] at hx0; simpa using hx0
   subst hb0
   rw [hw] at hwz
   have za1 : a1.size ≤ 1000000 := hwz a1 (by simp)
   have zx0 : x0.size ≤ 1000000 := hwz x0 (by simp)
   have zx1 : x1.size ≤ 1000000 := hwz x1 (by simp)
   have zx2 : x2.size ≤ 1000000 := hwz x2 (by simp)
   have zx3 : x3.size ≤ 1000000 := hwz x3 (by simp)
   have zx4 : x4.size ≤ 1000000 := hwz x4 (by simp)
   have zx5 : x5.size ≤ 1000000 := hwz x5 (by simp)
   have zx6 : x6.size ≤ 1000000 := hwz x6 (by simp)
   refine sg_ rfl (nn_ (sr_ (mv_ rfl ?_)))
   refine wl_callG (γ := Nat) (val := fun g => .tuple #[.slice (some ⟨g, 0, none⟩) 9 9, .bool (wdB t)]) (φ := fun _ => True) (K' := fun _ => (fun _ => True)) (L' := fun g => [(g, 9, [.string ⟨#[115, 116, 97, 116, 105, 111, 110]⟩, .string a1, .string x0, .string x1, .string x2, .string x3, .string x4, .string x5, .string x6]), (gf, 181, [v1, v2, v3, v4, .int .i64 pa]), (gr, 66, [.slice none 0 0, .slice none 0 0, .slice none 0 0, .slice none 0 0])]) (O' := fun _ => [⟨v1, 168, 15, sl.length, sl.flatMap stEnc⟩, ⟨v2, 170, 2, cl.length, cl.flatMap csEnc⟩, ⟨v3, 158, 2, vl.length, vl.flatMap vhEnc⟩, ⟨v4, 161, 3, pl.length, pl.flatMap plEnc⟩]) (X' := fun _ => [TxtO w0.heap.size none]) rfl cb72 rfl rfl (fun wx hm => (rwords_blk t wx (hm.fact 0 rfl).1 hts).mono fun e w' ⟨g, n, he, hb, ⟨h0, h1, _, _⟩, hg⟩ => ⟨g, by rw [hw] at h1; subst h1; exact he, trivial, hm.newAt hg h0 (by rw [hw] at hb; exact hb)⟩) ?_
   rintro gw _
   refine mv_ rfl (wl_ov (ov_extract rfl rfl) rfl (wl_ov (ov_extract rfl rfl) rfl (sg_ rfl (sg_ rfl (nn_ (sr_ ?_))))))
   refine wl_buildSlice (e := 9) (cs := [.string ⟨#[115, 116, 97, 116, 105, 111, 110]⟩, .string ⟨#[99, 108, 97, 115, 115]⟩, .string ⟨#[118, 101, 104, 105, 99, 108, 101]⟩, .string ⟨#[112, 108, 97, 116, 101]⟩]) rfl (by kernel_rfl) rfl fun g3 => ?_
   refine mv_ rfl ?_
   refine wl_ov (ov_index (j := 0) es112 rfl rfl (by omega)) rfl ?_
   refine lk_ sc9 1 rfl rfl rfl ?_
   refine wl_callv (v := .int .i64 0) rfl cb109 rfl rfl (fun wx hm => (by have h := tIndex_any ([⟨#[115, 116, 97, 116, 105, 111, 110]⟩, ⟨#[99, 108, 97, 115, 115]⟩, ⟨#[118, 101, 104, 105, 99, 108, 101]⟩, ⟨#[112, 108, 97, 116, 101]⟩] : List ByteArray) (some ⟨g3, 0, none⟩) 4 4 ⟨#[115, 116, 97, 116, 105, 111, 110]⟩ wx (SlT.ofBlk (l := ([⟨#[115, 116, 97, 116, 105, 111, 110]⟩, ⟨#[99, 108, 97, 115, 115]⟩, ⟨#[118, 101, 104, 105, 99, 108, 101]⟩, ⟨#[112, 108, 97, 116, 101]⟩] : List ByteArray)) sg_len (hm.blkI 0 rfl)) (by omega); rw [show ixP (eqP ⟨#[115, 116, 97, 116, 105, 111, 110]⟩) [⟨#[115, 116, 97, 116, 105, 111, 110]⟩, ⟨#[99, 108, 97, 115, 115]⟩, ⟨#[118, 101, 104, 105, 99, 108, 101]⟩, ⟨#[112, 108, 97, 116, 101]⟩] 0 = 0 from by decide +kernel] at h; exact h)) ?_
   refine sg_ rfl (nn_ (gw_seq (sr_ (mv_ rfl (wl_ov (ov_un_not rfl) rfl (mv_ rfl ?_))))))
   rcases Bool.eq_false_or_eq_true (!(wdB t)) with h1 | h1
   ·refine wl_set 31 rfl (congrArg Value.bool h1) ?_
    have hN : (fStep t ⟨sl, cl, vl, pl, pa + 1⟩).2 = false := by rw [fStep_no (fIt_wd h1)]
    refine goff rfl rfl rfl (goff rfl rfl rfl (goff rfl rfl rfl (goff rfl rfl rfl (goff rfl rfl rfl (goff rfl rfl rfl (pt_ rfl rfl (mv_ rfl (goff rfl rfl rfl (goff rfl rfl rfl (goff rfl rfl rfl (goff rfl rfl rfl (goff rfl rfl rfl (goff rfl rfl rfl ?_)))))))))))))
    refine goff rfl rfl rfl (pt_ rfl rfl (nn_ (ct_ rfl (sr_ (sg_ rfl (nn_ ?_))))))
    refine gw_ret ?_
    refine nx_then_ret ?_
    refine nx_ret1 rfl rfl fun wx hm => ?_
    refine ⟨v1, v2, v3, v4, pa, ⟨sl, cl, vl, pl, 1⟩, by rw [hN], (fun h => by rw [hN] at h; cases h), ?_⟩
    exact (hm.pick [2, 3] [0, 1, 2, 3] [0] rfl rfl).cx
   refine wl_set 31 rfl (congrArg Value.bool h1) ?_
   have hI := fIt_go h1
   rw [hw] at hI
   refine wl_guard_on rfl rfl rfl (mv_ rfl (wl_guard_on rfl rfl rfl (mv_ rfl (wl_guard_on rfl rfl rfl (wl_ov (ov_nilcheck rfl) rfl (wl_guard_on rfl rfl rfl (fd_ fo181_1 rfl rfl (wl_guard_on rfl rfl rfl (lk_ sc3 2 rfl rfl rfl (wl_guard_on rfl rfl rfl (wl_ov (ov_lss rfl rfl) rfl (pf_ rfl rfl (mv_ rfl ?_)))))))))))))
   rcases Bool.eq_false_or_eq_true (decide (0 < pa)) with hp | hp
   ·refine wl_set 39 rfl (congrArg Value.bool hp) ?_
    replace hp : (0 : Int) < pa := by simpa using hp
    have hN : (fStep t ⟨sl, cl, vl, pl, pa + 1⟩).2 = false := st_low (k := 1) hI rfl (fun _ => rfl) (fun h => absurd h (by decide +kernel)) (fun h => absurd h (by decide +kernel)) (fun h => absurd h (by decide +kernel)) (show (1 : Int) < pa + 1 by omega)
    refine goff rfl rfl rfl (goff rfl rfl rfl (goff rfl rfl rfl (goff rfl rfl rfl (goff rfl rfl rfl (goff rfl rfl rfl (goff rfl rfl rfl (pt_ rfl rfl (nn_ (ct_ rfl (sr_ (sg_ rfl ?_)))))))))))
    refine nn_ ?_
    refine gw_ret ?_
    refine nx_then_ret ?_
    refine nx_ret1 rfl rfl fun wx hm => ?_
    refine ⟨v1, v2, v3, v4, pa, ⟨sl, cl, vl, pl, 1⟩, by rw [hN], (fun h => by rw [hN] at h; cases h), ?_⟩
    exact (hm.pick [2, 3] [0, 1, 2, 3] [0] rfl rfl).cx
   refine wl_set 39 rfl (congrArg Value.bool hp) ?_
   replace hp : ¬ (0 : Int) < pa := by simpa using hp
   have hlow : ¬ (1 : Int) < pa + 1 := by omega
   refine wl_guard_on rfl rfl rfl (mv_ rfl (wl_guard_on rfl rfl rfl (wl_ov (ov_len es112 rfl) rfl ?_)))
   refine wl_set 41 (v' := .int .i64 9) rfl rfl ?_
   refine wl_guard_on rfl rfl rfl ?_
   refine wl_buildSlice (e := 3) (cs := [.int .i64 9, .int .i64 3, .int .i64 3, .int .i64 4]) rfl (by kernel_rfl) rfl fun g4 => ?_
   refine wl_guard_on rfl rfl rfl (mv_ rfl (wl_guard_on rfl rfl rfl ?_))
   refine wl_ov (ov_index (j := 0) es22 rfl rfl (by omega)) rfl ?_
   refine wl_guard_on rfl rfl rfl (lk_ sc3 0 rfl rfl rfl (wl_guard_on rfl rfl rfl (wl_ov (ov_neq rfl rfl) rfl ?_)))
   refine wl_set 46 (v' := .bool false) rfl (congrArg Value.bool (by decide)) ?_
   refine pf_ rfl rfl (nn_ (cf_ rfl (gw_skip (nx_then (sr_ (mv_ rfl (mv_ rfl (wl_ov (ov_nilcheck rfl) rfl (fd_ fo181_1 rfl rfl ?_)))))))))
   refine wl_store 3 sc3 rfl rfl rfl rfl rfl rfl ?_
   refine nn_ (gw_seq (sr_ (mv_ rfl (nn_ (gw_block (sr_ (wl_ov (ov_eql rfl rfl) rfl ?_)))))))
   refine wl_set 81 (v' := .bool true) rfl (congrArg Value.bool (by decide)) ?_
   refine sg_ rfl (nn_ (ct_ rfl (sr_ (mv_ rfl ?_))))
   refine wl_ov (ov_index (j := 1) es112 rfl rfl (by omega)) rfl ?_
   refine lk_ sc9 2 rfl rfl rfl ?_
   refine wl_ov (ov_build (cs := [.string a1, .int .i64 0, .int .i64 0, .int .i64 0, .int .i64 0, .int .i64 0, .int .i64 0, .int .i64 0, .int .i64 0, .int .i64 0, .int .i64 0, .int .i64 0, .int .i64 0, .int .i64 0, .int .i64 0]) rfl (by kernel_rfl)) rfl ?_
   refine wl_alloc zc168 rfl fun g5 => ?_
   refine wl_stores (cs' := [.string a1, .int .i64 0, .int .i64 0, .int .i64 0, .int .i64 0, .int .i64 0, .int .i64 0, .int .i64 0, .int .i64 0, .int .i64 0, .int .i64 0, .int .i64 0, .int .i64 0, .int .i64 0, .int .i64 0]) 0 rz168 rfl rfl rfl rfl rfl rfl rfl rfl ?_
   refine nn_ (gw_seq (sr_ (mv_ rfl (nn_ (gw_block ?_)))))
   refine gw_loop (γ := Nat × Int × Int × Int × Int × Int × Int × Int × Int × Int × Int × Int × Int × Int × Int) (fun (gy : Nat × Int × Int × Int × Int × Int × Int × Int × Int × Int × Int × Int × Int × Int × Int) => gy.1 ≤ 7 ∧ ([x0, x1, x2, x3, x4, x5, x6].take gy.1).all winB = true ∧ ([gy.2.1, gy.2.2.1, gy.2.2.2.1, gy.2.2.2.2.1, gy.2.2.2.2.2.1, gy.2.2.2.2.2.2.1, gy.2.2.2.2.2.2.2.1, gy.2.2.2.2.2.2.2.2.1, gy.2.2.2.2.2.2.2.2.2.1, gy.2.2.2.2.2.2.2.2.2.2.1, gy.2.2.2.2.2.2.2.2.2.2.2.1, gy.2.2.2.2.2.2.2.2.2.2.2.2.1, gy.2.2.2.2.2.2.2.2.2.2.2.2.2.1, gy.2.2.2.2.2.2.2.2.2.2.2.2.2.2] : List Int).take (2 * gy.1) = ([wF x0, wT x0, wF x1, wT x1, wF x2, wT x2, wF x3, wT x3, wF x4, wT x4, wF x5, wT x5, wF x6, wT x6] : List Int).take (2 * gy.1)) (fun (gy : Nat × Int × Int × Int × Int × Int × Int × Int × Int × Int × Int × Int × Int × Int × Int) => [(0, .pointer (some ⟨gf, 0, none⟩)), (5, .slice (some ⟨gw, 0, none⟩) 9 9), (8, .pointer (some ⟨g5, 0, none⟩)), (86, .int .i64 ((gy.1 : Nat) : Int))]) (fun (gy : Nat × Int × Int × Int × Int × Int × Int × Int × Int × Int × Int × Int × Int × Int × Int) => fun _ => True) (fun (gy : Nat × Int × Int × Int × Int × Int × Int × Int × Int × Int × Int × Int × Int × Int × Int) => [(g5, 168, [.string a1, .int .i64 gy.2.1, .int .i64 gy.2.2.1, .int .i64 gy.2.2.2.1, .int .i64 gy.2.2.2.2.1, .int .i64 gy.2.2.2.2.2.1, .int .i64 gy.2.2.2.2.2.2.1, .int .i64 gy.2.2.2.2.2.2.2.1, .int .i64 gy.2.2.2.2.2.2.2.2.1, .int .i64 gy.2.2.2.2.2.2.2.2.2.1, .int .i64 gy.2.2.2.2.2.2.2.2.2.2.1, .int .i64 gy.2.2.2.2.2.2.2.2.2.2.2.1, .int .i64 gy.2.2.2.2.2.2.2.2.2.2.2.2.1, .int .i64 gy.2.2.2.2.2.2.2.2.2.2.2.2.2.1, .int .i64 gy.2.2.2.2.2.2.2.2.2.2.2.2.2.2]), (gw, 9, [.string ⟨#[115, 116, 97, 116, 105, 111, 110]⟩, .string a1, .string x0, .string x1, .string x2, .string x3, .string x4, .string x5, .string x6]), (gf, 181, [v1, v2, v3, v4, .int .i64 0]), (gr, 66, [.slice none 0 0, .slice none 0 0, .slice none 0 0, .slice none 0 0])]) (fun (gy : Nat × Int × Int × Int × Int × Int × Int × Int × Int × Int × Int × Int × Int × Int × Int) => [⟨v1, 168, 15, sl.length, sl.flatMap stEnc⟩, ⟨v2, 170, 2, cl.length, cl.flatMap csEnc⟩, ⟨v3, 158, 2, vl.length, vl.flatMap vhEnc⟩, ⟨v4, 161, 3, pl.length, pl.flatMap plEnc⟩]) (fun (gy : Nat × Int × Int × Int × Int × Int × Int × Int × Int × Int × Int × Int × Int × Int × Int) => [TxtO w0.heap.size none]) (fun (gy : Nat × Int × Int × Int × Int × Int × Int × Int × Int × Int × Int × Int × Int × Int × Int) => 7 - gy.1) (0, 0, 0, 0, 0, 0, 0, 0, 0, 0, 0, 0, 0, 0, 0) ⟨Nat.zero_le _, rfl, rfl⟩ ⟨rfl, rfl, rfl, rfl, trivial⟩ (fun _ hm => hm.pick [0, 3, 4, 5] [0, 1, 2, 3] [0] rfl rfl) ?_
   rintro ⟨j, y0, y1, y2, y3, y4, y5, y6, y7, y8, y9, y10, y11, y12, y13⟩ hinv
   replace hinv : j ≤ 7 ∧ ([x0, x1, x2, x3, x4, x5, x6].take j).all winB = true ∧ ([y0, y1, y2, y3, y4, y5, y6, y7, y8, y9, y10, y11, y12, y13] : List Int).take (2 * j) = ([wF x0, wT x0, wF x1, wT x1, wF x2, wT x2, wF x3, wT x3, wF x4, wT x4, wF x5, wT x5, wF x6, wT x6] : List Int).take (2 * j) := hinv
   dsimp only
   refine sr_ ?_
   obtain ⟨hj7, hall, hyv⟩ := hinv
   refine wl_ov (ov_lss rfl rfl) rfl (nn_ (gw_seq ?_))
   refine gw_cond rfl (fun hh => ?_) (fun hh => ?_)
   ·have hj : ((j : Nat) : Int) < 7 := by simpa using hh
    clear hh
    refine gw_skip (nx_then (gw_seq (gw_block (sr_ ?_))))
    obtain ⟨x, hx7⟩ : ∃ x, ([x0, x1, x2, x3, x4, x5, x6] : List ByteArray)[j]? = some x := ⟨_, List.getElem?_eq_getElem (show j < 7 by omega)⟩
    have hx : ([stW, a1, x0, x1, x2, x3, x4, x5, x6] : List ByteArray)[2 + j]? = some x := by rw [Nat.add_comm]; exact hx7
    have zx := hwz x (List.mem_cons_of_mem _ (List.mem_cons_of_mem _ (List.mem_of_getElem? hx7)))
    have s1x : (cutD x).1.size ≤ 1000000 := Nat.le_trans (cut_sz x dashS (by decide)).1 zx
    have s2x : (cutD x).2.1.size ≤ 1000000 := Nat.le_trans (cut_sz x dashS (by decide)).2.2 zx
    refine mv_ rfl (sg_ rfl (nn_ (sr_ (mv_ rfl (mv_ rfl (ad_ rfl rfl ?_))))))
    refine wl_set 92 (v' := .int .i64 ((2 + j : Nat) : Int)) rfl (congrArg (Value.int .i64) (by omega)) ?_
    refine wl_ov (ov_index (j := 2 + j) es112 rfl rfl (by omega)) rfl ?_
    refine wl_ov (ov_elem1 (k := 0) (v := .string x) sc9 rfl (fun _ hm => (show SlT sgEnc 1 9 _ (some ⟨gw, 0, none⟩) 9 ([stW, a1, x0, x1, x2, x3, x4, x5, x6]) from SlT.ofBlk (l := ([stW, a1, x0, x1, x2, x3, x4, x5, x6] : List ByteArray)) sg_len (hm.blkI 1 rfl))) hx rfl rfl) rfl ?_
    refine wl_callv (v := .tuple #[.string ((cutD x).1), .string ((cutD x).2.1), .bool ((cutD x).2.2)]) rfl cb163 rfl rfl (fun wx hm => (by have h := cut_any x dashS wx (hm.fact 0 rfl).1 (by omega); exact h)) ?_
    refine mv_ rfl (wl_ov (ov_extract rfl rfl) rfl (wl_ov (ov_extract rfl rfl) rfl (wl_ov (ov_extract rfl rfl) rfl (sg_ rfl (sg_ rfl (sg_ rfl (nn_ (sr_ (mv_ rfl ?_)))))))))
    refine wl_callx (γ := Int) (val := (fun g => .tuple #[.int .i64 g, .bool (numB (cutD x).1)])) (φ := (fun g => numB (cutD x).1 = true → g = wF x)) (Y := (fun g => fun _ => True)) rfl cb122 rfl rfl (fun wx hm => (rnumber_any (cutD x).1 wx (hm.fact 0 rfl).1 s1x).mono fun _ _ ⟨v, he, hv, hg⟩ => ⟨v, he, hv, hg, trivial⟩) (fun _ => Lasts2.true_) ?_
    rintro nfx hfx
    refine mv_ rfl (wl_ov (ov_extract rfl rfl) rfl (wl_ov (ov_extract rfl rfl) rfl (sg_ rfl (sg_ rfl (nn_ (sr_ (mv_ rfl ?_)))))))
    refine wl_callx (γ := Int) (val := (fun g => .tuple #[.int .i64 g, .bool (numB (cutD x).2.1)])) (φ := (fun g => numB (cutD x).2.1 = true → g = wT x)) (Y := (fun g => fun _ => True)) rfl cb122 rfl rfl (fun wx hm => (rnumber_any (cutD x).2.1 wx (hm.fact 1 rfl).1 s2x).mono fun _ _ ⟨v, he, hv, hg⟩ => ⟨v, he, hv, hg, trivial⟩) (fun _ => Lasts2.true_) ?_
    rintro ntx htx
    refine mv_ rfl (wl_ov (ov_extract rfl rfl) rfl (wl_ov (ov_extract rfl rfl) rfl (sg_ rfl (sg_ rfl (nn_ (gw_seq (sr_ (mv_ rfl (wl_ov (ov_un_not rfl) rfl (mv_ rfl ?_))))))))))
    rcases Bool.eq_false_or_eq_true (!(numB (cutD x).1)) with hax | hax
    ·refine wl_set 111 rfl (congrArg Value.bool hax) ?_
     have hF : [x0, x1, x2, x3, x4, x5, x6].all winB = false := all_no hx7 (nwin1 (x := x) hax)
     have hN : (fStep t ⟨sl, cl, vl, pl, pa + 1⟩).2 = false := by rw [fStep_no (hI.trans (item_st_no hF))]
     refine goff rfl rfl rfl (goff rfl rfl rfl (pt_ rfl rfl (mv_ rfl (goff rfl rfl rfl (goff rfl rfl rfl (pt_ rfl rfl (mv_ rfl (goff rfl rfl rfl (goff rfl rfl rfl (pt_ rfl rfl (nn_ (ct_ rfl ?_))))))))))))
     refine sr_ (sg_ rfl (nn_ ?_))
     refine gw_ret ?_
     refine nx_then_ret (nx_blk_ret (nx_then_ret (nx_then_ret (nx_blk_ret (nx_then_ret (nx_blk_ret (nx_then_ret ?_)))))))
     refine nx_ret1 rfl rfl fun wx hm => ?_
     refine ⟨v1, v2, v3, v4, 0, ⟨sl, cl, vl, pl, 1⟩, by rw [hN], (fun h => by rw [hN] at h; cases h), ?_⟩
     exact (hm.pick [2, 3] [0, 1, 2, 3] [2] rfl rfl).cx
    refine wl_set 111 rfl (congrArg Value.bool hax) ?_
    have hb1x := fnot_f hax
    obtain rfl := hfx hb1x
    refine wl_guard_on rfl rfl rfl (mv_ rfl (wl_guard_on rfl rfl rfl (wl_ov (ov_un_not rfl) rfl (pf_ rfl rfl (mv_ rfl ?_)))))
    rcases Bool.eq_false_or_eq_true (!(numB (cutD x).2.1)) with hbx | hbx
    ·refine wl_set 115 rfl (congrArg Value.bool hbx) ?_
     have hF : [x0, x1, x2, x3, x4, x5, x6].all winB = false := all_no hx7 (nwin2 (x := x) hbx)
     have hN : (fStep t ⟨sl, cl, vl, pl, pa + 1⟩).2 = false := by rw [fStep_no (hI.trans (item_st_no hF))]
     refine goff rfl rfl rfl (goff rfl rfl rfl (pt_ rfl rfl (mv_ rfl (goff rfl rfl rfl (goff rfl rfl rfl (pt_ rfl rfl (nn_ (ct_ rfl (sr_ (sg_ rfl (wl_nil ?_)))))))))))
     refine nx_then ?_
     refine gw_ret ?_
     refine nx_then_ret (nx_blk_ret (nx_then_ret (nx_then_ret (nx_blk_ret (nx_then_ret (nx_blk_ret (nx_then_ret ?_)))))))
     refine nx_ret1 rfl rfl fun wx hm => ?_
     refine ⟨v1, v2, v3, v4, 0, ⟨sl, cl, vl, pl, 1⟩, by rw [hN], (fun h => by rw [hN] at h; cases h), ?_⟩
     exact (hm.pick [2, 3] [0, 1, 2, 3] [2] rfl rfl).cx
    refine wl_set 115 rfl (congrArg Value.bool hbx) ?_
    have hb2x := fnot_f hbx
    obtain rfl := htx hb2x
    refine wl_guard_on rfl rfl rfl (mv_ rfl (wl_guard_on rfl rfl rfl (wl_ov (ov_lss rfl rfl) rfl (pf_ rfl rfl (mv_ rfl ?_)))))
    rcases Bool.eq_false_or_eq_true (decide ((wF x) < 0)) with hcx | hcx
    ·refine wl_set 119 rfl (congrArg Value.bool hcx) ?_
     replace hcx := of_decide_eq_true hcx
     have hF : [x0, x1, x2, x3, x4, x5, x6].all winB = false := all_no hx7 (win_no3 hcx)
     have hN : (fStep t ⟨sl, cl, vl, pl, pa + 1⟩).2 = false := by rw [fStep_no (hI.trans (item_st_no hF))]
     refine goff rfl rfl rfl (goff rfl rfl rfl (pt_ rfl rfl (nn_ (ct_ rfl (sr_ (sg_ rfl (nn_ ?_)))))))
     refine gw_ret ?_
     refine nx_then_ret (nx_blk_ret (nx_then_ret (nx_then_ret (nx_blk_ret (nx_then_ret (nx_blk_ret (nx_then_ret ?_)))))))
     refine nx_ret1 rfl rfl fun wx hm => ?_
     refine ⟨v1, v2, v3, v4, 0, ⟨sl, cl, vl, pl, 1⟩, by rw [hN], (fun h => by rw [hN] at h; cases h), ?_⟩
     exact (hm.pick [2, 3] [0, 1, 2, 3] [2] rfl rfl).cx
    refine wl_set 119 rfl (congrArg Value.bool hcx) ?_
    replace hcx := of_decide_eq_false hcx
    refine wl_guard_on rfl rfl rfl (mv_ rfl (wl_guard_on rfl rfl rfl (wl_ov (ov_lss rfl rfl) rfl (pf_ rfl rfl (nn_ ?_)))))
    rcases Bool.eq_false_or_eq_true (decide ((wT x) < 0)) with hdx | hdx
    ·refine gw_set 122 rfl (congrArg Value.bool hdx) ?_
     replace hdx := of_decide_eq_true hdx
     have hF : [x0, x1, x2, x3, x4, x5, x6].all winB = false := all_no hx7 (win_no4 hdx)
     have hN : (fStep t ⟨sl, cl, vl, pl, pa + 1⟩).2 = false := by rw [fStep_no (hI.trans (item_st_no hF))]
     refine ct_ rfl (sr_ (sg_ rfl (nn_ ?_)))
     refine gw_ret ?_
     refine nx_then_ret (nx_blk_ret (nx_then_ret (nx_then_ret (nx_blk_ret (nx_then_ret (nx_blk_ret (nx_then_ret ?_)))))))
     refine nx_ret1 rfl rfl fun wx hm => ?_
     refine ⟨v1, v2, v3, v4, 0, ⟨sl, cl, vl, pl, 1⟩, by rw [hN], (fun h => by rw [hN] at h; cases h), ?_⟩
     exact (hm.pick [2, 3] [0, 1, 2, 3] [2] rfl rfl).cx
    refine gw_set 122 rfl (congrArg Value.bool hdx) ?_
    replace hdx := of_decide_eq_false hdx
    have hWx := nwin5 (x := x) hb1x hb2x hcx hdx
    have hall2 := all_take_succ hx7 hall hWx
    clear hall hx zx s1x s2x hb1x hb2x hcx hdx hWx hfx htx
    obtain hv8 | hv8 | hv8 | hv8 | hv8 | hv8 | hv8 : j = 0 ∨ j = 1 ∨ j = 2 ∨ j = 3 ∨ j = 4 ∨ j = 5 ∨ j = 6 := (by omega)
    ·subst hv8
     have e9 : x0 = x := Option.some.inj hx7
     subst e9
     refine cf_ rfl (gw_skip (nx_then (gw_region (mv_ rfl ?_))))
     refine wl_set 123 (v' := .int .i64 0) rfl rfl ?_
     refine mv_ rfl (mv_ rfl ?_)
     refine wl_ov (ov_build (cs := [.int .i64 (wF x0), .int .i64 (wT x0)]) rfl (by kernel_rfl)) rfl ?_
     refine fd_ fo168_1 rfl rfl ?_
     refine wl_ov (ov_indexP (j := 0) ar166 rfl rfl (by decide) rfl) rfl ?_
     refine wl_stores (cs' := [.string a1, .int .i64 (wF x0), .int .i64 (wT x0), .int .i64 y2, .int .i64 y3, .int .i64 y4, .int .i64 y5, .int .i64 y6, .int .i64 y7, .int .i64 y8, .int .i64 y9, .int .i64 y10, .int .i64 y11, .int .i64 y12, .int .i64 y13]) 0 rz42 rfl rfl rfl rfl rfl rfl rfl rfl ?_
     refine wl_nil (nx_blk_nrm (nx_then (gw_region (ad_ rfl rfl ?_))))
     refine wl_set 129 (v' := .int .i64 1) rfl rfl ?_
     refine mv_ rfl (wl_nil ?_)
     exact nx_round (1, (wF x0), (wT x0), y2, y3, y4, y5, y6, y7, y8, y9, y10, y11, y12, y13) ⟨by dsimp only; omega, hall2, by rfl⟩ (by dsimp only; omega) ⟨rfl, rfl, rfl, rfl, trivial⟩ (fun _ hm => hm.pick [0, 1, 2, 3] [0, 1, 2, 3] [2] rfl rfl)
    ·subst hv8
     have e9 : x1 = x := Option.some.inj hx7
     subst e9
     refine cf_ rfl (gw_skip (nx_then (gw_region (mv_ rfl ?_))))
     refine wl_set 123 (v' := .int .i64 1) rfl rfl ?_
     refine mv_ rfl (mv_ rfl ?_)
     refine wl_ov (ov_build (cs := [.int .i64 (wF x1), .int .i64 (wT x1)]) rfl (by kernel_rfl)) rfl ?_
     refine fd_ fo168_1 rfl rfl ?_
     refine wl_ov (ov_indexP (j := 1) ar166 rfl rfl (by decide) rfl) rfl ?_
     refine wl_stores (cs' := [.string a1, .int .i64 y0, .int .i64 y1, .int .i64 (wF x1), .int .i64 (wT x1), .int .i64 y4, .int .i64 y5, .int .i64 y6, .int .i64 y7, .int .i64 y8, .int .i64 y9, .int .i64 y10, .int .i64 y11, .int .i64 y12, .int .i64 y13]) 0 rz42 rfl rfl rfl rfl rfl rfl rfl rfl ?_
     refine wl_nil (nx_blk_nrm (nx_then (gw_region (ad_ rfl rfl ?_))))
     refine wl_set 129 (v' := .int .i64 2) rfl rfl ?_
     refine mv_ rfl (wl_nil ?_)
     exact nx_round (2, y0, y1, (wF x1), (wT x1), y4, y5, y6, y7, y8, y9, y10, y11, y12, y13) ⟨by dsimp only; omega, hall2, by simpa using hyv⟩ (by dsimp only; omega) ⟨rfl, rfl, rfl, rfl, trivial⟩ (fun _ hm => hm.pick [0, 1, 2, 3] [0, 1, 2, 3] [2] rfl rfl)
    ·subst hv8
     have e9 : x2 = x := Option.some.inj hx7
     subst e9
     refine cf_ rfl (gw_skip (nx_then (gw_region (mv_ rfl ?_))))
     refine wl_set 123 (v' := .int .i64 2) rfl rfl ?_
     refine mv_ rfl (mv_ rfl ?_)
     refine wl_ov (ov_build (cs := [.int .i64 (wF x2), .int .i64 (wT x2)]) rfl (by kernel_rfl)) rfl ?_
     refine fd_ fo168_1 rfl rfl ?_
     refine wl_ov (ov_indexP (j := 2) ar166 rfl rfl (by decide) rfl) rfl ?_
     refine wl_stores (cs' := [.string a1, .int .i64 y0, .int .i64 y1, .int .i64 y2, .int .i64 y3, .int .i64 (wF x2), .int .i64 (wT x2), .int .i64 y6, .int .i64 y7, .int .i64 y8, .int .i64 y9, .int .i64 y10, .int .i64 y11, .int .i64 y12, .int .i64 y13]) 0 rz42 rfl rfl rfl rfl rfl rfl rfl rfl ?_
     refine wl_nil (nx_blk_nrm (nx_then (gw_region (ad_ rfl rfl ?_))))
     refine wl_set 129 (v' := .int .i64 3) rfl rfl ?_
     refine mv_ rfl (wl_nil ?_)
     exact nx_round (3, y0, y1, y2, y3, (wF x2), (wT x2), y6, y7, y8, y9, y10, y11, y12, y13) ⟨by dsimp only; omega, hall2, by simpa using hyv⟩ (by dsimp only; omega) ⟨rfl, rfl, rfl, rfl, trivial⟩ (fun _ hm => hm.pick [0, 1, 2, 3] [0, 1, 2, 3] [2] rfl rfl)
    ·subst hv8
     have e9 : x3 = x := Option.some.inj hx7
     subst e9
     refine cf_ rfl (gw_skip (nx_then (gw_region (mv_ rfl ?_))))
     refine wl_set 123 (v' := .int .i64 3) rfl rfl ?_
     refine mv_ rfl (mv_ rfl ?_)
     refine wl_ov (ov_build (cs := [.int .i64 (wF x3), .int .i64 (wT x3)]) rfl (by kernel_rfl)) rfl ?_
     refine fd_ fo168_1 rfl rfl ?_
     refine wl_ov (ov_indexP (j := 3) ar166 rfl rfl (by decide) rfl) rfl ?_
     refine wl_stores (cs' := [.string a1, .int .i64 y0, .int .i64 y1, .int .i64 y2, .int .i64 y3, .int .i64 y4, .int .i64 y5, .int .i64 (wF x3), .int .i64 (wT x3), .int .i64 y8, .int .i64 y9, .int .i64 y10, .int .i64 y11, .int .i64 y12, .int .i64 y13]) 0 rz42 rfl rfl rfl rfl rfl rfl rfl rfl ?_
     refine wl_nil (nx_blk_nrm (nx_then (gw_region (ad_ rfl rfl ?_))))
     refine wl_set 129 (v' := .int .i64 4) rfl rfl ?_
     refine mv_ rfl (wl_nil ?_)
     exact nx_round (4, y0, y1, y2, y3, y4, y5, (wF x3), (wT x3), y8, y9, y10, y11, y12, y13) ⟨by dsimp only; omega, hall2, by simpa using hyv⟩ (by dsimp only; omega) ⟨rfl, rfl, rfl, rfl, trivial⟩ (fun _ hm => hm.pick [0, 1, 2, 3] [0, 1, 2, 3] [2] rfl rfl)
    ·subst hv8
     have e9 : x4 = x := Option.some.inj hx7
     subst e9
     refine cf_ rfl (gw_skip (nx_then (gw_region (mv_ rfl ?_))))
     refine wl_set 123 (v' := .int .i64 4) rfl rfl ?_
     refine mv_ rfl (mv_ rfl ?_)
     refine wl_ov (ov_build (cs := [.int .i64 (wF x4), .int .i64 (wT x4)]) rfl (by kernel_rfl)) rfl ?_
     refine fd_ fo168_1 rfl rfl ?_
     refine wl_ov (ov_indexP (j := 4) ar166 rfl rfl (by decide) rfl) rfl ?_
     refine wl_stores (cs' := [.string a1, .int .i64 y0, .int .i64 y1, .int .i64 y2, .int .i64 y3, .int .i64 y4, .int .i64 y5, .int .i64 y6, .int .i64 y7, .int .i64 (wF x4), .int .i64 (wT x4), .int .i64 y10, .int .i64 y11, .int .i64 y12, .int .i64 y13]) 0 rz42 rfl rfl rfl rfl rfl rfl rfl rfl ?_
     refine wl_nil (nx_blk_nrm (nx_then (gw_region (ad_ rfl rfl ?_))))
     refine wl_set 129 (v' := .int .i64 5) rfl rfl ?_
     refine mv_ rfl (wl_nil ?_)
     exact nx_round (5, y0, y1, y2, y3, y4, y5, y6, y7, (wF x4), (wT x4), y10, y11, y12, y13) ⟨by dsimp only; omega, hall2, by simpa using hyv⟩ (by dsimp only; omega) ⟨rfl, rfl, rfl, rfl, trivial⟩ (fun _ hm => hm.pick [0, 1, 2, 3] [0, 1, 2, 3] [2] rfl rfl)
    ·subst hv8
     have e9 : x5 = x := Option.some.inj hx7
     subst e9
     refine cf_ rfl (gw_skip (nx_then (gw_region (mv_ rfl ?_))))
     refine wl_set 123 (v' := .int .i64 5) rfl rfl ?_
     refine mv_ rfl (mv_ rfl ?_)
     refine wl_ov (ov_build (cs := [.int .i64 (wF x5), .int .i64 (wT x5)]) rfl (by kernel_rfl)) rfl ?_
     refine fd_ fo168_1 rfl rfl ?_
     refine wl_ov (ov_indexP (j := 5) ar166 rfl rfl (by decide) rfl) rfl ?_
     refine wl_stores (cs' := [.string a1, .int .i64 y0, .int .i64 y1, .int .i64 y2, .int .i64 y3, .int .i64 y4, .int .i64 y5, .int .i64 y6, .int .i64 y7, .int .i64 y8, .int .i64 y9, .int .i64 (wF x5), .int .i64 (wT x5), .int .i64 y12, .int .i64 y13]) 0 rz42 rfl rfl rfl rfl rfl rfl rfl rfl ?_
     refine wl_nil (nx_blk_nrm (nx_then (gw_region (ad_ rfl rfl ?_))))
     refine wl_set 129 (v' := .int .i64 6) rfl rfl ?_
     refine mv_ rfl (wl_nil ?_)
     exact nx_round (6, y0, y1, y2, y3, y4, y5, y6, y7, y8, y9, (wF x5), (wT x5), y12, y13) ⟨by dsimp only; omega, hall2, by simpa using hyv⟩ (by dsimp only; omega) ⟨rfl, rfl, rfl, rfl, trivial⟩ (fun _ hm => hm.pick [0, 1, 2, 3] [0, 1, 2, 3] [2] rfl rfl)
    subst hv8
    have e9 : x6 = x := Option.some.inj hx7
    subst e9
    refine cf_ rfl (gw_skip (nx_then (gw_region (mv_ rfl ?_))))
    refine wl_set 123 (v' := .int .i64 6) rfl rfl ?_
    refine mv_ rfl (mv_ rfl ?_)
    refine wl_ov (ov_build (cs := [.int .i64 (wF x6), .int .i64 (wT x6)]) rfl (by kernel_rfl)) rfl ?_
    refine fd_ fo168_1 rfl rfl ?_
    refine wl_ov (ov_indexP (j := 6) ar166 rfl rfl (by decide) rfl) rfl ?_
    refine wl_stores (cs' := [.string a1, .int .i64 y0, .int .i64 y1, .int .i64 y2, .int .i64 y3, .int .i64 y4, .int .i64 y5, .int .i64 y6, .int .i64 y7, .int .i64 y8, .int .i64 y9, .int .i64 y10, .int .i64 y11, .int .i64 (wF x6), .int .i64 (wT x6)]) 0 rz42 rfl rfl rfl rfl rfl rfl rfl rfl ?_
    refine wl_nil (nx_blk_nrm (nx_then (gw_region (ad_ rfl rfl ?_))))
    refine wl_set 129 (v' := .int .i64 7) rfl rfl ?_
    refine mv_ rfl (wl_nil ?_)
    exact nx_round (7, y0, y1, y2, y3, y4, y5, y6, y7, y8, y9, y10, y11, (wF x6), (wT x6)) ⟨by dsimp only; omega, hall2, by simpa using hyv⟩ (by dsimp only; omega) ⟨rfl, rfl, rfl, rfl, trivial⟩ (fun _ hm => hm.pick [0, 1, 2, 3] [0, 1, 2, 3] [2] rfl rfl)
   have hj : ¬ (((j : Nat) : Int) < 7) := by simpa using hh
   clear hh
   refine gw_exit ?_
   refine nx_then_exit (nx_then_exit ?_)
   refine nx_blk_here ?_
   refine nx_then ?_
   obtain rfl : j = 7 := by omega
   have hA : [x0, x1, x2, x3, x4, x5, x6].all winB = true := hall
   rw [item_st hA] at hI
   replace hyv : ([y0, y1, y2, y3, y4, y5, y6, y7, y8, y9, y10, y11, y12, y13] : List Int) = [wF x0, wT x0, wF x1, wT x1, wF x2, wT x2, wF x3, wT x3, wF x4, wT x4, wF x5, wT x5, wF x6, wT x6] := hyv
   simp only [List.cons.injEq] at hyv
   obtain ⟨rfl, rfl, rfl, rfl, rfl, rfl, rfl, rfl, rfl, rfl, rfl, rfl, rfl, rfl, -⟩ := hyv
   refine gw_look (R := ∃ A cc, v1 = .slice A sl.length cc) (fun wx hm => own_slice (hm.ownI 0 rfl)) ?_
   rintro ⟨A_, c_, rfl⟩
   refine gd (fun wz => Blk wz g5 168 [.string a1, .int .i64 (wF x0), .int .i64 (wT x0), .int .i64 (wF x1), .int .i64 (wT x1), .int .i64 (wF x2), .int .i64 (wT x2), .int .i64 (wF x3), .int .i64 (wT x3), .int .i64 (wF x4), .int .i64 (wT x4), .int .i64 (wF x5), .int .i64 (wT x5), .int .i64 (wF x6), .int .i64 (wT x6)] ∧ Blk wz gw 9 [.string ⟨#[115, 116, 97, 116, 105, 111, 110]⟩, .string a1, .string x0, .string x1, .string x2, .string x3, .string x4, .string x5, .string x6] ∧ Blk wz gr 66 [.slice none 0 0, .slice none 0 0, .slice none 0 0, .slice none 0 0] ∧ (TxtO w0.heap.size none) wz ∧ True) mixed (fun _ hm => ⟨hm.bl 0, hm.bl 1, hm.bl 3, hm.fa 0, trivial⟩) fun z => ?_
   refine wt 0 13 1 rfl z (ov_move rfl) ?_
   refine wt 1 13 3 rfl z (ov_move rfl) ?_
   refine wt 2 13 7 rfl z (ov_nilcheck rfl) ?_
   refine wt 3 13 15 rfl z (ov_field fo181_0 rfl rfl) ?_
   refine wt 4 13 31 rfl z (ov_field fo66_0 rfl rfl) ?_
   refine wt 6 13 95 rfl z (ov_loads rz168 rfl (fun _ hm => hm.1) rfl rfl) ?_
   refine wa_all [5, 7] (by kernel_rfl) rfl ⟨⟨_, rfl, ?_⟩, ⟨_, rfl, ?_⟩, trivial⟩
   ·refine lk_ sc61 2 rfl rfl rfl (wl_nil ?_)
    refine nw 13 127 (fun _ hm => ⟨hm.bl 0, hm.bl 1, hm.bl 3, hm.fa 0, trivial⟩) fun z => ?_
    refine wa1 7 rfl ?_
    refine wl_buildSlice (e := 168) (cs := [.string a1, .int .i64 (wF x0), .int .i64 (wT x0), .int .i64 (wF x1), .int .i64 (wT x1), .int .i64 (wF x2), .int .i64 (wT x2), .int .i64 (wF x3), .int .i64 (wT x3), .int .i64 (wF x4), .int .i64 (wT x4), .int .i64 (wF x5), .int .i64 (wT x5), .int .i64 (wF x6), .int .i64 (wT x6)]) rfl (by kernel_rfl) rfl fun g9 => ?_
    refine wl_nil ?_
    refine nw 13 255 (fun _ hm => ⟨hm.bl 1, hm.bl 2, hm.bl 4, hm.fa 0, trivial⟩) fun z => ?_
    refine wa1 8 rfl ?_
    refine wl_append (news := [.string a1, .int .i64 (wF x0), .int .i64 (wT x0), .int .i64 (wF x1), .int .i64 (wT x1), .int .i64 (wF x2), .int .i64 (wT x2), .int .i64 (wF x3), .int .i64 (wT x3), .int .i64 (wF x4), .int .i64 (wT x4), .int .i64 (wF x5), .int .i64 (wT x5), .int .i64 (wF x6), .int .i64 (wT x6)]) 0 0 ap61 rfl rfl rfl rfl rfl rfl rfl (by omega) (by unfold maxLen; omega) rfl rfl fun v9 hv => ?_
    refine wl_look (R := ∃ A cc, v9 = .slice A (sl.length + 1) cc) (fun wx hm => own_slice (hm.ownI 0 rfl)) ?_
    rintro ⟨A5, c5, rfl⟩
    refine wl_nil ?_
    refine nw 13 511 (fun _ hm => ⟨hm.bl 1, hm.bl 2, hm.bl 4, hm.fa 0, trivial⟩) fun z => ?_
    refine wt 9 13 1023 rfl z (ov_nilcheck rfl) ?_
    refine wt 10 13 2047 rfl z (ov_field fo181_0 rfl rfl) ?_
    refine wt 11 13 4095 rfl z (ov_field fo66_0 rfl rfl) ?_
    refine wa1 12 rfl ?_
    refine wl_store 3 sc61 rfl rfl rfl rfl rfl rfl ?_
    refine wl_nil ?_
    refine nw 13 8191 (fun _ hm => ⟨hm.bl 1, hm.bl 2, hm.bl 4, hm.fa 0, trivial⟩) fun z => ?_
    refine wa_done (by kernel_rfl) ?_
    refine nx_blk_nrm (nx_then (sr_ (sg_ rfl (nn_ ?_))))
    refine gw_ret ?_
    rw [show sl.flatMap stEnc ++ ([.string a1, .int .i64 (wF x0), .int .i64 (wT x0), .int .i64 (wF x1), .int .i64 (wT x1), .int .i64 (wF x2), .int .i64 (wT x2), .int .i64 (wF x3), .int .i64 (wT x3), .int .i64 (wF x4), .int .i64 (wT x4), .int .i64 (wF x5), .int .i64 (wT x5), .int .i64 (wF x6), .int .i64 (wT x6)] : List Value) = (sl ++ [((⟨a1, [wF x0, wT x0, wF x1, wT x1, wF x2, wT x2, wF x3, wT x3, wF x4, wT x4, wF x5, wT x5, wF x6, wT x6]⟩ : St))]).flatMap stEnc from by simp [stEnc, stCells]]
    have hY : fStep t ⟨sl, cl, vl, pl, pa + 1⟩ = (fPush ⟨sl, cl, vl, pl, pa + 1⟩ (.st (⟨a1, [wF x0, wT x0, wF x1, wT x1, wF x2, wT x2, wF x3, wT x3, wF x4, wT x4, wF x5, wT x5, wF x6, wT x6]⟩ : St)), true) := fStep_yes hI hlow
    refine nx_ret1 rfl rfl fun wx hm => ?_
    refine ⟨.slice A5 (sl.length + 1) c5, v2, v3, v4, 0, ⟨(sl ++ [(⟨a1, [wF x0, wT x0, wF x1, wT x1, wF x2, wT x2, wF x3, wT x3, wF x4, wT x4, wF x5, wT x5, wF x6, wT x6]⟩ : St)]), cl, vl, pl, 1⟩, by rw [hY], (fun _ => ⟨by rw [hY]; rfl, by show (0 : Int) + 1 = 1; decide⟩), ?_⟩
    have e9 : (sl ++ [(⟨a1, [wF x0, wT x0, wF x1, wT x1, wF x2, wT x2, wF x3, wT x3, wF x4, wT x4, wF x5, wT x5, wF x6, wT x6]⟩ : St)]).length = sl.length + 1 := by simp
    show Mem ⟨0, w0, none, []⟩ (fun _ => True) (fpR gf gr (0) (.slice A5 (sl.length + 1) c5) v2 v3 v4) [⟨.slice A5 (sl.length + 1) c5, 168, 15, ((sl ++ [(⟨a1, [wF x0, wT x0, wF x1, wT x1, wF x2, wT x2, wF x3, wT x3, wF x4, wT x4, wF x5, wT x5, wF x6, wT x6]⟩ : St)])).length, ((sl ++ [(⟨a1, [wF x0, wT x0, wF x1, wT x1, wF x2, wT x2, wF x3, wT x3, wF x4, wT x4, wF x5, wT x5, wF x6, wT x6]⟩ : St)])).flatMap stEnc⟩, ⟨v2, 170, 2, (cl).length, (cl).flatMap csEnc⟩, ⟨v3, 158, 2, (vl).length, (vl).flatMap vhEnc⟩, ⟨v4, 161, 3, (pl).length, (pl).flatMap plEnc⟩] [TxtO w0.heap.size none] _
    rw [e9]
    exact (hm.pick [3, 4] [0, 1, 2, 3] [0] rfl rfl).cx
   refine wl_buildSlice (e := 168) (cs := [.string a1, .int .i64 (wF x0), .int .i64 (wT x0), .int .i64 (wF x1), .int .i64 (wT x1), .int .i64 (wF x2), .int .i64 (wT x2), .int .i64 (wF x3), .int .i64 (wT x3), .int .i64 (wF x4), .int .i64 (wT x4), .int .i64 (wF x5), .int .i64 (wT x5), .int .i64 (wF x6), .int .i64 (wT x6)]) rfl (by kernel_rfl) rfl fun g10 => ?_
   refine wl_nil ?_
   refine nw 13 223 (fun _ hm => ⟨hm.bl 1, hm.bl 2, hm.bl 4, hm.fa 0, trivial⟩) fun z => ?_
   refine wa1 5 rfl ?_
   refine lk_ sc61 3 rfl rfl rfl (wl_nil ?_)
   refine nw 13 255 (fun _ hm => ⟨hm.bl 1, hm.bl 2, hm.bl 4, hm.fa 0, trivial⟩) fun z => ?_
   refine wa1 8 rfl ?_
   refine wl_append (news := [.string a1, .int .i64 (wF x0), .int .i64 (wT x0), .int .i64 (wF x1), .int .i64 (wT x1), .int .i64 (wF x2), .int .i64 (wT x2), .int .i64 (wF x3), .int .i64 (wT x3), .int .i64 (wF x4), .int .i64 (wT x4), .int .i64 (wF x5), .int .i64 (wT x5), .int .i64 (wF x6), .int .i64 (wT x6)]) 0 0 ap61 rfl rfl rfl rfl rfl rfl rfl (by omega) (by unfold maxLen; omega) rfl rfl fun v9 hv => ?_
   refine wl_look (R := ∃ A cc, v9 = .slice A (sl.length + 1) cc) (fun wx hm => own_slice (hm.ownI 0 rfl)) ?_
   rintro ⟨A5, c5, rfl⟩
   refine wl_nil ?_
   refine nw 13 511 (fun _ hm => ⟨hm.bl 1, hm.bl 2, hm.bl 4, hm.fa 0, trivial⟩) fun z => ?_
   refine wt 9 13 1023 rfl z (ov_nilcheck rfl) ?_
   refine wt 10 13 2047 rfl z (ov_field fo181_0 rfl rfl) ?_
   refine wt 11 13 4095 rfl z (ov_field fo66_0 rfl rfl) ?_
   refine wa1 12 rfl ?_
   refine wl_store 3 sc61 rfl rfl rfl rfl rfl rfl ?_
   refine wl_nil ?_
   refine nw 13 8191 (fun _ hm => ⟨hm.bl 1, hm.bl 2, hm.bl 4, hm.fa 0, trivial⟩) fun z => ?_
   refine wa_done (by kernel_rfl) ?_
   refine nx_blk_nrm (nx_then (sr_ (sg_ rfl (nn_ ?_))))
   refine gw_ret ?_
   rw [show sl.flatMap stEnc ++ ([.string a1, .int .i64 (wF x0), .int .i64 (wT x0), .int .i64 (wF x1), .int .i64 (wT x1), .int .i64 (wF x2), .int .i64 (wT x2), .int .i64 (wF x3), .int .i64 (wT x3), .int .i64 (wF x4), .int .i64 (wT x4), .int .i64 (wF x5), .int .i64 (wT x5), .int .i64 (wF x6), .int .i64 (wT x6)] : List Value) = (sl ++ [((⟨a1, [wF x0, wT x0, wF x1, wT x1, wF x2, wT x2, wF x3, wT x3, wF x4, wT x4, wF x5, wT x5, wF x6, wT x6]⟩ : St))]).flatMap stEnc from by simp [stEnc, stCells]]
   have hY : fStep t ⟨sl, cl, vl, pl, pa + 1⟩ = (fPush ⟨sl, cl, vl, pl, pa + 1⟩ (.st (⟨a1, [wF x0, wT x0, wF x1, wT x1, wF x2, wT x2, wF x3, wT x3, wF x4, wT x4, wF x5, wT x5, wF x6, wT x6]⟩ : St)), true) := fStep_yes hI hlow
   refine nx_ret1 rfl rfl fun wx hm => ?_
   refine ⟨.slice A5 (sl.length + 1) c5, v2, v3, v4, 0, ⟨(sl ++ [(⟨a1, [wF x0, wT x0, wF x1, wT x1, wF x2, wT x2, wF x3, wT x3, wF x4, wT x4, wF x5, wT x5, wF x6, wT x6]⟩ : St)]), cl, vl, pl, 1⟩, by rw [hY], (fun _ => ⟨by rw [hY]; rfl, by show (0 : Int) + 1 = 1; decide⟩), ?_⟩
   have e9 : (sl ++ [(⟨a1, [wF x0, wT x0, wF x1, wT x1, wF x2, wT x2, wF x3, wT x3, wF x4, wT x4, wF x5, wT x5, wF x6, wT x6]⟩ : St)]).length = sl.length + 1 := by simp
   show Mem ⟨0, w0, none, []⟩ (fun _ => True) (fpR gf gr (0) (.slice A5 (sl.length + 1) c5) v2 v3 v4) [⟨.slice A5 (sl.length + 1) c5, 168, 15, ((sl ++ [(⟨a1, [wF x0, wT x0, wF x1, wT x1, wF x2, wT x2, wF x3, wT x3, wF x4, wT x4, wF x5, wT x5, wF x6, wT x6]⟩ : St)])).length, ((sl ++ [(⟨a1, [wF x0, wT x0, wF x1, wT x1, wF x2, wT x2, wF x3, wT x3, wF x4, wT x4, wF x5, wT x5, wF x6, wT x6]⟩ : St)])).flatMap stEnc⟩, ⟨v2, 170, 2, (cl).length, (cl).flatMap csEnc⟩, ⟨v3, 158, 2, (vl).length, (vl).flatMap vhEnc⟩, ⟨v4, 161, 3, (pl).length, (pl).flatMap plEnc⟩] [TxtO w0.heap.size none] _
   rw [e9]
   exact (hm.pick [3, 4] [0, 1, 2, 3] [0] rfl rfl).cx
  refine sg_ rfl (nn_ (sr_ (mv_ rfl ?_)))
  refine wl_callgo (γ := Nat × Nat) (val := (fun g => .tuple #[.slice (some ⟨g.1, 0, none⟩) g.2 g.2, .bool (wdB t)])) (φ := (fun g => g.2 = (wdL t).length ∧ 1 ≤ g.2 ∧ g.2 ≤ t.size + 1)) (fun g => ⟨.slice (some ⟨g.1, 0, none⟩) g.2 g.2, 9, 1, g.2, (wdL t).flatMap sgEnc⟩) rfl cb72 rfl rfl (fun wx hm => (rwords_own t wx (hm.fact 0 rfl).1 hts).mono fun _ _ ⟨g, k, he, h1, h2, hg⟩ => ⟨(g, k), he, h2, h1, hg⟩) ?_
  rintro ⟨gw, kw⟩ hkw
  dsimp only at hkw ⊢
  obtain ⟨hkl, hk1, hk2⟩ := hkw
  refine mv_ rfl (wl_ov (ov_extract rfl rfl) rfl (wl_ov (ov_extract rfl rfl) rfl (sg_ rfl (sg_ rfl (nn_ (sr_ ?_))))))
  refine wl_buildSlice (e := 9) (cs := [.string ⟨#[115, 116, 97, 116, 105, 111, 110]⟩, .string ⟨#[99, 108, 97, 115, 115]⟩, .string ⟨#[118, 101, 104, 105, 99, 108, 101]⟩, .string ⟨#[112, 108, 97, 116, 101]⟩]) rfl (by kernel_rfl) rfl fun g1 => ?_
  refine mv_ rfl ?_
  refine wl_ov (ov_index (j := 0) es112 rfl rfl (by omega)) rfl ?_
  refine wl_ov (ov_elem1 (k := 0) (v := .string ⟨#[115, 116, 97, 116, 105, 111, 110]⟩) sc9 rfl (fun _ hm => (show SlT sgEnc 1 9 _ (some ⟨gw, 0, none⟩) kw (wdL t) from SlT.ofOwn sg_len (hm.ownI 0 rfl) hkl.symm)) hx0 rfl rfl) rfl ?_
  refine wl_callv (v := .int .i64 0) rfl cb109 rfl rfl (fun wx hm => (by have h := tIndex_any ([⟨#[115, 116, 97, 116, 105, 111, 110]⟩, ⟨#[99, 108, 97, 115, 115]⟩, ⟨#[118, 101, 104, 105, 99, 108, 101]⟩, ⟨#[112, 108, 97, 116, 101]⟩] : List ByteArray) (some ⟨g1, 0, none⟩) 4 4 ⟨#[115, 116, 97, 116, 105, 111, 110]⟩ wx (SlT.ofBlk (l := ([⟨#[115, 116, 97, 116, 105, 111, 110]⟩, ⟨#[99, 108, 97, 115, 115]⟩, ⟨#[118, 101, 104, 105, 99, 108, 101]⟩, ⟨#[112, 108, 97, 116, 101]⟩] : List ByteArray)) sg_len (hm.blkI 0 rfl)) (by omega); rw [show ixP (eqP ⟨#[115, 116, 97, 116, 105, 111, 110]⟩) [⟨#[115, 116, 97, 116, 105, 111, 110]⟩, ⟨#[99, 108, 97, 115, 115]⟩, ⟨#[118, 101, 104, 105, 99, 108, 101]⟩, ⟨#[112, 108, 97, 116, 101]⟩] 0 = 0 from by decide +kernel] at h; exact h)) ?_
  have hN : (fStep t ⟨sl, cl, vl, pl, pa + 1⟩).2 = false := by
   cases hw : wdB t with
   | false => rw [fStep_no (fIt_wd (by rw [hw]; rfl))]
   | true => rw [fStep_no ((fIt_go (by rw [hw]; rfl)).trans (fItem_bad hx0 (fun h => ⟨by decide +kernel, by decide +kernel⟩) (fun h => by decide +kernel) (fun h => absurd h hN_)))]
  refine sg_ rfl (nn_ (gw_seq (sr_ (mv_ rfl (wl_ov (ov_un_not rfl) rfl (mv_ rfl ?_))))))
  rcases Bool.eq_false_or_eq_true (!(wdB t)) with h1 | h1
  ·refine wl_set 31 rfl (congrArg Value.bool h1) ?_
   refine goff rfl rfl rfl (goff rfl rfl rfl (goff rfl rfl rfl (goff rfl rfl rfl (goff rfl rfl rfl (goff rfl rfl rfl (pt_ rfl rfl (mv_ rfl (goff rfl rfl rfl (goff rfl rfl rfl (goff rfl rfl rfl (goff rfl rfl rfl (goff rfl rfl rfl (goff rfl rfl rfl ?_)))))))))))))
   refine goff rfl rfl rfl (pt_ rfl rfl (nn_ (ct_ rfl (sr_ (sg_ rfl (nn_ ?_))))))
   refine gw_ret ?_
   refine nx_then_ret ?_
   refine nx_ret1 rfl rfl fun wx hm => ?_
   refine ⟨v1, v2, v3, v4, pa, ⟨sl, cl, vl, pl, 1⟩, by rw [hN], (fun h => by rw [hN] at h; cases h), ?_⟩
   exact (hm.pick [1, 2] [1, 2, 3, 4] [0] rfl rfl).cx
  refine wl_set 31 rfl (congrArg Value.bool h1) ?_
  refine wl_guard_on rfl rfl rfl (mv_ rfl (wl_guard_on rfl rfl rfl (mv_ rfl (wl_guard_on rfl rfl rfl (wl_ov (ov_nilcheck rfl) rfl (wl_guard_on rfl rfl rfl (fd_ fo181_1 rfl rfl (wl_guard_on rfl rfl rfl (lk_ sc3 1 rfl rfl rfl (wl_guard_on rfl rfl rfl (wl_ov (ov_lss rfl rfl) rfl (pf_ rfl rfl (mv_ rfl ?_)))))))))))))
  rcases Bool.eq_false_or_eq_true (decide (0 < pa)) with hp | hp
  ·refine wl_set 39 rfl (congrArg Value.bool hp) ?_
   refine goff rfl rfl rfl (goff rfl rfl rfl (goff rfl rfl rfl (goff rfl rfl rfl (goff rfl rfl rfl (goff rfl rfl rfl (goff rfl rfl rfl (pt_ rfl rfl (nn_ (ct_ rfl (sr_ (sg_ rfl ?_)))))))))))
   refine nn_ ?_
   refine gw_ret ?_
   refine nx_then_ret ?_
   refine nx_ret1 rfl rfl fun wx hm => ?_
   refine ⟨v1, v2, v3, v4, pa, ⟨sl, cl, vl, pl, 1⟩, by rw [hN], (fun h => by rw [hN] at h; cases h), ?_⟩
   exact (hm.pick [1, 2] [1, 2, 3, 4] [0] rfl rfl).cx
  refine wl_set 39 rfl (congrArg Value.bool hp) ?_
  refine wl_guard_on rfl rfl rfl (mv_ rfl (wl_guard_on rfl rfl rfl (wl_ov (ov_len es112 rfl) rfl (wl_guard_on rfl rfl rfl ?_))))
  refine wl_buildSlice (e := 3) (cs := [.int .i64 9, .int .i64 3, .int .i64 3, .int .i64 4]) rfl (by kernel_rfl) rfl fun g2 => ?_
  refine wl_guard_on rfl rfl rfl (mv_ rfl (wl_guard_on rfl rfl rfl ?_))
  refine wl_ov (ov_index (j := 0) es22 rfl rfl (by omega)) rfl ?_
  refine wl_guard_on rfl rfl rfl (lk_ sc3 0 rfl rfl rfl (wl_guard_on rfl rfl rfl (wl_ov (ov_neq rfl rfl) rfl (pf_ rfl rfl (nn_ ?_)))))
  refine gw_set 47 (v' := .bool true) rfl (congrArg Value.bool (by rw [decide_eq_false (by omega)]; rfl)) ?_
  refine ct_ rfl (sr_ (sg_ rfl (nn_ ?_)))
  refine gw_ret ?_
  refine nx_then_ret ?_
  refine nx_ret1 rfl rfl fun wx hm => ?_
  refine ⟨v1, v2, v3, v4, pa, ⟨sl, cl, vl, pl, 1⟩, by rw [hN], (fun h => by rw [hN] at h; cases h), ?_⟩
  exact (hm.pick [2, 3] [1, 2, 3, 4] [0] rfl rfl).cx
 ·subst h
  by_cases hN_ : (wdL t).length = 3
  ·obtain ⟨a0, a1, a2, hw⟩ := list3f hN_
   have hb0 : a0 = clW := by rw [hw] at hx0; simpa using hx0
   subst hb0
   rw [hw] at hwz
   have za1 : a1.size ≤ 1000000 := hwz a1 (by simp)
   have za2 : a2.size ≤ 1000000 := hwz a2 (by simp)
   refine sg_ rfl (nn_ (sr_ (mv_ rfl ?_)))
   refine wl_callG (γ := Nat) (val := fun g => .tuple #[.slice (some ⟨g, 0, none⟩) 3 3, .bool (wdB t)]) (φ := fun _ => True) (K' := fun _ => (fun _ => True)) (L' := fun g => [(g, 9, [.string ⟨#[99, 108, 97, 115, 115]⟩, .string a1, .string a2]), (gf, 181, [v1, v2, v3, v4, .int .i64 pa]), (gr, 66, [.slice none 0 0, .slice none 0 0, .slice none 0 0, .slice none 0 0])]) (O' := fun _ => [⟨v1, 168, 15, sl.length, sl.flatMap stEnc⟩, ⟨v2, 170, 2, cl.length, cl.flatMap csEnc⟩, ⟨v3, 158, 2, vl.length, vl.flatMap vhEnc⟩, ⟨v4, 161, 3, pl.length, pl.flatMap plEnc⟩]) (X' := fun _ => [TxtO w0.heap.size none]) rfl cb72 rfl rfl (fun wx hm => (rwords_blk t wx (hm.fact 0 rfl).1 hts).mono fun e w' ⟨g, n, he, hb, ⟨h0, h1, _, _⟩, hg⟩ => ⟨g, by rw [hw] at h1; subst h1; exact he, trivial, hm.newAt hg h0 (by rw [hw] at hb; exact hb)⟩) ?_
   rintro gw _
   refine mv_ rfl (wl_ov (ov_extract rfl rfl) rfl (wl_ov (ov_extract rfl rfl) rfl (sg_ rfl (sg_ rfl (nn_ (sr_ ?_))))))
   refine wl_buildSlice (e := 9) (cs := [.string ⟨#[115, 116, 97, 116, 105, 111, 110]⟩, .string ⟨#[99, 108, 97, 115, 115]⟩, .string ⟨#[118, 101, 104, 105, 99, 108, 101]⟩, .string ⟨#[112, 108, 97, 116, 101]⟩]) rfl (by kernel_rfl) rfl fun g13 => ?_
   refine mv_ rfl ?_
   refine wl_ov (ov_index (j := 0) es112 rfl rfl (by omega)) rfl ?_
   refine lk_ sc9 1 rfl rfl rfl ?_
   refine wl_callv (v := .int .i64 1) rfl cb109 rfl rfl (fun wx hm => (by have h := tIndex_any ([⟨#[115, 116, 97, 116, 105, 111, 110]⟩, ⟨#[99, 108, 97, 115, 115]⟩, ⟨#[118, 101, 104, 105, 99, 108, 101]⟩, ⟨#[112, 108, 97, 116, 101]⟩] : List ByteArray) (some ⟨g13, 0, none⟩) 4 4 ⟨#[99, 108, 97, 115, 115]⟩ wx (SlT.ofBlk (l := ([⟨#[115, 116, 97, 116, 105, 111, 110]⟩, ⟨#[99, 108, 97, 115, 115]⟩, ⟨#[118, 101, 104, 105, 99, 108, 101]⟩, ⟨#[112, 108, 97, 116, 101]⟩] : List ByteArray)) sg_len (hm.blkI 0 rfl)) (by omega); rw [show ixP (eqP ⟨#[99, 108, 97, 115, 115]⟩) [⟨#[115, 116, 97, 116, 105, 111, 110]⟩, ⟨#[99, 108, 97, 115, 115]⟩, ⟨#[118, 101, 104, 105, 99, 108, 101]⟩, ⟨#[112, 108, 97, 116, 101]⟩] 0 = 1 from by decide +kernel] at h; exact h)) ?_
   refine sg_ rfl (nn_ (gw_seq (sr_ (mv_ rfl (wl_ov (ov_un_not rfl) rfl (mv_ rfl ?_))))))
   rcases Bool.eq_false_or_eq_true (!(wdB t)) with h1 | h1
   ·refine wl_set 31 rfl (congrArg Value.bool h1) ?_
    have hN : (fStep t ⟨sl, cl, vl, pl, pa + 1⟩).2 = false := by rw [fStep_no (fIt_wd h1)]
    refine goff rfl rfl rfl (goff rfl rfl rfl (goff rfl rfl rfl (goff rfl rfl rfl (goff rfl rfl rfl (goff rfl rfl rfl (pt_ rfl rfl (mv_ rfl (goff rfl rfl rfl (goff rfl rfl rfl (goff rfl rfl rfl (goff rfl rfl rfl (goff rfl rfl rfl (goff rfl rfl rfl ?_)))))))))))))
    refine goff rfl rfl rfl (pt_ rfl rfl (nn_ (ct_ rfl (sr_ (sg_ rfl (nn_ ?_))))))
    refine gw_ret ?_
    refine nx_then_ret ?_
    refine nx_ret1 rfl rfl fun wx hm => ?_
    refine ⟨v1, v2, v3, v4, pa, ⟨sl, cl, vl, pl, 1⟩, by rw [hN], (fun h => by rw [hN] at h; cases h), ?_⟩
    exact (hm.pick [2, 3] [0, 1, 2, 3] [0] rfl rfl).cx
   refine wl_set 31 rfl (congrArg Value.bool h1) ?_
   have hI := fIt_go h1
   rw [hw] at hI
   refine wl_guard_on rfl rfl rfl (mv_ rfl (wl_guard_on rfl rfl rfl (mv_ rfl (wl_guard_on rfl rfl rfl (wl_ov (ov_nilcheck rfl) rfl (wl_guard_on rfl rfl rfl (fd_ fo181_1 rfl rfl (wl_guard_on rfl rfl rfl (lk_ sc3 2 rfl rfl rfl (wl_guard_on rfl rfl rfl (wl_ov (ov_lss rfl rfl) rfl (pf_ rfl rfl (mv_ rfl ?_)))))))))))))
   rcases Bool.eq_false_or_eq_true (decide (1 < pa)) with hp | hp
   ·refine wl_set 39 rfl (congrArg Value.bool hp) ?_
    replace hp : (1 : Int) < pa := by simpa using hp
    have hN : (fStep t ⟨sl, cl, vl, pl, pa + 1⟩).2 = false := st_low (k := 2) hI rfl (fun h => absurd h (by decide +kernel)) (fun _ => rfl) (fun h => absurd h (by decide +kernel)) (fun h => absurd h (by decide +kernel)) (show (2 : Int) < pa + 1 by omega)
    refine goff rfl rfl rfl (goff rfl rfl rfl (goff rfl rfl rfl (goff rfl rfl rfl (goff rfl rfl rfl (goff rfl rfl rfl (goff rfl rfl rfl (pt_ rfl rfl (nn_ (ct_ rfl (sr_ (sg_ rfl ?_)))))))))))
    refine nn_ ?_
    refine gw_ret ?_
    refine nx_then_ret ?_
    refine nx_ret1 rfl rfl fun wx hm => ?_
    refine ⟨v1, v2, v3, v4, pa, ⟨sl, cl, vl, pl, 1⟩, by rw [hN], (fun h => by rw [hN] at h; cases h), ?_⟩
    exact (hm.pick [2, 3] [0, 1, 2, 3] [0] rfl rfl).cx
   refine wl_set 39 rfl (congrArg Value.bool hp) ?_
   replace hp : ¬ (1 : Int) < pa := by simpa using hp
   have hlow : ¬ (2 : Int) < pa + 1 := by omega
   rw [item_cs] at hI
   refine wl_guard_on rfl rfl rfl (mv_ rfl (wl_guard_on rfl rfl rfl (wl_ov (ov_len es112 rfl) rfl ?_)))
   refine wl_set 41 (v' := .int .i64 3) rfl rfl ?_
   refine wl_guard_on rfl rfl rfl ?_
   refine wl_buildSlice (e := 3) (cs := [.int .i64 9, .int .i64 3, .int .i64 3, .int .i64 4]) rfl (by kernel_rfl) rfl fun g14 => ?_
   refine wl_guard_on rfl rfl rfl (mv_ rfl (wl_guard_on rfl rfl rfl ?_))
   refine wl_ov (ov_index (j := 1) es22 rfl rfl (by omega)) rfl ?_
   refine wl_guard_on rfl rfl rfl (lk_ sc3 0 rfl rfl rfl (wl_guard_on rfl rfl rfl (wl_ov (ov_neq rfl rfl) rfl ?_)))
   refine wl_set 46 (v' := .bool false) rfl (congrArg Value.bool (by decide)) ?_
   refine pf_ rfl rfl (nn_ (cf_ rfl (gw_skip (nx_then (sr_ (mv_ rfl (mv_ rfl (wl_ov (ov_nilcheck rfl) rfl (fd_ fo181_1 rfl rfl ?_)))))))))
   refine wl_store 3 sc3 rfl rfl rfl rfl rfl rfl ?_
   refine nn_ (gw_seq (sr_ (mv_ rfl (nn_ (gw_block (sr_ (wl_ov (ov_eql rfl rfl) rfl ?_)))))))
   refine wl_set 81 (v' := .bool false) rfl (congrArg Value.bool (by decide)) ?_
   refine sg_ rfl (nn_ (cf_ rfl (sr_ (wl_ov (ov_eql rfl rfl) rfl ?_))))
   refine wl_set 143 (v' := .bool true) rfl (congrArg Value.bool (by decide)) ?_
   refine sg_ rfl (nn_ (ct_ rfl (gw_seq (sr_ (mv_ rfl ?_)))))
   refine wl_ov (ov_index (j := 2) es112 rfl rfl (by omega)) rfl ?_
   refine lk_ sc9 2 rfl rfl rfl (wl_ov (ov_seql rfl rfl) rfl (nn_ ?_))
   rcases Bool.eq_false_or_eq_true (a2.toList == (⟨#[45]⟩ : ByteArray).toList) with hd | hd
   ·refine gw_set 147 rfl (congrArg Value.bool hd) ?_
    rw [show und a2 = ⟨#[]⟩ from if_pos hd] at hI
    refine gw_look (R := ∃ A cc, v2 = .slice A cl.length cc) (fun wx hm => own_slice (hm.ownI 1 rfl)) ?_
    rintro ⟨A_, c_, rfl⟩
    refine ct_ rfl (gw_region (mv_ rfl ?_))
    refine wl_ov (ov_index (j := 2) es112 rfl rfl (by omega)) rfl ?_
    refine wl_store 2 sc9 rfl rfl rfl rfl rfl rfl ?_
    refine nn_ ?_
    refine gd (fun wz => Blk wz g14 3 [.int .i64 9, .int .i64 3, .int .i64 3, .int .i64 4] ∧ Blk wz g13 9 [.string ⟨#[115, 116, 97, 116, 105, 111, 110]⟩, .string ⟨#[99, 108, 97, 115, 115]⟩, .string ⟨#[118, 101, 104, 105, 99, 108, 101]⟩, .string ⟨#[112, 108, 97, 116, 101]⟩] ∧ Blk wz gw 9 [.string ⟨#[99, 108, 97, 115, 115]⟩, .string a1, .string ⟨#[]⟩] ∧ Blk wz gr 66 [.slice none 0 0, .slice none 0 0, .slice none 0 0, .slice none 0 0] ∧ (TxtO w0.heap.size none) wz ∧ True) mixed (fun _ hm => ⟨hm.bl 0, hm.bl 1, hm.bl 2, hm.bl 4, hm.fa 0, trivial⟩) fun z => ?_
    refine wt 0 19 1 rfl z (ov_move rfl) ?_
    refine wt 1 19 3 rfl z (ov_move rfl) ?_
    refine wt 2 19 7 rfl z (ov_nilcheck rfl) ?_
    refine wt 3 19 15 rfl z (ov_field fo181_0 rfl rfl) ?_
    refine wt 4 19 31 rfl z (ov_field fo66_1 rfl rfl) ?_
    refine wt 6 19 95 rfl z (ov_move rfl) ?_
    refine wt 7 19 223 rfl z (ov_index (j := 1) es112 rfl rfl (by omega)) ?_
    refine wt 8 19 479 rfl z (ov_load sc9 rfl (fun _ hm => hm.2.2.1) rfl) ?_
    refine wt 9 19 991 rfl z (ov_move rfl) ?_
    refine wt 10 19 2015 rfl z (ov_index (j := 2) es112 rfl rfl (by omega)) ?_
    refine wt 11 19 4063 rfl z (ov_load sc9 rfl (fun _ hm => hm.2.2.1) rfl) ?_
    refine wt 12 19 8159 rfl z (ov_build (cs := [.string a1, .string ⟨#[]⟩]) rfl (by kernel_rfl)) ?_
    refine wa_all [5, 13] (by kernel_rfl) rfl ⟨⟨_, rfl, ?_⟩, ⟨_, rfl, ?_⟩, trivial⟩
    ·refine lk_ sc62 3 rfl rfl rfl (wl_nil ?_)
     refine nw 19 8191 (fun _ hm => ⟨hm.bl 0, hm.bl 1, hm.bl 2, hm.bl 4, hm.fa 0, trivial⟩) fun z => ?_
     refine wa1 13 rfl ?_
     refine wl_buildSlice (e := 170) (cs := [.string a1, .string ⟨#[]⟩]) rfl (by kernel_rfl) rfl fun g15 => ?_
     refine wl_nil ?_
     refine nw 19 16383 (fun _ hm => ⟨hm.bl 1, hm.bl 2, hm.bl 3, hm.bl 5, hm.fa 0, trivial⟩) fun z => ?_
     refine wa1 14 rfl ?_
     refine wl_append (news := [.string a1, .string ⟨#[]⟩]) 1 0 ap62 rfl rfl rfl rfl rfl rfl rfl (by omega) (by unfold maxLen; omega) rfl rfl fun v9 hv => ?_
     refine wl_look (R := ∃ A cc, v9 = .slice A (cl.length + 1) cc) (fun wx hm => own_slice (hm.ownI 1 rfl)) ?_
     rintro ⟨A5, c5, rfl⟩
     refine wl_nil ?_
     refine nw 19 32767 (fun _ hm => ⟨hm.bl 1, hm.bl 2, hm.bl 3, hm.bl 5, hm.fa 0, trivial⟩) fun z => ?_
     refine wt 15 19 65535 rfl z (ov_nilcheck rfl) ?_
     refine wt 16 19 131071 rfl z (ov_field fo181_0 rfl rfl) ?_
     refine wt 17 19 262143 rfl z (ov_field fo66_1 rfl rfl) ?_
     refine wa1 18 rfl ?_
     refine wl_store 4 sc62 rfl rfl rfl rfl rfl rfl ?_
     refine wl_nil ?_
     refine nw 19 524287 (fun _ hm => ⟨hm.bl 1, hm.bl 2, hm.bl 3, hm.bl 5, hm.fa 0, trivial⟩) fun z => ?_
     refine wa_done (by kernel_rfl) ?_
     refine nx_blk_nrm (nx_then (sr_ (sg_ rfl (nn_ ?_))))
     refine gw_ret ?_
     rw [show cl.flatMap csEnc ++ ([.string a1, .string ⟨#[]⟩] : List Value) = (cl ++ [((⟨a1, ⟨#[]⟩⟩ : Cs))]).flatMap csEnc from by simp [csEnc]]
     have hY : fStep t ⟨sl, cl, vl, pl, pa + 1⟩ = (fPush ⟨sl, cl, vl, pl, pa + 1⟩ (.cs (⟨a1, ⟨#[]⟩⟩ : Cs)), true) := fStep_yes hI hlow
     refine nx_ret1 rfl rfl fun wx hm => ?_
     refine ⟨v1, .slice A5 (cl.length + 1) c5, v3, v4, 1, ⟨sl, (cl ++ [(⟨a1, ⟨#[]⟩⟩ : Cs)]), vl, pl, 2⟩, by rw [hY], (fun _ => ⟨by rw [hY]; rfl, by show (1 : Int) + 1 = 2; decide⟩), ?_⟩
     have e9 : (cl ++ [(⟨a1, ⟨#[]⟩⟩ : Cs)]).length = cl.length + 1 := by simp
     show Mem ⟨0, w0, none, []⟩ (fun _ => True) (fpR gf gr (1) v1 (.slice A5 (cl.length + 1) c5) v3 v4) [⟨v1, 168, 15, (sl).length, (sl).flatMap stEnc⟩, ⟨.slice A5 (cl.length + 1) c5, 170, 2, ((cl ++ [(⟨a1, ⟨#[]⟩⟩ : Cs)])).length, ((cl ++ [(⟨a1, ⟨#[]⟩⟩ : Cs)])).flatMap csEnc⟩, ⟨v3, 158, 2, (vl).length, (vl).flatMap vhEnc⟩, ⟨v4, 161, 3, (pl).length, (pl).flatMap plEnc⟩] [TxtO w0.heap.size none] _
     rw [e9]
     exact (hm.pick [4, 5] [0, 1, 2, 3] [0] rfl rfl).cx
    refine wl_buildSlice (e := 170) (cs := [.string a1, .string ⟨#[]⟩]) rfl (by kernel_rfl) rfl fun g16 => ?_
    refine wl_nil ?_
    refine nw 19 16351 (fun _ hm => ⟨hm.bl 1, hm.bl 2, hm.bl 3, hm.bl 5, hm.fa 0, trivial⟩) fun z => ?_
    refine wa1 5 rfl ?_
    refine lk_ sc62 4 rfl rfl rfl (wl_nil ?_)
    refine nw 19 16383 (fun _ hm => ⟨hm.bl 1, hm.bl 2, hm.bl 3, hm.bl 5, hm.fa 0, trivial⟩) fun z => ?_
    refine wa1 14 rfl ?_
    refine wl_append (news := [.string a1, .string ⟨#[]⟩]) 1 0 ap62 rfl rfl rfl rfl rfl rfl rfl (by omega) (by unfold maxLen; omega) rfl rfl fun v9 hv => ?_
    refine wl_look (R := ∃ A cc, v9 = .slice A (cl.length + 1) cc) (fun wx hm => own_slice (hm.ownI 1 rfl)) ?_
    rintro ⟨A5, c5, rfl⟩
    refine wl_nil ?_
    refine nw 19 32767 (fun _ hm => ⟨hm.bl 1, hm.bl 2, hm.bl 3, hm.bl 5, hm.fa 0, trivial⟩) fun z => ?_
    refine wt 15 19 65535 rfl z (ov_nilcheck rfl) ?_
    refine wt 16 19 131071 rfl z (ov_field fo181_0 rfl rfl) ?_
    refine wt 17 19 262143 rfl z (ov_field fo66_1 rfl rfl) ?_
    refine wa1 18 rfl ?_
    refine wl_store 4 sc62 rfl rfl rfl rfl rfl rfl ?_
    refine wl_nil ?_
    refine nw 19 524287 (fun _ hm => ⟨hm.bl 1, hm.bl 2, hm.bl 3, hm.bl 5, hm.fa 0, trivial⟩) fun z => ?_
    refine wa_done (by kernel_rfl) ?_
    refine nx_blk_nrm (nx_then (sr_ (sg_ rfl (nn_ ?_))))
    refine gw_ret ?_
    rw [show cl.flatMap csEnc ++ ([.string a1, .string ⟨#[]⟩] : List Value) = (cl ++ [((⟨a1, ⟨#[]⟩⟩ : Cs))]).flatMap csEnc from by simp [csEnc]]
    have hY : fStep t ⟨sl, cl, vl, pl, pa + 1⟩ = (fPush ⟨sl, cl, vl, pl, pa + 1⟩ (.cs (⟨a1, ⟨#[]⟩⟩ : Cs)), true) := fStep_yes hI hlow
    refine nx_ret1 rfl rfl fun wx hm => ?_
    refine ⟨v1, .slice A5 (cl.length + 1) c5, v3, v4, 1, ⟨sl, (cl ++ [(⟨a1, ⟨#[]⟩⟩ : Cs)]), vl, pl, 2⟩, by rw [hY], (fun _ => ⟨by rw [hY]; rfl, by show (1 : Int) + 1 = 2; decide⟩), ?_⟩
    have e9 : (cl ++ [(⟨a1, ⟨#[]⟩⟩ : Cs)]).length = cl.length + 1 := by simp
    show Mem ⟨0, w0, none, []⟩ (fun _ => True) (fpR gf gr (1) v1 (.slice A5 (cl.length + 1) c5) v3 v4) [⟨v1, 168, 15, (sl).length, (sl).flatMap stEnc⟩, ⟨.slice A5 (cl.length + 1) c5, 170, 2, ((cl ++ [(⟨a1, ⟨#[]⟩⟩ : Cs)])).length, ((cl ++ [(⟨a1, ⟨#[]⟩⟩ : Cs)])).flatMap csEnc⟩, ⟨v3, 158, 2, (vl).length, (vl).flatMap vhEnc⟩, ⟨v4, 161, 3, (pl).length, (pl).flatMap plEnc⟩] [TxtO w0.heap.size none] _
    rw [e9]
    exact (hm.pick [4, 5] [0, 1, 2, 3] [0] rfl rfl).cx
   refine gw_set 147 rfl (congrArg Value.bool hd) ?_
   rw [show und a2 = a2 from if_neg (by rw [show (a2.toList == dashS.toList) = false from hd]; decide)] at hI
   refine gw_look (R := ∃ A cc, v2 = .slice A cl.length cc) (fun wx hm => own_slice (hm.ownI 1 rfl)) ?_
   rintro ⟨A_, c_, rfl⟩
   refine cf_ rfl (gw_skip (nx_then ?_))
   refine gd (fun wz => Blk wz g14 3 [.int .i64 9, .int .i64 3, .int .i64 3, .int .i64 4] ∧ Blk wz g13 9 [.string ⟨#[115, 116, 97, 116, 105, 111, 110]⟩, .string ⟨#[99, 108, 97, 115, 115]⟩, .string ⟨#[118, 101, 104, 105, 99, 108, 101]⟩, .string ⟨#[112, 108, 97, 116, 101]⟩] ∧ Blk wz gw 9 [.string ⟨#[99, 108, 97, 115, 115]⟩, .string a1, .string a2] ∧ Blk wz gr 66 [.slice none 0 0, .slice none 0 0, .slice none 0 0, .slice none 0 0] ∧ (TxtO w0.heap.size none) wz ∧ True) mixed (fun _ hm => ⟨hm.bl 0, hm.bl 1, hm.bl 2, hm.bl 4, hm.fa 0, trivial⟩) fun z => ?_
   refine wt 0 19 1 rfl z (ov_move rfl) ?_
   refine wt 1 19 3 rfl z (ov_move rfl) ?_
   refine wt 2 19 7 rfl z (ov_nilcheck rfl) ?_
   refine wt 3 19 15 rfl z (ov_field fo181_0 rfl rfl) ?_
   refine wt 4 19 31 rfl z (ov_field fo66_1 rfl rfl) ?_
   refine wt 6 19 95 rfl z (ov_move rfl) ?_
   refine wt 7 19 223 rfl z (ov_index (j := 1) es112 rfl rfl (by omega)) ?_
   refine wt 8 19 479 rfl z (ov_load sc9 rfl (fun _ hm => hm.2.2.1) rfl) ?_
   refine wt 9 19 991 rfl z (ov_move rfl) ?_
   refine wt 10 19 2015 rfl z (ov_index (j := 2) es112 rfl rfl (by omega)) ?_
   refine wt 11 19 4063 rfl z (ov_load sc9 rfl (fun _ hm => hm.2.2.1) rfl) ?_
   refine wt 12 19 8159 rfl z (ov_build (cs := [.string a1, .string a2]) rfl (by kernel_rfl)) ?_
   refine wa_all [5, 13] (by kernel_rfl) rfl ⟨⟨_, rfl, ?_⟩, ⟨_, rfl, ?_⟩, trivial⟩
   ·refine lk_ sc62 3 rfl rfl rfl (wl_nil ?_)
    refine nw 19 8191 (fun _ hm => ⟨hm.bl 0, hm.bl 1, hm.bl 2, hm.bl 4, hm.fa 0, trivial⟩) fun z => ?_
    refine wa1 13 rfl ?_
    refine wl_buildSlice (e := 170) (cs := [.string a1, .string a2]) rfl (by kernel_rfl) rfl fun g17 => ?_
    refine wl_nil ?_
    refine nw 19 16383 (fun _ hm => ⟨hm.bl 1, hm.bl 2, hm.bl 3, hm.bl 5, hm.fa 0, trivial⟩) fun z => ?_
    refine wa1 14 rfl ?_
    refine wl_append (news := [.string a1, .string a2]) 1 0 ap62 rfl rfl rfl rfl rfl rfl rfl (by omega) (by unfold maxLen; omega) rfl rfl fun v9 hv => ?_
    refine wl_look (R := ∃ A cc, v9 = .slice A (cl.length + 1) cc) (fun wx hm => own_slice (hm.ownI 1 rfl)) ?_
    rintro ⟨A5, c5, rfl⟩
    refine wl_nil ?_
    refine nw 19 32767 (fun _ hm => ⟨hm.bl 1, hm.bl 2, hm.bl 3, hm.bl 5, hm.fa 0, trivial⟩) fun z => ?_
    refine wt 15 19 65535 rfl z (ov_nilcheck rfl) ?_
    refine wt 16 19 131071 rfl z (ov_field fo181_0 rfl rfl) ?_
    refine wt 17 19 262143 rfl z (ov_field fo66_1 rfl rfl) ?_
    refine wa1 18 rfl ?_
    refine wl_store 4 sc62 rfl rfl rfl rfl rfl rfl ?_
    refine wl_nil ?_
    refine nw 19 524287 (fun _ hm => ⟨hm.bl 1, hm.bl 2, hm.bl 3, hm.bl 5, hm.fa 0, trivial⟩) fun z => ?_
    refine wa_done (by kernel_rfl) ?_
    refine nx_blk_nrm (nx_then (sr_ (sg_ rfl (nn_ ?_))))
    refine gw_ret ?_
    rw [show cl.flatMap csEnc ++ ([.string a1, .string a2] : List Value) = (cl ++ [((⟨a1, a2⟩ : Cs))]).flatMap csEnc from by simp [csEnc]]
    have hY : fStep t ⟨sl, cl, vl, pl, pa + 1⟩ = (fPush ⟨sl, cl, vl, pl, pa + 1⟩ (.cs (⟨a1, a2⟩ : Cs)), true) := fStep_yes hI hlow
    refine nx_ret1 rfl rfl fun wx hm => ?_
    refine ⟨v1, .slice A5 (cl.length + 1) c5, v3, v4, 1, ⟨sl, (cl ++ [(⟨a1, a2⟩ : Cs)]), vl, pl, 2⟩, by rw [hY], (fun _ => ⟨by rw [hY]; rfl, by show (1 : Int) + 1 = 2; decide⟩), ?_⟩
    have e9 : (cl ++ [(⟨a1, a2⟩ : Cs)]).length = cl.length + 1 := by simp
    show Mem ⟨0, w0, none, []⟩ (fun _ => True) (fpR gf gr (1) v1 (.slice A5 (cl.length + 1) c5) v3 v4) [⟨v1, 168, 15, (sl).length, (sl).flatMap stEnc⟩, ⟨.slice A5 (cl.length + 1) c5, 170, 2, ((cl ++ [(⟨a1, a2⟩ : Cs)])).length, ((cl ++ [(⟨a1, a2⟩ : Cs)])).flatMap csEnc⟩, ⟨v3, 158, 2, (vl).length, (vl).flatMap vhEnc⟩, ⟨v4, 161, 3, (pl).length, (pl).flatMap plEnc⟩] [TxtO w0.heap.size none] _
    rw [e9]
    exact (hm.pick [4, 5] [0, 1, 2, 3] [0] rfl rfl).cx
   refine wl_buildSlice (e := 170) (cs := [.string a1, .string a2]) rfl (by kernel_rfl) rfl fun g18 => ?_
   refine wl_nil ?_
   refine nw 19 16351 (fun _ hm => ⟨hm.bl 1, hm.bl 2, hm.bl 3, hm.bl 5, hm.fa 0, trivial⟩) fun z => ?_
   refine wa1 5 rfl ?_
   refine lk_ sc62 4 rfl rfl rfl (wl_nil ?_)
   refine nw 19 16383 (fun _ hm => ⟨hm.bl 1, hm.bl 2, hm.bl 3, hm.bl 5, hm.fa 0, trivial⟩) fun z => ?_
   refine wa1 14 rfl ?_
   refine wl_append (news := [.string a1, .string a2]) 1 0 ap62 rfl rfl rfl rfl rfl rfl rfl (by omega) (by unfold maxLen; omega) rfl rfl fun v9 hv => ?_
   refine wl_look (R := ∃ A cc, v9 = .slice A (cl.length + 1) cc) (fun wx hm => own_slice (hm.ownI 1 rfl)) ?_
   rintro ⟨A5, c5, rfl⟩
   refine wl_nil ?_
   refine nw 19 32767 (fun _ hm => ⟨hm.bl 1, hm.bl 2, hm.bl 3, hm.bl 5, hm.fa 0, trivial⟩) fun z => ?_
   refine wt 15 19 65535 rfl z (ov_nilcheck rfl) ?_
   refine wt 16 19 131071 rfl z (ov_field fo181_0 rfl rfl) ?_
   refine wt 17 19 262143 rfl z (ov_field fo66_1 rfl rfl) ?_
   refine wa1 18 rfl ?_
   refine wl_store 4 sc62 rfl rfl rfl rfl rfl rfl ?_
   refine wl_nil ?_
   refine nw 19 524287 (fun _ hm => ⟨hm.bl 1, hm.bl 2, hm.bl 3, hm.bl 5, hm.fa 0, trivial⟩) fun z => ?_
   refine wa_done (by kernel_rfl) ?_
   refine nx_blk_nrm (nx_then (sr_ (sg_ rfl (nn_ ?_))))
   refine gw_ret ?_
   rw [show cl.flatMap csEnc ++ ([.string a1, .string a2] : List Value) = (cl ++ [((⟨a1, a2⟩ : Cs))]).flatMap csEnc from by simp [csEnc]]
   have hY : fStep t ⟨sl, cl, vl, pl, pa + 1⟩ = (fPush ⟨sl, cl, vl, pl, pa + 1⟩ (.cs (⟨a1, a2⟩ : Cs)), true) := fStep_yes hI hlow
   refine nx_ret1 rfl rfl fun wx hm => ?_
   refine ⟨v1, .slice A5 (cl.length + 1) c5, v3, v4, 1, ⟨sl, (cl ++ [(⟨a1, a2⟩ : Cs)]), vl, pl, 2⟩, by rw [hY], (fun _ => ⟨by rw [hY]; rfl, by show (1 : Int) + 1 = 2; decide⟩), ?_⟩
   have e9 : (cl ++ [(⟨a1, a2⟩ : Cs)]).length = cl.length + 1 := by simp
   show Mem ⟨0, w0, none, []⟩ (fun _ => True) (fpR gf gr (1) v1 (.slice A5 (cl.length + 1) c5) v3 v4) [⟨v1, 168, 15, (sl).length, (sl).flatMap stEnc⟩, ⟨.slice A5 (cl.length + 1) c5, 170, 2, ((cl ++ [(⟨a1, a2⟩ : Cs)])).length, ((cl ++ [(⟨a1, a2⟩ : Cs)])).flatMap csEnc⟩, ⟨v3, 158, 2, (vl).length, (vl).flatMap vhEnc⟩, ⟨v4, 161, 3, (pl).length, (pl).flatMap plEnc⟩] [TxtO w0.heap.size none] _
   rw [e9]
   exact (hm.pick [4, 5] [0, 1, 2, 3] [0] rfl rfl).cx
  refine sg_ rfl (nn_ (sr_ (mv_ rfl ?_)))
  refine wl_callgo (γ := Nat × Nat) (val := (fun g => .tuple #[.slice (some ⟨g.1, 0, none⟩) g.2 g.2, .bool (wdB t)])) (φ := (fun g => g.2 = (wdL t).length ∧ 1 ≤ g.2 ∧ g.2 ≤ t.size + 1)) (fun g => ⟨.slice (some ⟨g.1, 0, none⟩) g.2 g.2, 9, 1, g.2, (wdL t).flatMap sgEnc⟩) rfl cb72 rfl rfl (fun wx hm => (rwords_own t wx (hm.fact 0 rfl).1 hts).mono fun _ _ ⟨g, k, he, h1, h2, hg⟩ => ⟨(g, k), he, h2, h1, hg⟩) ?_
  rintro ⟨gw, kw⟩ hkw
  dsimp only at hkw ⊢
  obtain ⟨hkl, hk1, hk2⟩ := hkw
  refine mv_ rfl (wl_ov (ov_extract rfl rfl) rfl (wl_ov (ov_extract rfl rfl) rfl (sg_ rfl (sg_ rfl (nn_ (sr_ ?_))))))
  refine wl_buildSlice (e := 9) (cs := [.string ⟨#[115, 116, 97, 116, 105, 111, 110]⟩, .string ⟨#[99, 108, 97, 115, 115]⟩, .string ⟨#[118, 101, 104, 105, 99, 108, 101]⟩, .string ⟨#[112, 108, 97, 116, 101]⟩]) rfl (by kernel_rfl) rfl fun g11 => ?_
  refine mv_ rfl ?_
  refine wl_ov (ov_index (j := 0) es112 rfl rfl (by omega)) rfl ?_
  refine wl_ov (ov_elem1 (k := 0) (v := .string ⟨#[99, 108, 97, 115, 115]⟩) sc9 rfl (fun _ hm => (show SlT sgEnc 1 9 _ (some ⟨gw, 0, none⟩) kw (wdL t) from SlT.ofOwn sg_len (hm.ownI 0 rfl) hkl.symm)) hx0 rfl rfl) rfl ?_
  refine wl_callv (v := .int .i64 1) rfl cb109 rfl rfl (fun wx hm => (by have h := tIndex_any ([⟨#[115, 116, 97, 116, 105, 111, 110]⟩, ⟨#[99, 108, 97, 115, 115]⟩, ⟨#[118, 101, 104, 105, 99, 108, 101]⟩, ⟨#[112, 108, 97, 116, 101]⟩] : List ByteArray) (some ⟨g11, 0, none⟩) 4 4 ⟨#[99, 108, 97, 115, 115]⟩ wx (SlT.ofBlk (l := ([⟨#[115, 116, 97, 116, 105, 111, 110]⟩, ⟨#[99, 108, 97, 115, 115]⟩, ⟨#[118, 101, 104, 105, 99, 108, 101]⟩, ⟨#[112, 108, 97, 116, 101]⟩] : List ByteArray)) sg_len (hm.blkI 0 rfl)) (by omega); rw [show ixP (eqP ⟨#[99, 108, 97, 115, 115]⟩) [⟨#[115, 116, 97, 116, 105, 111, 110]⟩, ⟨#[99, 108, 97, 115, 115]⟩, ⟨#[118, 101, 104, 105, 99, 108, 101]⟩, ⟨#[112, 108, 97, 116, 101]⟩] 0 = 1 from by decide +kernel] at h; exact h)) ?_
  have hN : (fStep t ⟨sl, cl, vl, pl, pa + 1⟩).2 = false := by
   cases hw : wdB t with
   | false => rw [fStep_no (fIt_wd (by rw [hw]; rfl))]
   | true => rw [fStep_no ((fIt_go (by rw [hw]; rfl)).trans (fItem_bad hx0 (fun h => absurd h hN_) (fun h => by decide +kernel) (fun h => by decide +kernel)))]
  refine sg_ rfl (nn_ (gw_seq (sr_ (mv_ rfl (wl_ov (ov_un_not rfl) rfl (mv_ rfl ?_))))))
  rcases Bool.eq_false_or_eq_true (!(wdB t)) with h1 | h1
  ·refine wl_set 31 rfl (congrArg Value.bool h1) ?_
   refine goff rfl rfl rfl (goff rfl rfl rfl (goff rfl rfl rfl (goff rfl rfl rfl (goff rfl rfl rfl (goff rfl rfl rfl (pt_ rfl rfl (mv_ rfl (goff rfl rfl rfl (goff rfl rfl rfl (goff rfl rfl rfl (goff rfl rfl rfl (goff rfl rfl rfl (goff rfl rfl rfl ?_)))))))))))))
   refine goff rfl rfl rfl (pt_ rfl rfl (nn_ (ct_ rfl (sr_ (sg_ rfl (nn_ ?_))))))
   refine gw_ret ?_
   refine nx_then_ret ?_
   refine nx_ret1 rfl rfl fun wx hm => ?_
   refine ⟨v1, v2, v3, v4, pa, ⟨sl, cl, vl, pl, 1⟩, by rw [hN], (fun h => by rw [hN] at h; cases h), ?_⟩
   exact (hm.pick [1, 2] [1, 2, 3, 4] [0] rfl rfl).cx
  refine wl_set 31 rfl (congrArg Value.bool h1) ?_
  refine wl_guard_on rfl rfl rfl (mv_ rfl (wl_guard_on rfl rfl rfl (mv_ rfl (wl_guard_on rfl rfl rfl (wl_ov (ov_nilcheck rfl) rfl (wl_guard_on rfl rfl rfl (fd_ fo181_1 rfl rfl (wl_guard_on rfl rfl rfl (lk_ sc3 1 rfl rfl rfl (wl_guard_on rfl rfl rfl (wl_ov (ov_lss rfl rfl) rfl (pf_ rfl rfl (mv_ rfl ?_)))))))))))))
  rcases Bool.eq_false_or_eq_true (decide (1 < pa)) with hp | hp
  ·refine wl_set 39 rfl (congrArg Value.bool hp) ?_
   refine goff rfl rfl rfl (goff rfl rfl rfl (goff rfl rfl rfl (goff rfl rfl rfl (goff rfl rfl rfl (goff rfl rfl rfl (goff rfl rfl rfl (pt_ rfl rfl (nn_ (ct_ rfl (sr_ (sg_ rfl ?_)))))))))))
   refine nn_ ?_
   refine gw_ret ?_
   refine nx_then_ret ?_
   refine nx_ret1 rfl rfl fun wx hm => ?_
   refine ⟨v1, v2, v3, v4, pa, ⟨sl, cl, vl, pl, 1⟩, by rw [hN], (fun h => by rw [hN] at h; cases h), ?_⟩
   exact (hm.pick [1, 2] [1, 2, 3, 4] [0] rfl rfl).cx
  refine wl_set 39 rfl (congrArg Value.bool hp) ?_
  refine wl_guard_on rfl rfl rfl (mv_ rfl (wl_guard_on rfl rfl rfl (wl_ov (ov_len es112 rfl) rfl (wl_guard_on rfl rfl rfl ?_))))
  refine wl_buildSlice (e := 3) (cs := [.int .i64 9, .int .i64 3, .int .i64 3, .int .i64 4]) rfl (by kernel_rfl) rfl fun g12 => ?_
  refine wl_guard_on rfl rfl rfl (mv_ rfl (wl_guard_on rfl rfl rfl ?_))
  refine wl_ov (ov_index (j := 1) es22 rfl rfl (by omega)) rfl ?_
  refine wl_guard_on rfl rfl rfl (lk_ sc3 0 rfl rfl rfl (wl_guard_on rfl rfl rfl (wl_ov (ov_neq rfl rfl) rfl (pf_ rfl rfl (nn_ ?_)))))
  refine gw_set 47 (v' := .bool true) rfl (congrArg Value.bool (by rw [decide_eq_false (by omega)]; rfl)) ?_
  refine ct_ rfl (sr_ (sg_ rfl (nn_ ?_)))
  refine gw_ret ?_
  refine nx_then_ret ?_
  refine nx_ret1 rfl rfl fun wx hm => ?_
  refine ⟨v1, v2, v3, v4, pa, ⟨sl, cl, vl, pl, 1⟩, by rw [hN], (fun h => by rw [hN] at h; cases h), ?_⟩
  exact (hm.pick [2, 3] [1, 2, 3, 4] [0] rfl rfl).cx
 ·subst h
  by_cases hN_ : (wdL t).length = 3
  ·obtain ⟨a0, a1, a2, hw⟩ := list3f hN_
   have hb0 : a0 = vhW := by rw [hw] at hx0; simpa using hx0
   subst hb0
   rw [hw] at hwz
   have za1 : a1.size ≤ 1000000 := hwz a1 (by simp)
   have za2 : a2.size ≤ 1000000 := hwz a2 (by simp)
   refine sg_ rfl (nn_ (sr_ (mv_ rfl ?_)))
   refine wl_callG (γ := Nat) (val := fun g => .tuple #[.slice (some ⟨g, 0, none⟩) 3 3, .bool (wdB t)]) (φ := fun _ => True) (K' := fun _ => (fun _ => True)) (L' := fun g => [(g, 9, [.string ⟨#[118, 101, 104, 105, 99, 108, 101]⟩, .string a1, .string a2]), (gf, 181, [v1, v2, v3, v4, .int .i64 pa]), (gr, 66, [.slice none 0 0, .slice none 0 0, .slice none 0 0, .slice none 0 0])]) (O' := fun _ => [⟨v1, 168, 15, sl.length, sl.flatMap stEnc⟩, ⟨v2, 170, 2, cl.length, cl.flatMap csEnc⟩, ⟨v3, 158, 2, vl.length, vl.flatMap vhEnc⟩, ⟨v4, 161, 3, pl.length, pl.flatMap plEnc⟩]) (X' := fun _ => [TxtO w0.heap.size none]) rfl cb72 rfl rfl (fun wx hm => (rwords_blk t wx (hm.fact 0 rfl).1 hts).mono fun e w' ⟨g, n, he, hb, ⟨h0, h1, _, _⟩, hg⟩ => ⟨g, by rw [hw] at h1; subst h1; exact he, trivial, hm.newAt hg h0 (by rw [hw] at hb; exact hb)⟩) ?_
   rintro gw _
   refine mv_ rfl (wl_ov (ov_extract rfl rfl) rfl (wl_ov (ov_extract rfl rfl) rfl (sg_ rfl (sg_ rfl (nn_ (sr_ ?_))))))
   refine wl_buildSlice (e := 9) (cs := [.string ⟨#[115, 116, 97, 116, 105, 111, 110]⟩, .string ⟨#[99, 108, 97, 115, 115]⟩, .string ⟨#[118, 101, 104, 105, 99, 108, 101]⟩, .string ⟨#[112, 108, 97, 116, 101]⟩]) rfl (by kernel_rfl) rfl fun g21 => ?_
   refine mv_ rfl ?_
   refine wl_ov (ov_index (j := 0) es112 rfl rfl (by omega)) rfl ?_
   refine lk_ sc9 1 rfl rfl rfl ?_
   refine wl_callv (v := .int .i64 2) rfl cb109 rfl rfl (fun wx hm => (by have h := tIndex_any ([⟨#[115, 116, 97, 116, 105, 111, 110]⟩, ⟨#[99, 108, 97, 115, 115]⟩, ⟨#[118, 101, 104, 105, 99, 108, 101]⟩, ⟨#[112, 108, 97, 116, 101]⟩] : List ByteArray) (some ⟨g21, 0, none⟩) 4 4 ⟨#[118, 101, 104, 105, 99, 108, 101]⟩ wx (SlT.ofBlk (l := ([⟨#[115, 116, 97, 116, 105, 111, 110]⟩, ⟨#[99, 108, 97, 115, 115]⟩, ⟨#[118, 101, 104, 105, 99, 108, 101]⟩, ⟨#[112, 108, 97, 116, 101]⟩] : List ByteArray)) sg_len (hm.blkI 0 rfl)) (by omega); rw [show ixP (eqP ⟨#[118, 101, 104, 105, 99, 108, 101]⟩) [⟨#[115, 116, 97, 116, 105, 111, 110]⟩, ⟨#[99, 108, 97, 115, 115]⟩, ⟨#[118, 101, 104, 105, 99, 108, 101]⟩, ⟨#[112, 108, 97, 116, 101]⟩] 0 = 2 from by decide +kernel] at h; exact h)) ?_
   refine sg_ rfl (nn_ (gw_seq (sr_ (mv_ rfl (wl_ov (ov_un_not rfl) rfl (mv_ rfl ?_))))))
   rcases Bool.eq_false_or_eq_true (!(wdB t)) with h1 | h1
   ·refine wl_set 31 rfl (congrArg Value.bool h1) ?_
    have hN : (fStep t ⟨sl, cl, vl, pl, pa + 1⟩).2 = false := by rw [fStep_no (fIt_wd h1)]
    refine goff rfl rfl rfl (goff rfl rfl rfl (goff rfl rfl rfl (goff rfl rfl rfl (goff rfl rfl rfl (goff rfl rfl rfl (pt_ rfl rfl (mv_ rfl (goff rfl rfl rfl (goff rfl rfl rfl (goff rfl rfl rfl (goff rfl rfl rfl (goff rfl rfl rfl (goff rfl rfl rfl ?_)))))))))))))
    refine goff rfl rfl rfl (pt_ rfl rfl (nn_ (ct_ rfl (sr_ (sg_ rfl (nn_ ?_))))))
    refine gw_ret ?_
    refine nx_then_ret ?_
    refine nx_ret1 rfl rfl fun wx hm => ?_
    refine ⟨v1, v2, v3, v4, pa, ⟨sl, cl, vl, pl, 1⟩, by rw [hN], (fun h => by rw [hN] at h; cases h), ?_⟩
    exact (hm.pick [2, 3] [0, 1, 2, 3] [0] rfl rfl).cx
   refine wl_set 31 rfl (congrArg Value.bool h1) ?_
   have hI := fIt_go h1
   rw [hw] at hI
   refine wl_guard_on rfl rfl rfl (mv_ rfl (wl_guard_on rfl rfl rfl (mv_ rfl (wl_guard_on rfl rfl rfl (wl_ov (ov_nilcheck rfl) rfl (wl_guard_on rfl rfl rfl (fd_ fo181_1 rfl rfl (wl_guard_on rfl rfl rfl (lk_ sc3 2 rfl rfl rfl (wl_guard_on rfl rfl rfl (wl_ov (ov_lss rfl rfl) rfl (pf_ rfl rfl (mv_ rfl ?_)))))))))))))
   rcases Bool.eq_false_or_eq_true (decide (2 < pa)) with hp | hp
   ·refine wl_set 39 rfl (congrArg Value.bool hp) ?_
    replace hp : (2 : Int) < pa := by simpa using hp
    have hN : (fStep t ⟨sl, cl, vl, pl, pa + 1⟩).2 = false := st_low (k := 3) hI rfl (fun h => absurd h (by decide +kernel)) (fun h => absurd h (by decide +kernel)) (fun _ => rfl) (fun h => absurd h (by decide +kernel)) (show (3 : Int) < pa + 1 by omega)
    refine goff rfl rfl rfl (goff rfl rfl rfl (goff rfl rfl rfl (goff rfl rfl rfl (goff rfl rfl rfl (goff rfl rfl rfl (goff rfl rfl rfl (pt_ rfl rfl (nn_ (ct_ rfl (sr_ (sg_ rfl ?_)))))))))))
    refine nn_ ?_
    refine gw_ret ?_
    refine nx_then_ret ?_
    refine nx_ret1 rfl rfl fun wx hm => ?_
    refine ⟨v1, v2, v3, v4, pa, ⟨sl, cl, vl, pl, 1⟩, by rw [hN], (fun h => by rw [hN] at h; cases h), ?_⟩
    exact (hm.pick [2, 3] [0, 1, 2, 3] [0] rfl rfl).cx
   refine wl_set 39 rfl (congrArg Value.bool hp) ?_
   replace hp : ¬ (2 : Int) < pa := by simpa using hp
   have hlow : ¬ (3 : Int) < pa + 1 := by omega
   rw [item_vh] at hI
   refine wl_look (R := ∃ A cc, v3 = .slice A vl.length cc) (fun wx hm => own_slice (hm.ownI 2 rfl)) ?_
   rintro ⟨A_, c_, rfl⟩
   refine wl_guard_on rfl rfl rfl (mv_ rfl (wl_guard_on rfl rfl rfl (wl_ov (ov_len es112 rfl) rfl ?_)))
   refine wl_set 41 (v' := .int .i64 3) rfl rfl ?_
   refine wl_guard_on rfl rfl rfl ?_
   refine wl_buildSlice (e := 3) (cs := [.int .i64 9, .int .i64 3, .int .i64 3, .int .i64 4]) rfl (by kernel_rfl) rfl fun g22 => ?_
   refine wl_guard_on rfl rfl rfl (mv_ rfl (wl_guard_on rfl rfl rfl ?_))
   refine wl_ov (ov_index (j := 2) es22 rfl rfl (by omega)) rfl ?_
   refine wl_guard_on rfl rfl rfl (lk_ sc3 0 rfl rfl rfl (wl_guard_on rfl rfl rfl (wl_ov (ov_neq rfl rfl) rfl ?_)))
   refine wl_set 46 (v' := .bool false) rfl (congrArg Value.bool (by decide)) ?_
   refine pf_ rfl rfl (nn_ (cf_ rfl (gw_skip (nx_then (sr_ (mv_ rfl (mv_ rfl (wl_ov (ov_nilcheck rfl) rfl (fd_ fo181_1 rfl rfl ?_)))))))))
   refine wl_store 3 sc3 rfl rfl rfl rfl rfl rfl ?_
   refine nn_ (gw_seq (sr_ (mv_ rfl (nn_ (gw_block (sr_ (wl_ov (ov_eql rfl rfl) rfl ?_)))))))
   refine wl_set 81 (v' := .bool false) rfl (congrArg Value.bool (by decide)) ?_
   refine sg_ rfl (nn_ (cf_ rfl (sr_ (wl_ov (ov_eql rfl rfl) rfl ?_))))
   refine wl_set 143 (v' := .bool false) rfl (congrArg Value.bool (by decide)) ?_
   refine sg_ rfl (nn_ (cf_ rfl (sr_ (wl_ov (ov_eql rfl rfl) rfl ?_))))
   refine wl_set 169 (v' := .bool true) rfl (congrArg Value.bool (by decide)) ?_
   refine sg_ rfl (nn_ (ct_ rfl ?_))
   refine gd (fun wz => Blk wz g22 3 [.int .i64 9, .int .i64 3, .int .i64 3, .int .i64 4] ∧ Blk wz g21 9 [.string ⟨#[115, 116, 97, 116, 105, 111, 110]⟩, .string ⟨#[99, 108, 97, 115, 115]⟩, .string ⟨#[118, 101, 104, 105, 99, 108, 101]⟩, .string ⟨#[112, 108, 97, 116, 101]⟩] ∧ Blk wz gw 9 [.string ⟨#[118, 101, 104, 105, 99, 108, 101]⟩, .string a1, .string a2] ∧ Blk wz gr 66 [.slice none 0 0, .slice none 0 0, .slice none 0 0, .slice none 0 0] ∧ (TxtO w0.heap.size none) wz ∧ True) mixed (fun _ hm => ⟨hm.bl 0, hm.bl 1, hm.bl 2, hm.bl 4, hm.fa 0, trivial⟩) fun z => ?_
   refine wt 0 19 1 rfl z (ov_move rfl) ?_
   refine wt 1 19 3 rfl z (ov_move rfl) ?_
   refine wt 2 19 7 rfl z (ov_nilcheck rfl) ?_
   refine wt 3 19 15 rfl z (ov_field fo181_0 rfl rfl) ?_
   refine wt 4 19 31 rfl z (ov_field fo66_2 rfl rfl) ?_
   refine wt 6 19 95 rfl z (ov_move rfl) ?_
   refine wt 7 19 223 rfl z (ov_index (j := 1) es112 rfl rfl (by omega)) ?_
   refine wt 8 19 479 rfl z (ov_load sc9 rfl (fun _ hm => hm.2.2.1) rfl) ?_
   refine wt 9 19 991 rfl z (ov_move rfl) ?_
   refine wt 10 19 2015 rfl z (ov_index (j := 2) es112 rfl rfl (by omega)) ?_
   refine wt 11 19 4063 rfl z (ov_load sc9 rfl (fun _ hm => hm.2.2.1) rfl) ?_
   refine wt 12 19 8159 rfl z (ov_build (cs := [.string a1, .string a2]) rfl (by kernel_rfl)) ?_
   refine wa_all [5, 13] (by kernel_rfl) rfl ⟨⟨_, rfl, ?_⟩, ⟨_, rfl, ?_⟩, trivial⟩
   ·refine lk_ sc63 3 rfl rfl rfl (wl_nil ?_)
    refine nw 19 8191 (fun _ hm => ⟨hm.bl 0, hm.bl 1, hm.bl 2, hm.bl 4, hm.fa 0, trivial⟩) fun z => ?_
    refine wa1 13 rfl ?_
    refine wl_buildSlice (e := 158) (cs := [.string a1, .string a2]) rfl (by kernel_rfl) rfl fun g23 => ?_
    refine wl_nil ?_
    refine nw 19 16383 (fun _ hm => ⟨hm.bl 1, hm.bl 2, hm.bl 3, hm.bl 5, hm.fa 0, trivial⟩) fun z => ?_
    refine wa1 14 rfl ?_
    refine wl_append (news := [.string a1, .string a2]) 2 0 ap63 rfl rfl rfl rfl rfl rfl rfl (by omega) (by unfold maxLen; omega) rfl rfl fun v9 hv => ?_
    refine wl_look (R := ∃ A cc, v9 = .slice A (vl.length + 1) cc) (fun wx hm => own_slice (hm.ownI 2 rfl)) ?_
    rintro ⟨A5, c5, rfl⟩
    refine wl_nil ?_
    refine nw 19 32767 (fun _ hm => ⟨hm.bl 1, hm.bl 2, hm.bl 3, hm.bl 5, hm.fa 0, trivial⟩) fun z => ?_
    refine wt 15 19 65535 rfl z (ov_nilcheck rfl) ?_
    refine wt 16 19 131071 rfl z (ov_field fo181_0 rfl rfl) ?_
    refine wt 17 19 262143 rfl z (ov_field fo66_2 rfl rfl) ?_
    refine wa1 18 rfl ?_
    refine wl_store 4 sc63 rfl rfl rfl rfl rfl rfl ?_
    refine wl_nil ?_
    refine nw 19 524287 (fun _ hm => ⟨hm.bl 1, hm.bl 2, hm.bl 3, hm.bl 5, hm.fa 0, trivial⟩) fun z => ?_
    refine wa_done (by kernel_rfl) ?_
    refine nx_blk_nrm (nx_then (sr_ (sg_ rfl (nn_ ?_))))
    refine gw_ret ?_
    rw [show vl.flatMap vhEnc ++ ([.string a1, .string a2] : List Value) = (vl ++ [((⟨a1, a2⟩ : Vh))]).flatMap vhEnc from by simp [vhEnc]]
    have hY : fStep t ⟨sl, cl, vl, pl, pa + 1⟩ = (fPush ⟨sl, cl, vl, pl, pa + 1⟩ (.vh (⟨a1, a2⟩ : Vh)), true) := fStep_yes hI hlow
    refine nx_ret1 rfl rfl fun wx hm => ?_
    refine ⟨v1, v2, .slice A5 (vl.length + 1) c5, v4, 2, ⟨sl, cl, (vl ++ [(⟨a1, a2⟩ : Vh)]), pl, 3⟩, by rw [hY], (fun _ => ⟨by rw [hY]; rfl, by show (2 : Int) + 1 = 3; decide⟩), ?_⟩
    have e9 : (vl ++ [(⟨a1, a2⟩ : Vh)]).length = vl.length + 1 := by simp
    show Mem ⟨0, w0, none, []⟩ (fun _ => True) (fpR gf gr (2) v1 v2 (.slice A5 (vl.length + 1) c5) v4) [⟨v1, 168, 15, (sl).length, (sl).flatMap stEnc⟩, ⟨v2, 170, 2, (cl).length, (cl).flatMap csEnc⟩, ⟨.slice A5 (vl.length + 1) c5, 158, 2, ((vl ++ [(⟨a1, a2⟩ : Vh)])).length, ((vl ++ [(⟨a1, a2⟩ : Vh)])).flatMap vhEnc⟩, ⟨v4, 161, 3, (pl).length, (pl).flatMap plEnc⟩] [TxtO w0.heap.size none] _
    rw [e9]
    exact (hm.pick [4, 5] [0, 1, 2, 3] [0] rfl rfl).cx
   refine wl_buildSlice (e := 158) (cs := [.string a1, .string a2]) rfl (by kernel_rfl) rfl fun g24 => ?_
   refine wl_nil ?_
   refine nw 19 16351 (fun _ hm => ⟨hm.bl 1, hm.bl 2, hm.bl 3, hm.bl 5, hm.fa 0, trivial⟩) fun z => ?_
   refine wa1 5 rfl ?_
   refine lk_ sc63 4 rfl rfl rfl (wl_nil ?_)
   refine nw 19 16383 (fun _ hm => ⟨hm.bl 1, hm.bl 2, hm.bl 3, hm.bl 5, hm.fa 0, trivial⟩) fun z => ?_
   refine wa1 14 rfl ?_
   refine wl_append (news := [.string a1, .string a2]) 2 0 ap63 rfl rfl rfl rfl rfl rfl rfl (by omega) (by unfold maxLen; omega) rfl rfl fun v9 hv => ?_
   refine wl_look (R := ∃ A cc, v9 = .slice A (vl.length + 1) cc) (fun wx hm => own_slice (hm.ownI 2 rfl)) ?_
   rintro ⟨A5, c5, rfl⟩
   refine wl_nil ?_
   refine nw 19 32767 (fun _ hm => ⟨hm.bl 1, hm.bl 2, hm.bl 3, hm.bl 5, hm.fa 0, trivial⟩) fun z => ?_
   refine wt 15 19 65535 rfl z (ov_nilcheck rfl) ?_
   refine wt 16 19 131071 rfl z (ov_field fo181_0 rfl rfl) ?_
   refine wt 17 19 262143 rfl z (ov_field fo66_2 rfl rfl) ?_
   refine wa1 18 rfl ?_
   refine wl_store 4 sc63 rfl rfl rfl rfl rfl rfl ?_
   refine wl_nil ?_
   refine nw 19 524287 (fun _ hm => ⟨hm.bl 1, hm.bl 2, hm.bl 3, hm.bl 5, hm.fa 0, trivial⟩) fun z => ?_
   refine wa_done (by kernel_rfl) ?_
   refine nx_blk_nrm (nx_then (sr_ (sg_ rfl (nn_ ?_))))
   refine gw_ret ?_
   rw [show vl.flatMap vhEnc ++ ([.string a1, .string a2] : List Value) = (vl ++ [((⟨a1, a2⟩ : Vh))]).flatMap vhEnc from by simp [vhEnc]]
   have hY : fStep t ⟨sl, cl, vl, pl, pa + 1⟩ = (fPush ⟨sl, cl, vl, pl, pa + 1⟩ (.vh (⟨a1, a2⟩ : Vh)), true) := fStep_yes hI hlow
   refine nx_ret1 rfl rfl fun wx hm => ?_
   refine ⟨v1, v2, .slice A5 (vl.length + 1) c5, v4, 2, ⟨sl, cl, (vl ++ [(⟨a1, a2⟩ : Vh)]), pl, 3⟩, by rw [hY], (fun _ => ⟨by rw [hY]; rfl, by show (2 : Int) + 1 = 3; decide⟩), ?_⟩
   have e9 : (vl ++ [(⟨a1, a2⟩ : Vh)]).length = vl.length + 1 := by simp
   show Mem ⟨0, w0, none, []⟩ (fun _ => True) (fpR gf gr (2) v1 v2 (.slice A5 (vl.length + 1) c5) v4) [⟨v1, 168, 15, (sl).length, (sl).flatMap stEnc⟩, ⟨v2, 170, 2, (cl).length, (cl).flatMap csEnc⟩, ⟨.slice A5 (vl.length + 1) c5, 158, 2, ((vl ++ [(⟨a1, a2⟩ : Vh)])).length, ((vl ++ [(⟨a1, a2⟩ : Vh)])).flatMap vhEnc⟩, ⟨v4, 161, 3, (pl).length, (pl).flatMap plEnc⟩] [TxtO w0.heap.size none] _
   rw [e9]
   exact (hm.pick [4, 5] [0, 1, 2, 3] [0] rfl rfl).cx
  refine sg_ rfl (nn_ (sr_ (mv_ rfl ?_)))
  refine wl_callgo (γ := Nat × Nat) (val := (fun g => .tuple #[.slice (some ⟨g.1, 0, none⟩) g.2 g.2, .bool (wdB t)])) (φ := (fun g => g.2 = (wdL t).length ∧ 1 ≤ g.2 ∧ g.2 ≤ t.size + 1)) (fun g => ⟨.slice (some ⟨g.1, 0, none⟩) g.2 g.2, 9, 1, g.2, (wdL t).flatMap sgEnc⟩) rfl cb72 rfl rfl (fun wx hm => (rwords_own t wx (hm.fact 0 rfl).1 hts).mono fun _ _ ⟨g, k, he, h1, h2, hg⟩ => ⟨(g, k), he, h2, h1, hg⟩) ?_
  rintro ⟨gw, kw⟩ hkw
  dsimp only at hkw ⊢
  obtain ⟨hkl, hk1, hk2⟩ := hkw
  refine mv_ rfl (wl_ov (ov_extract rfl rfl) rfl (wl_ov (ov_extract rfl rfl) rfl (sg_ rfl (sg_ rfl (nn_ (sr_ ?_))))))
  refine wl_buildSlice (e := 9) (cs := [.string ⟨#[115, 116, 97, 116, 105, 111, 110]⟩, .string ⟨#[99, 108, 97, 115, 115]⟩, .string ⟨#[118, 101, 104, 105, 99, 108, 101]⟩, .string ⟨#[112, 108, 97, 116, 101]⟩]) rfl (by kernel_rfl) rfl fun g19 => ?_
  refine mv_ rfl ?_
  refine wl_ov (ov_index (j := 0) es112 rfl rfl (by omega)) rfl ?_
  refine wl_ov (ov_elem1 (k := 0) (v := .string ⟨#[118, 101, 104, 105, 99, 108, 101]⟩) sc9 rfl (fun _ hm => (show SlT sgEnc 1 9 _ (some ⟨gw, 0, none⟩) kw (wdL t) from SlT.ofOwn sg_len (hm.ownI 0 rfl) hkl.symm)) hx0 rfl rfl) rfl ?_
  refine wl_callv (v := .int .i64 2) rfl cb109 rfl rfl (fun wx hm => (by have h := tIndex_any ([⟨#[115, 116, 97, 116, 105, 111, 110]⟩, ⟨#[99, 108, 97, 115, 115]⟩, ⟨#[118, 101, 104, 105, 99, 108, 101]⟩, ⟨#[112, 108, 97, 116, 101]⟩] : List ByteArray) (some ⟨g19, 0, none⟩) 4 4 ⟨#[118, 101, 104, 105, 99, 108, 101]⟩ wx (SlT.ofBlk (l := ([⟨#[115, 116, 97, 116, 105, 111, 110]⟩, ⟨#[99, 108, 97, 115, 115]⟩, ⟨#[118, 101, 104, 105, 99, 108, 101]⟩, ⟨#[112, 108, 97, 116, 101]⟩] : List ByteArray)) sg_len (hm.blkI 0 rfl)) (by omega); rw [show ixP (eqP ⟨#[118, 101, 104, 105, 99, 108, 101]⟩) [⟨#[115, 116, 97, 116, 105, 111, 110]⟩, ⟨#[99, 108, 97, 115, 115]⟩, ⟨#[118, 101, 104, 105, 99, 108, 101]⟩, ⟨#[112, 108, 97, 116, 101]⟩] 0 = 2 from by decide +kernel] at h; exact h)) ?_
  have hN : (fStep t ⟨sl, cl, vl, pl, pa + 1⟩).2 = false := by
   cases hw : wdB t with
   | false => rw [fStep_no (fIt_wd (by rw [hw]; rfl))]
   | true => rw [fStep_no ((fIt_go (by rw [hw]; rfl)).trans (fItem_bad hx0 (fun h => absurd h hN_) (fun h => by decide +kernel) (fun h => by decide +kernel)))]
  refine sg_ rfl (nn_ (gw_seq (sr_ (mv_ rfl (wl_ov (ov_un_not rfl) rfl (mv_ rfl ?_))))))
  rcases Bool.eq_false_or_eq_true (!(wdB t)) with h1 | h1
  ·refine wl_set 31 rfl (congrArg Value.bool h1) ?_
   refine goff rfl rfl rfl (goff rfl rfl rfl (goff rfl rfl rfl (goff rfl rfl rfl (goff rfl rfl rfl (goff rfl rfl rfl (pt_ rfl rfl (mv_ rfl (goff rfl rfl rfl (goff rfl rfl rfl (goff rfl rfl rfl (goff rfl rfl rfl (goff rfl rfl rfl (goff rfl rfl rfl ?_)))))))))))))
   refine goff rfl rfl rfl (pt_ rfl rfl (nn_ (ct_ rfl (sr_ (sg_ rfl (nn_ ?_))))))
   refine gw_ret ?_
   refine nx_then_ret ?_
   refine nx_ret1 rfl rfl fun wx hm => ?_
   refine ⟨v1, v2, v3, v4, pa, ⟨sl, cl, vl, pl, 1⟩, by rw [hN], (fun h => by rw [hN] at h; cases h), ?_⟩
   exact (hm.pick [1, 2] [1, 2, 3, 4] [0] rfl rfl).cx
  refine wl_set 31 rfl (congrArg Value.bool h1) ?_
  refine wl_guard_on rfl rfl rfl (mv_ rfl (wl_guard_on rfl rfl rfl (mv_ rfl (wl_guard_on rfl rfl rfl (wl_ov (ov_nilcheck rfl) rfl (wl_guard_on rfl rfl rfl (fd_ fo181_1 rfl rfl (wl_guard_on rfl rfl rfl (lk_ sc3 1 rfl rfl rfl (wl_guard_on rfl rfl rfl (wl_ov (ov_lss rfl rfl) rfl (pf_ rfl rfl (mv_ rfl ?_)))))))))))))
  rcases Bool.eq_false_or_eq_true (decide (2 < pa)) with hp | hp
  ·refine wl_set 39 rfl (congrArg Value.bool hp) ?_
   refine goff rfl rfl rfl (goff rfl rfl rfl (goff rfl rfl rfl (goff rfl rfl rfl (goff rfl rfl rfl (goff rfl rfl rfl (goff rfl rfl rfl (pt_ rfl rfl (nn_ (ct_ rfl (sr_ (sg_ rfl ?_)))))))))))
   refine nn_ ?_
   refine gw_ret ?_
   refine nx_then_ret ?_
   refine nx_ret1 rfl rfl fun wx hm => ?_
   refine ⟨v1, v2, v3, v4, pa, ⟨sl, cl, vl, pl, 1⟩, by rw [hN], (fun h => by rw [hN] at h; cases h), ?_⟩
   exact (hm.pick [1, 2] [1, 2, 3, 4] [0] rfl rfl).cx
  refine wl_set 39 rfl (congrArg Value.bool hp) ?_
  refine wl_guard_on rfl rfl rfl (mv_ rfl (wl_guard_on rfl rfl rfl (wl_ov (ov_len es112 rfl) rfl (wl_guard_on rfl rfl rfl ?_))))
  refine wl_buildSlice (e := 3) (cs := [.int .i64 9, .int .i64 3, .int .i64 3, .int .i64 4]) rfl (by kernel_rfl) rfl fun g20 => ?_
  refine wl_guard_on rfl rfl rfl (mv_ rfl (wl_guard_on rfl rfl rfl ?_))
  refine wl_ov (ov_index (j := 2) es22 rfl rfl (by omega)) rfl ?_
  refine wl_guard_on rfl rfl rfl (lk_ sc3 0 rfl rfl rfl (wl_guard_on rfl rfl rfl (wl_ov (ov_neq rfl rfl) rfl (pf_ rfl rfl (nn_ ?_)))))
  refine gw_set 47 (v' := .bool true) rfl (congrArg Value.bool (by rw [decide_eq_false (by omega)]; rfl)) ?_
  refine ct_ rfl (sr_ (sg_ rfl (nn_ ?_)))
  refine gw_ret ?_
  refine nx_then_ret ?_
  refine nx_ret1 rfl rfl fun wx hm => ?_
  refine ⟨v1, v2, v3, v4, pa, ⟨sl, cl, vl, pl, 1⟩, by rw [hN], (fun h => by rw [hN] at h; cases h), ?_⟩
  exact (hm.pick [2, 3] [1, 2, 3, 4] [0] rfl rfl).cx
 ·subst h
  by_cases hN_ : (wdL t).length = 4
  ·obtain ⟨a0, a1, a2, a3, hw⟩ := list4f hN_
   have hb0 : a0 = plW := by rw [hw] at hx0; simpa using hx0
   subst hb0
   rw [hw] at hwz
   have za1 : a1.size ≤ 1000000 := hwz a1 (by simp)
   have za2 : a2.size ≤ 1000000 := hwz a2 (by simp)
   have za3 : a3.size ≤ 1000000 := hwz a3 (by simp)
   refine sg_ rfl (nn_ (sr_ (mv_ rfl ?_)))
   refine wl_callG (γ := Nat) (val := fun g => .tuple #[.slice (some ⟨g, 0, none⟩) 4 4, .bool (wdB t)]) (φ := fun _ => True) (K' := fun _ => (fun _ => True)) (L' := fun g => [(g, 9, [.string ⟨#[112, 108, 97, 116, 101]⟩, .string a1, .string a2, .string a3]), (gf, 181, [v1, v2, v3, v4, .int .i64 pa]), (gr, 66, [.slice none 0 0, .slice none 0 0, .slice none 0 0, .slice none 0 0])]) (O' := fun _ => [⟨v1, 168, 15, sl.length, sl.flatMap stEnc⟩, ⟨v2, 170, 2, cl.length, cl.flatMap csEnc⟩, ⟨v3, 158, 2, vl.length, vl.flatMap vhEnc⟩, ⟨v4, 161, 3, pl.length, pl.flatMap plEnc⟩]) (X' := fun _ => [TxtO w0.heap.size none]) rfl cb72 rfl rfl (fun wx hm => (rwords_blk t wx (hm.fact 0 rfl).1 hts).mono fun e w' ⟨g, n, he, hb, ⟨h0, h1, _, _⟩, hg⟩ => ⟨g, by rw [hw] at h1; subst h1; exact he, trivial, hm.newAt hg h0 (by rw [hw] at hb; exact hb)⟩) ?_
   rintro gw _
   refine mv_ rfl (wl_ov (ov_extract rfl rfl) rfl (wl_ov (ov_extract rfl rfl) rfl (sg_ rfl (sg_ rfl (nn_ (sr_ ?_))))))
   refine wl_buildSlice (e := 9) (cs := [.string ⟨#[115, 116, 97, 116, 105, 111, 110]⟩, .string ⟨#[99, 108, 97, 115, 115]⟩, .string ⟨#[118, 101, 104, 105, 99, 108, 101]⟩, .string ⟨#[112, 108, 97, 116, 101]⟩]) rfl (by kernel_rfl) rfl fun g27 => ?_
   refine mv_ rfl ?_
   refine wl_ov (ov_index (j := 0) es112 rfl rfl (by omega)) rfl ?_
   refine lk_ sc9 1 rfl rfl rfl ?_
   refine wl_callv (v := .int .i64 3) rfl cb109 rfl rfl (fun wx hm => (by have h := tIndex_any ([⟨#[115, 116, 97, 116, 105, 111, 110]⟩, ⟨#[99, 108, 97, 115, 115]⟩, ⟨#[118, 101, 104, 105, 99, 108, 101]⟩, ⟨#[112, 108, 97, 116, 101]⟩] : List ByteArray) (some ⟨g27, 0, none⟩) 4 4 ⟨#[112, 108, 97, 116, 101]⟩ wx (SlT.ofBlk (l := ([⟨#[115, 116, 97, 116, 105, 111, 110]⟩, ⟨#[99, 108, 97, 115, 115]⟩, ⟨#[118, 101, 104, 105, 99, 108, 101]⟩, ⟨#[112, 108, 97, 116, 101]⟩] : List ByteArray)) sg_len (hm.blkI 0 rfl)) (by omega); rw [show ixP (eqP ⟨#[112, 108, 97, 116, 101]⟩) [⟨#[115, 116, 97, 116, 105, 111, 110]⟩, ⟨#[99, 108, 97, 115, 115]⟩, ⟨#[118, 101, 104, 105, 99, 108, 101]⟩, ⟨#[112, 108, 97, 116, 101]⟩] 0 = 3 from by decide +kernel] at h; exact h)) ?_
   refine sg_ rfl (nn_ (gw_seq (sr_ (mv_ rfl (wl_ov (ov_un_not rfl) rfl (mv_ rfl ?_))))))
   rcases Bool.eq_false_or_eq_true (!(wdB t)) with h1 | h1
   ·refine wl_set 31 rfl (congrArg Value.bool h1) ?_
    have hN : (fStep t ⟨sl, cl, vl, pl, pa + 1⟩).2 = false := by rw [fStep_no (fIt_wd h1)]
    refine goff rfl rfl rfl (goff rfl rfl rfl (goff rfl rfl rfl (goff rfl rfl rfl (goff rfl rfl rfl (goff rfl rfl rfl (pt_ rfl rfl (mv_ rfl (goff rfl rfl rfl (goff rfl rfl rfl (goff rfl rfl rfl (goff rfl rfl rfl (goff rfl rfl rfl (goff rfl rfl rfl ?_)))))))))))))
    refine goff rfl rfl rfl (pt_ rfl rfl (nn_ (ct_ rfl (sr_ (sg_ rfl (nn_ ?_))))))
    refine gw_ret ?_
    refine nx_then_ret ?_
    refine nx_ret1 rfl rfl fun wx hm => ?_
    refine ⟨v1, v2, v3, v4, pa, ⟨sl, cl, vl, pl, 1⟩, by rw [hN], (fun h => by rw [hN] at h; cases h), ?_⟩
    exact (hm.pick [2, 3] [0, 1, 2, 3] [0] rfl rfl).cx
   refine wl_set 31 rfl (congrArg Value.bool h1) ?_
   have hI := fIt_go h1
   rw [hw] at hI
   refine wl_guard_on rfl rfl rfl (mv_ rfl (wl_guard_on rfl rfl rfl (mv_ rfl (wl_guard_on rfl rfl rfl (wl_ov (ov_nilcheck rfl) rfl (wl_guard_on rfl rfl rfl (fd_ fo181_1 rfl rfl (wl_guard_on rfl rfl rfl (lk_ sc3 2 rfl rfl rfl (wl_guard_on rfl rfl rfl (wl_ov (ov_lss rfl rfl) rfl (pf_ rfl rfl (mv_ rfl ?_)))))))))))))
   rcases Bool.eq_false_or_eq_true (decide (3 < pa)) with hp | hp
   ·refine wl_set 39 rfl (congrArg Value.bool hp) ?_
    replace hp : (3 : Int) < pa := by simpa using hp
    have hN : (fStep t ⟨sl, cl, vl, pl, pa + 1⟩).2 = false := st_low (k := 4) hI rfl (fun h => absurd h (by decide +kernel)) (fun h => absurd h (by decide +kernel)) (fun h => absurd h (by decide +kernel)) (fun _ => rfl) (show (4 : Int) < pa + 1 by omega)
    refine goff rfl rfl rfl (goff rfl rfl rfl (goff rfl rfl rfl (goff rfl rfl rfl (goff rfl rfl rfl (goff rfl rfl rfl (goff rfl rfl rfl (pt_ rfl rfl (nn_ (ct_ rfl (sr_ (sg_ rfl ?_)))))))))))
    refine nn_ ?_
    refine gw_ret ?_
    refine nx_then_ret ?_
    refine nx_ret1 rfl rfl fun wx hm => ?_
    refine ⟨v1, v2, v3, v4, pa, ⟨sl, cl, vl, pl, 1⟩, by rw [hN], (fun h => by rw [hN] at h; cases h), ?_⟩
    exact (hm.pick [2, 3] [0, 1, 2, 3] [0] rfl rfl).cx
   refine wl_set 39 rfl (congrArg Value.bool hp) ?_
   replace hp : ¬ (3 : Int) < pa := by simpa using hp
   have hlow : ¬ (4 : Int) < pa + 1 := by omega
   refine wl_guard_on rfl rfl rfl (mv_ rfl (wl_guard_on rfl rfl rfl (wl_ov (ov_len es112 rfl) rfl ?_)))
   refine wl_set 41 (v' := .int .i64 4) rfl rfl ?_
   refine wl_guard_on rfl rfl rfl ?_
   refine wl_buildSlice (e := 3) (cs := [.int .i64 9, .int .i64 3, .int .i64 3, .int .i64 4]) rfl (by kernel_rfl) rfl fun g28 => ?_
   refine wl_guard_on rfl rfl rfl (mv_ rfl (wl_guard_on rfl rfl rfl ?_))
   refine wl_ov (ov_index (j := 3) es22 rfl rfl (by omega)) rfl ?_
   refine wl_guard_on rfl rfl rfl (lk_ sc3 0 rfl rfl rfl (wl_guard_on rfl rfl rfl (wl_ov (ov_neq rfl rfl) rfl ?_)))
   refine wl_set 46 (v' := .bool false) rfl (congrArg Value.bool (by decide)) ?_
   refine pf_ rfl rfl (nn_ (cf_ rfl (gw_skip (nx_then (sr_ (mv_ rfl (mv_ rfl (wl_ov (ov_nilcheck rfl) rfl (fd_ fo181_1 rfl rfl ?_)))))))))
   refine wl_store 3 sc3 rfl rfl rfl rfl rfl rfl ?_
   refine nn_ (gw_seq (sr_ (mv_ rfl (nn_ (gw_block (sr_ (wl_ov (ov_eql rfl rfl) rfl ?_)))))))
   refine wl_set 81 (v' := .bool false) rfl (congrArg Value.bool (by decide)) ?_
   refine sg_ rfl (nn_ (cf_ rfl (sr_ (wl_ov (ov_eql rfl rfl) rfl ?_))))
   refine wl_set 143 (v' := .bool false) rfl (congrArg Value.bool (by decide)) ?_
   refine sg_ rfl (nn_ (cf_ rfl (sr_ (wl_ov (ov_eql rfl rfl) rfl ?_))))
   refine wl_set 169 (v' := .bool false) rfl (congrArg Value.bool (by decide)) ?_
   refine sg_ rfl (nn_ (cf_ rfl (sr_ (mv_ rfl ?_))))
   refine wl_ov (ov_index (j := 1) es112 rfl rfl (by omega)) rfl ?_
   refine lk_ sc9 2 rfl rfl rfl ?_
   refine wl_callx (γ := Int) (val := (fun g => .tuple #[.int .i64 g, .bool (numB a1)])) (φ := (fun g => numB a1 = true → g = numV a1)) (Y := (fun g => fun _ => True)) rfl cb122 rfl rfl (fun wx hm => (rnumber_any a1 wx (hm.fact 0 rfl).1 za1).mono fun _ _ ⟨v, he, hv, hg⟩ => ⟨v, he, hv, hg, trivial⟩) (fun _ => Lasts2.true_) ?_
   rintro nv hnv
   by_cases hb : numB a1 = true
   ·obtain rfl := hnv hb
    rw [item_pl a2 a3 hb] at hI
    rw [hb]
    refine wl_look (R := ∃ A cc, v4 = .slice A pl.length cc) (fun wx hm => own_slice (hm.ownI 3 rfl)) ?_
    rintro ⟨A_, c_, rfl⟩
    refine mv_ rfl (wl_ov (ov_extract rfl rfl) rfl (wl_ov (ov_extract rfl rfl) rfl (sg_ rfl (sg_ rfl (nn_ (gw_seq ?_))))))
    refine gd (fun wz => Blk wz g28 3 [.int .i64 9, .int .i64 3, .int .i64 3, .int .i64 4] ∧ Blk wz g27 9 [.string ⟨#[115, 116, 97, 116, 105, 111, 110]⟩, .string ⟨#[99, 108, 97, 115, 115]⟩, .string ⟨#[118, 101, 104, 105, 99, 108, 101]⟩, .string ⟨#[112, 108, 97, 116, 101]⟩] ∧ Blk wz gw 9 [.string ⟨#[112, 108, 97, 116, 101]⟩, .string a1, .string a2, .string a3] ∧ Blk wz gr 66 [.slice none 0 0, .slice none 0 0, .slice none 0 0, .slice none 0 0] ∧ (fun _ => True) wz ∧ (TxtO w0.heap.size none) wz ∧ True) mixed (fun _ hm => ⟨hm.bl 0, hm.bl 1, hm.bl 2, hm.bl 4, hm.fa 0, hm.fa 1, trivial⟩) fun z => ?_
    refine wt 0 20 1 rfl z (ov_move rfl) ?_
    refine wt 1 20 3 rfl z (ov_move rfl) ?_
    refine wt 2 20 7 rfl z (ov_nilcheck rfl) ?_
    refine wt 3 20 15 rfl z (ov_field fo181_0 rfl rfl) ?_
    refine wt 4 20 31 rfl z (ov_field fo66_3 rfl rfl) ?_
    refine wt 6 20 95 rfl z (ov_move rfl) ?_
    refine wt 7 20 223 rfl z (ov_move rfl) ?_
    refine wt 8 20 479 rfl z (ov_index (j := 2) es112 rfl rfl (by omega)) ?_
    refine wt 9 20 991 rfl z (ov_load sc9 rfl (fun _ hm => hm.2.2.1) rfl) ?_
    refine wt 10 20 2015 rfl z (ov_move rfl) ?_
    refine wt 11 20 4063 rfl z (ov_index (j := 3) es112 rfl rfl (by omega)) ?_
    refine wt 12 20 8159 rfl z (ov_load sc9 rfl (fun _ hm => hm.2.2.1) rfl) ?_
    refine wt 13 20 16351 rfl z (ov_build (cs := [.int .i64 (numV a1), .string a2, .string a3]) rfl (by kernel_rfl)) ?_
    refine wa_all [5, 14] (by kernel_rfl) rfl ⟨⟨_, rfl, ?_⟩, ⟨_, rfl, ?_⟩, trivial⟩
    ·refine lk_ sc64 3 rfl rfl rfl (wl_nil ?_)
     refine nw 20 16383 (fun _ hm => ⟨hm.bl 0, hm.bl 1, hm.bl 2, hm.bl 4, hm.fa 0, hm.fa 1, trivial⟩) fun z => ?_
     refine wa1 14 rfl ?_
     refine wl_buildSlice (e := 161) (cs := [.int .i64 (numV a1), .string a2, .string a3]) rfl (by kernel_rfl) rfl fun g32 => ?_
     refine wl_nil ?_
     refine nw 20 32767 (fun _ hm => ⟨hm.bl 1, hm.bl 2, hm.bl 3, hm.bl 5, hm.fa 0, hm.fa 1, trivial⟩) fun z => ?_
     refine wa1 15 rfl ?_
     refine wl_append (news := [.int .i64 (numV a1), .string a2, .string a3]) 3 0 ap64 rfl rfl rfl rfl rfl rfl rfl (by omega) (by unfold maxLen; omega) rfl rfl fun v9 hv => ?_
     refine wl_look (R := ∃ A cc, v9 = .slice A (pl.length + 1) cc) (fun wx hm => own_slice (hm.ownI 3 rfl)) ?_
     rintro ⟨A5, c5, rfl⟩
     refine wl_nil ?_
     refine nw 20 65535 (fun _ hm => ⟨hm.bl 1, hm.bl 2, hm.bl 3, hm.bl 5, hm.fa 0, hm.fa 1, trivial⟩) fun z => ?_
     refine wt 16 20 131071 rfl z (ov_nilcheck rfl) ?_
     refine wt 17 20 262143 rfl z (ov_field fo181_0 rfl rfl) ?_
     refine wt 18 20 524287 rfl z (ov_field fo66_3 rfl rfl) ?_
     refine wa1 19 rfl ?_
     refine wl_store 4 sc64 rfl rfl rfl rfl rfl rfl ?_
     refine wl_nil ?_
     refine nw 20 1048575 (fun _ hm => ⟨hm.bl 1, hm.bl 2, hm.bl 3, hm.bl 5, hm.fa 0, hm.fa 1, trivial⟩) fun z => ?_
     refine wa_done (by kernel_rfl) ?_
     refine nx_then (sr_ (mv_ rfl (sg_ rfl (nn_ ?_))))
     refine gw_ret ?_
     refine nx_blk_ret (nx_then_ret ?_)
     rw [show pl.flatMap plEnc ++ ([.int .i64 (numV a1), .string a2, .string a3] : List Value) = (pl ++ [((⟨numV a1, a2, a3⟩ : Pl))]).flatMap plEnc from by simp [plEnc]]
     have hY : fStep t ⟨sl, cl, vl, pl, pa + 1⟩ = (fPush ⟨sl, cl, vl, pl, pa + 1⟩ (.pl (⟨numV a1, a2, a3⟩ : Pl)), true) := fStep_yes hI hlow
     refine nx_ret1 rfl rfl fun wx hm => ?_
     refine ⟨v1, v2, v3, .slice A5 (pl.length + 1) c5, 3, ⟨sl, cl, vl, (pl ++ [(⟨numV a1, a2, a3⟩ : Pl)]), 4⟩, by rw [hY], (fun _ => ⟨by rw [hY]; rfl, by show (3 : Int) + 1 = 4; decide⟩), ?_⟩
     have e9 : (pl ++ [(⟨numV a1, a2, a3⟩ : Pl)]).length = pl.length + 1 := by simp
     show Mem ⟨0, w0, none, []⟩ (fun _ => True) (fpR gf gr (3) v1 v2 v3 (.slice A5 (pl.length + 1) c5)) [⟨v1, 168, 15, (sl).length, (sl).flatMap stEnc⟩, ⟨v2, 170, 2, (cl).length, (cl).flatMap csEnc⟩, ⟨v3, 158, 2, (vl).length, (vl).flatMap vhEnc⟩, ⟨.slice A5 (pl.length + 1) c5, 161, 3, ((pl ++ [(⟨numV a1, a2, a3⟩ : Pl)])).length, ((pl ++ [(⟨numV a1, a2, a3⟩ : Pl)])).flatMap plEnc⟩] [TxtO w0.heap.size none] _
     rw [e9]
     exact (hm.pick [4, 5] [0, 1, 2, 3] [1] rfl rfl).cx
    refine wl_buildSlice (e := 161) (cs := [.int .i64 (numV a1), .string a2, .string a3]) rfl (by kernel_rfl) rfl fun g33 => ?_
    refine wl_nil ?_
    refine nw 20 32735 (fun _ hm => ⟨hm.bl 1, hm.bl 2, hm.bl 3, hm.bl 5, hm.fa 0, hm.fa 1, trivial⟩) fun z => ?_
    refine wa1 5 rfl ?_
    refine lk_ sc64 4 rfl rfl rfl (wl_nil ?_)
    refine nw 20 32767 (fun _ hm => ⟨hm.bl 1, hm.bl 2, hm.bl 3, hm.bl 5, hm.fa 0, hm.fa 1, trivial⟩) fun z => ?_
    refine wa1 15 rfl ?_
    refine wl_append (news := [.int .i64 (numV a1), .string a2, .string a3]) 3 0 ap64 rfl rfl rfl rfl rfl rfl rfl (by omega) (by unfold maxLen; omega) rfl rfl fun v9 hv => ?_
    refine wl_look (R := ∃ A cc, v9 = .slice A (pl.length + 1) cc) (fun wx hm => own_slice (hm.ownI 3 rfl)) ?_
    rintro ⟨A5, c5, rfl⟩
    refine wl_nil ?_
    refine nw 20 65535 (fun _ hm => ⟨hm.bl 1, hm.bl 2, hm.bl 3, hm.bl 5, hm.fa 0, hm.fa 1, trivial⟩) fun z => ?_
    refine wt 16 20 131071 rfl z (ov_nilcheck rfl) ?_
    refine wt 17 20 262143 rfl z (ov_field fo181_0 rfl rfl) ?_
    refine wt 18 20 524287 rfl z (ov_field fo66_3 rfl rfl) ?_
    refine wa1 19 rfl ?_
    refine wl_store 4 sc64 rfl rfl rfl rfl rfl rfl ?_
    refine wl_nil ?_
    refine nw 20 1048575 (fun _ hm => ⟨hm.bl 1, hm.bl 2, hm.bl 3, hm.bl 5, hm.fa 0, hm.fa 1, trivial⟩) fun z => ?_
    refine wa_done (by kernel_rfl) ?_
    refine nx_then (sr_ (mv_ rfl (sg_ rfl (nn_ ?_))))
    refine gw_ret ?_
    refine nx_blk_ret (nx_then_ret ?_)
    rw [show pl.flatMap plEnc ++ ([.int .i64 (numV a1), .string a2, .string a3] : List Value) = (pl ++ [((⟨numV a1, a2, a3⟩ : Pl))]).flatMap plEnc from by simp [plEnc]]
    have hY : fStep t ⟨sl, cl, vl, pl, pa + 1⟩ = (fPush ⟨sl, cl, vl, pl, pa + 1⟩ (.pl (⟨numV a1, a2, a3⟩ : Pl)), true) := fStep_yes hI hlow
    refine nx_ret1 rfl rfl fun wx hm => ?_
    refine ⟨v1, v2, v3, .slice A5 (pl.length + 1) c5, 3, ⟨sl, cl, vl, (pl ++ [(⟨numV a1, a2, a3⟩ : Pl)]), 4⟩, by rw [hY], (fun _ => ⟨by rw [hY]; rfl, by show (3 : Int) + 1 = 4; decide⟩), ?_⟩
    have e9 : (pl ++ [(⟨numV a1, a2, a3⟩ : Pl)]).length = pl.length + 1 := by simp
    show Mem ⟨0, w0, none, []⟩ (fun _ => True) (fpR gf gr (3) v1 v2 v3 (.slice A5 (pl.length + 1) c5)) [⟨v1, 168, 15, (sl).length, (sl).flatMap stEnc⟩, ⟨v2, 170, 2, (cl).length, (cl).flatMap csEnc⟩, ⟨v3, 158, 2, (vl).length, (vl).flatMap vhEnc⟩, ⟨.slice A5 (pl.length + 1) c5, 161, 3, ((pl ++ [(⟨numV a1, a2, a3⟩ : Pl)])).length, ((pl ++ [(⟨numV a1, a2, a3⟩ : Pl)])).flatMap plEnc⟩] [TxtO w0.heap.size none] _
    rw [e9]
    exact (hm.pick [4, 5] [0, 1, 2, 3] [1] rfl rfl).cx
   replace hb : numB a1 = false := by simpa using hb
   rw [item_pl_no a2 a3 hb] at hI
   have hN : (fStep t ⟨sl, cl, vl, pl, pa + 1⟩).2 = false := by rw [fStep_no hI]
   obtain ⟨NB, hNB⟩ : ∃ z, z = numB a1 := ⟨_, rfl⟩
   rw [← hNB]
   rw [hb] at hNB
   subst hNB
   refine wl_look (R := ∃ A cc, v4 = .slice A pl.length cc) (fun wx hm => own_slice (hm.ownI 3 rfl)) ?_
   rintro ⟨A_, c_, rfl⟩
   refine mv_ rfl (wl_ov (ov_extract rfl rfl) rfl (wl_ov (ov_extract rfl rfl) rfl (sg_ rfl (sg_ rfl (nn_ (gw_seq ?_))))))
   refine gd (fun wz => Blk wz g28 3 [.int .i64 9, .int .i64 3, .int .i64 3, .int .i64 4] ∧ Blk wz g27 9 [.string ⟨#[115, 116, 97, 116, 105, 111, 110]⟩, .string ⟨#[99, 108, 97, 115, 115]⟩, .string ⟨#[118, 101, 104, 105, 99, 108, 101]⟩, .string ⟨#[112, 108, 97, 116, 101]⟩] ∧ Blk wz gw 9 [.string ⟨#[112, 108, 97, 116, 101]⟩, .string a1, .string a2, .string a3] ∧ Blk wz gr 66 [.slice none 0 0, .slice none 0 0, .slice none 0 0, .slice none 0 0] ∧ (fun _ => True) wz ∧ (TxtO w0.heap.size none) wz ∧ True) mixed (fun _ hm => ⟨hm.bl 0, hm.bl 1, hm.bl 2, hm.bl 4, hm.fa 0, hm.fa 1, trivial⟩) fun z => ?_
   refine wt 0 20 1 rfl z (ov_move rfl) ?_
   refine wt 1 20 3 rfl z (ov_move rfl) ?_
   refine wt 2 20 7 rfl z (ov_nilcheck rfl) ?_
   refine wt 3 20 15 rfl z (ov_field fo181_0 rfl rfl) ?_
   refine wt 4 20 31 rfl z (ov_field fo66_3 rfl rfl) ?_
   refine wt 6 20 95 rfl z (ov_move rfl) ?_
   refine wt 7 20 223 rfl z (ov_move rfl) ?_
   refine wt 8 20 479 rfl z (ov_index (j := 2) es112 rfl rfl (by omega)) ?_
   refine wt 9 20 991 rfl z (ov_load sc9 rfl (fun _ hm => hm.2.2.1) rfl) ?_
   refine wt 10 20 2015 rfl z (ov_move rfl) ?_
   refine wt 11 20 4063 rfl z (ov_index (j := 3) es112 rfl rfl (by omega)) ?_
   refine wt 12 20 8159 rfl z (ov_load sc9 rfl (fun _ hm => hm.2.2.1) rfl) ?_
   refine wt 13 20 16351 rfl z (ov_build (cs := [.int .i64 nv, .string a2, .string a3]) rfl (by kernel_rfl)) ?_
   refine wa_all [5, 14] (by kernel_rfl) rfl ⟨⟨_, rfl, ?_⟩, ⟨_, rfl, ?_⟩, trivial⟩
   ·refine lk_ sc64 3 rfl rfl rfl (wl_nil ?_)
    refine nw 20 16383 (fun _ hm => ⟨hm.bl 0, hm.bl 1, hm.bl 2, hm.bl 4, hm.fa 0, hm.fa 1, trivial⟩) fun z => ?_
    refine wa1 14 rfl ?_
    refine wl_buildSlice (e := 161) (cs := [.int .i64 nv, .string a2, .string a3]) rfl (by kernel_rfl) rfl fun g30 => ?_
    refine wl_nil ?_
    refine nw 20 32767 (fun _ hm => ⟨hm.bl 1, hm.bl 2, hm.bl 3, hm.bl 5, hm.fa 0, hm.fa 1, trivial⟩) fun z => ?_
    refine wa1 15 rfl ?_
    refine wl_append (news := [.int .i64 nv, .string a2, .string a3]) 3 0 ap64 rfl rfl rfl rfl rfl rfl rfl (by omega) (by unfold maxLen; omega) rfl rfl fun v9 hv => ?_
    refine wl_look (R := ∃ A cc, v9 = .slice A (pl.length + 1) cc) (fun wx hm => own_slice (hm.ownI 3 rfl)) ?_
    rintro ⟨A5, c5, rfl⟩
    refine wl_nil ?_
    refine nw 20 65535 (fun _ hm => ⟨hm.bl 1, hm.bl 2, hm.bl 3, hm.bl 5, hm.fa 0, hm.fa 1, trivial⟩) fun z => ?_
    refine wt 16 20 131071 rfl z (ov_nilcheck rfl) ?_
    refine wt 17 20 262143 rfl z (ov_field fo181_0 rfl rfl) ?_
    refine wt 18 20 524287 rfl z (ov_field fo66_3 rfl rfl) ?_
    refine wa1 19 rfl ?_
    refine wl_store 4 sc64 rfl rfl rfl rfl rfl rfl ?_
    refine wl_nil ?_
    refine nw 20 1048575 (fun _ hm => ⟨hm.bl 1, hm.bl 2, hm.bl 3, hm.bl 5, hm.fa 0, hm.fa 1, trivial⟩) fun z => ?_
    refine wa_done (by kernel_rfl) ?_
    refine nx_then (sr_ (mv_ rfl (sg_ rfl (nn_ ?_))))
    refine gw_ret ?_
    refine nx_blk_ret (nx_then_ret ?_)
    rw [show pl.flatMap plEnc ++ ([.int .i64 nv, .string a2, .string a3] : List Value) = (pl ++ [((⟨nv, a2, a3⟩ : Pl))]).flatMap plEnc from by simp [plEnc]]
    refine nx_ret1 rfl rfl fun wx hm => ?_
    refine ⟨v1, v2, v3, .slice A5 (pl.length + 1) c5, 3, ⟨sl, cl, vl, (pl ++ [(⟨nv, a2, a3⟩ : Pl)]), 1⟩, by rw [hN], (fun h => by rw [hN] at h; cases h), ?_⟩
    have e9 : (pl ++ [(⟨nv, a2, a3⟩ : Pl)]).length = pl.length + 1 := by simp
    show Mem ⟨0, w0, none, []⟩ (fun _ => True) (fpR gf gr (3) v1 v2 v3 (.slice A5 (pl.length + 1) c5)) [⟨v1, 168, 15, (sl).length, (sl).flatMap stEnc⟩, ⟨v2, 170, 2, (cl).length, (cl).flatMap csEnc⟩, ⟨v3, 158, 2, (vl).length, (vl).flatMap vhEnc⟩, ⟨.slice A5 (pl.length + 1) c5, 161, 3, ((pl ++ [(⟨nv, a2, a3⟩ : Pl)])).length, ((pl ++ [(⟨nv, a2, a3⟩ : Pl)])).flatMap plEnc⟩] [TxtO w0.heap.size none] _
    rw [e9]
    exact (hm.pick [4, 5] [0, 1, 2, 3] [1] rfl rfl).cx
   refine wl_buildSlice (e := 161) (cs := [.int .i64 nv, .string a2, .string a3]) rfl (by kernel_rfl) rfl fun g31 => ?_
   refine wl_nil ?_
   refine nw 20 32735 (fun _ hm => ⟨hm.bl 1, hm.bl 2, hm.bl 3, hm.bl 5, hm.fa 0, hm.fa 1, trivial⟩) fun z => ?_
   refine wa1 5 rfl ?_
   refine lk_ sc64 4 rfl rfl rfl (wl_nil ?_)
   refine nw 20 32767 (fun _ hm => ⟨hm.bl 1, hm.bl 2, hm.bl 3, hm.bl 5, hm.fa 0, hm.fa 1, trivial⟩) fun z => ?_
   refine wa1 15 rfl ?_
   refine wl_append (news := [.int .i64 nv, .string a2, .string a3]) 3 0 ap64 rfl rfl rfl rfl rfl rfl rfl (by omega) (by unfold maxLen; omega) rfl rfl fun v9 hv => ?_
   refine wl_look (R := ∃ A cc, v9 = .slice A (pl.length + 1) cc) (fun wx hm => own_slice (hm.ownI 3 rfl)) ?_
   rintro ⟨A5, c5, rfl⟩
   refine wl_nil ?_
   refine nw 20 65535 (fun _ hm => ⟨hm.bl 1, hm.bl 2, hm.bl 3, hm.bl 5, hm.fa 0, hm.fa 1, trivial⟩) fun z => ?_
   refine wt 16 20 131071 rfl z (ov_nilcheck rfl) ?_
   refine wt 17 20 262143 rfl z (ov_field fo181_0 rfl rfl) ?_
   refine wt 18 20 524287 rfl z (ov_field fo66_3 rfl rfl) ?_
   refine wa1 19 rfl ?_
   refine wl_store 4 sc64 rfl rfl rfl rfl rfl rfl ?_
   refine wl_nil ?_
   refine nw 20 1048575 (fun _ hm => ⟨hm.bl 1, hm.bl 2, hm.bl 3, hm.bl 5, hm.fa 0, hm.fa 1, trivial⟩) fun z => ?_
   refine wa_done (by kernel_rfl) ?_
   refine nx_then (sr_ (mv_ rfl (sg_ rfl (nn_ ?_))))
   refine gw_ret ?_
   refine nx_blk_ret (nx_then_ret ?_)
   rw [show pl.flatMap plEnc ++ ([.int .i64 nv, .string a2, .string a3] : List Value) = (pl ++ [((⟨nv, a2, a3⟩ : Pl))]).flatMap plEnc from by simp [plEnc]]
   refine nx_ret1 rfl rfl fun wx hm => ?_
   refine ⟨v1, v2, v3, .slice A5 (pl.length + 1) c5, 3, ⟨sl, cl, vl, (pl ++ [(⟨nv, a2, a3⟩ : Pl)]), 1⟩, by rw [hN], (fun h => by rw [hN] at h; cases h), ?_⟩
   have e9 : (pl ++ [(⟨nv, a2, a3⟩ : Pl)]).length = pl.length + 1 := by simp
   show Mem ⟨0, w0, none, []⟩ (fun _ => True) (fpR gf gr (3) v1 v2 v3 (.slice A5 (pl.length + 1) c5)) [⟨v1, 168, 15, (sl).length, (sl).flatMap stEnc⟩, ⟨v2, 170, 2, (cl).length, (cl).flatMap csEnc⟩, ⟨v3, 158, 2, (vl).length, (vl).flatMap vhEnc⟩, ⟨.slice A5 (pl.length + 1) c5, 161, 3, ((pl ++ [(⟨nv, a2, a3⟩ : Pl)])).length, ((pl ++ [(⟨nv, a2, a3⟩ : Pl)])).flatMap plEnc⟩] [TxtO w0.heap.size none] _
   rw [e9]
   exact (hm.pick [4, 5] [0, 1, 2, 3] [1] rfl rfl).cx
  refine sg_ rfl (nn_ (sr_ (mv_ rfl ?_)))
  refine wl_callgo (γ := Nat × Nat) (val := (fun g => .tuple #[.slice (some ⟨g.1, 0, none⟩) g.2 g.2, .bool (wdB t)])) (φ := (fun g => g.2 = (wdL t).length ∧ 1 ≤ g.2 ∧ g.2 ≤ t.size + 1)) (fun g => ⟨.slice (some ⟨g.1, 0, none⟩) g.2 g.2, 9, 1, g.2, (wdL t).flatMap sgEnc⟩) rfl cb72 rfl rfl (fun wx hm => (rwords_own t wx (hm.fact 0 rfl).1 hts).mono fun _ _ ⟨g, k, he, h1, h2, hg⟩ => ⟨(g, k), he, h2, h1, hg⟩) ?_
  rintro ⟨gw, kw⟩ hkw
  dsimp only at hkw ⊢
  obtain ⟨hkl, hk1, hk2⟩ := hkw
  refine mv_ rfl (wl_ov (ov_extract rfl rfl) rfl (wl_ov (ov_extract rfl rfl) rfl (sg_ rfl (sg_ rfl (nn_ (sr_ ?_))))))
  refine wl_buildSlice (e := 9) (cs := [.string ⟨#[115, 116, 97, 116, 105, 111, 110]⟩, .string ⟨#[99, 108, 97, 115, 115]⟩, .string ⟨#[118, 101, 104, 105, 99, 108, 101]⟩, .string ⟨#[112, 108, 97, 116, 101]⟩]) rfl (by kernel_rfl) rfl fun g25 => ?_
  refine mv_ rfl ?_
  refine wl_ov (ov_index (j := 0) es112 rfl rfl (by omega)) rfl ?_
  refine wl_ov (ov_elem1 (k := 0) (v := .string ⟨#[112, 108, 97, 116, 101]⟩) sc9 rfl (fun _ hm => (show SlT sgEnc 1 9 _ (some ⟨gw, 0, none⟩) kw (wdL t) from SlT.ofOwn sg_len (hm.ownI 0 rfl) hkl.symm)) hx0 rfl rfl) rfl ?_
  refine wl_callv (v := .int .i64 3) rfl cb109 rfl rfl (fun wx hm => (by have h := tIndex_any ([⟨#[115, 116, 97, 116, 105, 111, 110]⟩, ⟨#[99, 108, 97, 115, 115]⟩, ⟨#[118, 101, 104, 105, 99, 108, 101]⟩, ⟨#[112, 108, 97, 116, 101]⟩] : List ByteArray) (some ⟨g25, 0, none⟩) 4 4 ⟨#[112, 108, 97, 116, 101]⟩ wx (SlT.ofBlk (l := ([⟨#[115, 116, 97, 116, 105, 111, 110]⟩, ⟨#[99, 108, 97, 115, 115]⟩, ⟨#[118, 101, 104, 105, 99, 108, 101]⟩, ⟨#[112, 108, 97, 116, 101]⟩] : List ByteArray)) sg_len (hm.blkI 0 rfl)) (by omega); rw [show ixP (eqP ⟨#[112, 108, 97, 116, 101]⟩) [⟨#[115, 116, 97, 116, 105, 111, 110]⟩, ⟨#[99, 108, 97, 115, 115]⟩, ⟨#[118, 101, 104, 105, 99, 108, 101]⟩, ⟨#[112, 108, 97, 116, 101]⟩] 0 = 3 from by decide +kernel] at h; exact h)) ?_
  have hN : (fStep t ⟨sl, cl, vl, pl, pa + 1⟩).2 = false := by
   cases hw : wdB t with
   | false => rw [fStep_no (fIt_wd (by rw [hw]; rfl))]
   | true => rw [fStep_no ((fIt_go (by rw [hw]; rfl)).trans (fItem_bad hx0 (fun h => ⟨by decide +kernel, by decide +kernel⟩) (fun h => absurd h hN_) (fun h => by decide +kernel)))]
  refine sg_ rfl (nn_ (gw_seq (sr_ (mv_ rfl (wl_ov (ov_un_not rfl) rfl (mv_ rfl ?_))))))
  rcases Bool.eq_false_or_eq_true (!(wdB t)) with h1 | h1
  ·refine wl_set 31 rfl (congrArg Value.bool h1) ?_
   refine goff rfl rfl rfl (goff rfl rfl rfl (goff rfl rfl rfl (goff rfl rfl rfl (goff rfl rfl rfl (goff rfl rfl rfl (pt_ rfl rfl (mv_ rfl (goff rfl rfl rfl (goff rfl rfl rfl (goff rfl rfl rfl (goff rfl rfl rfl (goff rfl rfl rfl (goff rfl rfl rfl ?_)))))))))))))
   refine goff rfl rfl rfl (pt_ rfl rfl (nn_ (ct_ rfl (sr_ (sg_ rfl (nn_ ?_))))))
   refine gw_ret ?_
   refine nx_then_ret ?_
   refine nx_ret1 rfl rfl fun wx hm => ?_
   refine ⟨v1, v2, v3, v4, pa, ⟨sl, cl, vl, pl, 1⟩, by rw [hN], (fun h => by rw [hN] at h; cases h), ?_⟩
   exact (hm.pick [1, 2] [1, 2, 3, 4] [0] rfl rfl).cx
  refine wl_set 31 rfl (congrArg Value.bool h1) ?_
  refine wl_guard_on rfl rfl rfl (mv_ rfl (wl_guard_on rfl rfl rfl (mv_ rfl (wl_guard_on rfl rfl rfl (wl_ov (ov_nilcheck rfl) rfl (wl_guard_on rfl rfl rfl (fd_ fo181_1 rfl rfl (wl_guard_on rfl rfl rfl (lk_ sc3 1 rfl rfl rfl (wl_guard_on rfl rfl rfl (wl_ov (ov_lss rfl rfl) rfl (pf_ rfl rfl (mv_ rfl ?_)))))))))))))
  rcases Bool.eq_false_or_eq_true (decide (3 < pa)) with hp | hp
  ·refine wl_set 39 rfl (congrArg Value.bool hp) ?_
   refine goff rfl rfl rfl (goff rfl rfl rfl (goff rfl rfl rfl (goff rfl rfl rfl (goff rfl rfl rfl (goff rfl rfl rfl (goff rfl rfl rfl (pt_ rfl rfl (nn_ (ct_ rfl (sr_ (sg_ rfl ?_)))))))))))
   refine nn_ ?_
   refine gw_ret ?_
   refine nx_then_ret ?_
   refine nx_ret1 rfl rfl fun wx hm => ?_
   refine ⟨v1, v2, v3, v4, pa, ⟨sl, cl, vl, pl, 1⟩, by rw [hN], (fun h => by rw [hN] at h; cases h), ?_⟩
   exact (hm.pick [1, 2] [1, 2, 3, 4] [0] rfl rfl).cx
  refine wl_set 39 rfl (congrArg Value.bool hp) ?_
  refine wl_guard_on rfl rfl rfl (mv_ rfl (wl_guard_on rfl rfl rfl (wl_ov (ov_len es112 rfl) rfl (wl_guard_on rfl rfl rfl ?_))))
  refine wl_buildSlice (e := 3) (cs := [.int .i64 9, .int .i64 3, .int .i64 3, .int .i64 4]) rfl (by kernel_rfl) rfl fun g26 => ?_
  refine wl_guard_on rfl rfl rfl (mv_ rfl (wl_guard_on rfl rfl rfl ?_))
  refine wl_ov (ov_index (j := 3) es22 rfl rfl (by omega)) rfl ?_
  refine wl_guard_on rfl rfl rfl (lk_ sc3 0 rfl rfl rfl (wl_guard_on rfl rfl rfl (wl_ov (ov_neq rfl rfl) rfl (pf_ rfl rfl (nn_ ?_)))))
  refine gw_set 47 (v' := .bool true) rfl (congrArg Value.bool (by rw [decide_eq_false (by omega)]; rfl)) ?_
  refine ct_ rfl (sr_ (sg_ rfl (nn_ ?_)))
  refine gw_ret ?_
  refine nx_then_ret ?_
  refine nx_ret1 rfl rfl fun wx hm => ?_
  refine ⟨v1, v2, v3, v4, pa, ⟨sl, cl, vl, pl, 1⟩, by rw [hN], (fun h => by rw [hN] at h; cases h), ?_⟩
  exact (hm.pick [2, 3] [1, 2, 3, 4] [0] rfl rfl).cx
 refine sg_ rfl (nn_ (sr_ (mv_ rfl ?_)))
 refine wl_callgo (γ := Nat × Nat) (val := (fun g => .tuple #[.slice (some ⟨g.1, 0, none⟩) g.2 g.2, .bool (wdB t)])) (φ := (fun g => g.2 = (wdL t).length ∧ 1 ≤ g.2 ∧ g.2 ≤ t.size + 1)) (fun g => ⟨.slice (some ⟨g.1, 0, none⟩) g.2 g.2, 9, 1, g.2, (wdL t).flatMap sgEnc⟩) rfl cb72 rfl rfl (fun wx hm => (rwords_own t wx (hm.fact 0 rfl).1 hts).mono fun _ _ ⟨g, k, he, h1, h2, hg⟩ => ⟨(g, k), he, h2, h1, hg⟩) ?_
 rintro ⟨gw, kw⟩ hkw
 dsimp only at hkw ⊢
 obtain ⟨hkl, hk1, hk2⟩ := hkw
 refine mv_ rfl (wl_ov (ov_extract rfl rfl) rfl (wl_ov (ov_extract rfl rfl) rfl (sg_ rfl (sg_ rfl (nn_ (sr_ ?_))))))
 refine wl_buildSlice (e := 9) (cs := [.string ⟨#[115, 116, 97, 116, 105, 111, 110]⟩, .string ⟨#[99, 108, 97, 115, 115]⟩, .string ⟨#[118, 101, 104, 105, 99, 108, 101]⟩, .string ⟨#[112, 108, 97, 116, 101]⟩]) rfl (by kernel_rfl) rfl fun g34 => ?_
 refine mv_ rfl ?_
 refine wl_ov (ov_index (j := 0) es112 rfl rfl (by omega)) rfl ?_
 refine wl_ov (ov_elem1 (k := 0) (v := .string a0) sc9 rfl (fun _ hm => (show SlT sgEnc 1 9 _ (some ⟨gw, 0, none⟩) kw (wdL t) from SlT.ofOwn sg_len (hm.ownI 0 rfl) hkl.symm)) hx0 rfl rfl) rfl ?_
 refine wl_callv (v := .int .i64 (-1)) rfl cb109 rfl rfl (fun wx hm => (by have h := tIndex_any ([⟨#[115, 116, 97, 116, 105, 111, 110]⟩, ⟨#[99, 108, 97, 115, 115]⟩, ⟨#[118, 101, 104, 105, 99, 108, 101]⟩, ⟨#[112, 108, 97, 116, 101]⟩] : List ByteArray) (some ⟨g34, 0, none⟩) 4 4 a0 wx (SlT.ofBlk (l := ([⟨#[115, 116, 97, 116, 105, 111, 110]⟩, ⟨#[99, 108, 97, 115, 115]⟩, ⟨#[118, 101, 104, 105, 99, 108, 101]⟩, ⟨#[112, 108, 97, 116, 101]⟩] : List ByteArray)) sg_len (hm.blkI 0 rfl)) (by omega); rw [ix4_no n1 n2 n3 n4] at h; exact h)) ?_
 have hN : (fStep t ⟨sl, cl, vl, pl, pa + 1⟩).2 = false := by
  cases hw : wdB t with
  | false => rw [fStep_no (fIt_wd (by rw [hw]; rfl))]
  | true => rw [fStep_no ((fIt_go (by rw [hw]; rfl)).trans (fItem_bad hx0 (fun _ => ⟨n2, n3⟩) (fun _ => n4) (fun _ => n1)))]
 refine sg_ rfl ?_
 refine wl_set 7 (v' := .int .i64 (-1)) rfl rfl ?_
 refine nn_ (gw_seq (sr_ (mv_ rfl (wl_ov (ov_un_not rfl) rfl (mv_ rfl ?_)))))
 rcases Bool.eq_false_or_eq_true (!(wdB t)) with h1 | h1
 ·refine wl_set 31 rfl (congrArg Value.bool h1) ?_
  refine goff rfl rfl rfl (goff rfl rfl rfl (goff rfl rfl rfl (goff rfl rfl rfl (goff rfl rfl rfl (goff rfl rfl rfl (pt_ rfl rfl (mv_ rfl (goff rfl rfl rfl (goff rfl rfl rfl (goff rfl rfl rfl (goff rfl rfl rfl (goff rfl rfl rfl (goff rfl rfl rfl ?_)))))))))))))
  refine goff rfl rfl rfl (pt_ rfl rfl (nn_ (ct_ rfl (sr_ (sg_ rfl (nn_ ?_))))))
  refine gw_ret ?_
  refine nx_then_ret ?_
  refine nx_ret1 rfl rfl fun wx hm => ?_
  refine ⟨v1, v2, v3, v4, pa, ⟨sl, cl, vl, pl, 1⟩, by rw [hN], (fun h => by rw [hN] at h; cases h), ?_⟩
  exact (hm.pick [1, 2] [1, 2, 3, 4] [0] rfl rfl).cx
 refine wl_set 31 rfl (congrArg Value.bool h1) ?_
 refine wl_guard_on rfl rfl rfl (mv_ rfl (wl_guard_on rfl rfl rfl (mv_ rfl (wl_guard_on rfl rfl rfl (wl_ov (ov_nilcheck rfl) rfl (wl_guard_on rfl rfl rfl (fd_ fo181_1 rfl rfl (wl_guard_on rfl rfl rfl (lk_ sc3 1 rfl rfl rfl (wl_guard_on rfl rfl rfl (wl_ov (ov_lss rfl rfl) rfl (pf_ rfl rfl (mv_ rfl ?_)))))))))))))
 refine wl_set 39 (v' := .bool true) rfl (congrArg Value.bool (decide_eq_true (by omega))) ?_
 refine goff rfl rfl rfl (goff rfl rfl rfl (goff rfl rfl rfl (goff rfl rfl rfl (goff rfl rfl rfl (goff rfl rfl rfl (goff rfl rfl rfl (pt_ rfl rfl (nn_ (ct_ rfl (sr_ (sg_ rfl ?_)))))))))))
 refine nn_ ?_
 refine gw_ret ?_
 refine nx_then_ret ?_
 refine nx_ret1 rfl rfl fun wx hm => ?_
 refine ⟨v1, v2, v3, v4, pa, ⟨sl, cl, vl, pl, 1⟩, by rw [hN], (fun h => by rw [hN] at h; cases h), ?_⟩
 exact (hm.pick [1, 2] [1, 2, 3, 4] [0] rfl rfl).cx
end Go.Proofs.YtnpcbfllnkiopaaGreatDoor
namespace Go.Proofs
open Go.Shelf
def Tryz.lays125_ren : Go.Shelf.Ren := ⟨fun | 125 => 225 | 128 => 277 | 129 => 278 | n => n, fun | 46 => 265 | 3 => 3 | 51 => 309 | 53 => 311 | 4 => 4 | 5 => 5 | 9 => 9 | n => n, fun | n => n⟩
theorem Tryz.lays125 : Go.Proofs.Lays.n125 Tryz.prog Tryz.lays125_ren := {
  mixed := by kernel_rfl
  f125 := Tryz.func225.trans (congrArg some (by kernel_rfl))
  f128 := Tryz.func277.trans (congrArg some (by kernel_rfl))
  f129 := Tryz.func278.trans (congrArg some (by kernel_rfl))
  t3 := Tryz.underlying3
  a3 := Tryz.isAgg3
  z3 := Tryz.sizeOf3
  v3 := Tryz.zeroValue3
  t4 := Tryz.underlying4
  a4 := Tryz.isAgg4
  z4 := Tryz.sizeOf4
  v4 := Tryz.zeroValue4
  t5 := Tryz.underlying5
  a5 := Tryz.isAgg5
  z5 := Tryz.sizeOf5
  v5 := Tryz.zeroValue5
  t9 := Tryz.underlying9
  a9 := Tryz.isAgg9
  z9 := Tryz.sizeOf9
  v9 := Tryz.zeroValue9
  t46 := Tryz.underlying265
  a46 := Tryz.isAgg265
  z46 := Tryz.sizeOf265
  v46 := Tryz.zeroValue265
  t51 := Tryz.underlying309
  a51 := Tryz.isAgg309
  z51 := Tryz.sizeOf309
  v51 := Tryz.zeroValue309
  t53 := Tryz.underlying311
  a53 := Tryz.isAgg311
  z53 := Tryz.sizeOf311
  v53 := Tryz.zeroValue311 }
end Go.Proofs
namespace Go.Proofs
open Go.Shelf
def Tryz.lays106_ren : Go.Shelf.Ren := ⟨fun | 106 => 143 | 213 => 226 | 265 => 279 | n => n, fun | 9 => 9 | 3 => 3 | n => n, fun | n => n⟩
theorem Tryz.lays106 : Go.Proofs.Lays.n106 Tryz.prog Tryz.lays106_ren := {
  mixed := by kernel_rfl
  f106 := Tryz.func143.trans (congrArg some (by kernel_rfl))
  f213 := Tryz.func226.trans (congrArg some (by kernel_rfl))
  f265 := Tryz.func279.trans (congrArg some (by kernel_rfl))
  t3 := Tryz.underlying3
  a3 := Tryz.isAgg3
  z3 := Tryz.sizeOf3
  v3 := Tryz.zeroValue3
  t9 := Tryz.underlying9
  a9 := Tryz.isAgg9
  z9 := Tryz.sizeOf9
  v9 := Tryz.zeroValue9 }
end Go.Proofs
namespace Go.Proofs.YtnpcbfllnkiopaaGreatDoor
open Go.RowKit
theorem cmpB_eq : ∀ a b : List UInt8, Lib.compareBytes a b = if Go.Op.bytesLess a b = true then -1 else if (Go.Op.bytesLess a b || a == b) = false then 1 else 0
  | [], [] => rfl
  | [], b :: y => by simp [Lib.compareBytes, Go.Op.bytesLess]
  | a :: x, [] => by simp [Lib.compareBytes, Go.Op.bytesLess]
  | a :: x, b :: y => by
    have ih := cmpB_eq x y
    unfold Lib.compareBytes Go.Op.bytesLess
    by_cases h1 : a < b
    · simp [h1]
    · by_cases h2 : b < a
      · have h3 : ¬ a = b := fun e => by subst e; exact h1 h2
        simp [h1, h2, h3]
      · have h3 : a = b := by
          rcases Decidable.em (a = b) with h | h
          · exact h
          · rcases UInt8.lt_or_lt_of_ne h with h | h
            · exact absurd h h1
            · exact absurd h h2
        subst h3
        simp only [h1, if_false, ih, decide_false, Bool.false_or, beq_self_eq_true, Bool.true_and, List.cons_beq_cons]
theorem strCompare_any (a b : ByteArray) (w : World) : Calls Tryz.prog 143 #[.string a, .string b] w (fun e w' => e = .returned (.int .i64 (cmpS a b)) ∧ w.grownBy w' none) := by
  have hcon := Any.strings_Compare Tryz.lays106 a b w
  refine Calls.mono hcon ?_
  rintro e w' ⟨rfl, rfl⟩
  refine ⟨?_, World.grownBy.refl _ _⟩
  unfold cmpS
  rw [cmpB_eq, ByteArray.toList_eq, ByteArray.toList_eq]
theorem bitsLen_any (n : Nat) (w : World) (hn : n ≤ 1000000) : Calls Tryz.prog 225 #[.int .u64 ((n : Nat) : Int)] w (fun e w' => ∃ v : Int, e = .returned (.int .i64 v) ∧ w.grownBy w' none) := by
  have hcon := Any.bits_Len Tryz.lays125 ((n : Nat) : Int) w (by omega) (by omega)
  refine Calls.mono hcon ?_
  rintro e w' ⟨rfl, rfl⟩
  exact ⟨_, rfl, World.grownBy.refl _ _⟩
end Go.Proofs.YtnpcbfllnkiopaaGreatDoor
namespace Go.Proofs.YtnpcbfllnkiopaaGreatDoor
open Go.RowKit
theorem b_ne_self (a : ByteArray) : (!(a.toList == a.toList)) = false := by simp
theorem i_ne_self (a : Int) : (!decide (a = a)) = false := by simp
theorem nan_string (a : ByteArray) (w : World) : Calls Tryz.prog 176 #[.string a] w (fun e w' => e = .returned (.bool false) ∧ w.grownBy w' none) := by
 refine gw_enter ⟨6, w, none, []⟩ Tryz.func176 rfl Tryz.ntmps176 rfl (mem0 (X := []) allF_nil allL_nil) ?_
 refine sr_ (sg_ rfl (nn_ (sr_ (mv_ rfl (mv_ rfl (wl_ov (ov_sneq rfl rfl) rfl ?_))))))
 refine wl_set 5 (v' := .bool false) rfl (congrArg Value.bool (b_ne_self a)) ?_
 refine sg_ rfl (nn_ ?_)
 refine gw_ret ?_
 refine nx_ret1 rfl rfl fun wx hm => ?_
 exact ⟨rfl, hm.g⟩
theorem cmp_string (a b : ByteArray) (w : World) : Calls Tryz.prog 85 #[.string a, .string b] w (fun e w' => e = .returned (.int .i64 (cmpS a b)) ∧ w.grownBy w' none) := by
 refine gw_enter ⟨20, w, none, []⟩ Tryz.func85 rfl Tryz.ntmps85 rfl (mem0 (X := []) allF_nil allL_nil) ?_
 refine sr_ (sg_ rfl (nn_ (sr_ (mv_ rfl ?_))))
 refine wl_callv rfl cb176 rfl rfl (fun wx hm => (nan_string _ wx)) ?_
 refine sg_ rfl (nn_ (sr_ (mv_ rfl ?_)))
 refine wl_callv rfl cb176 rfl rfl (fun wx hm => (nan_string _ wx)) ?_
 refine sg_ rfl (nn_ (gw_seq (sr_ (mv_ rfl (nn_ (cf_ rfl (gw_skip (nx_then (gw_seq (gw_seq ?_))))))))))
 refine gw_region (mv_ rfl (nn_ (cf_ rfl (gw_skip (nx_then (gw_seq (sr_ (mv_ rfl (mv_ rfl ?_)))))))))
 refine wl_ov (ov_slss rfl rfl) rfl ?_
 refine nn_ ?_
 refine gw_cond rfl (fun hh => ?_) (fun hh => ?_)
 ·have h1 : (Op.bytesLess a.toList b.toList) = true := by simpa using hh
  clear hh
  refine sr_ (sg_ rfl ?_)
  refine wl_set 4 (v' := .int .i64 (-1)) rfl rfl ?_
  refine nn_ ?_
  refine gw_ret ?_
  refine nx_then_ret ?_
  refine nx_ret1 rfl rfl fun wx hm => ?_
  refine ⟨?_, hm.g⟩
  unfold cmpS; rw [if_pos h1]
 have h1 : (Op.bytesLess a.toList b.toList) = false := by simpa using hh
 clear hh
 refine gw_skip (nx_then (gw_seq (sr_ (mv_ rfl (mv_ rfl ?_)))))
 refine wl_ov (ov_sgtr rfl rfl) rfl ?_
 refine nn_ ?_
 refine gw_cond rfl (fun hh => ?_) (fun hh => ?_)
 ·have h2 : (Op.bytesLess a.toList b.toList || a.toList == b.toList) = false := by simpa only [Bool.not_eq_true', Bool.not_eq_false'] using hh
  clear hh
  refine sr_ (sg_ rfl (nn_ ?_))
  refine gw_ret ?_
  refine nx_then_ret ?_
  refine nx_ret1 rfl rfl fun wx hm => ?_
  refine ⟨?_, hm.g⟩
  unfold cmpS; rw [if_neg (by rw [h1]; decide), if_pos h2]
 have h2 : (Op.bytesLess a.toList b.toList || a.toList == b.toList) = true := by simpa only [Bool.not_eq_true', Bool.not_eq_false'] using hh
 clear hh
 refine gw_skip (nx_then (sr_ (sg_ rfl (nn_ ?_))))
 refine gw_ret ?_
 refine nx_ret1 rfl rfl fun wx hm => ?_
 refine ⟨?_, hm.g⟩
 unfold cmpS; rw [if_neg (by rw [h1]; decide), if_neg (by rw [h2]; decide)]
theorem nan_int (a : Int) (w : World) : Calls Tryz.prog 175 #[.int .i64 a] w (fun e w' => e = .returned (.bool false) ∧ w.grownBy w' none) := by
 refine gw_enter ⟨6, w, none, []⟩ Tryz.func175 rfl Tryz.ntmps175 rfl (mem0 (X := []) allF_nil allL_nil) ?_
 refine sr_ (sg_ rfl (nn_ (sr_ (mv_ rfl (mv_ rfl (wl_ov (ov_neq rfl rfl) rfl ?_))))))
 refine wl_set 5 (v' := .bool false) rfl (congrArg Value.bool (i_ne_self a)) ?_
 refine sg_ rfl (nn_ ?_)
 refine gw_ret ?_
 refine nx_ret1 rfl rfl fun wx hm => ?_
 exact ⟨rfl, hm.g⟩
theorem cmp_int (a b : Int) (w : World) : Calls Tryz.prog 84 #[.int .i64 a, .int .i64 b] w (fun e w' => e = .returned (.int .i64 (cmpI a b)) ∧ w.grownBy w' none) := by
 refine gw_enter ⟨20, w, none, []⟩ Tryz.func84 rfl Tryz.ntmps84 rfl (mem0 (X := []) allF_nil allL_nil) ?_
 refine sr_ (sg_ rfl (nn_ (sr_ (mv_ rfl ?_))))
 refine wl_callv rfl cb175 rfl rfl (fun wx hm => (nan_int _ wx)) ?_
 refine sg_ rfl (nn_ (sr_ (mv_ rfl ?_)))
 refine wl_callv rfl cb175 rfl rfl (fun wx hm => (nan_int _ wx)) ?_
 refine sg_ rfl (nn_ (gw_seq (sr_ (mv_ rfl (nn_ (cf_ rfl (gw_skip (nx_then (gw_seq (gw_seq ?_))))))))))
 refine gw_region (mv_ rfl (nn_ (cf_ rfl (gw_skip (nx_then (gw_seq (sr_ (mv_ rfl (mv_ rfl (wl_ov (ov_lss rfl rfl) rfl (wl_nil ?_)))))))))))
 refine nx_then ?_
 refine gw_cond rfl (fun hh => ?_) (fun hh => ?_)
 ·have h1 : a < b := by simpa using hh
  clear hh
  refine sr_ (sg_ rfl ?_)
  refine wl_set 4 (v' := .int .i64 (-1)) rfl rfl ?_
  refine nn_ ?_
  refine gw_ret ?_
  refine nx_then_ret ?_
  refine nx_ret1 rfl rfl fun wx hm => ?_
  refine ⟨?_, hm.g⟩
  unfold cmpI; rw [if_pos h1]
 have h1 : ¬ (a < b) := by simpa using hh
 clear hh
 refine gw_skip (nx_then (gw_seq (sr_ (mv_ rfl (mv_ rfl ?_)))))
 refine wl_ov (ov_gtr rfl rfl) rfl ?_
 refine nn_ ?_
 refine gw_cond rfl (fun hh => ?_) (fun hh => ?_)
 ·have h2 : b < a := by simpa using hh
  clear hh
  refine sr_ (sg_ rfl (nn_ ?_))
  refine gw_ret ?_
  refine nx_then_ret ?_
  refine nx_ret1 rfl rfl fun wx hm => ?_
  refine ⟨?_, hm.g⟩
  unfold cmpI; rw [if_neg h1, if_pos h2]
 have h2 : ¬ (b < a) := by simpa using hh
 clear hh
 refine gw_skip (nx_then (sr_ (sg_ rfl (nn_ ?_))))
 refine gw_ret ?_
 refine nx_ret1 rfl rfl fun wx hm => ?_
 refine ⟨?_, hm.g⟩
 unfold cmpI; rw [if_neg h1, if_neg h2]
end Go.Proofs.YtnpcbfllnkiopaaGreatDoor
namespace Go.Proofs.YtnpcbfllnkiopaaGreatDoor
open Go.RowKit
theorem pred_VehicleAt_1_rentref1 (vk : ByteArray) (vc : ByteArray) (gk : Nat) (k : ByteArray) (w : World) (hk : Blk w gk 9 [.string k]) :
  Calls Tryz.prog 201 #[.agg #[.string vk, .string vc], .pointer (some ⟨gk, 0, none⟩)] w (fun e w' => e = .returned (.bool (vhP k ⟨vk, vc⟩)) ∧ w.grownBy w' none) := by
 refine gw_enter ⟨8, w, none, []⟩ Tryz.func201 rfl Tryz.ntmps201 rfl (mem0 (X := [BlkOld w.heap.size none gk 9 [.string k]]) (allF_cons hk.old allF_nil) (allL_cons BlkOld.lasts allL_nil)) ?_
 refine sr_ ?_
 refine wl_box rfl rfl rfl fun g1 => ?_
 refine sg_ rfl (nn_ (sr_ (fd_ fo158_0 rfl rfl (lk_ sc9 0 rfl rfl rfl ?_))))
 refine wl_ov (ov_load (v := .string k) sc9 rfl (fun _ hm => (hm.fact 0 rfl).2) rfl) rfl ?_
 refine wl_ov (ov_seql rfl rfl) rfl (sg_ rfl (nn_ ?_))
 refine gw_ret ?_
 refine nx_ret1 rfl rfl fun wx hm => ?_
 exact ⟨rfl, hm.g⟩
theorem index_VehicleAt_1_rentref1 (l : List Vh) (A : Option Addr) (n c0 : Nat) (gk : Nat) (k : ByteArray) (w : World) (hl : SlT vhEnc 2 158 w A n l) (hn : n ≤ 1000000) (hk : Blk w gk 9 [.string k]) :
  Calls Tryz.prog 200 #[.slice A n c0, .func (.func 201) #[] #[.pointer (some ⟨gk, 0, none⟩)]] w (GotE w (ixP (vhP k) l 0)) := by
 refine gw_enter ⟨19, w, none, []⟩ Tryz.func200 rfl Tryz.ntmps200 rfl (mem0 (X := [SlOld vhEnc 2 158 w.heap.size none A n l, BlkOld w.heap.size none gk 9 [.string k]]) (allF_cons hl.old (allF_cons hk.old allF_nil)) (allL_cons SlOld.lasts (allL_cons BlkOld.lasts allL_nil))) ?_
 refine sr_ ?_
 have hlen := hl.len
 refine sg_ rfl (nn_ (gw_seq (sr_ (mv_ rfl (wl_ov (ov_len es63 rfl) rfl (mv_ rfl (nn_ (gw_block ?_))))))))
 refine gw_loop (γ := Nat) (fun (i : Nat) => i ≤ n ∧ ixP (vhP k) l 0 = ixP (vhP k) (l.drop i) i) (fun (i : Nat) => [(0, .slice A n c0), (1, .func (.func 201) #[] #[.pointer (some ⟨gk, 0, none⟩)]), (7, .int .i64 ((n : Nat) : Int)), (8, .int .i64 ((i : Nat) : Int))]) (fun (i : Nat) => fun _ => True) (fun (i : Nat) => []) (fun (i : Nat) => []) (fun (i : Nat) => [SlOld vhEnc 2 158 w.heap.size none A n l, BlkOld w.heap.size none gk 9 [.string k]]) (fun (i : Nat) => n - i) 0 ⟨Nat.zero_le _, rfl⟩ ⟨rfl, rfl, rfl, rfl, trivial⟩ (fun _ hm => hm.pick [] [] [0, 1] rfl rfl) ?_
 intro i hinv
 replace hinv : i ≤ n ∧ ixP (vhP k) l 0 = ixP (vhP k) (l.drop i) i := hinv
 refine sr_ (wl_ov (ov_lss rfl rfl) rfl (nn_ (gw_seq ?_)))
 refine gw_cond rfl (fun hh => ?_) (fun hh => ?_)
 ·have hi : ((i : Nat) : Int) < ((n : Nat) : Int) := by simpa using hh
  clear hh
  refine gw_skip (nx_then (gw_seq (gw_block (sr_ ?_))))
  obtain ⟨b, off, hA, _, _⟩ := hl.get (by omega)
  subst hA
  obtain ⟨x, hx⟩ : ∃ x, l[i]? = some x := ⟨_, List.getElem?_eq_getElem (by omega)⟩
  obtain ⟨vk, vc⟩ := x
  have hat := ixP_at (p := vhP k) hx
  refine mv_ rfl (sg_ rfl (nn_ (sr_ (mv_ rfl (mv_ rfl (mv_ rfl ?_))))))
  refine wl_ov (ov_index (j := i) es63 rfl rfl (by omega)) rfl ?_
  refine wl_ov (ov_elem (vs := [.string vk, .string vc]) rz158 rfl (fun _ hm => (hm.fact 0 rfl).1) hx rfl rfl) rfl ?_
  refine wl_callv rfl cb201 rfl rfl (fun wx hm => (pred_VehicleAt_1_rentref1 vk vc gk k wx (hm.fact 1 rfl).2)) ?_
  refine nn_ ?_
  refine gw_cond rfl (fun hh => ?_) (fun hh => ?_)
  ·have hq : (vhP k ⟨vk, vc⟩) = true := by simpa using hh
   clear hh
   refine sr_ (mv_ rfl (sg_ rfl (nn_ ?_)))
   refine gw_ret ?_
   refine nx_blk_ret (nx_then_ret (nx_then_ret (nx_blk_ret (nx_then_ret ?_))))
   refine nx_ret1 rfl rfl fun wx hm => ?_
   exact ⟨ret_int (by rw [hinv.2, hat, if_pos hq]), hm.g⟩
  have hq : (vhP k ⟨vk, vc⟩) = false := by simpa using hh
  clear hh
  refine gw_skip (nx_blk_nrm (nx_then (gw_region (ad_ rfl rfl (mv_ rfl (wl_nil ?_))))))
  exact nx_round (i + 1) ⟨by omega, by rw [hinv.2, hat, if_neg (by rw [hq]; decide)]⟩ (by omega) ⟨rfl, rfl, rfl, (some_int (by omega)), trivial⟩ (fun _ hm => hm.pick [] [] [0, 1] rfl rfl)
 have hi : ¬ (((i : Nat) : Int) < ((n : Nat) : Int)) := by simpa using hh
 clear hh
 refine gw_exit ?_
 refine nx_then_exit (nx_then_exit ?_)
 refine nx_blk_here ?_
 refine nx_then (sr_ (sg_ rfl ?_))
 refine wl_set 4 (v' := .int .i64 (-1)) rfl rfl ?_
 refine nn_ ?_
 refine gw_ret ?_
 refine nx_ret1 rfl rfl fun wx hm => ?_
 exact ⟨ret_int (by rw [hinv.2, List.drop_eq_nil_of_le (by omega)]; rfl), hm.g⟩
theorem rVehicleAt_any (vl : List Vh) (sA cA vA pA : Option Addr) (sn sc cn cc vn vc pn pc : Nat) (k : ByteArray) (w : World) (hv : SlT vhEnc 2 158 w vA vn vl) (hn : vn ≤ 1000000) :
  Calls Tryz.prog 115 #[.agg #[.slice sA sn sc, .slice cA cn cc, .slice vA vn vc, .slice pA pn pc], .string k] w (GotE w (ixP (vhP k) vl 0)) := by
 refine gw_enter ⟨9, w, none, []⟩ Tryz.func115 rfl Tryz.ntmps115 rfl (mem0 (X := [SlOld vhEnc 2 158 w.heap.size none vA vn vl]) (allF_cons hv.old allF_nil) (allL_cons SlOld.lasts allL_nil)) ?_
 refine sr_ ?_
 refine wl_box rfl rfl rfl fun g1 => ?_
 refine wl_box rfl rfl rfl fun g2 => ?_
 refine sg_ rfl (nn_ (sr_ (fd_ fo66_2 rfl rfl (lk_ sc63 1 rfl rfl rfl (wl_ov (ov_makeFunc rfl rfl) rfl ?_)))))
 refine wl_callv rfl cb200 rfl rfl (fun wx hm => (index_VehicleAt_1_rentref1 vl vA vn vc _ k wx (hm.fact 0 rfl).1 hn (hm.blkI 0 rfl))) ?_
 refine sg_ rfl (nn_ ?_)
 refine gw_ret ?_
 refine nx_ret1 rfl rfl fun wx hm => ?_
 exact ⟨rfl, hm.g⟩
theorem vehCmp (vk vc k : ByteArray) (w : World) : Calls Tryz.prog 260 #[.agg #[.string vk, .string vc], .string k] w (fun e w' => e = .returned (.int .i64 (cmpS vk k)) ∧ w.grownBy w' none) := by
 refine gw_enter ⟨9, w, none, []⟩ Tryz.func260 rfl Tryz.ntmps260 rfl (mem0 (X := []) allF_nil allL_nil) ?_
 refine sr_ ?_
 refine wl_box rfl rfl rfl fun g1 => ?_
 refine sg_ rfl (nn_ (sr_ (fd_ fo158_0 rfl rfl (lk_ sc9 0 rfl rfl rfl (mv_ rfl ?_)))))
 refine wl_callv rfl cb85 rfl rfl (fun wx hm => (cmp_string _ _ wx)) ?_
 refine sg_ rfl (nn_ ?_)
 refine gw_ret ?_
 refine nx_ret1 rfl rfl fun wx hm => ?_
 exact ⟨rfl, hm.g⟩
theorem bsearch_any (vl : List Vh) (vA : Option Addr) (vn vc : Nat) (k : ByteArray) (w : World) (hv : SlT vhEnc 2 158 w vA vn vl) (hn : vn ≤ 1000000) (hr : Rise vl) :
  Calls Tryz.prog 259 #[.slice vA vn vc, .string k, .func (.func 260) #[] #[]] w (fun e w' => ∃ (i : Nat) (f : Bool), e = .returned (.tuple #[.int .i64 ((i : Nat) : Int), .bool f]) ∧ (f = true → ixP (vhP k) vl 0 = (i : Int)) ∧ (f = false → ixP (vhP k) vl 0 = -1) ∧ w.grownBy w' none) := by
 refine gw_enter ⟨49, w, none, []⟩ Tryz.func259 rfl Tryz.ntmps259 rfl (mem0 (X := [SlOld vhEnc 2 158 w.heap.size none vA vn vl]) (allF_cons hv.old allF_nil) (allL_cons SlOld.lasts allL_nil)) ?_
 refine sr_ ?_
 have hlen := hv.len
 refine sg_ rfl (sg_ rfl (nn_ (sr_ (mv_ rfl (wl_ov (ov_len es63 rfl) rfl (sg_ rfl (nn_ (sr_ (mv_ rfl ?_)))))))))
 refine sg_ rfl (sg_ rfl (nn_ (gw_seq (gw_block ?_))))
 refine gw_loop (γ := Nat × Nat) (fun g => (g.1 ≤ g.2 ∧ g.2 ≤ vn) ∧ Low vl k g.1 ∧ High vl k g.2) (fun g => [(0, .slice vA vn vc), (1, .string k), (2, .func (.func 260) #[] #[]), (6, .int .i64 0), (7, .bool false), (8, .int .i64 ((vn : Nat) : Int)), (9, .int .i64 ((g.1 : Nat) : Int)), (10, .int .i64 ((g.2 : Nat) : Int))]) (fun g => fun _ => True) (fun g => []) (fun g => []) (fun g => [SlOld vhEnc 2 158 w.heap.size none vA vn vl]) (fun g => g.2 - g.1) (0, vn) ⟨⟨Nat.zero_le _, Nat.le_refl _⟩, (fun i h => by omega), fun i h x hx => by have := (List.getElem?_eq_some_iff.1 hx).1; omega⟩ ⟨rfl, rfl, rfl, rfl, rfl, rfl, (some_int (by omega)), rfl, trivial⟩ (fun _ hm => hm.pick [] [] [0] rfl rfl) ?_
 rintro ⟨a, b⟩ hinv
 replace hinv : (a ≤ b ∧ b ≤ vn) ∧ Low vl k a ∧ High vl k b := hinv
 dsimp only
 refine gw_seq (sr_ ?_)
 obtain ⟨⟨hab, hbn⟩, hlow, hhigh⟩ := hinv
 refine mv_ rfl (mv_ rfl (wl_ov (ov_lss rfl rfl) rfl (nn_ ?_)))
 refine gw_cond rfl (fun hh => ?_) (fun hh => ?_)
 ·have hc : ((a : Nat) : Int) < ((b : Nat) : Int) := by simpa using hh
  clear hh
  refine gw_skip (nx_then (gw_block (sr_ ?_)))
  obtain ⟨h, hh⟩ : ∃ h, h = (a + b) / 2 := ⟨_, rfl⟩
  have hha : a ≤ h := by omega
  have hhb : h < b := by omega
  obtain ⟨x, hx⟩ : ∃ x, vl[h]? = some x := ⟨_, List.getElem?_eq_getElem (by omega)⟩
  obtain ⟨vk, vc2⟩ := x
  obtain ⟨bv, ov, hA, _, _⟩ := hv.get (by omega)
  subst hA
  refine mv_ rfl (mv_ rfl (ad_ rfl rfl ?_))
  refine wl_set 20 (v' := .int .i64 (((a + b) : Nat) : Int)) rfl (congrArg (Value.int .i64) (by omega)) ?_
  refine wl_ov (ov_u64 (a := (a + b)) (by kernel_rfl) (by kernel_rfl) rfl (by omega)) rfl ?_
  refine wl_ov (ov_shru1 (a := (a + b)) rfl rfl) rfl ?_
  refine wl_ov (ov_i64 (a := (a + b) / 2) (by kernel_rfl) (by kernel_rfl) rfl (by omega)) rfl ?_
  refine wl_set 23 (v' := .int .i64 ((h : Nat) : Int)) rfl (congrArg (Value.int .i64) (by omega)) ?_
  refine sg_ rfl (nn_ (sr_ (mv_ rfl (mv_ rfl (mv_ rfl ?_)))))
  refine wl_ov (ov_index (j := h) es63 rfl rfl (by omega)) rfl ?_
  refine wl_ov (ov_elem (vs := [.string vk, .string vc2]) rz158 rfl (fun _ hm => (hm.fact 0 rfl).1) hx rfl rfl) rfl ?_
  refine mv_ rfl ?_
  refine wl_callv rfl cb260 rfl rfl (fun wx hm => (vehCmp vk vc2 k wx)) ?_
  refine wl_ov (ov_lss rfl rfl) rfl (nn_ ?_)
  refine gw_cond rfl (fun hh => ?_) (fun hh => ?_)
  ·have hl : cmpS vk k < 0 := by simpa using hh
   clear hh
   refine gw_region (mv_ rfl (ad_ rfl rfl (sg_ rfl (wl_nil (nx_blk_nrm ?_)))))
   exact nx_round (h + 1, b) ⟨⟨by dsimp only; omega, hbn⟩, low_next hr hx hl, hhigh⟩ (by dsimp only; omega) ⟨rfl, rfl, rfl, rfl, rfl, rfl, (some_int (by omega)), rfl, trivial⟩ (fun _ hm => hm.pick [] [] [0] rfl rfl)
  have hl : ¬ (cmpS vk k < 0) := by simpa using hh
  clear hh
  refine gw_region (mv_ rfl (sg_ rfl (wl_nil (nx_blk_nrm ?_))))
  exact nx_round (a, h) ⟨⟨by dsimp only; omega, by dsimp only; omega⟩, hlow, high_next hr hx hl⟩ (by dsimp only; omega) ⟨rfl, rfl, rfl, rfl, rfl, rfl, rfl, (some_int (by omega)), trivial⟩ (fun _ hm => hm.pick [] [] [0] rfl rfl)
 have hc : ¬ (((a : Nat) : Int) < ((b : Nat) : Int)) := by simpa using hh
 clear hh
 refine gw_exit ?_
 refine nx_then_exit (nx_then_exit ?_)
 refine nx_blk_here ?_
 refine nx_then (sr_ ?_)
 obtain rfl : b = a := by omega
 by_cases hbv : b < vn
 ·obtain ⟨x, hx⟩ : ∃ x, vl[b]? = some x := ⟨_, List.getElem?_eq_getElem (by omega)⟩
  obtain ⟨vk, vc2⟩ := x
  obtain ⟨bv, ov, hA, _, _⟩ := hv.get (by omega)
  subst hA
  refine mv_ rfl (mv_ rfl (mv_ rfl (wl_ov (ov_lss rfl rfl) rfl ?_)))
  refine wl_set 38 (v' := .bool true) rfl (congrArg Value.bool (decide_eq_true (by omega))) ?_
  refine mv_ rfl (wl_guard_on rfl rfl rfl (mv_ rfl (wl_guard_on rfl rfl rfl (mv_ rfl (wl_guard_on rfl rfl rfl (mv_ rfl (wl_guard_on rfl rfl rfl ?_)))))))
  refine wl_ov (ov_index (j := b) es63 rfl rfl (by omega)) rfl ?_
  refine wl_guard_on rfl rfl rfl ?_
  refine wl_ov (ov_elem (vs := [.string vk, .string vc2]) rz158 rfl (fun _ hm => (hm.fact 0 rfl).1) hx rfl rfl) rfl ?_
  refine wl_guard_on rfl rfl rfl (mv_ rfl (wl_guard_on rfl rfl rfl ?_))
  refine wl_callv rfl cb260 rfl rfl (fun wx hm => (vehCmp vk vc2 k wx)) ?_
  refine wl_guard_on rfl rfl rfl (wl_ov (ov_eql rfl rfl) rfl (pt_ rfl rfl (sg_ rfl (sg_ rfl (nn_ ?_)))))
  refine gw_ret ?_
  refine nx_ret2 rfl rfl rfl fun wx hm => ?_
  exact ⟨_, _, rfl, fun h => bs_yes hlow hx (of_decide_eq_true h), fun h => bs_no hr hlow hhigh (fun y hy => by rw [hx] at hy; cases hy; exact of_decide_eq_false h), hm.g⟩
 refine mv_ rfl (mv_ rfl (mv_ rfl (wl_ov (ov_lss rfl rfl) rfl ?_)))
 refine wl_set 38 (v' := .bool false) rfl (congrArg Value.bool (decide_eq_false (by omega))) ?_
 refine mv_ rfl (goff rfl rfl rfl (goff rfl rfl rfl (goff rfl rfl rfl (goff rfl rfl rfl (goff rfl rfl rfl (goff rfl rfl rfl (goff rfl rfl rfl (goff rfl rfl rfl (pf_ rfl rfl (sg_ rfl (sg_ rfl (nn_ ?_))))))))))))
 refine gw_ret ?_
 refine nx_ret2 rfl rfl rfl fun wx hm => ?_
 exact ⟨_, _, rfl, (fun h => by cases h), fun _ => bs_no hr hlow hhigh (fun y hy => by have := (List.getElem?_eq_some_iff.1 hy).1; omega), hm.g⟩
theorem vehicleAt_any (vl : List Vh) (sA cA vA pA : Option Addr) (sn sc cn cc vn vc pn pc : Nat) (k : ByteArray) (w : World) (hv : SlT vhEnc 2 158 w vA vn vl) (hn : vn ≤ 1000000) (hr : Rise vl) :
  Calls Tryz.prog 194 #[.agg #[.slice sA sn sc, .slice cA cn cc, .slice vA vn vc, .slice pA pn pc], .string k] w (GotE w (ixP (vhP k) vl 0)) := by
 refine gw_enter ⟨17, w, none, []⟩ Tryz.func194 rfl Tryz.ntmps194 rfl (mem0 (X := [SlOld vhEnc 2 158 w.heap.size none vA vn vl]) (allF_cons hv.old allF_nil) (allL_cons SlOld.lasts allL_nil)) ?_
 refine sr_ ?_
 refine wl_box rfl rfl rfl fun g1 => ?_
 refine sg_ rfl (nn_ (sr_ (fd_ fo66_2 rfl rfl (lk_ sc63 0 rfl rfl rfl (mv_ rfl ?_)))))
 refine wl_callx (γ := Nat × Bool) (val := (fun g => .tuple #[.int .i64 ((g.1 : Nat) : Int), .bool g.2])) (φ := (fun g => (g.2 = true → ixP (vhP k) vl 0 = (g.1 : Int)) ∧ (g.2 = false → ixP (vhP k) vl 0 = -1))) (Y := (fun g => fun _ => True)) rfl cb259 rfl rfl (fun wx hm => (bsearch_any vl vA vn vc k wx (hm.fact 0 rfl).1 hn hr).mono fun _ _ ⟨i, f, he, h1, h2, hg⟩ => ⟨(i, f), he, ⟨h1, h2⟩, hg, trivial⟩) (fun _ => Lasts2.true_) ?_
 rintro ⟨i, f⟩ hif
 dsimp only at hif ⊢
 refine mv_ rfl (wl_ov (ov_extract rfl rfl) rfl (wl_ov (ov_extract rfl rfl) rfl (sg_ rfl (sg_ rfl (nn_ (gw_seq (sr_ (mv_ rfl (wl_ov (ov_un_not rfl) rfl (nn_ ?_))))))))))
 refine gw_cond rfl (fun hh => ?_) (fun hh => ?_)
 ·have hf : f = false := by simpa using hh
  clear hh
  refine sr_ (sg_ rfl ?_)
  refine wl_set 4 (v' := .int .i64 (-1)) rfl rfl ?_
  refine nn_ ?_
  refine gw_ret ?_
  refine nx_then_ret ?_
  refine nx_ret1 rfl rfl fun wx hm => ?_
  exact ⟨ret_int (by rw [hif.2 hf]), hm.g⟩
 have hf : f = true := by simpa using hh
 clear hh
 refine gw_skip (nx_then (sr_ (mv_ rfl (sg_ rfl (nn_ ?_)))))
 refine gw_ret ?_
 refine nx_ret1 rfl rfl fun wx hm => ?_
 exact ⟨ret_int (by rw [hif.1 hf]), hm.g⟩
theorem plateForm_any (p : ByteArray) (w : World) (hp : p.size ≤ 1000000) : Calls Tryz.prog 116 #[.string p] w (fun e w' => e = .returned (.bool (plateB p)) ∧ w.grownBy w' none) := by
 refine gw_enter ⟨10, w, none, []⟩ Tryz.func116 rfl Tryz.ntmps116 rfl (mem0 (X := []) allF_nil allL_nil) ?_
 refine sr_ ?_
 obtain ⟨Q, hQ⟩ : ∃ Q, Q = onlyB p.data.toList plateBytes := ⟨_, rfl⟩
 refine sg_ rfl (nn_ (sr_ (mv_ rfl ?_)))
 refine wl_ov (ov_lens us9 rfl) rfl ?_
 refine wl_callw rfl cb147 rfl rfl (fun wx hm => (rin_any _ _ _ wx)) ?_
 refine mv_ rfl ?_
 rcases Bool.eq_false_or_eq_true (inB ((p).size : Int) 2 10) with hI2 | hI2
 ·refine wl_set 6 rfl (congrArg Value.bool hI2) ?_
  refine wl_guard_on rfl rfl rfl (mv_ rfl (wl_guard_on rfl rfl rfl ?_))
  refine wl_callv (v := .bool Q) rfl cb162 rfl rfl (fun wx hm => (by rw [hQ]; exact only_plate p wx (by omega))) ?_
  refine pt_ rfl rfl (sg_ rfl (nn_ ?_))
  refine gw_ret ?_
  refine nx_ret1 rfl rfl fun wx hm => ?_
  exact ⟨by rw [plate_only, ← hQ, hI2]; rfl, hm.g⟩
 refine wl_set 6 rfl (congrArg Value.bool hI2) ?_
 refine goff rfl rfl rfl (goff rfl rfl rfl (pf_ rfl rfl (sg_ rfl (nn_ ?_))))
 refine gw_ret ?_
 refine nx_ret1 rfl rfl fun wx hm => ?_
 exact ⟨by rw [plate_only, hI2]; rfl, hm.g⟩
theorem compare2_any (g1 g2 : Nat) (a1 a2 b1 b2 : ByteArray) (w : World) (h1 : Blk w g1 9 [.string a1, .string a2]) (h2 : Blk w g2 9 [.string b1, .string b2]) :
  Calls Tryz.prog 202 #[.slice (some ⟨g1, 0, none⟩) 2 2, .slice (some ⟨g2, 0, none⟩) 2 2] w (GotE w (firstE [cmpS a1 b1, cmpS a2 b2])) := by
 refine gw_enter ⟨36, w, none, []⟩ Tryz.func202 rfl Tryz.ntmps202 rfl (mem0 (X := [BlkOld w.heap.size none g1 9 [.string a1, .string a2], BlkOld w.heap.size none g2 9 [.string b1, .string b2]]) (allF_cons h1.old (allF_cons h2.old allF_nil)) (allL_cons BlkOld.lasts (allL_cons BlkOld.lasts allL_nil))) ?_
 refine sr_ (sg_ rfl (nn_ (gw_seq (sr_ (mv_ rfl (wl_ov (ov_len es112 rfl) rfl ?_))))))
 refine wl_set 10 (v' := .int .i64 2) rfl rfl ?_
 refine mv_ rfl (nn_ (gw_block ?_))
 refine gw_rounds 3 ?_
 refine gr_next ?_
 refine sr_ (wl_ov (ov_lss rfl rfl) rfl ?_)
 refine wl_set 12 (v' := .bool true) rfl (congrArg Value.bool (by decide)) ?_
 refine nn_ (gw_seq (ct_ rfl (gw_skip (nx_then (gw_seq (gw_block (sr_ (mv_ rfl ?_))))))))
 refine wl_ov (ov_index (j := 0) es112 rfl rfl (by decide)) rfl ?_
 refine wl_ov (ov_load (v := .string a1) sc9 rfl (fun _ hm => (hm.fact 0 rfl).2) rfl) rfl ?_
 refine sg_ rfl (sg_ rfl (nn_ (gw_seq (sr_ (mv_ rfl (mv_ rfl (wl_ov (ov_len es112 rfl) rfl ?_)))))))
 refine wl_set 18 (v' := .int .i64 2) rfl rfl ?_
 refine wl_ov (ov_geq rfl rfl) rfl ?_
 refine wl_set 19 (v' := .bool false) rfl (congrArg Value.bool (by decide)) ?_
 refine nn_ (cf_ rfl (gw_skip (nx_then (sr_ (mv_ rfl (mv_ rfl ?_))))))
 refine wl_ov (ov_index (j := 0) es112 rfl rfl (by decide)) rfl ?_
 refine wl_ov (ov_load (v := .string b1) sc9 rfl (fun _ hm => (hm.fact 1 rfl).2) rfl) rfl ?_
 refine sg_ rfl (nn_ (sr_ (mv_ rfl (mv_ rfl ?_))))
 refine wl_callv rfl cb85 rfl rfl (fun wx hm => (cmp_string _ _ wx)) ?_
 refine sg_ rfl (nn_ (sr_ (mv_ rfl (wl_ov (ov_neq rfl rfl) rfl (nn_ ?_)))))
 refine gw_cond rfl (fun hh => ?_) (fun hh => ?_)
 ·have h3 : ¬ (cmpS a1 b1 = 0) := by simpa using hh
  clear hh
  refine sr_ (mv_ rfl (sg_ rfl (nn_ ?_)))
  refine gw_ret ?_
  refine nx_blk_ret (nx_then_ret (nx_then_ret (nx_blk_ret (nx_then_ret ?_))))
  refine nx_ret1 rfl rfl fun wx hm => ?_
  exact ⟨ret_int (by simp [firstE, h3]), hm.g⟩
 have h3 : cmpS a1 b1 = 0 := by simpa using hh
 clear hh
 refine gw_skip (nx_blk_nrm (nx_then (gw_region (ad_ rfl rfl ?_))))
 refine wl_set 30 (v' := .int .i64 1) rfl rfl ?_
 refine mv_ rfl (wl_nil ?_)
 refine nx_next ?_
 refine gr_next ?_
 refine sr_ (wl_ov (ov_lss rfl rfl) rfl ?_)
 refine wl_set 12 (v' := .bool true) rfl (congrArg Value.bool (by decide)) ?_
 refine nn_ (gw_seq (ct_ rfl (gw_skip (nx_then (gw_seq (gw_block (sr_ (mv_ rfl ?_))))))))
 refine wl_ov (ov_index (j := 1) es112 rfl rfl (by decide)) rfl ?_
 refine wl_ov (ov_load (v := .string a2) sc9 rfl (fun _ hm => (hm.fact 0 rfl).2) rfl) rfl ?_
 refine sg_ rfl (sg_ rfl (nn_ (gw_seq (sr_ (mv_ rfl (mv_ rfl (wl_ov (ov_len es112 rfl) rfl ?_)))))))
 refine wl_set 18 (v' := .int .i64 2) rfl rfl ?_
 refine wl_ov (ov_geq rfl rfl) rfl ?_
 refine wl_set 19 (v' := .bool false) rfl (congrArg Value.bool (by decide)) ?_
 refine nn_ (cf_ rfl (gw_skip (nx_then (sr_ (mv_ rfl (mv_ rfl ?_))))))
 refine wl_ov (ov_index (j := 1) es112 rfl rfl (by decide)) rfl ?_
 refine wl_ov (ov_load (v := .string b2) sc9 rfl (fun _ hm => (hm.fact 1 rfl).2) rfl) rfl ?_
 refine sg_ rfl (nn_ (sr_ (mv_ rfl (mv_ rfl ?_))))
 refine wl_callv rfl cb85 rfl rfl (fun wx hm => (cmp_string _ _ wx)) ?_
 refine sg_ rfl (nn_ (sr_ (mv_ rfl (wl_ov (ov_neq rfl rfl) rfl (nn_ ?_)))))
 refine gw_cond rfl (fun hh => ?_) (fun hh => ?_)
 ·have h4 : ¬ (cmpS a2 b2 = 0) := by simpa using hh
  clear hh
  refine sr_ (mv_ rfl (sg_ rfl (nn_ ?_)))
  refine gw_ret ?_
  refine nx_blk_ret (nx_then_ret (nx_then_ret (nx_blk_ret (nx_then_ret ?_))))
  refine nx_ret1 rfl rfl fun wx hm => ?_
  exact ⟨ret_int (by simp [firstE, h3, h4]), hm.g⟩
 have h4 : cmpS a2 b2 = 0 := by simpa using hh
 clear hh
 refine gw_skip (nx_blk_nrm (nx_then (gw_region (ad_ rfl rfl ?_))))
 refine wl_set 30 (v' := .int .i64 2) rfl rfl ?_
 refine mv_ rfl (wl_nil ?_)
 refine nx_next ?_
 refine gr_next ?_
 refine sr_ (wl_ov (ov_lss rfl rfl) rfl ?_)
 refine wl_set 12 (v' := .bool false) rfl (congrArg Value.bool (by decide)) ?_
 refine nn_ (gw_seq (cf_ rfl ?_))
 refine gw_exit ?_
 refine nx_then_exit (nx_then_exit ?_)
 refine nx_blk_here ?_
 refine nx_then (gw_seq (sr_ (mv_ rfl (wl_ov (ov_len es112 rfl) rfl ?_))))
 refine wl_set 32 (v' := .int .i64 2) rfl rfl ?_
 refine mv_ rfl (wl_ov (ov_len es112 rfl) rfl ?_)
 refine wl_set 34 (v' := .int .i64 2) rfl rfl ?_
 refine wl_ov (ov_lss rfl rfl) rfl ?_
 refine wl_set 35 (v' := .bool false) rfl (congrArg Value.bool (by decide)) ?_
 refine nn_ (cf_ rfl (gw_skip (nx_then (sr_ (sg_ rfl (nn_ ?_))))))
 refine gw_ret ?_
 refine nx_ret1 rfl rfl fun wx hm => ?_
 exact ⟨ret_int (by simp [firstE, h3, h4]), hm.g⟩
end Go.Proofs.YtnpcbfllnkiopaaGreatDoor
