/- Several texts as one: Cz Hj Cm -/
import Derived.Test.YtmpomocahgcebaaDoorZr
import Derived.Test.YtmpomocahgcebaaDoorSe
import Derived.Test.YtmpomocahgcebaaDoorRt
import Derived.Test.YtmpomocahgcebaaDoorZq
import Derived.Test.YtmpomocahgcebaaDoorZt
import Derived.Test.YtmpomocahgcebaaDoorTp
import Derived.Test.YtmpomocahgcebaaDoorSz
import Derived.Test.YtmpomocahgcebaaDoorTl
/- Clashes and ClashesOf. -/
namespace Go.Proofs.YtmpomocahgcebaaDoor
open Go.RowKit

structure Cl where
  a : ByteArray
  b : ByteArray
  knd : Int
  mo : Int
def clEnc (x : Cl) : List Value := [.string x.a, .string x.b, .int .i64 x.knd, .int .i64 x.mo]
theorem cl_len (x : Cl) : (clEnc x).length = 4 := rfl
def clsA (a b : Hs) : List Cl := if outF true a.legs b.legs < 5761440 then [⟨a.key, b.key, 1, outF true a.legs b.legs⟩] else []
def clsB (a b : Hs) : List Cl := if (a.driver.toList == b.driver.toList) = true ∧ outF false a.legs b.legs < 5761440 then [⟨a.key, b.key, 2, outF false a.legs b.legs⟩] else []
def clsOf (a b : Hs) : List Cl := clsA a b ++ clsB a b
def clashL : List Hs → List Cl
  | [] => []
  | a :: r => r.flatMap (clsOf a) ++ clashL r
theorem clashL_at {l : List Hs} {k : Nat} {x : Hs} (h : l[k]? = some x) : clashL (l.drop k) = (l.drop (k + 1)).flatMap (clsOf x) ++ clashL (l.drop (k + 1)) := by
  obtain ⟨hk, rfl⟩ := List.getElem?_eq_some_iff.1 h
  rw [List.drop_eq_getElem_cons hk]; rfl
theorem flatMap_at {α β : Type} {f : α → List β} {l : List α} {k : Nat} {x : α} (h : l[k]? = some x) : (l.drop k).flatMap f = f x ++ (l.drop (k + 1)).flatMap f := by
  obtain ⟨hk, rfl⟩ := List.getElem?_eq_some_iff.1 h
  rw [List.drop_eq_getElem_cons hk, List.flatMap_cons]
theorem clsOf_len (a b : Hs) : (clsOf a b).length ≤ 2 := by
  unfold clsOf clsA clsB
  rw [List.length_append]
  have h1 : ∀ (p : Prop) [Decidable p] (x : Cl), (if p then [x] else []).length ≤ 1 := fun p _ x => by split <;> simp
  have := h1 (outF true a.legs b.legs < 5761440) ⟨a.key, b.key, 1, outF true a.legs b.legs⟩
  have := h1 ((a.driver.toList == b.driver.toList) = true ∧ outF false a.legs b.legs < 5761440) ⟨a.key, b.key, 2, outF false a.legs b.legs⟩
  omega
theorem cls_flat_len (a : Hs) : ∀ l : List Hs, (l.flatMap (clsOf a)).length ≤ 2 * l.length
  | [] => by simp
  | y :: t => by
    rw [List.flatMap_cons, List.length_append, List.length_cons]
    have := clsOf_len a y
    have := cls_flat_len a t
    omega
theorem clashL_len : ∀ l : List Hs, (clashL l).length ≤ 2 * l.length * 500 ∨ 500 < l.length
  | [] => .inl (by simp [clashL])
  | a :: r => by
    unfold clashL
    rw [List.length_append, List.length_cons]
    have h1 := cls_flat_len a r
    rcases clashL_len r with h2 | h2
    · by_cases h : 500 < r.length + 1
      · exact .inr h
      · left; omega
    · right; omega
def clashOr (E : Int) (l : List Hs) : List Cl := if E = 0 then clashL l else []
theorem tm_of {l : List Hs} {x : Hs} {k : Nat} (h : ∀ x ∈ l, hireE x.hr = 0) (hx : l[k]? = some x) : Tm x.legs := last_times (h x (List.mem_of_getElem? hx))
theorem repr_pos {a : Int} (h0 : 0 ≤ a) : 0 ≤ repr a ↔ a < 5761440 := by unfold repr; split <;> omega
theorem repr_eq {a : Int} (h : a < 5761440) : repr a = a := if_pos h

set_option maxRecDepth 100000 in
set_option maxHeartbeats 2000000 in
theorem clashes_any (hs : List Hs) (A : Option Addr) (n c : Nat) (w : World) (hl : SlT hsEnc 5 95 w A n hs) (hg : Legs hs w) (hok : ∀ h ∈ hs, HsOk h) (hnc : n ≤ c) (hn : n ≤ 1000000) :
    Calls Tryd.prog 53 #[.slice A n c] w (fun e w' => ∃ A2 n2 c2, e = .returned (.tuple #[.slice A2 n2 c2, .int .i64 (hiresE hs)]) ∧ w.grownBy w' none ∧ SlT clEnc 4 91 w' A2 n2 (clashOr (hiresE hs) hs)) := by
  refine gw_enter ⟨69, w, none, []⟩ Tryd.func53 rfl Tryd.ntmps53 rfl (mem0 (X := [SlOld hsEnc 5 95 w.heap.size none A n hs, LegsOld w.heap.size none hs]) (allF_cons hl.old (allF_cons hg.old allF_nil)) (allL_cons SlOld.lasts (allL_cons LegsOld.lasts allL_nil))) ?_
  refine gw_seq ?_
  refine gw_region ?_
  have hlen := hl.len
  refine wl_ov (ov_assign rfl) rfl ?_
  refine wl_ov (ov_assign rfl) rfl ?_
  refine wl_nil ?_
  refine nx_then ?_
  refine gw_seq ?_
  refine gw_seq ?_
  refine gw_region ?_
  refine wl_ov (ov_move rfl) rfl ?_
  refine wl_callv rfl cb52 rfl rfl (fun wx hm => (checkAll_any hs A n c wx (hm.fact 0 rfl).1 (fun h hh => ((hm.fact 1 rfl) h hh).1) hok (by omega))) ?_
  refine wl_ov (ov_assign rfl) rfl ?_
  refine wl_nil ?_
  refine nx_then ?_
  refine gw_seq ?_
  refine gw_region ?_
  refine wl_ov (ov_move rfl) rfl ?_
  refine wl_ov (ov_neq rfl rfl) rfl ?_
  refine wl_nil ?_
  refine nx_then ?_
  refine gw_cond rfl (fun hh => ?_) (fun hh => ?_)
  · have hE : ¬ (hiresE hs = 0) := by simpa using hh
    clear hh
    refine gw_seq ?_
    refine gw_region ?_
    refine wl_ov (ov_move rfl) rfl ?_
    refine wl_ov (ov_assign rfl) rfl ?_
    refine wl_ov (ov_assign rfl) rfl ?_
    refine wl_nil ?_
    refine nx_then ?_
    refine gw_ret ?_
    refine nx_then_ret ?_
    refine nx_ret2 rfl rfl rfl fun wx hm => ?_
    refine ⟨none, 0, 0, rfl, hm.g, ?_⟩
    rw [show clashOr (hiresE hs) hs = [] from if_neg hE]
    exact SlT.nil_ _ _
  · have hE : hiresE hs = 0 := by simpa using hh
    clear hh
    refine gw_skip ?_
    refine nx_then ?_
    refine gw_seq ?_
    refine gw_region ?_
    have hhr := hiresE_ok hE
    have hn5 := hhr.1
    refine wl_nilOwn 91 4 ?_
    refine wl_ov (ov_assign rfl) rfl ?_
    refine wl_nil ?_
    refine nx_then ?_
    refine gw_seq ?_
    refine gw_seq ?_
    refine gw_region ?_
    refine wl_ov (ov_move rfl) rfl ?_
    refine wl_ov (ov_len es84 rfl) rfl ?_
    refine wl_ov (ov_move rfl) rfl ?_
    refine wl_nil ?_
    refine nx_then ?_
    refine gw_block ?_
    refine gw_loop (γ := Nat × Nat × Value × List Cl × List Value) (fun (g : Nat × Nat × Value × List Cl × List Value) => g.1 ≤ n ∧ g.2.2.2.1 ++ clashL (hs.drop g.1) = clashL hs ∧ g.2.1 = g.2.2.2.1.length ∧ g.2.2.2.2 = g.2.2.2.1.flatMap clEnc) (fun (g : Nat × Nat × Value × List Cl × List Value) => [(0, .slice A n c), (2, .slice none 0 0), (3, .int .i64 0), (5, g.2.2.1), (17, .slice A n c), (18, .int .i64 ((n : Nat) : Int)), (19, .int .i64 ((g.1 : Nat) : Int))]) (fun (g : Nat × Nat × Value × List Cl × List Value) => fun _ => True) (fun (g : Nat × Nat × Value × List Cl × List Value) => []) (fun (g : Nat × Nat × Value × List Cl × List Value) => [⟨g.2.2.1, 91, 4, g.2.1, g.2.2.2.2⟩]) (fun (g : Nat × Nat × Value × List Cl × List Value) => [SlOld hsEnc 5 95 w.heap.size none A n hs, LegsOld w.heap.size none hs]) (fun (g : Nat × Nat × Value × List Cl × List Value) => n - g.1) (0, 0, .slice none 0 0, [], []) ⟨Nat.zero_le _, rfl, rfl, rfl⟩ ⟨rfl, rfl, rfl, rfl, rfl, rfl, rfl, trivial⟩ (fun _ hm => hm.pick [] [0] [0, 1] rfl rfl) ?_
    rintro ⟨i, j, v, cl, xs⟩ hinv
    replace hinv : i ≤ n ∧ cl ++ clashL (hs.drop i) = clashL hs ∧ j = cl.length ∧ xs = cl.flatMap clEnc := hinv
    dsimp only
    refine gw_seq ?_
    refine gw_region ?_
    obtain ⟨hi0, hi1, hi2, rfl⟩ := hinv
    refine wl_ov (ov_lss rfl rfl) rfl ?_
    refine wl_nil ?_
    refine nx_then ?_
    refine gw_seq ?_
    refine gw_cond rfl (fun hh => ?_) (fun hh => ?_)
    · have hi : ((i : Nat) : Int) < ((n : Nat) : Int) := by simpa using hh
      clear hh
      refine gw_skip ?_
      refine nx_then ?_
      refine gw_seq ?_
      refine gw_block ?_
      refine gw_seq ?_
      refine gw_region ?_
      obtain ⟨b, off, hA, _, _⟩ := hl.get (by omega)
      subst hA
      obtain ⟨x, hx⟩ : ∃ x, hs[i]? = some x := ⟨_, List.getElem?_eq_getElem (by omega)⟩
      obtain ⟨k1, d1, f1, t1, A1, n1, c1, l1⟩ := x
      have hat := clashL_at hx
      obtain ⟨hho1, hhn1⟩ := hok _ (List.mem_of_getElem? hx)
      have hhn1 : n1 ≤ 1000 := hhn1
      have htm1 : Tm l1 := tm_of hhr.2 hx
      refine wl_also (Y := SlOld lgEnc 9 100 w.heap.size none A1 n1 l1) (SlOld.lasts) (fun wx hm => (hm.fact 1 rfl) _ (List.mem_of_getElem? hx)) ?_
      refine wl_also (Y := SlOld hsEnc 5 95 w.heap.size none (if c = i + 1 then (some ⟨b, off, none⟩) else Option.map (fun a : Addr => a.add ((i + 1) * 5)) (some ⟨b, off, none⟩)) (n - (i + 1)) (hs.drop (i + 1))) (SlOld.lasts) (fun wx hm => (hm.fact 1 rfl).dropS (i + 1) (by omega) hnc) ?_
      obtain ⟨AD, hAD⟩ : ∃ D : Option Addr, D = (if c = i + 1 then (some ⟨b, off, none⟩) else Option.map (fun a : Addr => a.add ((i + 1) * 5)) (some ⟨b, off, none⟩)) := ⟨_, rfl⟩
      rw [← hAD]
      refine wl_ov (ov_move rfl) rfl ?_
      refine wl_ov (ov_index (j := i) es84 rfl rfl (by omega)) rfl ?_
      refine wl_ov (ov_elem (vs := [.string k1, .string d1, .int .i64 f1, .int .i64 t1, .slice A1 n1 c1]) rz95 rfl (fun _ hm => (hm.fact 2 rfl).1) hx rfl rfl) rfl ?_
      refine wl_alloc zc95 rfl fun g1 => ?_
      refine wl_ov (ov_assign rfl) rfl ?_
      refine wl_stores (cs' := [.string k1, .string d1, .int .i64 f1, .int .i64 t1, .slice A1 n1 c1]) 0 rz95 rfl rfl rfl rfl rfl rfl rfl rfl ?_
      refine wl_nil ?_
      refine nx_then ?_
      refine gw_seq ?_
      refine gw_region ?_
      refine wl_ov (ov_move rfl) rfl ?_
      refine wl_ov (ov_move rfl) rfl ?_
      refine wl_ov (ov_add rfl rfl (by omega) (by omega)) rfl ?_
      refine wl_set 26 (v' := .int .i64 ((i + 1 : Nat) : Int)) rfl (congrArg (Value.int .i64) (by omega)) ?_
      refine wl_ov (ov_sliceLo (lo := i + 1) es84 rfl rfl rfl (by omega)) rfl ?_
      refine wl_set 27 (v' := .slice AD (n - (i + 1)) (c - (i + 1))) rfl (congrArg (fun z => Value.slice z (n - (i + 1)) (c - (i + 1))) hAD.symm) ?_
      refine wl_ov (ov_len es84 rfl) rfl ?_
      refine wl_ov (ov_move rfl) rfl ?_
      refine wl_nil ?_
      refine nx_then ?_
      refine gw_block ?_
      refine gw_loop (γ := Nat × Nat × Value × List Cl × List Value) (fun (g : Nat × Nat × Value × List Cl × List Value) => g.1 ≤ n - (i + 1) ∧ g.2.2.2.1 ++ ((hs.drop (i + 1)).drop g.1).flatMap (clsOf ⟨k1, d1, f1, t1, A1, n1, c1, l1⟩) ++ clashL (hs.drop (i + 1)) = clashL hs ∧ g.2.1 = g.2.2.2.1.length ∧ g.2.2.2.2 = g.2.2.2.1.flatMap clEnc) (fun (g : Nat × Nat × Value × List Cl × List Value) => [(0, .slice (some ⟨b, off, none⟩) n c), (2, .slice none 0 0), (3, .int .i64 0), (5, g.2.2.1), (7, .pointer (some ⟨g1, 0, none⟩)), (17, .slice (some ⟨b, off, none⟩) n c), (18, .int .i64 ((n : Nat) : Int)), (19, .int .i64 ((i : Nat) : Int)), (27, .slice AD (n - (i + 1)) (c - (i + 1))), (28, .int .i64 ((n - (i + 1) : Nat) : Int)), (29, .int .i64 ((g.1 : Nat) : Int))]) (fun (g : Nat × Nat × Value × List Cl × List Value) => fun _ => True) (fun (g : Nat × Nat × Value × List Cl × List Value) => [(g1, 95, [.string k1, .string d1, .int .i64 f1, .int .i64 t1, .slice A1 n1 c1])]) (fun (g : Nat × Nat × Value × List Cl × List Value) => [⟨g.2.2.1, 91, 4, g.2.1, g.2.2.2.2⟩]) (fun (g : Nat × Nat × Value × List Cl × List Value) => [SlOld hsEnc 5 95 w.heap.size none AD (n - (i + 1)) (hs.drop (i + 1)), SlOld lgEnc 9 100 w.heap.size none A1 n1 l1, SlOld hsEnc 5 95 w.heap.size none (some ⟨b, off, none⟩) n hs, LegsOld w.heap.size none hs]) (fun (g : Nat × Nat × Value × List Cl × List Value) => n - (i + 1) - g.1) (0, j, v, cl, cl.flatMap clEnc) ⟨Nat.zero_le _, by dsimp only; rw [List.drop_zero, List.append_assoc, ← hat]; exact hi1, hi2, rfl⟩ ⟨rfl, rfl, rfl, rfl, rfl, rfl, rfl, rfl, rfl, rfl, rfl, trivial⟩ (fun _ hm => hm.pick [0] [0] [0, 1, 2, 3] rfl rfl) ?_
      rintro ⟨k, j2, v2, cl2, xs2⟩ hinv
      replace hinv : k ≤ n - (i + 1) ∧ cl2 ++ ((hs.drop (i + 1)).drop k).flatMap (clsOf ⟨k1, d1, f1, t1, A1, n1, c1, l1⟩) ++ clashL (hs.drop (i + 1)) = clashL hs ∧ j2 = cl2.length ∧ xs2 = cl2.flatMap clEnc := hinv
      dsimp only
      refine gw_seq ?_
      refine gw_region ?_
      obtain ⟨hk0, hk1, hk2, rfl⟩ := hinv
      refine wl_ov (ov_lss rfl rfl) rfl ?_
      refine wl_nil ?_
      refine nx_then ?_
      refine gw_seq ?_
      refine gw_cond rfl (fun hh => ?_) (fun hh => ?_)
      · have hk : ((k : Nat) : Int) < ((n - (i + 1) : Nat) : Int) := by simpa using hh
        clear hh
        refine gw_skip ?_
        refine nx_then ?_
        refine gw_seq ?_
        refine gw_block ?_
        refine gw_seq ?_
        refine gw_region ?_
        refine wl_look (R := ∃ b off, AD = some ⟨b, off, none⟩) (fun wx hm => by obtain ⟨b, off, h, _, _⟩ := SlT.get ((hm.fact 0 rfl)).1 (by omega : 0 < n - (i + 1)); exact ⟨b, off, h⟩) ?_
        rintro ⟨b2, o2, rfl⟩
        have hdl : (hs.drop (i + 1)).length = n - (i + 1) := by rw [List.length_drop]; omega
        obtain ⟨y, hy⟩ : ∃ x, (hs.drop (i + 1))[k]? = some x := ⟨_, List.getElem?_eq_getElem (by omega)⟩
        obtain ⟨k2, d2, f2, t2, A2, n2, c2, l2⟩ := y
        have hfl := flatMap_at (f := clsOf ⟨k1, d1, f1, t1, A1, n1, c1, l1⟩) hy
        have hy2 : hs[i + 1 + k]? = some ⟨k2, d2, f2, t2, A2, n2, c2, l2⟩ := by rw [← List.getElem?_drop]; exact hy
        obtain ⟨hho2, hhn2⟩ := hok _ (List.mem_of_getElem? hy2)
        have hhn2 : n2 ≤ 1000 := hhn2
        have htm2 : Tm l2 := tm_of hhr.2 hy2
        refine wl_also (Y := SlOld lgEnc 9 100 w.heap.size none A2 n2 l2) (SlOld.lasts) (fun wx hm => (hm.fact 3 rfl) _ (List.mem_of_getElem? hy2)) ?_
        obtain ⟨MA, hMA⟩ : ∃ M, M = outF true l1 l2 := ⟨_, rfl⟩
        obtain ⟨MB, hMB⟩ : ∃ M, M = outF false l1 l2 := ⟨_, rfl⟩
        have hMA0 := outF_bound (fl := true) htm2 htm1
        have hMB0 := outF_bound (fl := false) htm2 htm1
        rw [← hMA] at hMA0
        rw [← hMB] at hMB0
        have hjb : cl2.length ≤ 500000 := by
          have h1 := congrArg List.length hk1
          simp only [List.length_append] at h1
          have h2 := hhr.1
          rcases clashL_len hs with h3 | h3 <;> omega
        refine wl_ov (ov_index (j := k) es84 rfl rfl (by omega)) rfl ?_
        refine wl_ov (ov_elem (vs := [.string k2, .string d2, .int .i64 f2, .int .i64 t2, .slice A2 n2 c2]) rz95 rfl (fun _ hm => (hm.fact 1 rfl).1) hy rfl rfl) rfl ?_
        refine wl_alloc zc95 rfl fun g2 => ?_
        refine wl_stores (cs' := [.string k2, .string d2, .int .i64 f2, .int .i64 t2, .slice A2 n2 c2]) 0 rz95 rfl rfl rfl rfl rfl rfl rfl rfl ?_
        refine wl_nil ?_
        refine nx_then ?_
        refine gw_seq ?_
        refine gw_seq ?_
        refine gw_region ?_
        refine wl_ov (ov_loads rz95 rfl (fun _ hm => hm.blkI 1 rfl) rfl rfl) rfl ?_
        refine wl_ov (ov_loads rz95 rfl (fun _ hm => hm.blkI 0 rfl) rfl rfl) rfl ?_
        refine wl_callv (v := .int .i64 (repr MA)) rfl cb124 rfl rfl (fun wx hm => (by rw [hMA]; exact together_true k1 d1 f1 t1 l1 A1 n1 c1 k2 d2 f2 t2 l2 A2 n2 c2 wx (hm.fact 2 rfl).1 (hm.fact 0 rfl).1 (by omega) (by omega) htm1 htm2)) ?_
        refine wl_ov (ov_assign rfl) rfl ?_
        refine wl_nil ?_
        refine nx_then ?_
        refine gw_seq ?_
        refine gw_region ?_
        refine wl_ov (ov_move rfl) rfl ?_
        refine wl_ov (ov_geq rfl rfl) rfl ?_
        refine wl_nil ?_
        refine nx_then ?_
        refine gw_cond rfl (fun hh => ?_) (fun hh => ?_)
        · have ha : 0 ≤ repr MA := by simpa using hh
          clear hh
          refine gw_region ?_
          have hal : MA < 5761440 := (repr_pos hMA0.1).1 ha
          have har := repr_eq hal
          refine wl_ov (ov_move rfl) rfl ?_
          refine wl_ov (ov_field fo95_0 rfl rfl) rfl ?_
          refine wl_ov (ov_load sc9 rfl (fun _ hm => hm.blkI 1 rfl) rfl) rfl ?_
          refine wl_ov (ov_field fo95_0 rfl rfl) rfl ?_
          refine wl_ov (ov_load sc9 rfl (fun _ hm => hm.blkI 0 rfl) rfl) rfl ?_
          refine wl_ov (ov_move rfl) rfl ?_
          refine wl_ov (ov_build (cs := [.string k1, .string k2, .int .i64 1, .int .i64 (repr MA)]) rfl (by kernel_rfl)) rfl ?_
          refine wl_buildSlice (e := 91) (cs := [.string k1, .string k2, .int .i64 1, .int .i64 (repr MA)]) rfl (by kernel_rfl) rfl fun g3 => ?_
          refine wl_append (news := [.string k1, .string k2, .int .i64 1, .int .i64 (repr MA)]) 0 0 ap87 rfl rfl rfl rfl rfl rfl rfl (by omega) (by unfold maxLen; omega) rfl rfl fun v3 hv3 => ?_
          rw [har]
          refine wl_ov (ov_assign rfl) rfl ?_
          refine wl_nil ?_
          refine nx_then ?_
          refine gw_seq ?_
          refine gw_seq ?_
          refine gw_region ?_
          refine wl_ov (ov_field fo95_1 rfl rfl) rfl ?_
          refine wl_ov (ov_load sc9 rfl (fun _ hm => hm.blkI 2 rfl) rfl) rfl ?_
          refine wl_ov (ov_field fo95_1 rfl rfl) rfl ?_
          refine wl_ov (ov_load sc9 rfl (fun _ hm => hm.blkI 1 rfl) rfl) rfl ?_
          refine wl_ov (ov_sneq rfl rfl) rfl ?_
          refine wl_nil ?_
          refine nx_then ?_
          refine gw_cond rfl (fun hh => ?_) (fun hh => ?_)
          · have hd : (d1.toList == d2.toList) = false := by simpa using hh
            clear hh
            refine gw_exit ?_
            refine nx_then_exit ?_
            refine nx_blk_here ?_
            refine nx_then ?_
            refine gw_region ?_
            have hdf : (d1.toList == d2.toList) = false := by simpa using hd
            refine wl_ov (ov_add rfl rfl (by omega) (by omega)) rfl ?_
            refine wl_ov (ov_move rfl) rfl ?_
            refine wl_nil ?_
            have hcls : clsOf ⟨k1, d1, f1, t1, A1, n1, c1, l1⟩ ⟨k2, d2, f2, t2, A2, n2, c2, l2⟩ = [⟨k1, k2, 1, MA⟩] := by unfold clsOf clsA clsB; dsimp only; rw [← hMA, ← hMB]; simp [hal, hdf]
            exact nx_round (k + 1, j2 + 1, v3, cl2 ++ ([⟨k1, k2, 1, MA⟩] : List Cl), cl2.flatMap clEnc ++ ([.string k1, .string k2, .int .i64 1, .int .i64 (MA)] : List Value)) ⟨by dsimp only; omega, by dsimp only; rw [← hk1, hfl, hcls]; simp, by dsimp only; simp [hk2], by dsimp only; simp [clEnc]⟩ (by dsimp only; omega) ⟨rfl, rfl, rfl, rfl, rfl, rfl, rfl, rfl, rfl, rfl, (some_int (by omega)), trivial⟩ (fun _ hm => hm.pick [2] [0] [1, 2, 3, 4] rfl rfl)
          · have hd : (d1.toList == d2.toList) = true := by simpa using hh
            clear hh
            refine gw_skip ?_
            refine nx_then ?_
            refine gw_seq ?_
            refine gw_region ?_
            have hdf : (d1.toList == d2.toList) = true := by simpa using hd
            refine wl_ov (ov_loads rz95 rfl (fun _ hm => hm.blkI 2 rfl) rfl rfl) rfl ?_
            refine wl_ov (ov_loads rz95 rfl (fun _ hm => hm.blkI 1 rfl) rfl rfl) rfl ?_
            refine wl_callv (v := .int .i64 (repr MB)) rfl cb124 rfl rfl (fun wx hm => (by rw [hMB]; exact together_false k1 d1 f1 t1 l1 A1 n1 c1 k2 d2 f2 t2 l2 A2 n2 c2 wx (hm.fact 2 rfl).1 (hm.fact 0 rfl).1 (by omega) (by omega) htm1 htm2)) ?_
            refine wl_ov (ov_assign rfl) rfl ?_
            refine wl_nil ?_
            refine nx_then ?_
            refine gw_seq ?_
            refine gw_region ?_
            refine wl_ov (ov_move rfl) rfl ?_
            refine wl_ov (ov_geq rfl rfl) rfl ?_
            refine wl_nil ?_
            refine nx_then ?_
            refine gw_cond rfl (fun hh => ?_) (fun hh => ?_)
            · have hb : 0 ≤ repr MB := by simpa using hh
              clear hh
              refine gw_region ?_
              have hbl : MB < 5761440 := (repr_pos hMB0.1).1 hb
              have hbr := repr_eq hbl
              refine wl_ov (ov_move rfl) rfl ?_
              refine wl_ov (ov_field fo95_0 rfl rfl) rfl ?_
              refine wl_ov (ov_load sc9 rfl (fun _ hm => hm.blkI 2 rfl) rfl) rfl ?_
              refine wl_ov (ov_field fo95_0 rfl rfl) rfl ?_
              refine wl_ov (ov_load sc9 rfl (fun _ hm => hm.blkI 1 rfl) rfl) rfl ?_
              refine wl_ov (ov_move rfl) rfl ?_
              refine wl_ov (ov_build (cs := [.string k1, .string k2, .int .i64 2, .int .i64 (repr MB)]) rfl (by kernel_rfl)) rfl ?_
              refine wl_buildSlice (e := 91) (cs := [.string k1, .string k2, .int .i64 2, .int .i64 (repr MB)]) rfl (by kernel_rfl) rfl fun g4 => ?_
              refine wl_append (news := [.string k1, .string k2, .int .i64 2, .int .i64 (repr MB)]) 0 0 ap87 rfl rfl rfl rfl rfl rfl rfl (by omega) (by unfold maxLen; omega) rfl rfl fun v4 hv4 => ?_
              rw [hbr]
              refine wl_ov (ov_assign rfl) rfl ?_
              refine wl_nil ?_
              refine nx_blk_nrm ?_
              refine nx_then ?_
              refine gw_region ?_
              refine wl_ov (ov_add rfl rfl (by omega) (by omega)) rfl ?_
              refine wl_ov (ov_move rfl) rfl ?_
              refine wl_nil ?_
              have hcls : clsOf ⟨k1, d1, f1, t1, A1, n1, c1, l1⟩ ⟨k2, d2, f2, t2, A2, n2, c2, l2⟩ = [⟨k1, k2, 1, MA⟩, ⟨k1, k2, 2, MB⟩] := by unfold clsOf clsA clsB; dsimp only; rw [← hMA, ← hMB]; simp [hal, hdf, hbl]
              exact nx_round (k + 1, j2 + 1 + 1, v4, cl2 ++ ([⟨k1, k2, 1, MA⟩, ⟨k1, k2, 2, MB⟩] : List Cl), cl2.flatMap clEnc ++ ([.string k1, .string k2, .int .i64 1, .int .i64 (MA)] : List Value) ++ ([.string k1, .string k2, .int .i64 2, .int .i64 (MB)] : List Value)) ⟨by dsimp only; omega, by dsimp only; rw [← hk1, hfl, hcls]; simp, by dsimp only; simp [hk2], by dsimp only; simp [clEnc]⟩ (by dsimp only; omega) ⟨rfl, rfl, rfl, rfl, rfl, rfl, rfl, rfl, rfl, rfl, (some_int (by omega)), trivial⟩ (fun _ hm => hm.pick [3] [0] [1, 2, 3, 4] rfl rfl)
            · have hb : ¬ (0 ≤ repr MB) := by simpa using hh
              clear hh
              refine gw_skip ?_
              refine nx_blk_nrm ?_
              refine nx_then ?_
              refine gw_region ?_
              have hbl : ¬ MB < 5761440 := fun h => hb ((repr_pos hMB0.1).2 h)
              refine wl_ov (ov_add rfl rfl (by omega) (by omega)) rfl ?_
              refine wl_ov (ov_move rfl) rfl ?_
              refine wl_nil ?_
              have hcls : clsOf ⟨k1, d1, f1, t1, A1, n1, c1, l1⟩ ⟨k2, d2, f2, t2, A2, n2, c2, l2⟩ = [⟨k1, k2, 1, MA⟩] := by unfold clsOf clsA clsB; dsimp only; rw [← hMA, ← hMB]; simp [hal, hdf, hbl]
              exact nx_round (k + 1, j2 + 1, v3, cl2 ++ ([⟨k1, k2, 1, MA⟩] : List Cl), cl2.flatMap clEnc ++ ([.string k1, .string k2, .int .i64 1, .int .i64 (MA)] : List Value)) ⟨by dsimp only; omega, by dsimp only; rw [← hk1, hfl, hcls]; simp, by dsimp only; simp [hk2], by dsimp only; simp [clEnc]⟩ (by dsimp only; omega) ⟨rfl, rfl, rfl, rfl, rfl, rfl, rfl, rfl, rfl, rfl, (some_int (by omega)), trivial⟩ (fun _ hm => hm.pick [2] [0] [1, 2, 3, 4] rfl rfl)
        · have ha : ¬ (0 ≤ repr MA) := by simpa using hh
          clear hh
          refine gw_skip ?_
          refine nx_then ?_
          refine gw_seq ?_
          refine gw_seq ?_
          refine gw_region ?_
          have hal : ¬ MA < 5761440 := fun h => ha ((repr_pos hMA0.1).2 h)
          refine wl_ov (ov_field fo95_1 rfl rfl) rfl ?_
          refine wl_ov (ov_load sc9 rfl (fun _ hm => hm.blkI 1 rfl) rfl) rfl ?_
          refine wl_ov (ov_field fo95_1 rfl rfl) rfl ?_
          refine wl_ov (ov_load sc9 rfl (fun _ hm => hm.blkI 0 rfl) rfl) rfl ?_
          refine wl_ov (ov_sneq rfl rfl) rfl ?_
          refine wl_nil ?_
          refine nx_then ?_
          refine gw_cond rfl (fun hh => ?_) (fun hh => ?_)
          · have hd : (d1.toList == d2.toList) = false := by simpa using hh
            clear hh
            refine gw_exit ?_
            refine nx_then_exit ?_
            refine nx_blk_here ?_
            refine nx_then ?_
            refine gw_region ?_
            have hdf : (d1.toList == d2.toList) = false := by simpa using hd
            refine wl_ov (ov_add rfl rfl (by omega) (by omega)) rfl ?_
            refine wl_ov (ov_move rfl) rfl ?_
            refine wl_nil ?_
            have hcls : clsOf ⟨k1, d1, f1, t1, A1, n1, c1, l1⟩ ⟨k2, d2, f2, t2, A2, n2, c2, l2⟩ = [] := by unfold clsOf clsA clsB; dsimp only; rw [← hMA, ← hMB]; simp [hal, hdf]
            exact nx_round (k + 1, j2, v2, cl2, cl2.flatMap clEnc) ⟨by dsimp only; omega, by dsimp only; rw [← hk1, hfl, hcls]; rfl, hk2, rfl⟩ (by dsimp only; omega) ⟨rfl, rfl, rfl, rfl, rfl, rfl, rfl, rfl, rfl, rfl, (some_int (by omega)), trivial⟩ (fun _ hm => hm.pick [1] [0] [1, 2, 3, 4] rfl rfl)
          · have hd : (d1.toList == d2.toList) = true := by simpa using hh
            clear hh
            refine gw_skip ?_
            refine nx_then ?_
            refine gw_seq ?_
            refine gw_region ?_
            have hdf : (d1.toList == d2.toList) = true := by simpa using hd
            refine wl_ov (ov_loads rz95 rfl (fun _ hm => hm.blkI 1 rfl) rfl rfl) rfl ?_
            refine wl_ov (ov_loads rz95 rfl (fun _ hm => hm.blkI 0 rfl) rfl rfl) rfl ?_
            refine wl_callv (v := .int .i64 (repr MB)) rfl cb124 rfl rfl (fun wx hm => (by rw [hMB]; exact together_false k1 d1 f1 t1 l1 A1 n1 c1 k2 d2 f2 t2 l2 A2 n2 c2 wx (hm.fact 2 rfl).1 (hm.fact 0 rfl).1 (by omega) (by omega) htm1 htm2)) ?_
            refine wl_ov (ov_assign rfl) rfl ?_
            refine wl_nil ?_
            refine nx_then ?_
            refine gw_seq ?_
            refine gw_region ?_
            refine wl_ov (ov_move rfl) rfl ?_
            refine wl_ov (ov_geq rfl rfl) rfl ?_
            refine wl_nil ?_
            refine nx_then ?_
            refine gw_cond rfl (fun hh => ?_) (fun hh => ?_)
            · have hb : 0 ≤ repr MB := by simpa using hh
              clear hh
              refine gw_region ?_
              have hbl : MB < 5761440 := (repr_pos hMB0.1).1 hb
              have hbr := repr_eq hbl
              refine wl_ov (ov_move rfl) rfl ?_
              refine wl_ov (ov_field fo95_0 rfl rfl) rfl ?_
              refine wl_ov (ov_load sc9 rfl (fun _ hm => hm.blkI 1 rfl) rfl) rfl ?_
              refine wl_ov (ov_field fo95_0 rfl rfl) rfl ?_
              refine wl_ov (ov_load sc9 rfl (fun _ hm => hm.blkI 0 rfl) rfl) rfl ?_
              refine wl_ov (ov_move rfl) rfl ?_
              refine wl_ov (ov_build (cs := [.string k1, .string k2, .int .i64 2, .int .i64 (repr MB)]) rfl (by kernel_rfl)) rfl ?_
              refine wl_buildSlice (e := 91) (cs := [.string k1, .string k2, .int .i64 2, .int .i64 (repr MB)]) rfl (by kernel_rfl) rfl fun g5 => ?_
              refine wl_append (news := [.string k1, .string k2, .int .i64 2, .int .i64 (repr MB)]) 0 0 ap87 rfl rfl rfl rfl rfl rfl rfl (by omega) (by unfold maxLen; omega) rfl rfl fun v4 hv4 => ?_
              rw [hbr]
              refine wl_ov (ov_assign rfl) rfl ?_
              refine wl_nil ?_
              refine nx_blk_nrm ?_
              refine nx_then ?_
              refine gw_region ?_
              refine wl_ov (ov_add rfl rfl (by omega) (by omega)) rfl ?_
              refine wl_ov (ov_move rfl) rfl ?_
              refine wl_nil ?_
              have hcls : clsOf ⟨k1, d1, f1, t1, A1, n1, c1, l1⟩ ⟨k2, d2, f2, t2, A2, n2, c2, l2⟩ = [⟨k1, k2, 2, MB⟩] := by unfold clsOf clsA clsB; dsimp only; rw [← hMA, ← hMB]; simp [hal, hdf, hbl]
              exact nx_round (k + 1, j2 + 1, v4, cl2 ++ ([⟨k1, k2, 2, MB⟩] : List Cl), cl2.flatMap clEnc ++ ([.string k1, .string k2, .int .i64 2, .int .i64 (MB)] : List Value)) ⟨by dsimp only; omega, by dsimp only; rw [← hk1, hfl, hcls]; simp, by dsimp only; simp [hk2], by dsimp only; simp [clEnc]⟩ (by dsimp only; omega) ⟨rfl, rfl, rfl, rfl, rfl, rfl, rfl, rfl, rfl, rfl, (some_int (by omega)), trivial⟩ (fun _ hm => hm.pick [2] [0] [1, 2, 3, 4] rfl rfl)
            · have hb : ¬ (0 ≤ repr MB) := by simpa using hh
              clear hh
              refine gw_skip ?_
              refine nx_blk_nrm ?_
              refine nx_then ?_
              refine gw_region ?_
              have hbl : ¬ MB < 5761440 := fun h => hb ((repr_pos hMB0.1).2 h)
              refine wl_ov (ov_add rfl rfl (by omega) (by omega)) rfl ?_
              refine wl_ov (ov_move rfl) rfl ?_
              refine wl_nil ?_
              have hcls : clsOf ⟨k1, d1, f1, t1, A1, n1, c1, l1⟩ ⟨k2, d2, f2, t2, A2, n2, c2, l2⟩ = [] := by unfold clsOf clsA clsB; dsimp only; rw [← hMA, ← hMB]; simp [hal, hdf, hbl]
              exact nx_round (k + 1, j2, v2, cl2, cl2.flatMap clEnc) ⟨by dsimp only; omega, by dsimp only; rw [← hk1, hfl, hcls]; rfl, hk2, rfl⟩ (by dsimp only; omega) ⟨rfl, rfl, rfl, rfl, rfl, rfl, rfl, rfl, rfl, rfl, (some_int (by omega)), trivial⟩ (fun _ hm => hm.pick [1] [0] [1, 2, 3, 4] rfl rfl)
      · have hk : ¬ (((k : Nat) : Int) < ((n - (i + 1) : Nat) : Int)) := by simpa using hh
        clear hh
        refine gw_exit ?_
        refine nx_then_exit ?_
        refine nx_then_exit ?_
        refine nx_blk_here ?_
        refine nx_blk_nrm ?_
        refine nx_then ?_
        refine gw_region ?_
        have hdr : ((hs.drop (i + 1)).drop k) = [] := List.drop_eq_nil_of_le (by rw [List.length_drop]; omega)
        rw [hdr, List.flatMap_nil, List.append_nil] at hk1
        refine wl_ov (ov_add rfl rfl (by omega) (by omega)) rfl ?_
        refine wl_ov (ov_move rfl) rfl ?_
        refine wl_nil ?_
        exact nx_round (i + 1, j2, v2, cl2, cl2.flatMap clEnc) ⟨by dsimp only; omega, hk1, hk2, rfl⟩ (by dsimp only; omega) ⟨rfl, rfl, rfl, rfl, rfl, rfl, (some_int (by omega)), trivial⟩ (fun _ hm => hm.pick [] [0] [2, 3] rfl rfl)
    · have hi : ¬ (((i : Nat) : Int) < ((n : Nat) : Int)) := by simpa using hh
      clear hh
      refine gw_exit ?_
      refine nx_then_exit ?_
      refine nx_then_exit ?_
      refine nx_blk_here ?_
      refine nx_then ?_
      refine gw_seq ?_
      refine gw_region ?_
      have hnil : hs.drop i = [] := List.drop_eq_nil_of_le (by omega)
      rw [hnil] at hi1
      have hcl : cl = clashL hs := by rw [← hi1]; exact (List.append_nil _).symm
      subst hcl
      refine wl_look (R := ∃ A cc, v = .slice A j cc) (fun wx hm => own_slice (hm.ownI 0 rfl)) ?_
      rintro ⟨A3, c3, rfl⟩
      refine wl_ov (ov_move rfl) rfl ?_
      refine wl_ov (ov_assign rfl) rfl ?_
      refine wl_ov (ov_assign rfl) rfl ?_
      refine wl_nil ?_
      refine nx_then ?_
      refine gw_ret ?_
      refine nx_ret2 rfl rfl rfl fun wx hm => ?_
      refine ⟨A3, j, c3, by rw [hE], hm.g, ?_⟩
      rw [show clashOr (hiresE hs) hs = clashL hs from if_pos hE]
      exact SlT.ofOwn cl_len (hm.ownI 0 rfl) hi2.symm

end Go.Proofs.YtmpomocahgcebaaDoor
/- The generator Hires. -/
namespace Go.Proofs.YtmpomocahgcebaaDoor
open Go.RowKit

theorem mem_key {xs : List ByteArray} {v : ByteArray} (hv : v ∈ xs) (h : ∀ x ∈ xs, keyB x = true) : keyB v = true := h v hv
theorem legs_nil {w : World} : Legs [] w := fun _ h => by cases h

set_option maxRecDepth 100000 in
set_option maxHeartbeats 1000000 in
theorem ghires_any (q : Nat) (w : World) (B sb m : Nat) (hS : Strm 25 w B sb m) (hm : m ≤ 100000000) (hq : q ≤ 4) :
    Calls Tryd.prog 50 #[.pointer (some ⟨sb, 0, none⟩), .int .i64 ((q : Nat) : Int)] w (fun e w' => ∃ (A : Option Addr) (n c : Nat) (hs : List Hs), e = .returned (.slice A n c) ∧ SlT hsEnc 5 95 w' A n hs ∧ Legs hs w' ∧ (∀ h ∈ hs, HsOk h) ∧ n ≤ 5 ∧ n ≤ c ∧ Strm 25 w' B sb (m + 20000) ∧ w.grownBy w' (some sb)) := by
  refine gw_enter ⟨35, w, (some sb), [100]⟩ Tryd.func50 rfl Tryd.ntmps50 rfl (memS (X := []) hS allF_nil allL_nil) ?_
  refine gw_seq ?_
  refine gw_region ?_
  refine wl_nilOwn 95 5 ?_
  refine wl_ov (ov_assign rfl) rfl ?_
  refine wl_nil ?_
  refine nx_then ?_
  refine gw_seq ?_
  refine gw_region ?_
  refine wl_ov (ov_assign rfl) rfl ?_
  refine wl_nil ?_
  refine nx_then ?_
  refine gw_seq ?_
  refine gw_seq ?_
  refine gw_region ?_
  refine wl_buildSlice (e := 9) (cs := [.string ⟨#[104, 49]⟩, .string ⟨#[104, 50]⟩, .string ⟨#[104, 51]⟩, .string ⟨#[104, 52]⟩]) rfl (by kernel_rfl) rfl fun g1 => ?_
  refine wl_ov (ov_move rfl) rfl ?_
  refine wl_ov (ov_min rfl rfl) rfl ?_
  refine wl_set 10 (v' := .int .i64 ((q : Nat) : Int)) rfl (congrArg (Value.int .i64) (by omega)) ?_
  refine wl_ov (ov_sliceHi (hi := q) es105 rfl rfl rfl (by omega)) rfl ?_
  refine wl_ov (ov_len es105 rfl) rfl ?_
  refine wl_ov (ov_move rfl) rfl ?_
  refine wl_nil ?_
  refine nx_then ?_
  refine gw_block ?_
  refine gw_also (Y := fun wy => Legs [] wy) (Legs.lasts rfl) (fun wx hm => legs_nil) ?_
  refine gw_loop (γ := Nat × Value × List Hs × List Value) (fun (g : Nat × Value × List Hs × List Value) => g.1 ≤ q ∧ g.2.2.1.length = g.1 ∧ (∀ x ∈ g.2.2.1, HsOk x) ∧ g.2.2.2 = g.2.2.1.flatMap hsEnc) (fun (g : Nat × Value × List Hs × List Value) => [(0, .pointer (some ⟨sb, 0, none⟩)), (4, .slice none 0 0), (5, g.2.1), (11, .slice (some ⟨g1, 0, none⟩) q 4), (12, .int .i64 ((q : Nat) : Int)), (13, .int .i64 ((g.1 : Nat) : Int))]) (fun (g : Nat × Value × List Hs × List Value) => fun w => Strm 25 w B sb (m + 2000 * g.1)) (fun (g : Nat × Value × List Hs × List Value) => [(g1, 9, [.string ⟨#[104, 49]⟩, .string ⟨#[104, 50]⟩, .string ⟨#[104, 51]⟩, .string ⟨#[104, 52]⟩])]) (fun (g : Nat × Value × List Hs × List Value) => [⟨g.2.1, 95, 5, g.1, g.2.2.2⟩]) (fun (g : Nat × Value × List Hs × List Value) => [fun wy => Legs g.2.2.1 wy]) (fun (g : Nat × Value × List Hs × List Value) => q - g.1) (0, .slice none 0 0, [], []) ⟨Nat.zero_le _, rfl, (fun _ h => by cases h), rfl⟩ ⟨rfl, rfl, rfl, rfl, rfl, rfl, trivial⟩ (fun _ hm => (hm.more rfl (by first | omega | (dsimp only; omega))).pick [0] [0] [0] rfl rfl) ?_
  rintro ⟨k, v, hs, xs⟩ hinv
  replace hinv : k ≤ q ∧ hs.length = k ∧ (∀ x ∈ hs, HsOk x) ∧ xs = hs.flatMap hsEnc := hinv
  dsimp only
  refine gw_seq ?_
  refine gw_region ?_
  obtain ⟨hi0, hi2, hi3, rfl⟩ := hinv
  refine wl_ov (ov_lss rfl rfl) rfl ?_
  refine wl_nil ?_
  refine nx_then ?_
  refine gw_seq ?_
  refine gw_cond rfl (fun hh => ?_) (fun hh => ?_)
  · have hk : ((k : Nat) : Int) < ((q : Nat) : Int) := by simpa using hh
    clear hh
    refine gw_skip ?_
    refine nx_then ?_
    refine gw_seq ?_
    refine gw_block ?_
    refine gw_seq ?_
    refine gw_region ?_
    obtain ⟨nm, hx⟩ : ∃ x, ([⟨#[104, 49]⟩, ⟨#[104, 50]⟩, ⟨#[104, 51]⟩, ⟨#[104, 52]⟩] : List ByteArray)[k]? = some x := ⟨_, List.getElem?_eq_getElem (by simp; omega)⟩
    have hnm : nm.size ≤ 100 := mem_sz (List.mem_of_getElem? hx) (by decide)
    have hnk : keyB nm = true := mem_key (List.mem_of_getElem? hx) (by decide +kernel)
    refine wl_ov (ov_index (j := k) es105 rfl rfl (by omega)) rfl ?_
    refine wl_ov (ov_elem1 (k := 0) (v := .string nm) sc9 rfl (fun _ hm => (SlT.ofBlk (l := [⟨#[104, 49]⟩, ⟨#[104, 50]⟩, ⟨#[104, 51]⟩, ⟨#[104, 52]⟩]) stEnc1_len (hm.blkI 0 rfl))) hx rfl rfl) rfl ?_
    refine wl_ov (ov_assign rfl) rfl ?_
    refine wl_nil ?_
    refine nx_then ?_
    refine gw_region ?_
    refine wl_ov (ov_move rfl) rfl ?_
    refine wl_ov (ov_move rfl) rfl ?_
    refine wl_ov (ov_move rfl) rfl ?_
    refine wl_ov (ov_move rfl) rfl ?_
    refine wl_buildSlice (e := 3) (cs := [.int .i64 0, .int .i64 50, .int .i64 100, .int .i64 100, .int .i64 300, .int .i64 1000]) rfl (by kernel_rfl) rfl fun g2 => ?_
    refine wl_got (γ := Int) (val := fun v => .int .i64 v) (φ := fun v => v ∈ ([0, 50, 100, 100, 300, 1000] : List Int)) rfl cb23 rfl rfl rfl rfl (fun wx hm => (pick_any [0, 50, 100, 100, 300, 1000] _ _ _ wx B sb _ hm.k (by omega) (by simp) (by simp) (hm.blkI 0 rfl) (hm.neRow 0 rfl rfl))) fun v3 hv3 => ?_
    have bv3 : 0 ≤ v3 ∧ v3 ≤ 1000 := mem_rng hv3 (by decide)
    have bv30 := bv3.1
    have bv31 := bv3.2
    clear bv3
    refine wl_calls (γ := ByteArray × ByteArray × Int × Int × Option Addr × Nat × Nat × List Lg) (val := (fun (g : ByteArray × ByteArray × Int × Int × Option Addr × Nat × Nat × List Lg) => .agg #[.string g.1, .string g.2.1, .int .i64 g.2.2.1, .int .i64 g.2.2.2.1, .slice g.2.2.2.2.1 g.2.2.2.2.2.1 g.2.2.2.2.2.2.1])) (φ := (fun (g : ByteArray × ByteArray × Int × Int × Option Addr × Nat × Nat × List Lg) => HrOk g.1 g.2.1 g.2.2.2.2.2.2.2 ∧ g.2.2.2.2.2.1 ≤ 4)) (Y := (fun (g : ByteArray × ByteArray × Int × Int × Option Addr × Nat × Nat × List Lg) => fun wy => SlT lgEnc 9 100 wy g.2.2.2.2.1 g.2.2.2.2.2.1 g.2.2.2.2.2.2.2)) (m' := m + 2000 * k + 1 + 1500) rfl cb120 rfl rfl rfl rfl (fun wx hm => (rightHire_any nm v3 wx B sb _ hm.k (by omega) hnm hnk (by omega) (by omega)).mono fun _ _ ⟨k, d, f, t, A, n, c, l, he, hsl, hok, _, hn4, hS, hg⟩ => ⟨(k, d, f, t, A, n, c, l), he, ⟨hok, hn4⟩, hS, hg, hsl⟩) (fun _ => SlT.lasts2 rfl) ?_
    rintro ⟨key, dr, fr, tt, A1, n1, c1, l1⟩ hh
    dsimp only at hh ⊢
    refine wl_buildSlice (e := 95) (cs := [.string key, .string dr, .int .i64 fr, .int .i64 tt, .slice A1 n1 c1]) rfl (by kernel_rfl) rfl fun g4 => ?_
    refine wl_append (news := [.string key, .string dr, .int .i64 fr, .int .i64 tt, .slice A1 n1 c1]) 0 0 ap84 rfl rfl rfl rfl rfl rfl rfl (by omega) (by unfold maxLen; omega) rfl rfl fun v2 hv2 => ?_
    refine wl_also (Y := fun wy => Legs (hs ++ [⟨key, dr, fr, tt, A1, n1, c1, l1⟩]) wy) (Legs.lasts rfl) (fun wx hm => Legs.snoc (hm.fact 1 rfl) (hm.fact 0 rfl)) ?_
    refine wl_ov (ov_assign rfl) rfl ?_
    refine wl_nil ?_
    refine nx_blk_nrm ?_
    refine nx_then ?_
    refine gw_region ?_
    refine wl_ov (ov_add rfl rfl (by omega) (by omega)) rfl ?_
    refine wl_ov (ov_move rfl) rfl ?_
    refine wl_nil ?_
    exact nx_round (k + 1, v2, hs ++ [⟨key, dr, fr, tt, A1, n1, c1, l1⟩], hs.flatMap hsEnc ++ ([.string key, .string dr, .int .i64 fr, .int .i64 tt, .slice A1 n1 c1] : List Value)) ⟨by dsimp only; omega, by simp [hi2], hs_snoc hi3 hh.1 (show n1 ≤ 1000 by omega), by simp [hsEnc]⟩ (by dsimp only; omega) ⟨rfl, rfl, rfl, rfl, rfl, (some_int (by omega)), trivial⟩ (fun _ hm => (hm.more rfl (by first | omega | (dsimp only; omega))).pick [2] [0] [0] rfl rfl)
  · have hk : ¬ (((k : Nat) : Int) < ((q : Nat) : Int)) := by simpa using hh
    clear hh
    refine gw_exit ?_
    refine nx_then_exit ?_
    refine nx_then_exit ?_
    refine nx_blk_here ?_
    refine nx_then ?_
    refine gw_seq ?_
    refine gw_seq ?_
    refine gw_region ?_
    refine wl_ov (ov_move rfl) rfl ?_
    refine wl_got (γ := Bool) (val := fun v => .bool v) (φ := fun v => True) rfl cb87 rfl rfl rfl rfl (fun wx hm => ((flip_any _ wx B sb _ hm.k (by omega) (by omega) (by omega)).mono fun _ _ ⟨v, he, hS, hg⟩ => ⟨v, trivial, he, hS, hg⟩)) fun f5 _ => ?_
    refine wl_nil ?_
    refine nx_then ?_
    refine gw_cond rfl (fun hh => ?_) (fun hh => ?_)
    · have hf : f5 = true := by simpa using hh
      clear hh
      refine gw_region ?_
      refine wl_ov (ov_move rfl) rfl ?_
      refine wl_ov (ov_move rfl) rfl ?_
      refine wl_calls (γ := ByteArray × ByteArray × Int × Int × Option Addr × Nat × Nat × List Lg) (val := (fun (g : ByteArray × ByteArray × Int × Int × Option Addr × Nat × Nat × List Lg) => .agg #[.string g.1, .string g.2.1, .int .i64 g.2.2.1, .int .i64 g.2.2.2.1, .slice g.2.2.2.2.1 g.2.2.2.2.2.1 g.2.2.2.2.2.2.1])) (φ := (fun (g : ByteArray × ByteArray × Int × Int × Option Addr × Nat × Nat × List Lg) => HrOk g.1 g.2.1 g.2.2.2.2.2.2.2 ∧ g.2.2.2.2.2.1 ≤ 4)) (Y := (fun (g : ByteArray × ByteArray × Int × Int × Option Addr × Nat × Nat × List Lg) => fun wy => SlT lgEnc 9 100 wy g.2.2.2.2.1 g.2.2.2.2.2.1 g.2.2.2.2.2.2.2)) (m' := m + 2000 * k + 1 + 2000) rfl cb121 rfl rfl rfl rfl (fun wx hm => (ghire_any wx B sb _ hm.k (by omega)).mono fun _ _ ⟨k, d, f, t, A, n, c, l, he, hsl, hok, hn4, hS, hg⟩ => ⟨(k, d, f, t, A, n, c, l), he, ⟨hok, hn4⟩, hS, hg, hsl⟩) (fun _ => SlT.lasts2 rfl) ?_
      rintro ⟨key, dr, fr, tt, A1, n1, c1, l1⟩ hh
      dsimp only at hh ⊢
      refine wl_buildSlice (e := 95) (cs := [.string key, .string dr, .int .i64 fr, .int .i64 tt, .slice A1 n1 c1]) rfl (by kernel_rfl) rfl fun g6 => ?_
      refine wl_append (news := [.string key, .string dr, .int .i64 fr, .int .i64 tt, .slice A1 n1 c1]) 0 0 ap84 rfl rfl rfl rfl rfl rfl rfl (by omega) (by unfold maxLen; omega) rfl rfl fun v2 hv2 => ?_
      refine wl_also (Y := fun wy => Legs (hs ++ [⟨key, dr, fr, tt, A1, n1, c1, l1⟩]) wy) (Legs.lasts rfl) (fun wx hm => Legs.snoc (hm.fact 1 rfl) (hm.fact 0 rfl)) ?_
      refine wl_look (R := ∃ A cc, v2 = .slice A (k + 1) cc) (fun wx hm => own_slice (hm.ownI 0 rfl)) ?_
      rintro ⟨A, c, rfl⟩
      refine wl_ov (ov_assign rfl) rfl ?_
      refine wl_nil ?_
      refine nx_then ?_
      refine gw_seq ?_
      refine gw_region ?_
      refine wl_ov (ov_move rfl) rfl ?_
      refine wl_ov (ov_assign rfl) rfl ?_
      refine wl_nil ?_
      refine nx_then ?_
      refine gw_ret ?_
      have hxs : hs.flatMap hsEnc ++ ([.string key, .string dr, .int .i64 fr, .int .i64 tt, .slice A1 n1 c1] : List Value) = (hs ++ ([⟨key, dr, fr, tt, A1, n1, c1, l1⟩] : List Hs)).flatMap hsEnc := by simp [hsEnc]
      refine nx_ret1 rfl rfl fun wx hm => ?_
      exact ⟨A, k + 1, c, hs ++ [⟨key, dr, fr, tt, A1, n1, c1, l1⟩], rfl, SlT.ofOwn hs_len (hxs ▸ hm.ownI 0 rfl) (by simp [hi2]), (hm.fact 0 rfl), hs_snoc hi3 hh.1 (show n1 ≤ 1000 by omega), by omega, own_cap (hm.ownI 0 rfl), hm.k.more (by omega), hm.g⟩
    · have hf : f5 = false := by simpa using hh
      clear hh
      refine gw_skip ?_
      refine nx_then ?_
      refine gw_seq ?_
      refine gw_region ?_
      refine wl_look (R := ∃ A cc, v = .slice A k cc) (fun wx hm => own_slice (hm.ownI 0 rfl)) ?_
      rintro ⟨A, c, rfl⟩
      refine wl_ov (ov_move rfl) rfl ?_
      refine wl_ov (ov_assign rfl) rfl ?_
      refine wl_nil ?_
      refine nx_then ?_
      refine gw_ret ?_
      refine nx_ret1 rfl rfl fun wx hm => ?_
      exact ⟨A, k, c, hs, rfl, SlT.ofOwn hs_len (hm.ownI 0 rfl) hi2, (hm.fact 0 rfl), hi3, by omega, own_cap (hm.ownI 0 rfl), hm.k.more (by omega), hm.g⟩

end Go.Proofs.YtmpomocahgcebaaDoor
/- The walk of the law ClashesMean. -/
namespace Go.Proofs.YtmpomocahgcebaaDoor
open Go.RowKit

/-! What a clash is. -/
theorem stp_is {fl : Bool} {g h : Lg} {a : Int} : stp fl g h a = a ∨ (okP fl g h = true ∧ startP g h = stp fl g h a) := by
  unfold stp
  split
  · rename_i ho
    by_cases hm : a ≤ startP g h
    · left; omega
    · right; exact ⟨ho, by omega⟩
  · exact .inl rfl
theorem inF_is {fl : Bool} {g : Lg} : ∀ {l : List Lg} {a : Int}, inF fl g l a = a ∨ ∃ h ∈ l, okP fl g h = true ∧ startP g h = inF fl g l a
  | [], _ => .inl rfl
  | h :: t, a => by
    have e : inF fl g (h :: t) a = inF fl g t (stp fl g h a) := rfl
    rw [e]
    rcases inF_is (fl := fl) (g := g) (l := t) (a := stp fl g h a) with h1 | ⟨x, hx, h1, h2⟩
    · rcases stp_is (fl := fl) (g := g) (h := h) (a := a) with h3 | ⟨h3, h4⟩
      · left; rw [h1, h3]
      · right; exact ⟨h, List.mem_cons_self .., h3, by rw [h1, h4]⟩
    · right; exact ⟨x, List.mem_cons_of_mem _ hx, h1, h2⟩
theorem outF_is {fl : Bool} {lb : List Lg} : ∀ (la : List Lg) (a : Int), la.foldl (fun a g => inF fl g lb a) a = a ∨ ∃ g ∈ la, ∃ h ∈ lb, okP fl g h = true ∧ startP g h = la.foldl (fun a g => inF fl g lb a) a
  | [], _ => .inl rfl
  | g :: t, a => by
    rw [List.foldl_cons]
    rcases outF_is t (inF fl g lb a) with h1 | ⟨x, hx, y, hy, h1, h2⟩
    · rcases inF_is (fl := fl) (g := g) (l := lb) (a := a) with h3 | ⟨y, hy, h3, h4⟩
      · left; rw [h1, h3]
      · right; exact ⟨g, List.mem_cons_self .., y, hy, h3, by rw [h1, h4]⟩
    · right; exact ⟨x, List.mem_cons_of_mem _ hx, y, hy, h1, h2⟩
theorem out_pair {fl : Bool} {la lb : List Lg} (h : outF fl la lb < 5761440) : ∃ g ∈ la, ∃ x ∈ lb, okP fl g x = true ∧ startP g x = outF fl la lb := by
  rcases outF_is (fl := fl) (lb := lb) la 5761440 with h1 | h1
  · have : outF fl la lb = 5761440 := h1
    omega
  · exact h1
theorem ok_legs {g x : Lg} {mo : Int} (h : okP true g x = true) (hm : startP g x = mo) : legAt g.veh mo g = true ∧ legAt g.veh mo x = true := by
  unfold okP at h
  simp only [Bool.not_true, Bool.false_or, Bool.and_eq_true, beq_iff_eq, decide_eq_true_eq] at h
  obtain ⟨h1, h2⟩ := h
  unfold startP at h2 hm
  unfold legAt
  simp only [Bool.and_eq_true, beq_iff_eq, decide_eq_true_eq]
  exact ⟨⟨⟨trivial, by omega⟩, by omega⟩, ⟨⟨h1.symm, by omega⟩, by omega⟩⟩
def hkP (k : ByteArray) (x : Hs) : Bool := x.key.toList == k.toList
theorem lt_of_leB {a b : ByteArray} (h : leB b a = false) : Go.Op.bytesLess a.toList b.toList = true := by
  unfold leB at h
  simp only [Bool.or_eq_false_iff, beq_eq_false_iff_ne, ne_eq] at h
  cases hb : Go.Op.bytesLess a.toList b.toList
  · exact absurd (bl_tri h.1 hb) h.2
  · rfl
theorem hs_sorted {hs : List Hs} (h : hiresE hs = 0) : hs.Pairwise (fun q x => Go.Op.bytesLess q.key.toList x.key.toList = true) := by
  unfold hiresE at h
  split at h
  · cases h
  · refine (scan_pair (R := fun q x : Hs => Go.Op.bytesLess q.key.toList x.key.toList = true) (fun q x hq => ?_) (fun a b c h1 h2 => bl_trans h1 h2) h).1
    unfold hsE at hq
    split at hq
    · split at hq
      · cases hq
      · rename_i hl
        exact lt_of_leB (by simpa [leH] using hl)
    · rename_i hn
      exact absurd hq hn
theorem key_ix {hs : List Hs} (h : hs.Pairwise (fun q x => Go.Op.bytesLess q.key.toList x.key.toList = true)) {i : Nat} {a : Hs} (ha : hs[i]? = some a) : ixP (hkP a.key) hs 0 = (i : Int) := by
  have hself : hkP a.key a = true := by unfold hkP; simp
  rcases ixP_spec (p := hkP a.key) hs 0 with ⟨_, h2⟩ | ⟨j, x, h1, h2, h3, h4⟩
  · have := h2 a (List.mem_of_getElem? ha)
    rw [hself] at this; cases this
  · rw [Nat.zero_add] at h1
    rw [h1]
    obtain ⟨hi, hia⟩ := List.getElem?_eq_some_iff.1 ha
    obtain ⟨hj, hjx⟩ := List.getElem?_eq_some_iff.1 h2
    have hk : x.key.toList = a.key.toList := by simpa [hkP] using h3
    rcases Nat.lt_trichotomy i j with hlt | he | hlt
    · have := h4 i hlt a ha
      rw [hself] at this; cases this
    · rw [he]
    · have hp := List.pairwise_iff_getElem.1 h j i hj hi hlt
      rw [hjx, hia] at hp
      exact absurd hk (bl_ne hp)
theorem clash_mem : ∀ {l : List Hs} {k : Cl}, k ∈ clashL l → ∃ (i j : Nat) (a b : Hs), i < j ∧ l[i]? = some a ∧ l[j]? = some b ∧ k ∈ clsOf a b
  | [], k, h => by simp [clashL] at h
  | a :: r, k, h => by
    unfold clashL at h
    rcases List.mem_append.1 h with h | h
    · obtain ⟨b, hb, hk⟩ := List.mem_flatMap.1 h
      obtain ⟨j, hj⟩ := List.mem_iff_getElem?.1 hb
      exact ⟨0, j + 1, a, b, by omega, rfl, by simpa using hj, hk⟩
    · obtain ⟨i, j, x, y, h1, h2, h3, h4⟩ := clash_mem h
      exact ⟨i + 1, j + 1, x, y, by omega, by simpa using h2, by simpa using h3, h4⟩
theorem cls_mem {a b : Hs} {k : Cl} (h : k ∈ clsOf a b) : ∃ knd mo, k = ⟨a.key, b.key, knd, mo⟩ ∧ ((knd = 1 ∧ outF true a.legs b.legs < 5761440 ∧ mo = outF true a.legs b.legs) ∨ (knd = 2 ∧ (a.driver.toList == b.driver.toList) = true)) := by
  unfold clsOf at h
  rcases List.mem_append.1 h with h | h
  · unfold clsA at h
    split at h
    · rename_i h1
      rw [List.mem_singleton.1 h]
      exact ⟨_, _, rfl, .inl ⟨rfl, h1, rfl⟩⟩
    · cases h
  · unfold clsB at h
    split at h
    · rename_i h1
      rw [List.mem_singleton.1 h]
      exact ⟨_, _, rfl, .inr ⟨rfl, h1.1⟩⟩
    · cases h
def bothAt (a b : List Lg) (mo : Int) (g : Lg) : Bool := a.any (legAt g.veh mo) && b.any (legAt g.veh mo)
theorem clash_mean {hs : List Hs} (h0 : hiresE hs = 0) {k : Cl} (hk : k ∈ clashL hs) : ∃ (i j : Nat) (a b : Hs) (knd mo : Int), i < j ∧ hs[i]? = some a ∧ hs[j]? = some b ∧ ixP (hkP a.key) hs 0 = (i : Int) ∧ ixP (hkP b.key) hs 0 = (j : Int) ∧ k = ⟨a.key, b.key, knd, mo⟩ ∧
    ((knd = 1 ∧ (0 ≤ mo ∧ mo ≤ 5761439) ∧ a.legs.any (bothAt a.legs b.legs mo) = true) ∨ (knd = 2 ∧ (a.driver.toList == b.driver.toList) = true)) := by
  obtain ⟨i, j, a, b, hij, ha, hb, hc⟩ := clash_mem hk
  obtain ⟨knd, mo, rfl, hm⟩ := cls_mem hc
  have hhr := hiresE_ok h0
  have hs0 := hs_sorted h0
  refine ⟨i, j, a, b, knd, mo, hij, ha, hb, key_ix hs0 ha, key_ix hs0 hb, rfl, ?_⟩
  rcases hm with ⟨h1, h2, h3⟩ | ⟨h1, h2⟩
  · left
    have hb0 := outF_bound (fl := true) (tm_of hhr.2 hb) (tm_of hhr.2 ha)
    refine ⟨h1, ⟨by omega, by omega⟩, ?_⟩
    obtain ⟨g, hg, x, hx, h4, h5⟩ := out_pair h2
    obtain ⟨h6, h7⟩ := ok_legs h4 (h5.trans h3.symm)
    exact List.any_eq_true.2 ⟨g, hg, by unfold bothAt; rw [Bool.and_eq_true]; exact ⟨List.any_eq_true.2 ⟨g, hg, h6⟩, List.any_eq_true.2 ⟨x, hx, h7⟩⟩⟩
  · exact .inr ⟨h1, h2⟩
theorem one_hires {a : Hs} (h : hireE a.hr = 0) : hiresE [a] = 0 := by
  unfold hiresE scanE hsE leH scanE
  simp [h]
theorem leg_veh {h : Hr} (h0 : hireE h = 0) : ∀ g ∈ h.legs, keyB g.veh = true := by
  obtain ⟨key, driver, fr, to_, l⟩ := h
  have hk := hireE_ok h0
  have hall := legs_all hk.2.2.2
  intro g hg
  obtain ⟨k, hkl, hk2⟩ := List.getElem_of_mem hg
  have hgk : l[k]? = some g := by rw [List.getElem?_eq_getElem hkl, hk2]
  have hle := firstE_all (hall k g hgk)
  have h1 := whenE_ok (by decide) (hle _ (List.mem_cons_self ..))
  simpa using h1
theorem one_with {a : Hs} {v : ByteArray} {mo : Int} (h : hireE a.hr = 0) (hv : keyB v = true) (hm : 0 ≤ mo ∧ mo ≤ 5761439) : withE [a] v mo = 0 := by
  unfold withE
  rw [one_hires h, hv]
  unfold momentE
  rw [inB_iff.2 hm]; rfl
theorem one_withV (a : Hs) (v : ByteArray) (mo : Int) : (withV v mo [a]).2 = a.legs.any (legAt v mo) ∧ (a.legs.any (legAt v mo) = true → (withV v mo [a]).1 = a.key) := by
  unfold withV withV
  cases h : a.legs.any (legAt v mo) <;> simp
theorem one_between {α : Type} {l : List α} {i : Nat} {a : α} (h : l[i]? = some a) : (l.drop i).take (i + 1 - i) = [a] := by
  obtain ⟨hi, rfl⟩ := List.getElem?_eq_some_iff.1 h
  rw [List.drop_eq_getElem_cons hi, show i + 1 - i = 1 by omega]; rfl
theorem any_take {α : Type} {p : α → Bool} {l : List α} {k : Nat} {x : α} (h : l[k]? = some x) : (l.take (k + 1)).any p = ((l.take k).any p || p x) := by
  rw [List.take_add_one, h, List.any_append]; simp
/-- With over one of the hires. -/
theorem with_one {hs : List Hs} {A : Option Addr} {n c i : Nat} {a : Hs} {v : ByteArray} {mo : Int} {w : World} (hl : SlT hsEnc 5 95 w A n hs) (hnc : n ≤ c) (hi : i < n) (ha : hs[i]? = some a) (hg : Legs hs w) (hok : ∀ h ∈ hs, HsOk h) (h0 : hireE a.hr = 0) (hv : keyB v = true) (hvz : v.size ≤ 1000000) (hm : 0 ≤ mo ∧ mo ≤ 5761439) :
    Calls Tryd.prog 57 #[.slice (if c = i then A else Option.map (fun a : Addr => a.add (i * 5)) A) (i + 1 - i) (c - i), .string v, .int .i64 mo] w (fun e w' => e = .returned (.tuple #[.string (withV v mo [a]).1, .bool (a.legs.any (legAt v mo)), .int .i64 0]) ∧ w.grownBy w' none) := by
  have hb := hl.between i (i + 1) (by omega) (by omega) hnc
  rw [one_between ha] at hb
  have h := with_any [a] _ (i + 1 - i) (c - i) v mo w hb (fun x hx => by rw [List.mem_singleton.1 hx]; exact hg a (List.mem_of_getElem? ha)) (fun x hx => by rw [List.mem_singleton.1 hx]; exact hok a (List.mem_of_getElem? ha)) (by omega) hvz
  rw [one_with h0 hv hm, if_pos rfl, (one_withV a v mo).1] at h
  exact h

set_option maxRecDepth 100000 in
set_option maxHeartbeats 400000 in
theorem predHs_1 (key driver : ByteArray) (fr to_ : Int) (Ah : Option Addr) (nh ch : Nat) (lh : List Lg) (gk : Nat) (ka kb : ByteArray) (kn km : Int) (w : World) (hk : Blk w gk 91 [.string ka, .string kb, .int .i64 kn, .int .i64 km]) :
    Calls Tryd.prog 55 #[.agg #[.string key, .string driver, .int .i64 fr, .int .i64 to_, .slice Ah nh ch], .pointer (some ⟨gk, 0, none⟩)] w (fun e w' => e = .returned (.bool (hkP ka ⟨key, driver, fr, to_, Ah, nh, ch, lh⟩)) ∧ w.grownBy w' none) := by
  refine gw_enter ⟨9, w, none, []⟩ Tryd.func55 rfl Tryd.ntmps55 rfl (mem0 (X := [BlkOld w.heap.size none gk 91 [.string ka, .string kb, .int .i64 kn, .int .i64 km]]) (allF_cons hk.old allF_nil) (allL_cons BlkOld.lasts allL_nil)) ?_
  refine gw_seq ?_
  refine gw_region ?_
  refine wl_box rfl rfl rfl fun g1 => ?_
  refine wl_ov (ov_assign rfl) rfl ?_
  refine wl_nil ?_
  refine nx_then ?_
  refine gw_seq ?_
  refine gw_region ?_
  refine wl_ov (ov_field fo95_0 rfl rfl) rfl ?_
  refine wl_ov (ov_load sc9 rfl (fun _ hm => hm.blkI 0 rfl) rfl) rfl ?_
  refine wl_ov (ov_field fo91_0 rfl rfl) rfl ?_
  refine wl_ov (ov_load (v := .string ka) sc9 rfl (fun _ hm => (hm.fact 0 rfl).2) rfl) rfl ?_
  refine wl_ov (ov_seql rfl rfl) rfl ?_
  refine wl_ov (ov_assign rfl) rfl ?_
  refine wl_nil ?_
  refine nx_then ?_
  refine gw_ret ?_
  refine nx_ret1 rfl rfl fun wx hm => ?_
  exact ⟨rfl, hm.g⟩

set_option maxRecDepth 100000 in
set_option maxHeartbeats 400000 in
theorem indexHs_1 (hs : List Hs) (A : Option Addr) (n c0 : Nat) (gk : Nat) (ka kb : ByteArray) (kn km : Int) (w : World) (hk : Blk w gk 91 [.string ka, .string kb, .int .i64 kn, .int .i64 km]) (hl : SlT hsEnc 5 95 w A n hs) (hn : n ≤ 1000000) :
    Calls Tryd.prog 54 #[.slice A n c0, .func (.func 55) #[] #[.pointer (some ⟨gk, 0, none⟩)]] w (GotE w (ixP (hkP ka) hs 0)) := by
  refine gw_enter ⟨19, w, none, []⟩ Tryd.func54 rfl Tryd.ntmps54 rfl (mem0 (X := [SlOld hsEnc 5 95 w.heap.size none A n hs, BlkOld w.heap.size none gk 91 [.string ka, .string kb, .int .i64 kn, .int .i64 km]]) (allF_cons hl.old (allF_cons hk.old allF_nil)) (allL_cons SlOld.lasts (allL_cons BlkOld.lasts allL_nil))) ?_
  refine gw_seq ?_
  refine gw_region ?_
  have hlen := hl.len
  refine wl_ov (ov_assign rfl) rfl ?_
  refine wl_nil ?_
  refine nx_then ?_
  refine gw_seq ?_
  refine gw_seq ?_
  refine gw_region ?_
  refine wl_ov (ov_move rfl) rfl ?_
  refine wl_ov (ov_len es84 rfl) rfl ?_
  refine wl_ov (ov_move rfl) rfl ?_
  refine wl_nil ?_
  refine nx_then ?_
  refine gw_block ?_
  refine gw_loop (γ := Nat) (fun (i : Nat) => i ≤ n ∧ ixP (hkP ka) hs 0 = ixP (hkP ka) (hs.drop i) i) (fun (i : Nat) => [(0, .slice A n c0), (1, .func (.func 55) #[] #[.pointer (some ⟨gk, 0, none⟩)]), (7, .int .i64 ((n : Nat) : Int)), (8, .int .i64 ((i : Nat) : Int))]) (fun (i : Nat) => fun _ => True) (fun (i : Nat) => []) (fun (i : Nat) => []) (fun (i : Nat) => [SlOld hsEnc 5 95 w.heap.size none A n hs, BlkOld w.heap.size none gk 91 [.string ka, .string kb, .int .i64 kn, .int .i64 km]]) (fun (i : Nat) => n - i) 0 ⟨Nat.zero_le _, rfl⟩ ⟨rfl, rfl, rfl, rfl, trivial⟩ (fun _ hm => hm.pick [] [] [0, 1] rfl rfl) ?_
  intro i hinv
  replace hinv : i ≤ n ∧ ixP (hkP ka) hs 0 = ixP (hkP ka) (hs.drop i) i := hinv
  refine gw_seq ?_
  refine gw_region ?_
  refine wl_ov (ov_lss rfl rfl) rfl ?_
  refine wl_nil ?_
  refine nx_then ?_
  refine gw_seq ?_
  refine gw_cond rfl (fun hh => ?_) (fun hh => ?_)
  · have hi : ((i : Nat) : Int) < ((n : Nat) : Int) := by simpa using hh
    clear hh
    refine gw_skip ?_
    refine nx_then ?_
    refine gw_seq ?_
    refine gw_block ?_
    refine gw_seq ?_
    refine gw_region ?_
    obtain ⟨b, off, hA, _, _⟩ := hl.get (by omega)
    subst hA
    obtain ⟨x, hx⟩ : ∃ x, hs[i]? = some x := ⟨_, List.getElem?_eq_getElem (by omega)⟩
    obtain ⟨key, driver, fr, to_, Ah, nh, ch, lh⟩ := x
    have hat := ixP_at (p := hkP ka) hx
    refine wl_ov (ov_move rfl) rfl ?_
    refine wl_ov (ov_assign rfl) rfl ?_
    refine wl_nil ?_
    refine nx_then ?_
    refine gw_seq ?_
    refine gw_region ?_
    refine wl_ov (ov_move rfl) rfl ?_
    refine wl_ov (ov_move rfl) rfl ?_
    refine wl_ov (ov_move rfl) rfl ?_
    refine wl_ov (ov_index (j := i) es84 rfl rfl (by omega)) rfl ?_
    refine wl_ov (ov_elem (vs := [.string key, .string driver, .int .i64 fr, .int .i64 to_, .slice Ah nh ch]) rz95 rfl (fun _ hm => (hm.fact 0 rfl).1) hx rfl rfl) rfl ?_
    refine wl_callv rfl cb55 rfl rfl (fun wx hm => (predHs_1 key driver fr to_ Ah nh ch lh gk ka kb kn km wx (hm.fact 1 rfl).2)) ?_
    refine wl_nil ?_
    refine nx_then ?_
    refine gw_cond rfl (fun hh => ?_) (fun hh => ?_)
    · have hq : (hkP ka ⟨key, driver, fr, to_, Ah, nh, ch, lh⟩) = true := by simpa using hh
      clear hh
      refine gw_seq ?_
      refine gw_region ?_
      refine wl_ov (ov_move rfl) rfl ?_
      refine wl_ov (ov_assign rfl) rfl ?_
      refine wl_nil ?_
      refine nx_then ?_
      refine gw_ret ?_
      refine nx_blk_ret ?_
      refine nx_then_ret ?_
      refine nx_then_ret ?_
      refine nx_blk_ret ?_
      refine nx_then_ret ?_
      refine nx_ret1 rfl rfl fun wx hm => ?_
      exact ⟨ret_int (by rw [hinv.2, hat, if_pos hq]), hm.g⟩
    · have hq : (hkP ka ⟨key, driver, fr, to_, Ah, nh, ch, lh⟩) = false := by simpa using hh
      clear hh
      refine gw_skip ?_
      refine nx_blk_nrm ?_
      refine nx_then ?_
      refine gw_region ?_
      refine wl_ov (ov_add rfl rfl (by omega) (by omega)) rfl ?_
      refine wl_ov (ov_move rfl) rfl ?_
      refine wl_nil ?_
      exact nx_round (i + 1) ⟨by omega, by rw [hinv.2, hat, if_neg (by rw [hq]; decide)]⟩ (by omega) ⟨rfl, rfl, rfl, (some_int (by omega)), trivial⟩ (fun _ hm => hm.pick [] [] [0, 1] rfl rfl)
  · have hi : ¬ (((i : Nat) : Int) < ((n : Nat) : Int)) := by simpa using hh
    clear hh
    refine gw_exit ?_
    refine nx_then_exit ?_
    refine nx_then_exit ?_
    refine nx_blk_here ?_
    refine nx_then ?_
    refine gw_seq ?_
    refine gw_region ?_
    refine wl_ov (ov_assign rfl) rfl ?_
    refine wl_set 4 (v' := .int .i64 (-1)) rfl rfl ?_
    refine wl_nil ?_
    refine nx_then ?_
    refine gw_ret ?_
    refine nx_ret1 rfl rfl fun wx hm => ?_
    exact ⟨ret_int (by rw [hinv.2, List.drop_eq_nil_of_le (by omega)]; rfl), hm.g⟩

set_option maxRecDepth 100000 in
set_option maxHeartbeats 400000 in
theorem predHs_2 (key driver : ByteArray) (fr to_ : Int) (Ah : Option Addr) (nh ch : Nat) (lh : List Lg) (gk : Nat) (ka kb : ByteArray) (kn km : Int) (w : World) (hk : Blk w gk 91 [.string ka, .string kb, .int .i64 kn, .int .i64 km]) :
    Calls Tryd.prog 56 #[.agg #[.string key, .string driver, .int .i64 fr, .int .i64 to_, .slice Ah nh ch], .pointer (some ⟨gk, 0, none⟩)] w (fun e w' => e = .returned (.bool (hkP kb ⟨key, driver, fr, to_, Ah, nh, ch, lh⟩)) ∧ w.grownBy w' none) := by
  refine gw_enter ⟨9, w, none, []⟩ Tryd.func56 rfl Tryd.ntmps56 rfl (mem0 (X := [BlkOld w.heap.size none gk 91 [.string ka, .string kb, .int .i64 kn, .int .i64 km]]) (allF_cons hk.old allF_nil) (allL_cons BlkOld.lasts allL_nil)) ?_
  refine gw_seq ?_
  refine gw_region ?_
  refine wl_box rfl rfl rfl fun g1 => ?_
  refine wl_ov (ov_assign rfl) rfl ?_
  refine wl_nil ?_
  refine nx_then ?_
  refine gw_seq ?_
  refine gw_region ?_
  refine wl_ov (ov_field fo95_0 rfl rfl) rfl ?_
  refine wl_ov (ov_load sc9 rfl (fun _ hm => hm.blkI 0 rfl) rfl) rfl ?_
  refine wl_ov (ov_field fo91_1 rfl rfl) rfl ?_
  refine wl_ov (ov_load (v := .string kb) sc9 rfl (fun _ hm => (hm.fact 0 rfl).2) rfl) rfl ?_
  refine wl_ov (ov_seql rfl rfl) rfl ?_
  refine wl_ov (ov_assign rfl) rfl ?_
  refine wl_nil ?_
  refine nx_then ?_
  refine gw_ret ?_
  refine nx_ret1 rfl rfl fun wx hm => ?_
  exact ⟨rfl, hm.g⟩

set_option maxRecDepth 100000 in
set_option maxHeartbeats 400000 in
theorem indexHs_2 (hs : List Hs) (A : Option Addr) (n c0 : Nat) (gk : Nat) (ka kb : ByteArray) (kn km : Int) (w : World) (hk : Blk w gk 91 [.string ka, .string kb, .int .i64 kn, .int .i64 km]) (hl : SlT hsEnc 5 95 w A n hs) (hn : n ≤ 1000000) :
    Calls Tryd.prog 54 #[.slice A n c0, .func (.func 56) #[] #[.pointer (some ⟨gk, 0, none⟩)]] w (GotE w (ixP (hkP kb) hs 0)) := by
  refine gw_enter ⟨19, w, none, []⟩ Tryd.func54 rfl Tryd.ntmps54 rfl (mem0 (X := [SlOld hsEnc 5 95 w.heap.size none A n hs, BlkOld w.heap.size none gk 91 [.string ka, .string kb, .int .i64 kn, .int .i64 km]]) (allF_cons hl.old (allF_cons hk.old allF_nil)) (allL_cons SlOld.lasts (allL_cons BlkOld.lasts allL_nil))) ?_
  refine gw_seq ?_
  refine gw_region ?_
  have hlen := hl.len
  refine wl_ov (ov_assign rfl) rfl ?_
  refine wl_nil ?_
  refine nx_then ?_
  refine gw_seq ?_
  refine gw_seq ?_
  refine gw_region ?_
  refine wl_ov (ov_move rfl) rfl ?_
  refine wl_ov (ov_len es84 rfl) rfl ?_
  refine wl_ov (ov_move rfl) rfl ?_
  refine wl_nil ?_
  refine nx_then ?_
  refine gw_block ?_
  refine gw_loop (γ := Nat) (fun (i : Nat) => i ≤ n ∧ ixP (hkP kb) hs 0 = ixP (hkP kb) (hs.drop i) i) (fun (i : Nat) => [(0, .slice A n c0), (1, .func (.func 56) #[] #[.pointer (some ⟨gk, 0, none⟩)]), (7, .int .i64 ((n : Nat) : Int)), (8, .int .i64 ((i : Nat) : Int))]) (fun (i : Nat) => fun _ => True) (fun (i : Nat) => []) (fun (i : Nat) => []) (fun (i : Nat) => [SlOld hsEnc 5 95 w.heap.size none A n hs, BlkOld w.heap.size none gk 91 [.string ka, .string kb, .int .i64 kn, .int .i64 km]]) (fun (i : Nat) => n - i) 0 ⟨Nat.zero_le _, rfl⟩ ⟨rfl, rfl, rfl, rfl, trivial⟩ (fun _ hm => hm.pick [] [] [0, 1] rfl rfl) ?_
  intro i hinv
  replace hinv : i ≤ n ∧ ixP (hkP kb) hs 0 = ixP (hkP kb) (hs.drop i) i := hinv
  refine gw_seq ?_
  refine gw_region ?_
  refine wl_ov (ov_lss rfl rfl) rfl ?_
  refine wl_nil ?_
  refine nx_then ?_
  refine gw_seq ?_
  refine gw_cond rfl (fun hh => ?_) (fun hh => ?_)
  · have hi : ((i : Nat) : Int) < ((n : Nat) : Int) := by simpa using hh
    clear hh
    refine gw_skip ?_
    refine nx_then ?_
    refine gw_seq ?_
    refine gw_block ?_
    refine gw_seq ?_
    refine gw_region ?_
    obtain ⟨b, off, hA, _, _⟩ := hl.get (by omega)
    subst hA
    obtain ⟨x, hx⟩ : ∃ x, hs[i]? = some x := ⟨_, List.getElem?_eq_getElem (by omega)⟩
    obtain ⟨key, driver, fr, to_, Ah, nh, ch, lh⟩ := x
    have hat := ixP_at (p := hkP kb) hx
    refine wl_ov (ov_move rfl) rfl ?_
    refine wl_ov (ov_assign rfl) rfl ?_
    refine wl_nil ?_
    refine nx_then ?_
    refine gw_seq ?_
    refine gw_region ?_
    refine wl_ov (ov_move rfl) rfl ?_
    refine wl_ov (ov_move rfl) rfl ?_
    refine wl_ov (ov_move rfl) rfl ?_
    refine wl_ov (ov_index (j := i) es84 rfl rfl (by omega)) rfl ?_
    refine wl_ov (ov_elem (vs := [.string key, .string driver, .int .i64 fr, .int .i64 to_, .slice Ah nh ch]) rz95 rfl (fun _ hm => (hm.fact 0 rfl).1) hx rfl rfl) rfl ?_
    refine wl_callv rfl cb56 rfl rfl (fun wx hm => (predHs_2 key driver fr to_ Ah nh ch lh gk ka kb kn km wx (hm.fact 1 rfl).2)) ?_
    refine wl_nil ?_
    refine nx_then ?_
    refine gw_cond rfl (fun hh => ?_) (fun hh => ?_)
    · have hq : (hkP kb ⟨key, driver, fr, to_, Ah, nh, ch, lh⟩) = true := by simpa using hh
      clear hh
      refine gw_seq ?_
      refine gw_region ?_
      refine wl_ov (ov_move rfl) rfl ?_
      refine wl_ov (ov_assign rfl) rfl ?_
      refine wl_nil ?_
      refine nx_then ?_
      refine gw_ret ?_
      refine nx_blk_ret ?_
      refine nx_then_ret ?_
      refine nx_then_ret ?_
      refine nx_blk_ret ?_
      refine nx_then_ret ?_
      refine nx_ret1 rfl rfl fun wx hm => ?_
      exact ⟨ret_int (by rw [hinv.2, hat, if_pos hq]), hm.g⟩
    · have hq : (hkP kb ⟨key, driver, fr, to_, Ah, nh, ch, lh⟩) = false := by simpa using hh
      clear hh
      refine gw_skip ?_
      refine nx_blk_nrm ?_
      refine nx_then ?_
      refine gw_region ?_
      refine wl_ov (ov_add rfl rfl (by omega) (by omega)) rfl ?_
      refine wl_ov (ov_move rfl) rfl ?_
      refine wl_nil ?_
      exact nx_round (i + 1) ⟨by omega, by rw [hinv.2, hat, if_neg (by rw [hq]; decide)]⟩ (by omega) ⟨rfl, rfl, rfl, (some_int (by omega)), trivial⟩ (fun _ hm => hm.pick [] [] [0, 1] rfl rfl)
  · have hi : ¬ (((i : Nat) : Int) < ((n : Nat) : Int)) := by simpa using hh
    clear hh
    refine gw_exit ?_
    refine nx_then_exit ?_
    refine nx_then_exit ?_
    refine nx_blk_here ?_
    refine nx_then ?_
    refine gw_seq ?_
    refine gw_region ?_
    refine wl_ov (ov_assign rfl) rfl ?_
    refine wl_set 4 (v' := .int .i64 (-1)) rfl rfl ?_
    refine wl_nil ?_
    refine nx_then ?_
    refine gw_ret ?_
    refine nx_ret1 rfl rfl fun wx hm => ?_
    exact ⟨ret_int (by rw [hinv.2, List.drop_eq_nil_of_le (by omega)]; rfl), hm.g⟩

theorem clashOr_len {E : Int} {l : List Hs} (h : l.length ≤ 500) : (clashOr E l).length ≤ 500000 := by
  unfold clashOr; split
  · rcases clashL_len l with h1 | h1 <;> omega
  · simp
theorem OnsLegs {N : Nat} {row : Option Nat} {l : List Hs} {w : World} (h : LegsOld N row l w) : Legs l w := fun x hx => (h x hx).1
set_option maxRecDepth 100000 in
set_option maxHeartbeats 2000000 in
theorem mean_walk (a0 : Option Addr) (len0 cap0 : Nat) (z0 : List Int) (w : World) (hR : RowIn w a0 len0 cap0 z0) :
    Calls Tryd.prog 9 #[.slice a0 len0 cap0] w fun e w' => e = .returned (.bool true) ∧ Below w.heap.size w w' := by
  refine gw_enter ⟨147, w, none, []⟩ Tryd.func9 rfl Tryd.ntmps9 rfl (mem0 (X := []) allF_nil allL_nil) ?_
  refine gw_seq ?_
  refine gw_region ?_
  refine wl_ov (ov_assign rfl) rfl ?_
  refine wl_nil ?_
  refine nx_then ?_
  refine gw_seq ?_
  refine gw_region ?_
  refine wl_ov (ov_move rfl) rfl ?_
  refine wl_ov (ov_build (cs := [.slice a0 len0 cap0, .int .i64 0]) rfl (by kernel_rfl)) rfl ?_
  refine wl_box rfl rfl rfl fun sb => ?_
  refine wl_ov (ov_assign rfl) rfl ?_
  refine wl_nil ?_
  refine nx_then ?_
  refine gw_seq ?_
  refine gw_region ?_
  refine wl_ov (ov_move rfl) rfl ?_
  refine wl_ov (ov_move rfl) rfl ?_
  refine wl_law [95, 100, 91] hR 0 rfl fun w1 B hg1 hsb => ?_
  refine wl_got (γ := Int) (val := fun v => .int .i64 v) (φ := fun v => 2 ≤ v ∧ (v ≤ 4 ∨ v = 2)) rfl cb15 rfl rfl rfl rfl (fun wx hm => (range_any _ _ wx B sb _ hm.k (by omega) (by omega) (by omega) (by omega) (by omega))) fun v1 hv1 => ?_
  obtain ⟨q, rfl⟩ := Int.eq_ofNat_of_zero_le (show 0 ≤ v1 by omega)
  have hq4 : q ≤ 4 := by have := hv1.2; omega
  refine wl_calls (γ := Option Addr × Nat × Nat × List Hs) (val := (fun (g : Option Addr × Nat × Nat × List Hs) => .slice g.1 g.2.1 g.2.2.1)) (φ := (fun (g : Option Addr × Nat × Nat × List Hs) => (∀ h ∈ g.2.2.2, HsOk h) ∧ g.2.1 ≤ 5 ∧ g.2.1 ≤ g.2.2.1 ∧ g.2.2.2.length = g.2.1)) (Y := (fun (g : Option Addr × Nat × Nat × List Hs) => fun wy => SlT hsEnc 5 95 wy g.1 g.2.1 g.2.2.2 ∧ Legs g.2.2.2 wy)) (m' := 0 + 1 + 20000) rfl cb50 rfl rfl rfl rfl (fun wx hm => (ghires_any q wx B sb _ hm.k (by omega) hq4).mono fun _ _ ⟨A, n, c, hs, he, hsl, hlg, hok, hn5, hnc, hS, hg⟩ => ⟨(A, n, c, hs), he, ⟨hok, hn5, hnc, hsl.len⟩, hS, hg, ⟨hsl, hlg⟩⟩) (fun _ => (SlT.lasts2 rfl).and_ (Legs.lasts rfl)) ?_
  rintro ⟨A, n, c, hs⟩ hH
  dsimp only at hH ⊢
  obtain ⟨hok, hn5, hnc, hlen⟩ := hH
  obtain ⟨CLS, hCLS⟩ : ∃ L, L = clashOr (hiresE hs) hs := ⟨_, rfl⟩
  have hCLn : CLS.length ≤ 500000 := by rw [hCLS]; exact clashOr_len (by omega)
  refine wl_ov (ov_assign rfl) rfl ?_
  refine wl_nil ?_
  refine nx_then ?_
  refine gw_seq ?_
  refine gw_seq ?_
  refine gw_region ?_
  refine wl_ov (ov_move rfl) rfl ?_
  refine wl_callv rfl cb51 rfl rfl (fun wx hm => (hiresFault_any hs A n c wx (hm.fact 0 rfl).1 (hm.fact 0 rfl).2 hok (by omega))) ?_
  refine wl_ov (ov_neq rfl rfl) rfl ?_
  refine wl_nil ?_
  refine nx_then ?_
  refine gw_cond rfl (fun hh => ?_) (fun hh => ?_)
  · have hE : ¬ (hiresE hs = 0) := by simpa using hh
    clear hh
    refine gw_seq ?_
    refine gw_region ?_
    refine wl_ov (ov_move rfl) rfl ?_
    refine wl_callv rfl cb52 rfl rfl (fun wx hm => (checkAll_any hs A n c wx (hm.fact 0 rfl).1 (hm.fact 0 rfl).2 hok (by omega))) ?_
    refine wl_ov (ov_neq rfl rfl) rfl ?_
    refine wl_set 32 (v' := .bool true) rfl (congrArg (fun b => Value.bool !b) (decide_eq_false hE)) ?_
    refine wl_ov (ov_move rfl) rfl ?_
    refine wl_guard_on rfl rfl rfl ?_
    refine wl_callv rfl cb17 rfl rfl (fun wx hm => (ready_any wx)) ?_
    refine wl_ov (ov_pick_t rfl rfl) rfl ?_
    refine wl_ov (ov_assign rfl) rfl ?_
    refine wl_nil ?_
    refine nx_then ?_
    refine gw_ret ?_
    refine nx_then_ret ?_
    refine nx_ret1 rfl rfl fun wx hm => ?_
    exact ⟨rfl, law_end hg1 hsb hm.g⟩
  · have hE : hiresE hs = 0 := by simpa using hh
    clear hh
    refine gw_skip ?_
    refine nx_then ?_
    refine gw_seq ?_
    refine gw_region ?_
    have hhr := hiresE_ok hE
    have hCL2 : CLS = clashL hs := by rw [hCLS]; exact if_pos hE
    refine wl_ov (ov_move rfl) rfl ?_
    refine wl_callx (γ := Option Addr × Nat × Nat) (val := (fun (g : Option Addr × Nat × Nat) => .tuple #[.slice g.1 g.2.1 g.2.2, .int .i64 (hiresE hs)])) (φ := (fun (g : Option Addr × Nat × Nat) => CLS.length = g.2.1)) (Y := (fun (g : Option Addr × Nat × Nat) => fun wy => SlT clEnc 4 91 wy g.1 g.2.1 CLS)) rfl cb53 rfl rfl (fun wx hm => (by rw [hCLS]; exact (clashes_any hs A n c wx (hm.fact 0 rfl).1 (hm.fact 0 rfl).2 hok hnc (by omega)).mono fun _ _ ⟨A2, n2, c2, he, hg, hs⟩ => ⟨(A2, n2, c2), he, hs.len, hg, hs⟩)) (fun _ => SlT.lasts2 rfl) ?_
    rintro ⟨A2, n2, c2⟩ hn2
    dsimp only at hn2 ⊢
    refine wl_ov (ov_move rfl) rfl ?_
    refine wl_ov (ov_extract rfl rfl) rfl ?_
    refine wl_ov (ov_extract rfl rfl) rfl ?_
    refine wl_ov (ov_assign rfl) rfl ?_
    refine wl_ov (ov_assign rfl) rfl ?_
    refine wl_nil ?_
    refine nx_then ?_
    refine gw_seq ?_
    refine gw_seq ?_
    refine gw_region ?_
    refine wl_ov (ov_move rfl) rfl ?_
    refine wl_ov (ov_len es87 rfl) rfl ?_
    refine wl_ov (ov_move rfl) rfl ?_
    refine wl_nil ?_
    refine nx_then ?_
    refine gw_block ?_
    refine gw_nest none [] fun w2 hm_w2 => ⟨_, _, _, _, mem0 (X := [SlOld hsEnc 5 95 w2.heap.size none A n hs, LegsOld w2.heap.size none hs, SlOld clEnc 4 91 w2.heap.size none A2 n2 CLS]) (allF_cons (SlT.old (hm_w2.fact 1 rfl).1) (allF_cons (Legs.old (hm_w2.fact 1 rfl).2) (allF_cons (SlT.old (hm_w2.fact 0 rfl)) allF_nil))) (allL_cons SlOld.lasts (allL_cons LegsOld.lasts (allL_cons SlOld.lasts allL_nil))), ?_⟩
    have hcl : SlT clEnc 4 91 w2 A2 n2 CLS := (hm_w2.fact 0 rfl)
    have hsl : SlT hsEnc 5 95 w2 A n hs := (hm_w2.fact 1 rfl).1
    have hlg : Legs hs w2 := (hm_w2.fact 1 rfl).2
    refine gw_loop (γ := Nat) (fun (u : Nat) => u ≤ n2) (fun (u : Nat) => [(4, .slice A n c), (6, .int .i64 (hiresE hs)), (41, .slice A2 n2 c2), (42, .int .i64 ((n2 : Nat) : Int)), (43, .int .i64 ((u : Nat) : Int))]) (fun (u : Nat) => fun _ => True) (fun (u : Nat) => []) (fun (u : Nat) => []) (fun (u : Nat) => [SlOld hsEnc 5 95 w2.heap.size none A n hs, LegsOld w2.heap.size none hs, SlOld clEnc 4 91 w2.heap.size none A2 n2 CLS]) (fun (u : Nat) => n2 - u) 0 (Nat.zero_le _) ⟨rfl, rfl, rfl, rfl, rfl, trivial⟩ (fun _ hm => hm.pick [] [] [0, 1, 2] rfl rfl) ?_
    intro u hinv
    replace hinv : u ≤ n2 := hinv
    refine gw_seq ?_
    refine gw_region ?_
    refine wl_ov (ov_lss rfl rfl) rfl ?_
    refine wl_nil ?_
    refine nx_then ?_
    refine gw_seq ?_
    refine gw_cond rfl (fun hh => ?_) (fun hh => ?_)
    · have hu : ((u : Nat) : Int) < ((n2 : Nat) : Int) := by simpa using hh
      clear hh
      refine gw_skip ?_
      refine nx_then ?_
      refine gw_seq ?_
      refine gw_block ?_
      refine gw_seq ?_
      refine gw_region ?_
      obtain ⟨b2, o2, hA, _, _⟩ := hcl.get (by omega)
      subst hA
      obtain ⟨x, hx⟩ : ∃ x, CLS[u]? = some x := ⟨_, List.getElem?_eq_getElem (by omega)⟩
      obtain ⟨i, j, ⟨k1, d1, f1, t1, A1, n1, c1, l1⟩, ⟨k3, d3, f3, t3, A3, n3, c3, l3⟩, knd, mo, hij, hxi, hxj, hix, hjx, rfl, hcase⟩ := clash_mean hE (show x ∈ clashL hs by rw [← hCL2]; exact List.mem_of_getElem? hx)
      have hix : ixP (hkP k1) hs 0 = (i : Int) := hix
      have hjx : ixP (hkP k3) hs 0 = (j : Int) := hjx
      have hjn : j < n := by have := (List.getElem?_eq_some_iff.1 hxj).1; omega
      have hin : i < n := by omega
      obtain ⟨bh, oh, hA, _, _⟩ := hsl.get (by omega)
      subst hA
      refine wl_ov (ov_index (j := u) es87 rfl rfl (by omega)) rfl ?_
      refine wl_ov (ov_elem (vs := [.string k1, .string k3, .int .i64 knd, .int .i64 mo]) rz91 rfl (fun _ hm => (hm.fact 2 rfl).1) hx rfl rfl) rfl ?_
      refine wl_alloc zc91 rfl fun g2 => ?_
      refine wl_stores (cs' := [.string k1, .string k3, .int .i64 knd, .int .i64 mo]) 0 rz91 rfl rfl rfl rfl rfl rfl rfl rfl ?_
      refine wl_nil ?_
      refine nx_then ?_
      refine gw_seq ?_
      refine gw_region ?_
      refine wl_ov (ov_move rfl) rfl ?_
      refine wl_ov (ov_makeFunc rfl rfl) rfl ?_
      refine wl_callv (v := .int .i64 ((i : Nat) : Int)) rfl cb54 rfl rfl (fun wx hm => (by have h := indexHs_1 hs _ n c _ k1 k3 knd mo wx (hm.blkI 0 rfl) (hm.fact 0 rfl).1 (by omega); rw [hix] at h; exact h)) ?_
      refine wl_ov (ov_assign rfl) rfl ?_
      refine wl_nil ?_
      refine nx_then ?_
      refine gw_seq ?_
      refine gw_region ?_
      refine wl_ov (ov_move rfl) rfl ?_
      refine wl_ov (ov_makeFunc rfl rfl) rfl ?_
      refine wl_callv (v := .int .i64 ((j : Nat) : Int)) rfl cb54 rfl rfl (fun wx hm => (by have h := indexHs_2 hs _ n c _ k1 k3 knd mo wx (hm.blkI 0 rfl) (hm.fact 0 rfl).1 (by omega); rw [hjx] at h; exact h)) ?_
      rcases hcase with ⟨rfl, ⟨hm0, hm1⟩, hany⟩ | ⟨rfl, hdr⟩
      · obtain ⟨P, hP⟩ : ∃ P, P = bothAt l1 l3 mo := ⟨_, rfl⟩
        have hany : l1.any P = true := by rw [hP]; exact hany
        have h1ok := hhr.2 _ (List.mem_of_getElem? hxi)
        have h3ok := hhr.2 _ (List.mem_of_getElem? hxj)
        have hvk := leg_veh h1ok
        obtain ⟨hho, hhn⟩ := hok _ (List.mem_of_getElem? hxi)
        have hhn : n1 ≤ 1000 := hhn
        refine wl_also (Y := SlOld lgEnc 9 100 w2.heap.size none A1 n1 l1) (SlOld.lasts) (fun wx hm => (hm.fact 1 rfl) _ (List.mem_of_getElem? hxi)) ?_
        have hl1 : SlT lgEnc 9 100 w2 A1 n1 l1 := hlg _ (List.mem_of_getElem? hxi)
        have hl1n := hl1.len
        refine wl_ov (ov_assign rfl) rfl ?_
        refine wl_nil ?_
        refine nx_then ?_
        refine gw_seq ?_
        refine gw_seq ?_
        refine gw_draw (fun wz => Blk wz g2 91 [.string k1, .string k3, .int .i64 1, .int .i64 mo] ∧ (SlOld lgEnc 9 100 w2.heap.size none A1 n1 l1) wz ∧ (SlOld hsEnc 5 95 w2.heap.size none (some ⟨bh, oh, none⟩) n hs) wz ∧ (LegsOld w2.heap.size none hs) wz ∧ (SlOld clEnc 4 91 w2.heap.size none (some ⟨b2, o2, none⟩) n2 CLS) wz ∧ True) mixed ?_
        refine wa_take 0 rfl (by kernel_rfl) (by kernel_rfl) (by kernel_rfl) (listed' := #[true, false, false, false, false, false, false, false, false, false, false, false, false, false, false, false, false, false, false, false, false, false, false, false, false]) rfl (fun _ _ _ h => h) (fun _ hm => ⟨hm.blkI 0 rfl, hm.fact 0 rfl, hm.fact 1 rfl, hm.fact 2 rfl, hm.fact 3 rfl, trivial⟩) (ov_move rfl) rfl ?_
        refine wa_take 1 rfl (by kernel_rfl) (by kernel_rfl) (by kernel_rfl) (listed' := #[true, true, false, false, false, false, false, false, false, false, false, false, false, false, false, false, false, false, false, false, false, false, false, false, false]) rfl (fun _ _ _ h => h) (fun _ hm => ⟨hm.blkI 0 rfl, hm.fact 0 rfl, hm.fact 1 rfl, hm.fact 2 rfl, hm.fact 3 rfl, trivial⟩) (ov_lss rfl rfl) rfl ?_
        refine wa_set 54 (v' := .bool false) rfl (congrArg Value.bool (decide_eq_false (by omega))) ?_
        refine wa_take 2 rfl (by kernel_rfl) (by kernel_rfl) (by kernel_rfl) (listed' := #[true, true, true, false, false, false, false, false, false, false, false, false, false, false, false, false, false, false, false, false, false, false, false, false, false]) rfl (fun _ _ _ h => h) (fun _ hm => ⟨hm.blkI 0 rfl, hm.fact 0 rfl, hm.fact 1 rfl, hm.fact 2 rfl, hm.fact 3 rfl, trivial⟩) (ov_move rfl) rfl ?_
        refine wa_take_on 3 rfl rfl rfl (by kernel_rfl) (by kernel_rfl) (by kernel_rfl) (listed' := #[true, true, true, true, false, false, false, false, false, false, false, false, false, false, false, false, false, false, false, false, false, false, false, false, false]) rfl (fun _ _ _ h => h) (fun _ hm => ⟨hm.blkI 0 rfl, hm.fact 0 rfl, hm.fact 1 rfl, hm.fact 2 rfl, hm.fact 3 rfl, trivial⟩) (ov_move rfl) rfl ?_
        refine wa_take_on 4 rfl rfl rfl (by kernel_rfl) (by kernel_rfl) (by kernel_rfl) (listed' := #[true, true, true, true, true, false, false, false, false, false, false, false, false, false, false, false, false, false, false, false, false, false, false, false, false]) rfl (fun _ _ _ h => h) (fun _ hm => ⟨hm.blkI 0 rfl, hm.fact 0 rfl, hm.fact 1 rfl, hm.fact 2 rfl, hm.fact 3 rfl, trivial⟩) (ov_move rfl) rfl ?_
        refine wa_take_on 5 rfl rfl rfl (by kernel_rfl) (by kernel_rfl) (by kernel_rfl) (listed' := #[true, true, true, true, true, true, false, false, false, false, false, false, false, false, false, false, false, false, false, false, false, false, false, false, false]) rfl (fun _ _ _ h => h) (fun _ hm => ⟨hm.blkI 0 rfl, hm.fact 0 rfl, hm.fact 1 rfl, hm.fact 2 rfl, hm.fact 3 rfl, trivial⟩) (ov_leq rfl rfl) rfl ?_
        refine wa_set 58 (v' := .bool false) rfl (congrArg Value.bool (decide_eq_false (by omega))) ?_
        refine wa_take 6 rfl (by kernel_rfl) (by kernel_rfl) (by kernel_rfl) (listed' := #[true, true, true, true, true, true, true, false, false, false, false, false, false, false, false, false, false, false, false, false, false, false, false, false, false]) rfl (fun _ _ _ h => h) (fun _ hm => ⟨hm.blkI 0 rfl, hm.fact 0 rfl, hm.fact 1 rfl, hm.fact 2 rfl, hm.fact 3 rfl, trivial⟩) (ov_pick_f rfl rfl) rfl ?_
        refine wa_take 7 rfl (by kernel_rfl) (by kernel_rfl) (by kernel_rfl) (listed' := #[true, true, true, true, true, true, true, true, false, false, false, false, false, false, false, false, false, false, false, false, false, false, false, false, false]) rfl (fun _ _ _ h => h) (fun _ hm => ⟨hm.blkI 0 rfl, hm.fact 0 rfl, hm.fact 1 rfl, hm.fact 2 rfl, hm.fact 3 rfl, trivial⟩) (ov_move rfl) rfl ?_
        refine wa_take_on 8 rfl rfl rfl (by kernel_rfl) (by kernel_rfl) (by kernel_rfl) (listed' := #[true, true, true, true, true, true, true, true, true, false, false, false, false, false, false, false, false, false, false, false, false, false, false, false, false]) rfl (fun _ _ _ h => h) (fun _ hm => ⟨hm.blkI 0 rfl, hm.fact 0 rfl, hm.fact 1 rfl, hm.fact 2 rfl, hm.fact 3 rfl, trivial⟩) (ov_field fo91_2 rfl rfl) rfl ?_
        refine wa_take_on 9 rfl rfl rfl (by kernel_rfl) (by kernel_rfl) (by kernel_rfl) (listed' := #[true, true, true, true, true, true, true, true, true, true, false, false, false, false, false, false, false, false, false, false, false, false, false, false, false]) rfl (fun _ _ _ h => h) (fun _ hm => ⟨hm.blkI 0 rfl, hm.fact 0 rfl, hm.fact 1 rfl, hm.fact 2 rfl, hm.fact 3 rfl, trivial⟩) (ov_load sc3 rfl (fun _ hm => hm.1) rfl) rfl ?_
        refine wa_take_on 10 rfl rfl rfl (by kernel_rfl) (by kernel_rfl) (by kernel_rfl) (listed' := #[true, true, true, true, true, true, true, true, true, true, true, false, false, false, false, false, false, false, false, false, false, false, false, false, false]) rfl (fun _ _ _ h => h) (fun _ hm => ⟨hm.blkI 0 rfl, hm.fact 0 rfl, hm.fact 1 rfl, hm.fact 2 rfl, hm.fact 3 rfl, trivial⟩) (ov_eql rfl rfl) rfl ?_
        refine wa_set 63 (v' := .bool false) rfl (congrArg Value.bool (by decide)) ?_
        refine wa_take_on 11 rfl rfl rfl (by kernel_rfl) (by kernel_rfl) (by kernel_rfl) (listed' := #[true, true, true, true, true, true, true, true, true, true, true, true, false, false, false, false, false, false, false, false, false, false, false, false, false]) rfl (fun _ _ _ h => h) (fun _ hm => ⟨hm.blkI 0 rfl, hm.fact 0 rfl, hm.fact 1 rfl, hm.fact 2 rfl, hm.fact 3 rfl, trivial⟩) (ov_move rfl) rfl ?_
        refine wa_take_off 12 rfl rfl rfl (by decide) (by kernel_rfl) (by kernel_rfl) (by kernel_rfl) (listed' := #[true, true, true, true, true, true, true, true, true, true, true, true, true, false, false, false, false, false, false, false, false, false, false, false, false]) rfl (fun _ _ _ h => h) (fun _ hm => ⟨hm.blkI 0 rfl, hm.fact 0 rfl, hm.fact 1 rfl, hm.fact 2 rfl, hm.fact 3 rfl, trivial⟩) rfl ?_
        refine wa_take_off 13 rfl rfl rfl (by decide) (by kernel_rfl) (by kernel_rfl) (by kernel_rfl) (listed' := #[true, true, true, true, true, true, true, true, true, true, true, true, true, true, false, false, false, false, false, false, false, false, false, false, false]) rfl (fun _ _ _ h => h) (fun _ hm => ⟨hm.blkI 0 rfl, hm.fact 0 rfl, hm.fact 1 rfl, hm.fact 2 rfl, hm.fact 3 rfl, trivial⟩) rfl ?_
        refine wa_take_off 14 rfl rfl rfl (by decide) (by kernel_rfl) (by kernel_rfl) (by kernel_rfl) (listed' := #[true, true, true, true, true, true, true, true, true, true, true, true, true, true, true, false, false, false, false, false, false, false, false, false, false]) rfl (fun _ _ _ h => h) (fun _ hm => ⟨hm.blkI 0 rfl, hm.fact 0 rfl, hm.fact 1 rfl, hm.fact 2 rfl, hm.fact 3 rfl, trivial⟩) rfl ?_
        refine wa_take_off 15 rfl rfl rfl (by decide) (by kernel_rfl) (by kernel_rfl) (by kernel_rfl) (listed' := #[true, true, true, true, true, true, true, true, true, true, true, true, true, true, true, true, false, false, false, false, false, false, false, false, false]) rfl (fun _ _ _ h => h) (fun _ hm => ⟨hm.blkI 0 rfl, hm.fact 0 rfl, hm.fact 1 rfl, hm.fact 2 rfl, hm.fact 3 rfl, trivial⟩) rfl ?_
        refine wa_take_off 16 rfl rfl rfl (by decide) (by kernel_rfl) (by kernel_rfl) (by kernel_rfl) (listed' := #[true, true, true, true, true, true, true, true, true, true, true, true, true, true, true, true, true, false, false, false, false, false, false, false, false]) rfl (fun _ _ _ h => h) (fun _ hm => ⟨hm.blkI 0 rfl, hm.fact 0 rfl, hm.fact 1 rfl, hm.fact 2 rfl, hm.fact 3 rfl, trivial⟩) rfl ?_
        refine wa_take_off 17 rfl rfl rfl (by decide) (by kernel_rfl) (by kernel_rfl) (by kernel_rfl) (listed' := #[true, true, true, true, true, true, true, true, true, true, true, true, true, true, true, true, true, true, false, false, false, false, false, false, false]) rfl (fun _ _ _ h => h) (fun _ hm => ⟨hm.blkI 0 rfl, hm.fact 0 rfl, hm.fact 1 rfl, hm.fact 2 rfl, hm.fact 3 rfl, trivial⟩) rfl ?_
        refine wa_take_off 18 rfl rfl rfl (by decide) (by kernel_rfl) (by kernel_rfl) (by kernel_rfl) (listed' := #[true, true, true, true, true, true, true, true, true, true, true, true, true, true, true, true, true, true, true, false, false, false, false, false, false]) rfl (fun _ _ _ h => h) (fun _ hm => ⟨hm.blkI 0 rfl, hm.fact 0 rfl, hm.fact 1 rfl, hm.fact 2 rfl, hm.fact 3 rfl, trivial⟩) rfl ?_
        refine wa_take_off 19 rfl rfl rfl (by decide) (by kernel_rfl) (by kernel_rfl) (by kernel_rfl) (listed' := #[true, true, true, true, true, true, true, true, true, true, true, true, true, true, true, true, true, true, true, true, false, false, false, false, false]) rfl (fun _ _ _ h => h) (fun _ hm => ⟨hm.blkI 0 rfl, hm.fact 0 rfl, hm.fact 1 rfl, hm.fact 2 rfl, hm.fact 3 rfl, trivial⟩) rfl ?_
        refine wa_take_off 20 rfl rfl rfl (by decide) (by kernel_rfl) (by kernel_rfl) (by kernel_rfl) (listed' := #[true, true, true, true, true, true, true, true, true, true, true, true, true, true, true, true, true, true, true, true, true, false, false, false, false]) rfl (fun _ _ _ h => h) (fun _ hm => ⟨hm.blkI 0 rfl, hm.fact 0 rfl, hm.fact 1 rfl, hm.fact 2 rfl, hm.fact 3 rfl, trivial⟩) rfl ?_
        refine wa_take_off 21 rfl rfl rfl (by decide) (by kernel_rfl) (by kernel_rfl) (by kernel_rfl) (listed' := #[true, true, true, true, true, true, true, true, true, true, true, true, true, true, true, true, true, true, true, true, true, true, false, false, false]) rfl (fun _ _ _ h => h) (fun _ hm => ⟨hm.blkI 0 rfl, hm.fact 0 rfl, hm.fact 1 rfl, hm.fact 2 rfl, hm.fact 3 rfl, trivial⟩) rfl ?_
        refine wa_take_off 22 rfl rfl rfl (by decide) (by kernel_rfl) (by kernel_rfl) (by kernel_rfl) (listed' := #[true, true, true, true, true, true, true, true, true, true, true, true, true, true, true, true, true, true, true, true, true, true, true, false, false]) rfl (fun _ _ _ h => h) (fun _ hm => ⟨hm.blkI 0 rfl, hm.fact 0 rfl, hm.fact 1 rfl, hm.fact 2 rfl, hm.fact 3 rfl, trivial⟩) rfl ?_
        refine wa_take_on 23 rfl rfl rfl (by kernel_rfl) (by kernel_rfl) (by kernel_rfl) (listed' := #[true, true, true, true, true, true, true, true, true, true, true, true, true, true, true, true, true, true, true, true, true, true, true, true, false]) rfl (fun _ _ _ h => h) (fun _ hm => ⟨hm.blkI 0 rfl, hm.fact 0 rfl, hm.fact 1 rfl, hm.fact 2 rfl, hm.fact 3 rfl, trivial⟩) (ov_pick_f rfl rfl) rfl ?_
        refine wa_take 24 rfl (by kernel_rfl) (by kernel_rfl) (by kernel_rfl) (listed' := #[true, true, true, true, true, true, true, true, true, true, true, true, true, true, true, true, true, true, true, true, true, true, true, true, true]) rfl (fun _ _ _ h => h) (fun _ hm => ⟨hm.blkI 0 rfl, hm.fact 0 rfl, hm.fact 1 rfl, hm.fact 2 rfl, hm.fact 3 rfl, trivial⟩) (ov_pick_f rfl rfl) rfl ?_
        refine wa_done (by kernel_rfl) ?_
        refine nx_then ?_
        refine gw_cond rfl (fun hh => by cases hh) (fun _ => ?_)
        refine gw_skip ?_
        refine nx_then ?_
        refine gw_seq ?_
        refine gw_seq ?_
        refine gw_region ?_
        refine wl_ov (ov_field fo91_2 rfl rfl) rfl ?_
        refine wl_ov (ov_load sc3 rfl (fun _ hm => hm.blkI 0 rfl) rfl) rfl ?_
        refine wl_ov (ov_neq rfl rfl) rfl ?_
        refine wl_set 80 (v' := .bool false) rfl (congrArg Value.bool (by decide)) ?_
        refine wl_nil ?_
        refine nx_then ?_
        refine gw_cond rfl (fun hh => by cases hh) (fun _ => ?_)
        refine gw_skip ?_
        refine nx_then ?_
        refine gw_seq ?_
        refine gw_region ?_
        refine wl_ov (ov_assign rfl) rfl ?_
        refine wl_nil ?_
        refine nx_then ?_
        refine gw_seq ?_
        refine gw_seq ?_
        refine gw_region ?_
        refine wl_ov (ov_move rfl) rfl ?_
        refine wl_ov (ov_move rfl) rfl ?_
        refine wl_ov (ov_index (j := i) es84 rfl rfl (by omega)) rfl ?_
        refine wl_ov (ov_field fo95_3 rfl rfl) rfl ?_
        refine wl_ov (ov_elem1 (k := 4) (v := .slice A1 n1 c1) sc93 rfl (fun _ hm => (hm.fact 1 rfl).1) hxi rfl rfl) rfl ?_
        refine wl_ov (ov_len es93 rfl) rfl ?_
        refine wl_ov (ov_move rfl) rfl ?_
        refine wl_nil ?_
        refine nx_then ?_
        refine gw_block ?_
        refine gw_loop (γ := Nat) (fun (v : Nat) => v ≤ n1) (fun (v : Nat) => [(4, .slice (some ⟨bh, oh, none⟩) n c), (6, .int .i64 (hiresE hs)), (8, .pointer (some ⟨g2, 0, none⟩)), (9, .int .i64 ((i : Nat) : Int)), (10, .int .i64 ((j : Nat) : Int)), (11, .bool ((l1.take v).any P)), (41, .slice (some ⟨b2, o2, none⟩) n2 c2), (42, .int .i64 ((n2 : Nat) : Int)), (43, .int .i64 ((u : Nat) : Int)), (85, .slice A1 n1 c1), (86, .int .i64 ((n1 : Nat) : Int)), (87, .int .i64 ((v : Nat) : Int))]) (fun (v : Nat) => fun _ => True) (fun (v : Nat) => [(g2, 91, [.string k1, .string k3, .int .i64 1, .int .i64 mo])]) (fun (v : Nat) => []) (fun (v : Nat) => [SlOld lgEnc 9 100 w2.heap.size none A1 n1 l1, SlOld hsEnc 5 95 w2.heap.size none (some ⟨bh, oh, none⟩) n hs, LegsOld w2.heap.size none hs, SlOld clEnc 4 91 w2.heap.size none (some ⟨b2, o2, none⟩) n2 CLS]) (fun (v : Nat) => n1 - v) 0 (Nat.zero_le _) ⟨rfl, rfl, rfl, rfl, rfl, rfl, rfl, rfl, rfl, rfl, rfl, rfl, trivial⟩ (fun _ hm => hm.pick [0] [] [0, 1, 2, 3] rfl rfl) ?_
        intro v hinv
        replace hinv : v ≤ n1 := hinv
        refine gw_seq ?_
        refine gw_region ?_
        refine wl_ov (ov_lss rfl rfl) rfl ?_
        refine wl_nil ?_
        refine nx_then ?_
        refine gw_seq ?_
        refine gw_cond rfl (fun hh => ?_) (fun hh => ?_)
        · have hv : ((v : Nat) : Int) < ((n1 : Nat) : Int) := by simpa using hh
          clear hh
          refine gw_skip ?_
          refine nx_then ?_
          refine gw_seq ?_
          refine gw_block ?_
          refine gw_seq ?_
          refine gw_region ?_
          obtain ⟨b4, o4, hA, _, _⟩ := hl1.get (by omega)
          subst hA
          obtain ⟨y, hy⟩ : ∃ x, l1[v]? = some x := ⟨_, List.getElem?_eq_getElem (by omega)⟩
          obtain ⟨gv, ⟨oa, os, om, of⟩, ⟨ia, is_, im, if_⟩⟩ := y
          have hat := any_take (p := P) hy
          have hgv : keyB gv = true := hvk _ (List.mem_of_getElem? hy)
          have hgz : gv.size ≤ 1000000 := (hho.2.2 _ (List.mem_of_getElem? hy)).1
          obtain ⟨B1, hB1⟩ : ∃ b, b = l1.any (legAt gv mo) := ⟨_, rfl⟩
          obtain ⟨B3, hB3⟩ : ∃ b, b = l3.any (legAt gv mo) := ⟨_, rfl⟩
          obtain ⟨S1, hS1⟩ : ∃ x, x = (withV gv mo [⟨k1, d1, f1, t1, some ⟨b4, o4, none⟩, n1, c1, l1⟩]).1 := ⟨_, rfl⟩
          obtain ⟨S3, hS3⟩ : ∃ x, x = (withV gv mo [⟨k3, d3, f3, t3, A3, n3, c3, l3⟩]).1 := ⟨_, rfl⟩
          have hPx : P ⟨gv, ⟨oa, os, om, of⟩, ⟨ia, is_, im, if_⟩⟩ = (B1 && B3) := by rw [hP, hB1, hB3]; rfl
          refine wl_ov (ov_index (j := v) es93 rfl rfl (by omega)) rfl ?_
          refine wl_ov (ov_elem (vs := [.string gv, .int .i64 oa, .string os, .int .i64 om, .int .i64 of, .int .i64 ia, .string is_, .int .i64 im, .int .i64 if_]) rz100 rfl (fun _ hm => (hm.fact 0 rfl).1) hy rfl rfl) rfl ?_
          refine wl_alloc zc100 rfl fun g3 => ?_
          refine wl_stores (cs' := [.string gv, .int .i64 oa, .string os, .int .i64 om, .int .i64 of, .int .i64 ia, .string is_, .int .i64 im, .int .i64 if_]) 0 rz100 rfl rfl rfl rfl rfl rfl rfl rfl ?_
          refine wl_nil ?_
          refine nx_then ?_
          refine gw_seq ?_
          refine gw_draw (fun wz => Blk wz g3 100 [.string gv, .int .i64 oa, .string os, .int .i64 om, .int .i64 of, .int .i64 ia, .string is_, .int .i64 im, .int .i64 if_] ∧ Blk wz g2 91 [.string k1, .string k3, .int .i64 1, .int .i64 mo] ∧ (SlOld lgEnc 9 100 w2.heap.size none (some ⟨b4, o4, none⟩) n1 l1) wz ∧ (SlOld hsEnc 5 95 w2.heap.size none (some ⟨bh, oh, none⟩) n hs) wz ∧ (LegsOld w2.heap.size none hs) wz ∧ (SlOld clEnc 4 91 w2.heap.size none (some ⟨b2, o2, none⟩) n2 CLS) wz ∧ True) mixed ?_
          refine wa_take 0 rfl (by kernel_rfl) (by kernel_rfl) (by kernel_rfl) (listed' := #[true, false, false, false, false, false, false, false, false, false, false, false, false, false, false, false, false]) rfl (fun _ _ _ h => h) (fun _ hm => ⟨hm.blkI 0 rfl, hm.blkI 1 rfl, hm.fact 0 rfl, hm.fact 1 rfl, hm.fact 2 rfl, hm.fact 3 rfl, trivial⟩) (ov_move rfl) rfl ?_
          refine wa_take 1 rfl (by kernel_rfl) (by kernel_rfl) (by kernel_rfl) (listed' := #[true, true, false, false, false, false, false, false, false, false, false, false, false, false, false, false, false]) rfl (fun _ _ _ h => h) (fun _ hm => ⟨hm.blkI 0 rfl, hm.blkI 1 rfl, hm.fact 0 rfl, hm.fact 1 rfl, hm.fact 2 rfl, hm.fact 3 rfl, trivial⟩) (ov_move rfl) rfl ?_
          refine wa_take 2 rfl (by kernel_rfl) (by kernel_rfl) (by kernel_rfl) (listed' := #[true, true, true, false, false, false, false, false, false, false, false, false, false, false, false, false, false]) rfl (fun _ _ _ h => h) (fun _ hm => ⟨hm.blkI 0 rfl, hm.blkI 1 rfl, hm.fact 0 rfl, hm.fact 1 rfl, hm.fact 2 rfl, hm.fact 3 rfl, trivial⟩) (ov_move rfl) rfl ?_
          refine wa_take 3 rfl (by kernel_rfl) (by kernel_rfl) (by kernel_rfl) (listed' := #[true, true, true, true, false, false, false, false, false, false, false, false, false, false, false, false, false]) rfl (fun _ _ _ h => h) (fun _ hm => ⟨hm.blkI 0 rfl, hm.blkI 1 rfl, hm.fact 0 rfl, hm.fact 1 rfl, hm.fact 2 rfl, hm.fact 3 rfl, trivial⟩) (ov_add rfl rfl (by omega) (by omega)) rfl ?_
          refine wa_set 95 (v' := .int .i64 ((i + 1 : Nat) : Int)) rfl (congrArg (Value.int .i64) (by omega)) ?_
          refine wa_take 4 rfl (by kernel_rfl) (by kernel_rfl) (by kernel_rfl) (listed' := #[true, true, true, true, true, false, false, false, false, false, false, false, false, false, false, false, false]) rfl (fun _ _ _ h => h) (fun _ hm => ⟨hm.blkI 0 rfl, hm.blkI 1 rfl, hm.fact 0 rfl, hm.fact 1 rfl, hm.fact 2 rfl, hm.fact 3 rfl, trivial⟩) (ov_sliceLH (lo := i) (hi := i + 1) es84 rfl rfl rfl rfl rfl (by omega) (by omega)) rfl ?_
          refine wa_take 5 rfl (by kernel_rfl) (by kernel_rfl) (by kernel_rfl) (listed' := #[true, true, true, true, true, true, false, false, false, false, false, false, false, false, false, false, false]) rfl (fun _ _ _ h => h) (fun _ hm => ⟨hm.blkI 0 rfl, hm.blkI 1 rfl, hm.fact 0 rfl, hm.fact 1 rfl, hm.fact 2 rfl, hm.fact 3 rfl, trivial⟩) (ov_field fo100_0 rfl rfl) rfl ?_
          refine wa_take 6 rfl (by kernel_rfl) (by kernel_rfl) (by kernel_rfl) (listed' := #[true, true, true, true, true, true, true, false, false, false, false, false, false, false, false, false, false]) rfl (fun _ _ _ h => h) (fun _ hm => ⟨hm.blkI 0 rfl, hm.blkI 1 rfl, hm.fact 0 rfl, hm.fact 1 rfl, hm.fact 2 rfl, hm.fact 3 rfl, trivial⟩) (ov_load sc9 rfl (fun _ hm => hm.1) rfl) rfl ?_
          refine wa_take 7 rfl (by kernel_rfl) (by kernel_rfl) (by kernel_rfl) (listed' := #[true, true, true, true, true, true, true, true, false, false, false, false, false, false, false, false, false]) rfl (fun _ _ _ h => h) (fun _ hm => ⟨hm.blkI 0 rfl, hm.blkI 1 rfl, hm.fact 0 rfl, hm.fact 1 rfl, hm.fact 2 rfl, hm.fact 3 rfl, trivial⟩) (ov_field fo91_3 rfl rfl) rfl ?_
          refine wa_take 8 rfl (by kernel_rfl) (by kernel_rfl) (by kernel_rfl) (listed' := #[true, true, true, true, true, true, true, true, true, false, false, false, false, false, false, false, false]) rfl (fun _ _ _ h => h) (fun _ hm => ⟨hm.blkI 0 rfl, hm.blkI 1 rfl, hm.fact 0 rfl, hm.fact 1 rfl, hm.fact 2 rfl, hm.fact 3 rfl, trivial⟩) (ov_load sc3 rfl (fun _ hm => hm.2.1) rfl) rfl ?_
          refine wa_all [9] (by kernel_rfl) rfl ⟨⟨_, rfl, ?_⟩, trivial⟩
          refine wl_callv (v := .tuple #[.string S1, .bool B1, .int .i64 0]) rfl cb57 rfl rfl (fun wx hm => (by have h := with_one (i := i) (v := gv) (mo := mo) (hm.fact 1 rfl).1 hnc (by omega) hxi (OnsLegs (hm.fact 2 rfl)) hok h1ok hgv hgz ⟨hm0, hm1⟩; rw [← hS1] at h; rw [show Hs.legs _ = _ from rfl, ← hB1] at h; exact h)) ?_
          refine wl_nil ?_
          refine nx_wa0 (listed' := #[true, true, true, true, true, true, true, true, true, true, false, false, false, false, false, false, false]) rfl (fun _ hm => ⟨hm.blkI 0 rfl, hm.blkI 1 rfl, hm.fact 0 rfl, hm.fact 1 rfl, hm.fact 2 rfl, hm.fact 3 rfl, trivial⟩) ?_
          refine wa_take 10 rfl (by kernel_rfl) (by kernel_rfl) (by kernel_rfl) (listed' := #[true, true, true, true, true, true, true, true, true, true, true, false, false, false, false, false, false]) rfl (fun _ _ _ h => h) (fun _ hm => ⟨hm.blkI 0 rfl, hm.blkI 1 rfl, hm.fact 0 rfl, hm.fact 1 rfl, hm.fact 2 rfl, hm.fact 3 rfl, trivial⟩) (ov_move rfl) rfl ?_
          refine wa_take 11 rfl (by kernel_rfl) (by kernel_rfl) (by kernel_rfl) (listed' := #[true, true, true, true, true, true, true, true, true, true, true, true, false, false, false, false, false]) rfl (fun _ _ _ h => h) (fun _ hm => ⟨hm.blkI 0 rfl, hm.blkI 1 rfl, hm.fact 0 rfl, hm.fact 1 rfl, hm.fact 2 rfl, hm.fact 3 rfl, trivial⟩) (ov_extract rfl rfl) rfl ?_
          refine wa_take 12 rfl (by kernel_rfl) (by kernel_rfl) (by kernel_rfl) (listed' := #[true, true, true, true, true, true, true, true, true, true, true, true, true, false, false, false, false]) rfl (fun _ _ _ h => h) (fun _ hm => ⟨hm.blkI 0 rfl, hm.blkI 1 rfl, hm.fact 0 rfl, hm.fact 1 rfl, hm.fact 2 rfl, hm.fact 3 rfl, trivial⟩) (ov_extract rfl rfl) rfl ?_
          refine wa_take 13 rfl (by kernel_rfl) (by kernel_rfl) (by kernel_rfl) (listed' := #[true, true, true, true, true, true, true, true, true, true, true, true, true, true, false, false, false]) rfl (fun _ _ _ h => h) (fun _ hm => ⟨hm.blkI 0 rfl, hm.blkI 1 rfl, hm.fact 0 rfl, hm.fact 1 rfl, hm.fact 2 rfl, hm.fact 3 rfl, trivial⟩) (ov_extract rfl rfl) rfl ?_
          refine wa_take 14 rfl (by kernel_rfl) (by kernel_rfl) (by kernel_rfl) (listed' := #[true, true, true, true, true, true, true, true, true, true, true, true, true, true, true, false, false]) rfl (fun _ _ _ h => h) (fun _ hm => ⟨hm.blkI 0 rfl, hm.blkI 1 rfl, hm.fact 0 rfl, hm.fact 1 rfl, hm.fact 2 rfl, hm.fact 3 rfl, trivial⟩) (ov_assign rfl) rfl ?_
          refine wa_take 15 rfl (by kernel_rfl) (by kernel_rfl) (by kernel_rfl) (listed' := #[true, true, true, true, true, true, true, true, true, true, true, true, true, true, true, true, false]) rfl (fun _ _ _ h => h) (fun _ hm => ⟨hm.blkI 0 rfl, hm.blkI 1 rfl, hm.fact 0 rfl, hm.fact 1 rfl, hm.fact 2 rfl, hm.fact 3 rfl, trivial⟩) (ov_assign rfl) rfl ?_
          refine wa_take 16 rfl (by kernel_rfl) (by kernel_rfl) (by kernel_rfl) (listed' := #[true, true, true, true, true, true, true, true, true, true, true, true, true, true, true, true, true]) rfl (fun _ _ _ h => h) (fun _ hm => ⟨hm.blkI 0 rfl, hm.blkI 1 rfl, hm.fact 0 rfl, hm.fact 1 rfl, hm.fact 2 rfl, hm.fact 3 rfl, trivial⟩) (ov_assign rfl) rfl ?_
          refine wa_done (by kernel_rfl) ?_
          refine nx_then ?_
          refine gw_seq ?_
          refine gw_draw (fun wz => Blk wz g3 100 [.string gv, .int .i64 oa, .string os, .int .i64 om, .int .i64 of, .int .i64 ia, .string is_, .int .i64 im, .int .i64 if_] ∧ Blk wz g2 91 [.string k1, .string k3, .int .i64 1, .int .i64 mo] ∧ (SlOld lgEnc 9 100 w2.heap.size none (some ⟨b4, o4, none⟩) n1 l1) wz ∧ (SlOld hsEnc 5 95 w2.heap.size none (some ⟨bh, oh, none⟩) n hs) wz ∧ (LegsOld w2.heap.size none hs) wz ∧ (SlOld clEnc 4 91 w2.heap.size none (some ⟨b2, o2, none⟩) n2 CLS) wz ∧ True) mixed ?_
          refine wa_take 0 rfl (by kernel_rfl) (by kernel_rfl) (by kernel_rfl) (listed' := #[true, false, false, false, false, false, false, false, false, false, false, false, false, false, false, false, false]) rfl (fun _ _ _ h => h) (fun _ hm => ⟨hm.blkI 0 rfl, hm.blkI 1 rfl, hm.fact 0 rfl, hm.fact 1 rfl, hm.fact 2 rfl, hm.fact 3 rfl, trivial⟩) (ov_move rfl) rfl ?_
          refine wa_take 1 rfl (by kernel_rfl) (by kernel_rfl) (by kernel_rfl) (listed' := #[true, true, false, false, false, false, false, false, false, false, false, false, false, false, false, false, false]) rfl (fun _ _ _ h => h) (fun _ hm => ⟨hm.blkI 0 rfl, hm.blkI 1 rfl, hm.fact 0 rfl, hm.fact 1 rfl, hm.fact 2 rfl, hm.fact 3 rfl, trivial⟩) (ov_move rfl) rfl ?_
          refine wa_take 2 rfl (by kernel_rfl) (by kernel_rfl) (by kernel_rfl) (listed' := #[true, true, true, false, false, false, false, false, false, false, false, false, false, false, false, false, false]) rfl (fun _ _ _ h => h) (fun _ hm => ⟨hm.blkI 0 rfl, hm.blkI 1 rfl, hm.fact 0 rfl, hm.fact 1 rfl, hm.fact 2 rfl, hm.fact 3 rfl, trivial⟩) (ov_move rfl) rfl ?_
          refine wa_take 3 rfl (by kernel_rfl) (by kernel_rfl) (by kernel_rfl) (listed' := #[true, true, true, true, false, false, false, false, false, false, false, false, false, false, false, false, false]) rfl (fun _ _ _ h => h) (fun _ hm => ⟨hm.blkI 0 rfl, hm.blkI 1 rfl, hm.fact 0 rfl, hm.fact 1 rfl, hm.fact 2 rfl, hm.fact 3 rfl, trivial⟩) (ov_add rfl rfl (by omega) (by omega)) rfl ?_
          refine wa_set 109 (v' := .int .i64 ((j + 1 : Nat) : Int)) rfl (congrArg (Value.int .i64) (by omega)) ?_
          refine wa_take 4 rfl (by kernel_rfl) (by kernel_rfl) (by kernel_rfl) (listed' := #[true, true, true, true, true, false, false, false, false, false, false, false, false, false, false, false, false]) rfl (fun _ _ _ h => h) (fun _ hm => ⟨hm.blkI 0 rfl, hm.blkI 1 rfl, hm.fact 0 rfl, hm.fact 1 rfl, hm.fact 2 rfl, hm.fact 3 rfl, trivial⟩) (ov_sliceLH (lo := j) (hi := j + 1) es84 rfl rfl rfl rfl rfl (by omega) (by omega)) rfl ?_
          refine wa_take 5 rfl (by kernel_rfl) (by kernel_rfl) (by kernel_rfl) (listed' := #[true, true, true, true, true, true, false, false, false, false, false, false, false, false, false, false, false]) rfl (fun _ _ _ h => h) (fun _ hm => ⟨hm.blkI 0 rfl, hm.blkI 1 rfl, hm.fact 0 rfl, hm.fact 1 rfl, hm.fact 2 rfl, hm.fact 3 rfl, trivial⟩) (ov_field fo100_0 rfl rfl) rfl ?_
          refine wa_take 6 rfl (by kernel_rfl) (by kernel_rfl) (by kernel_rfl) (listed' := #[true, true, true, true, true, true, true, false, false, false, false, false, false, false, false, false, false]) rfl (fun _ _ _ h => h) (fun _ hm => ⟨hm.blkI 0 rfl, hm.blkI 1 rfl, hm.fact 0 rfl, hm.fact 1 rfl, hm.fact 2 rfl, hm.fact 3 rfl, trivial⟩) (ov_load sc9 rfl (fun _ hm => hm.1) rfl) rfl ?_
          refine wa_take 7 rfl (by kernel_rfl) (by kernel_rfl) (by kernel_rfl) (listed' := #[true, true, true, true, true, true, true, true, false, false, false, false, false, false, false, false, false]) rfl (fun _ _ _ h => h) (fun _ hm => ⟨hm.blkI 0 rfl, hm.blkI 1 rfl, hm.fact 0 rfl, hm.fact 1 rfl, hm.fact 2 rfl, hm.fact 3 rfl, trivial⟩) (ov_field fo91_3 rfl rfl) rfl ?_
          refine wa_take 8 rfl (by kernel_rfl) (by kernel_rfl) (by kernel_rfl) (listed' := #[true, true, true, true, true, true, true, true, true, false, false, false, false, false, false, false, false]) rfl (fun _ _ _ h => h) (fun _ hm => ⟨hm.blkI 0 rfl, hm.blkI 1 rfl, hm.fact 0 rfl, hm.fact 1 rfl, hm.fact 2 rfl, hm.fact 3 rfl, trivial⟩) (ov_load sc3 rfl (fun _ hm => hm.2.1) rfl) rfl ?_
          refine wa_all [9] (by kernel_rfl) rfl ⟨⟨_, rfl, ?_⟩, trivial⟩
          refine wl_callv (v := .tuple #[.string S3, .bool B3, .int .i64 0]) rfl cb57 rfl rfl (fun wx hm => (by have h := with_one (i := j) (v := gv) (mo := mo) (hm.fact 1 rfl).1 hnc (by omega) hxj (OnsLegs (hm.fact 2 rfl)) hok h3ok hgv hgz ⟨hm0, hm1⟩; rw [← hS3] at h; rw [show Hs.legs _ = _ from rfl, ← hB3] at h; exact h)) ?_
          refine wl_nil ?_
          refine nx_wa0 (listed' := #[true, true, true, true, true, true, true, true, true, true, false, false, false, false, false, false, false]) rfl (fun _ hm => ⟨hm.blkI 0 rfl, hm.blkI 1 rfl, hm.fact 0 rfl, hm.fact 1 rfl, hm.fact 2 rfl, hm.fact 3 rfl, trivial⟩) ?_
          refine wa_take 10 rfl (by kernel_rfl) (by kernel_rfl) (by kernel_rfl) (listed' := #[true, true, true, true, true, true, true, true, true, true, true, false, false, false, false, false, false]) rfl (fun _ _ _ h => h) (fun _ hm => ⟨hm.blkI 0 rfl, hm.blkI 1 rfl, hm.fact 0 rfl, hm.fact 1 rfl, hm.fact 2 rfl, hm.fact 3 rfl, trivial⟩) (ov_move rfl) rfl ?_
          refine wa_take 11 rfl (by kernel_rfl) (by kernel_rfl) (by kernel_rfl) (listed' := #[true, true, true, true, true, true, true, true, true, true, true, true, false, false, false, false, false]) rfl (fun _ _ _ h => h) (fun _ hm => ⟨hm.blkI 0 rfl, hm.blkI 1 rfl, hm.fact 0 rfl, hm.fact 1 rfl, hm.fact 2 rfl, hm.fact 3 rfl, trivial⟩) (ov_extract rfl rfl) rfl ?_
          refine wa_take 12 rfl (by kernel_rfl) (by kernel_rfl) (by kernel_rfl) (listed' := #[true, true, true, true, true, true, true, true, true, true, true, true, true, false, false, false, false]) rfl (fun _ _ _ h => h) (fun _ hm => ⟨hm.blkI 0 rfl, hm.blkI 1 rfl, hm.fact 0 rfl, hm.fact 1 rfl, hm.fact 2 rfl, hm.fact 3 rfl, trivial⟩) (ov_extract rfl rfl) rfl ?_
          refine wa_take 13 rfl (by kernel_rfl) (by kernel_rfl) (by kernel_rfl) (listed' := #[true, true, true, true, true, true, true, true, true, true, true, true, true, true, false, false, false]) rfl (fun _ _ _ h => h) (fun _ hm => ⟨hm.blkI 0 rfl, hm.blkI 1 rfl, hm.fact 0 rfl, hm.fact 1 rfl, hm.fact 2 rfl, hm.fact 3 rfl, trivial⟩) (ov_extract rfl rfl) rfl ?_
          refine wa_take 14 rfl (by kernel_rfl) (by kernel_rfl) (by kernel_rfl) (listed' := #[true, true, true, true, true, true, true, true, true, true, true, true, true, true, true, false, false]) rfl (fun _ _ _ h => h) (fun _ hm => ⟨hm.blkI 0 rfl, hm.blkI 1 rfl, hm.fact 0 rfl, hm.fact 1 rfl, hm.fact 2 rfl, hm.fact 3 rfl, trivial⟩) (ov_assign rfl) rfl ?_
          refine wa_take 15 rfl (by kernel_rfl) (by kernel_rfl) (by kernel_rfl) (listed' := #[true, true, true, true, true, true, true, true, true, true, true, true, true, true, true, true, false]) rfl (fun _ _ _ h => h) (fun _ hm => ⟨hm.blkI 0 rfl, hm.blkI 1 rfl, hm.fact 0 rfl, hm.fact 1 rfl, hm.fact 2 rfl, hm.fact 3 rfl, trivial⟩) (ov_assign rfl) rfl ?_
          refine wa_take 16 rfl (by kernel_rfl) (by kernel_rfl) (by kernel_rfl) (listed' := #[true, true, true, true, true, true, true, true, true, true, true, true, true, true, true, true, true]) rfl (fun _ _ _ h => h) (fun _ hm => ⟨hm.blkI 0 rfl, hm.blkI 1 rfl, hm.fact 0 rfl, hm.fact 1 rfl, hm.fact 2 rfl, hm.fact 3 rfl, trivial⟩) (ov_assign rfl) rfl ?_
          refine wa_done (by kernel_rfl) ?_
          refine nx_then ?_
          refine gw_region ?_
          refine wl_ov (ov_move rfl) rfl ?_
          refine wl_ov (ov_move rfl) rfl ?_
          rcases Bool.eq_false_or_eq_true ((l1.take v).any P) with h1 | h1
          · refine wl_set 120 rfl (congrArg Value.bool h1) ?_
            refine wl_guard_off rfl rfl rfl (by decide) rfl ?_
            refine wl_guard_off rfl rfl rfl (by decide) rfl ?_
            refine wl_guard_undef rfl rfl rfl rfl ?_
            refine wl_guard_off rfl rfl rfl (by decide) rfl ?_
            refine wl_guard_off rfl rfl rfl (by decide) rfl ?_
            refine wl_guard_undef rfl rfl rfl rfl ?_
            refine wl_guard_undef rfl rfl rfl rfl ?_
            refine wl_guard_undef rfl rfl rfl rfl ?_
            refine wl_guard_undef rfl rfl rfl rfl ?_
            refine wl_guard_off rfl rfl rfl (by decide) rfl ?_
            refine wl_guard_off rfl rfl rfl (by decide) rfl ?_
            refine wl_guard_undef rfl rfl rfl rfl ?_
            refine wl_guard_undef rfl rfl rfl rfl ?_
            refine wl_guard_undef rfl rfl rfl rfl ?_
            refine wl_guard_undef rfl rfl rfl rfl ?_
            refine wl_guard_off rfl rfl rfl (by decide) rfl ?_
            refine wl_ov (ov_pick_t rfl rfl) rfl ?_
            refine wl_ov (ov_assign rfl) rfl ?_
            refine wl_nil ?_
            refine nx_blk_nrm ?_
            refine nx_then ?_
            refine gw_region ?_
            refine wl_ov (ov_add rfl rfl (by omega) (by omega)) rfl ?_
            refine wl_ov (ov_move rfl) rfl ?_
            refine wl_nil ?_
            exact nx_round (v + 1) (by omega) (by omega) ⟨rfl, rfl, rfl, rfl, rfl, (some_b (by rw [hat, h1, Bool.true_or])), rfl, rfl, rfl, rfl, rfl, (some_int (by omega)), trivial⟩ (fun _ hm => hm.pick [1] [] [0, 1, 2, 3] rfl rfl)
          · refine wl_set 120 rfl (congrArg Value.bool h1) ?_
            refine wl_guard_on rfl rfl rfl ?_
            refine wl_ov (ov_move rfl) rfl ?_
            refine wl_guard_on rfl rfl rfl ?_
            refine wl_ov (ov_move rfl) rfl ?_
            rcases Bool.eq_false_or_eq_true B1 with h2 | h2
            · refine wl_set 122 rfl (congrArg Value.bool h2) ?_
              refine wl_guard_on rfl rfl rfl ?_
              refine wl_ov (ov_move rfl) rfl ?_
              refine wl_guard_on rfl rfl rfl ?_
              refine wl_ov (ov_pick_t rfl rfl) rfl ?_
              refine wl_guard_on rfl rfl rfl ?_
              refine wl_ov (ov_move rfl) rfl ?_
              rcases Bool.eq_false_or_eq_true B3 with h3 | h3
              · refine wl_set 125 rfl (congrArg Value.bool h3) ?_
                have hs1 : S1 = k1 := by rw [hS1]; exact (one_withV _ gv mo).2 (by rw [← h2, hB1])
                have hs3 : S3 = k3 := by rw [hS3]; exact (one_withV _ gv mo).2 (by rw [← h3, hB3])
                refine wl_set 14 (v' := .string k1) rfl (congrArg Value.string hs1) ?_
                refine wl_set 17 (v' := .string k3) rfl (congrArg Value.string hs3) ?_
                refine wl_guard_on rfl rfl rfl ?_
                refine wl_ov (ov_move rfl) rfl ?_
                refine wl_guard_on rfl rfl rfl ?_
                refine wl_ov (ov_field fo91_0 rfl rfl) rfl ?_
                refine wl_guard_on rfl rfl rfl ?_
                refine wl_ov (ov_load sc9 rfl (fun _ hm => hm.blkI 1 rfl) rfl) rfl ?_
                refine wl_guard_on rfl rfl rfl ?_
                refine wl_ov (ov_seql rfl rfl) rfl ?_
                refine wl_set 129 (v' := .bool true) rfl (congrArg Value.bool (beq_self_eq_true _)) ?_
                refine wl_guard_on rfl rfl rfl ?_
                refine wl_ov (ov_pick_t rfl rfl) rfl ?_
                refine wl_guard_on rfl rfl rfl ?_
                refine wl_ov (ov_move rfl) rfl ?_
                refine wl_guard_on rfl rfl rfl ?_
                refine wl_ov (ov_move rfl) rfl ?_
                refine wl_guard_on rfl rfl rfl ?_
                refine wl_ov (ov_field fo91_1 rfl rfl) rfl ?_
                refine wl_guard_on rfl rfl rfl ?_
                refine wl_ov (ov_load sc9 rfl (fun _ hm => hm.blkI 1 rfl) rfl) rfl ?_
                refine wl_guard_on rfl rfl rfl ?_
                refine wl_ov (ov_seql rfl rfl) rfl ?_
                refine wl_set 135 (v' := .bool true) rfl (congrArg Value.bool (beq_self_eq_true _)) ?_
                refine wl_guard_on rfl rfl rfl ?_
                refine wl_ov (ov_pick_t rfl rfl) rfl ?_
                refine wl_ov (ov_pick_f rfl rfl) rfl ?_
                refine wl_ov (ov_assign rfl) rfl ?_
                refine wl_nil ?_
                refine nx_blk_nrm ?_
                refine nx_then ?_
                refine gw_region ?_
                refine wl_ov (ov_add rfl rfl (by omega) (by omega)) rfl ?_
                refine wl_ov (ov_move rfl) rfl ?_
                refine wl_nil ?_
                exact nx_round (v + 1) (by omega) (by omega) ⟨rfl, rfl, rfl, rfl, rfl, (some_b (by rw [hat, h1, hPx, h2, h3, Bool.and_self, Bool.false_or])), rfl, rfl, rfl, rfl, rfl, (some_int (by omega)), trivial⟩ (fun _ hm => hm.pick [1] [] [0, 1, 2, 3] rfl rfl)
              · refine wl_set 125 rfl (congrArg Value.bool h3) ?_
                refine wl_guard_off rfl rfl rfl (by decide) rfl ?_
                refine wl_guard_off rfl rfl rfl (by decide) rfl ?_
                refine wl_guard_off rfl rfl rfl (by decide) rfl ?_
                refine wl_guard_off rfl rfl rfl (by decide) rfl ?_
                refine wl_guard_on rfl rfl rfl ?_
                refine wl_ov (ov_pick_f rfl rfl) rfl ?_
                refine wl_guard_on rfl rfl rfl ?_
                refine wl_ov (ov_move rfl) rfl ?_
                refine wl_guard_off rfl rfl rfl (by decide) rfl ?_
                refine wl_guard_off rfl rfl rfl (by decide) rfl ?_
                refine wl_guard_off rfl rfl rfl (by decide) rfl ?_
                refine wl_guard_off rfl rfl rfl (by decide) rfl ?_
                refine wl_guard_on rfl rfl rfl ?_
                refine wl_ov (ov_pick_f rfl rfl) rfl ?_
                refine wl_ov (ov_pick_f rfl rfl) rfl ?_
                refine wl_ov (ov_assign rfl) rfl ?_
                refine wl_nil ?_
                refine nx_blk_nrm ?_
                refine nx_then ?_
                refine gw_region ?_
                refine wl_ov (ov_add rfl rfl (by omega) (by omega)) rfl ?_
                refine wl_ov (ov_move rfl) rfl ?_
                refine wl_nil ?_
                exact nx_round (v + 1) (by omega) (by omega) ⟨rfl, rfl, rfl, rfl, rfl, (some_b (by rw [hat, h1, hPx, h2, h3, Bool.and_false, Bool.false_or])), rfl, rfl, rfl, rfl, rfl, (some_int (by omega)), trivial⟩ (fun _ hm => hm.pick [1] [] [0, 1, 2, 3] rfl rfl)
            · refine wl_set 122 rfl (congrArg Value.bool h2) ?_
              refine wl_guard_off rfl rfl rfl (by decide) rfl ?_
              refine wl_guard_on rfl rfl rfl ?_
              refine wl_ov (ov_pick_f rfl rfl) rfl ?_
              refine wl_guard_on rfl rfl rfl ?_
              refine wl_ov (ov_move rfl) rfl ?_
              refine wl_guard_off rfl rfl rfl (by decide) rfl ?_
              refine wl_guard_off rfl rfl rfl (by decide) rfl ?_
              refine wl_guard_off rfl rfl rfl (by decide) rfl ?_
              refine wl_guard_off rfl rfl rfl (by decide) rfl ?_
              refine wl_guard_on rfl rfl rfl ?_
              refine wl_ov (ov_pick_f rfl rfl) rfl ?_
              refine wl_guard_on rfl rfl rfl ?_
              refine wl_ov (ov_move rfl) rfl ?_
              refine wl_guard_off rfl rfl rfl (by decide) rfl ?_
              refine wl_guard_off rfl rfl rfl (by decide) rfl ?_
              refine wl_guard_off rfl rfl rfl (by decide) rfl ?_
              refine wl_guard_off rfl rfl rfl (by decide) rfl ?_
              refine wl_guard_on rfl rfl rfl ?_
              refine wl_ov (ov_pick_f rfl rfl) rfl ?_
              refine wl_ov (ov_pick_f rfl rfl) rfl ?_
              refine wl_ov (ov_assign rfl) rfl ?_
              refine wl_nil ?_
              refine nx_blk_nrm ?_
              refine nx_then ?_
              refine gw_region ?_
              refine wl_ov (ov_add rfl rfl (by omega) (by omega)) rfl ?_
              refine wl_ov (ov_move rfl) rfl ?_
              refine wl_nil ?_
              exact nx_round (v + 1) (by omega) (by omega) ⟨rfl, rfl, rfl, rfl, rfl, (some_b (by rw [hat, h1, hPx, h2, Bool.false_and, Bool.false_or])), rfl, rfl, rfl, rfl, rfl, (some_int (by omega)), trivial⟩ (fun _ hm => hm.pick [1] [] [0, 1, 2, 3] rfl rfl)
        · have hv : ¬ (((v : Nat) : Int) < ((n1 : Nat) : Int)) := by simpa using hh
          clear hh
          refine gw_exit ?_
          refine nx_then_exit ?_
          refine nx_then_exit ?_
          refine nx_blk_here ?_
          refine nx_then ?_
          refine gw_seq ?_
          refine gw_region ?_
          have hall : l1.take v = l1 := List.take_of_length_le (by omega)
          refine wl_set 11 (v' := .bool true) rfl (congrArg Value.bool (by rw [hall]; exact hany)) ?_
          refine wl_ov (ov_move rfl) rfl ?_
          refine wl_ov (ov_un_not rfl) rfl ?_
          refine wl_set 140 (v' := .bool false) rfl (congrArg Value.bool (by decide)) ?_
          refine wl_nil ?_
          refine nx_then ?_
          refine gw_cond rfl (fun hh => by cases hh) (fun _ => ?_)
          refine gw_skip ?_
          refine nx_blk_nrm ?_
          refine nx_then ?_
          refine gw_region ?_
          refine wl_ov (ov_add rfl rfl (by omega) (by omega)) rfl ?_
          refine wl_ov (ov_move rfl) rfl ?_
          refine wl_nil ?_
          exact nx_round (u + 1) (by omega) (by omega) ⟨rfl, rfl, rfl, rfl, (some_int (by omega)), trivial⟩ (fun _ hm => hm.pick [] [] [1, 2, 3] rfl rfl)
      · refine wl_ov (ov_assign rfl) rfl ?_
        refine wl_nil ?_
        refine nx_then ?_
        refine gw_seq ?_
        refine gw_seq ?_
        refine gw_draw (fun wz => Blk wz g2 91 [.string k1, .string k3, .int .i64 2, .int .i64 mo] ∧ (SlOld hsEnc 5 95 w2.heap.size none (some ⟨bh, oh, none⟩) n hs) wz ∧ (LegsOld w2.heap.size none hs) wz ∧ (SlOld clEnc 4 91 w2.heap.size none (some ⟨b2, o2, none⟩) n2 CLS) wz ∧ True) mixed ?_
        refine wa_take 0 rfl (by kernel_rfl) (by kernel_rfl) (by kernel_rfl) (listed' := #[true, false, false, false, false, false, false, false, false, false, false, false, false, false, false, false, false, false, false, false, false, false, false, false, false]) rfl (fun _ _ _ h => h) (fun _ hm => ⟨hm.blkI 0 rfl, hm.fact 0 rfl, hm.fact 1 rfl, hm.fact 2 rfl, trivial⟩) (ov_move rfl) rfl ?_
        refine wa_take 1 rfl (by kernel_rfl) (by kernel_rfl) (by kernel_rfl) (listed' := #[true, true, false, false, false, false, false, false, false, false, false, false, false, false, false, false, false, false, false, false, false, false, false, false, false]) rfl (fun _ _ _ h => h) (fun _ hm => ⟨hm.blkI 0 rfl, hm.fact 0 rfl, hm.fact 1 rfl, hm.fact 2 rfl, trivial⟩) (ov_lss rfl rfl) rfl ?_
        refine wa_set 54 (v' := .bool false) rfl (congrArg Value.bool (decide_eq_false (by omega))) ?_
        refine wa_take 2 rfl (by kernel_rfl) (by kernel_rfl) (by kernel_rfl) (listed' := #[true, true, true, false, false, false, false, false, false, false, false, false, false, false, false, false, false, false, false, false, false, false, false, false, false]) rfl (fun _ _ _ h => h) (fun _ hm => ⟨hm.blkI 0 rfl, hm.fact 0 rfl, hm.fact 1 rfl, hm.fact 2 rfl, trivial⟩) (ov_move rfl) rfl ?_
        refine wa_take_on 3 rfl rfl rfl (by kernel_rfl) (by kernel_rfl) (by kernel_rfl) (listed' := #[true, true, true, true, false, false, false, false, false, false, false, false, false, false, false, false, false, false, false, false, false, false, false, false, false]) rfl (fun _ _ _ h => h) (fun _ hm => ⟨hm.blkI 0 rfl, hm.fact 0 rfl, hm.fact 1 rfl, hm.fact 2 rfl, trivial⟩) (ov_move rfl) rfl ?_
        refine wa_take_on 4 rfl rfl rfl (by kernel_rfl) (by kernel_rfl) (by kernel_rfl) (listed' := #[true, true, true, true, true, false, false, false, false, false, false, false, false, false, false, false, false, false, false, false, false, false, false, false, false]) rfl (fun _ _ _ h => h) (fun _ hm => ⟨hm.blkI 0 rfl, hm.fact 0 rfl, hm.fact 1 rfl, hm.fact 2 rfl, trivial⟩) (ov_move rfl) rfl ?_
        refine wa_take_on 5 rfl rfl rfl (by kernel_rfl) (by kernel_rfl) (by kernel_rfl) (listed' := #[true, true, true, true, true, true, false, false, false, false, false, false, false, false, false, false, false, false, false, false, false, false, false, false, false]) rfl (fun _ _ _ h => h) (fun _ hm => ⟨hm.blkI 0 rfl, hm.fact 0 rfl, hm.fact 1 rfl, hm.fact 2 rfl, trivial⟩) (ov_leq rfl rfl) rfl ?_
        refine wa_set 58 (v' := .bool false) rfl (congrArg Value.bool (decide_eq_false (by omega))) ?_
        refine wa_take 6 rfl (by kernel_rfl) (by kernel_rfl) (by kernel_rfl) (listed' := #[true, true, true, true, true, true, true, false, false, false, false, false, false, false, false, false, false, false, false, false, false, false, false, false, false]) rfl (fun _ _ _ h => h) (fun _ hm => ⟨hm.blkI 0 rfl, hm.fact 0 rfl, hm.fact 1 rfl, hm.fact 2 rfl, trivial⟩) (ov_pick_f rfl rfl) rfl ?_
        refine wa_take 7 rfl (by kernel_rfl) (by kernel_rfl) (by kernel_rfl) (listed' := #[true, true, true, true, true, true, true, true, false, false, false, false, false, false, false, false, false, false, false, false, false, false, false, false, false]) rfl (fun _ _ _ h => h) (fun _ hm => ⟨hm.blkI 0 rfl, hm.fact 0 rfl, hm.fact 1 rfl, hm.fact 2 rfl, trivial⟩) (ov_move rfl) rfl ?_
        refine wa_take_on 8 rfl rfl rfl (by kernel_rfl) (by kernel_rfl) (by kernel_rfl) (listed' := #[true, true, true, true, true, true, true, true, true, false, false, false, false, false, false, false, false, false, false, false, false, false, false, false, false]) rfl (fun _ _ _ h => h) (fun _ hm => ⟨hm.blkI 0 rfl, hm.fact 0 rfl, hm.fact 1 rfl, hm.fact 2 rfl, trivial⟩) (ov_field fo91_2 rfl rfl) rfl ?_
        refine wa_take_on 9 rfl rfl rfl (by kernel_rfl) (by kernel_rfl) (by kernel_rfl) (listed' := #[true, true, true, true, true, true, true, true, true, true, false, false, false, false, false, false, false, false, false, false, false, false, false, false, false]) rfl (fun _ _ _ h => h) (fun _ hm => ⟨hm.blkI 0 rfl, hm.fact 0 rfl, hm.fact 1 rfl, hm.fact 2 rfl, trivial⟩) (ov_load sc3 rfl (fun _ hm => hm.1) rfl) rfl ?_
        refine wa_take_on 10 rfl rfl rfl (by kernel_rfl) (by kernel_rfl) (by kernel_rfl) (listed' := #[true, true, true, true, true, true, true, true, true, true, true, false, false, false, false, false, false, false, false, false, false, false, false, false, false]) rfl (fun _ _ _ h => h) (fun _ hm => ⟨hm.blkI 0 rfl, hm.fact 0 rfl, hm.fact 1 rfl, hm.fact 2 rfl, trivial⟩) (ov_eql rfl rfl) rfl ?_
        refine wa_set 63 (v' := .bool true) rfl (congrArg Value.bool (by decide)) ?_
        refine wa_take_on 11 rfl rfl rfl (by kernel_rfl) (by kernel_rfl) (by kernel_rfl) (listed' := #[true, true, true, true, true, true, true, true, true, true, true, true, false, false, false, false, false, false, false, false, false, false, false, false, false]) rfl (fun _ _ _ h => h) (fun _ hm => ⟨hm.blkI 0 rfl, hm.fact 0 rfl, hm.fact 1 rfl, hm.fact 2 rfl, trivial⟩) (ov_move rfl) rfl ?_
        refine wa_take_on 12 rfl rfl rfl (by kernel_rfl) (by kernel_rfl) (by kernel_rfl) (listed' := #[true, true, true, true, true, true, true, true, true, true, true, true, true, false, false, false, false, false, false, false, false, false, false, false, false]) rfl (fun _ _ _ h => h) (fun _ hm => ⟨hm.blkI 0 rfl, hm.fact 0 rfl, hm.fact 1 rfl, hm.fact 2 rfl, trivial⟩) (ov_move rfl) rfl ?_
        refine wa_take_on 13 rfl rfl rfl (by kernel_rfl) (by kernel_rfl) (by kernel_rfl) (listed' := #[true, true, true, true, true, true, true, true, true, true, true, true, true, true, false, false, false, false, false, false, false, false, false, false, false]) rfl (fun _ _ _ h => h) (fun _ hm => ⟨hm.blkI 0 rfl, hm.fact 0 rfl, hm.fact 1 rfl, hm.fact 2 rfl, trivial⟩) (ov_move rfl) rfl ?_
        refine wa_take_on 14 rfl rfl rfl (by kernel_rfl) (by kernel_rfl) (by kernel_rfl) (listed' := #[true, true, true, true, true, true, true, true, true, true, true, true, true, true, true, false, false, false, false, false, false, false, false, false, false]) rfl (fun _ _ _ h => h) (fun _ hm => ⟨hm.blkI 0 rfl, hm.fact 0 rfl, hm.fact 1 rfl, hm.fact 2 rfl, trivial⟩) (ov_index (j := i) es84 rfl rfl (by omega)) rfl ?_
        refine wa_take_on 15 rfl rfl rfl (by kernel_rfl) (by kernel_rfl) (by kernel_rfl) (listed' := #[true, true, true, true, true, true, true, true, true, true, true, true, true, true, true, true, false, false, false, false, false, false, false, false, false]) rfl (fun _ _ _ h => h) (fun _ hm => ⟨hm.blkI 0 rfl, hm.fact 0 rfl, hm.fact 1 rfl, hm.fact 2 rfl, trivial⟩) (ov_field fo95_1 rfl rfl) rfl ?_
        refine wa_take_on 16 rfl rfl rfl (by kernel_rfl) (by kernel_rfl) (by kernel_rfl) (listed' := #[true, true, true, true, true, true, true, true, true, true, true, true, true, true, true, true, true, false, false, false, false, false, false, false, false]) rfl (fun _ _ _ h => h) (fun _ hm => ⟨hm.blkI 0 rfl, hm.fact 0 rfl, hm.fact 1 rfl, hm.fact 2 rfl, trivial⟩) (ov_elem1 (k := 1) (v := .string d1) sc9 rfl (fun _ hm => (hm.2.1).1) hxi rfl rfl) rfl ?_
        refine wa_take_on 17 rfl rfl rfl (by kernel_rfl) (by kernel_rfl) (by kernel_rfl) (listed' := #[true, true, true, true, true, true, true, true, true, true, true, true, true, true, true, true, true, true, false, false, false, false, false, false, false]) rfl (fun _ _ _ h => h) (fun _ hm => ⟨hm.blkI 0 rfl, hm.fact 0 rfl, hm.fact 1 rfl, hm.fact 2 rfl, trivial⟩) (ov_move rfl) rfl ?_
        refine wa_take_on 18 rfl rfl rfl (by kernel_rfl) (by kernel_rfl) (by kernel_rfl) (listed' := #[true, true, true, true, true, true, true, true, true, true, true, true, true, true, true, true, true, true, true, false, false, false, false, false, false]) rfl (fun _ _ _ h => h) (fun _ hm => ⟨hm.blkI 0 rfl, hm.fact 0 rfl, hm.fact 1 rfl, hm.fact 2 rfl, trivial⟩) (ov_move rfl) rfl ?_
        refine wa_take_on 19 rfl rfl rfl (by kernel_rfl) (by kernel_rfl) (by kernel_rfl) (listed' := #[true, true, true, true, true, true, true, true, true, true, true, true, true, true, true, true, true, true, true, true, false, false, false, false, false]) rfl (fun _ _ _ h => h) (fun _ hm => ⟨hm.blkI 0 rfl, hm.fact 0 rfl, hm.fact 1 rfl, hm.fact 2 rfl, trivial⟩) (ov_index (j := j) es84 rfl rfl (by omega)) rfl ?_
        refine wa_take_on 20 rfl rfl rfl (by kernel_rfl) (by kernel_rfl) (by kernel_rfl) (listed' := #[true, true, true, true, true, true, true, true, true, true, true, true, true, true, true, true, true, true, true, true, true, false, false, false, false]) rfl (fun _ _ _ h => h) (fun _ hm => ⟨hm.blkI 0 rfl, hm.fact 0 rfl, hm.fact 1 rfl, hm.fact 2 rfl, trivial⟩) (ov_field fo95_1 rfl rfl) rfl ?_
        refine wa_take_on 21 rfl rfl rfl (by kernel_rfl) (by kernel_rfl) (by kernel_rfl) (listed' := #[true, true, true, true, true, true, true, true, true, true, true, true, true, true, true, true, true, true, true, true, true, true, false, false, false]) rfl (fun _ _ _ h => h) (fun _ hm => ⟨hm.blkI 0 rfl, hm.fact 0 rfl, hm.fact 1 rfl, hm.fact 2 rfl, trivial⟩) (ov_elem1 (k := 1) (v := .string d3) sc9 rfl (fun _ hm => (hm.2.1).1) hxj rfl rfl) rfl ?_
        refine wa_take_on 22 rfl rfl rfl (by kernel_rfl) (by kernel_rfl) (by kernel_rfl) (listed' := #[true, true, true, true, true, true, true, true, true, true, true, true, true, true, true, true, true, true, true, true, true, true, true, false, false]) rfl (fun _ _ _ h => h) (fun _ hm => ⟨hm.blkI 0 rfl, hm.fact 0 rfl, hm.fact 1 rfl, hm.fact 2 rfl, trivial⟩) (ov_sneq rfl rfl) rfl ?_
        refine wa_set 75 (v' := .bool false) rfl (congrArg (fun b => Value.bool !b) (show (d1.toList == d3.toList) = true from hdr)) ?_
        refine wa_take_on 23 rfl rfl rfl (by kernel_rfl) (by kernel_rfl) (by kernel_rfl) (listed' := #[true, true, true, true, true, true, true, true, true, true, true, true, true, true, true, true, true, true, true, true, true, true, true, true, false]) rfl (fun _ _ _ h => h) (fun _ hm => ⟨hm.blkI 0 rfl, hm.fact 0 rfl, hm.fact 1 rfl, hm.fact 2 rfl, trivial⟩) (ov_pick_t rfl rfl) rfl ?_
        refine wa_take 24 rfl (by kernel_rfl) (by kernel_rfl) (by kernel_rfl) (listed' := #[true, true, true, true, true, true, true, true, true, true, true, true, true, true, true, true, true, true, true, true, true, true, true, true, true]) rfl (fun _ _ _ h => h) (fun _ hm => ⟨hm.blkI 0 rfl, hm.fact 0 rfl, hm.fact 1 rfl, hm.fact 2 rfl, trivial⟩) (ov_pick_f rfl rfl) rfl ?_
        refine wa_done (by kernel_rfl) ?_
        refine nx_then ?_
        refine gw_cond rfl (fun hh => by cases hh) (fun _ => ?_)
        refine gw_skip ?_
        refine nx_then ?_
        refine gw_seq ?_
        refine gw_seq ?_
        refine gw_region ?_
        refine wl_ov (ov_field fo91_2 rfl rfl) rfl ?_
        refine wl_ov (ov_load sc3 rfl (fun _ hm => hm.blkI 0 rfl) rfl) rfl ?_
        refine wl_ov (ov_neq rfl rfl) rfl ?_
        refine wl_set 80 (v' := .bool true) rfl (congrArg Value.bool (by decide)) ?_
        refine wl_nil ?_
        refine nx_then ?_
        refine gw_cond rfl (fun _ => ?_) (fun hh => by cases hh)
        refine gw_exit ?_
        refine nx_then_exit ?_
        refine nx_blk_here ?_
        refine nx_then ?_
        refine gw_region ?_
        refine wl_ov (ov_add rfl rfl (by omega) (by omega)) rfl ?_
        refine wl_ov (ov_move rfl) rfl ?_
        refine wl_nil ?_
        exact nx_round (u + 1) (by omega) (by omega) ⟨rfl, rfl, rfl, rfl, (some_int (by omega)), trivial⟩ (fun _ hm => hm.pick [] [] [0, 1, 2] rfl rfl)
    · have hu : ¬ (((u : Nat) : Int) < ((n2 : Nat) : Int)) := by simpa using hh
      clear hh
      refine gw_exit ?_
      refine nx_then_exit ?_
      refine nx_then_exit ?_
      refine nx_blk_here ?_
      refine nx_then ?_
      refine gw_seq ?_
      refine gw_region ?_
      refine wl_ov (ov_move rfl) rfl ?_
      refine wl_ov (ov_eql rfl rfl) rfl ?_
      refine wl_set 143 (v' := .bool true) rfl (congrArg Value.bool (decide_eq_true hE)) ?_
      refine wl_ov (ov_move rfl) rfl ?_
      refine wl_guard_on rfl rfl rfl ?_
      refine wl_callv rfl cb17 rfl rfl (fun wx hm => (ready_any wx)) ?_
      refine wl_ov (ov_pick_t rfl rfl) rfl ?_
      refine wl_ov (ov_assign rfl) rfl ?_
      refine wl_nil ?_
      refine nx_then ?_
      refine gw_ret ?_
      refine nx_ret1 rfl rfl fun wx hm => ?_
      exact ⟨rfl, law_end hg1 hsb (grow_trans hm_w2.g (grow_weak hm.g))⟩

end Go.Proofs.YtmpomocahgcebaaDoor
