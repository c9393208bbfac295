/- Several texts as one: Cz Cy -/
import Derived.Test.YtljnekobfjpfaaaDoorZj
import Derived.Test.YtljnekobfjpfaaaDoorZh
import Derived.Test.YtljnekobfjpfaaaDoorZa
import Derived.Test.YtljnekobfjpfaaaDoorRt
import Derived.Test.YtljnekobfjpfaaaDoorEq
import Derived.Test.YtljnekobfjpfaaaDoorAr
/- Clashes and ClashesOf. -/
namespace Go.Proofs.YtljnekobfjpfaaaDoor
open Go.RowKit

structure Cl where
  a : ByteArray
  b : ByteArray
  knd : Int
  mo : Int
def clEnc (x : Cl) : List Value := [.string x.a, .string x.b, .int .i64 x.knd, .int .i64 x.mo]
theorem cl_len (x : Cl) : (clEnc x).length = 4 := rfl
def clsA (a b : Hs) : List Cl := if outF true a.legs b.legs < 5761440 then [⟨a.key, b.key, 1, outF true a.legs b.legs⟩] else []
def clsB (a b : Hs) : List Cl := if (a.driver.toList == b.driver.toList) = true ∧ outF false a.legs b.legs < 5761440 then [⟨a.key, b.key, 2, outF false a.legs b.legs⟩] else []
def clsOf (a b : Hs) : List Cl := clsA a b ++ clsB a b
def clashL : List Hs → List Cl
  | [] => []
  | a :: r => r.flatMap (clsOf a) ++ clashL r
theorem clashL_at {l : List Hs} {k : Nat} {x : Hs} (h : l[k]? = some x) : clashL (l.drop k) = (l.drop (k + 1)).flatMap (clsOf x) ++ clashL (l.drop (k + 1)) := by
  obtain ⟨hk, rfl⟩ := List.getElem?_eq_some_iff.1 h
  rw [List.drop_eq_getElem_cons hk]; rfl
theorem flatMap_at {α β : Type} {f : α → List β} {l : List α} {k : Nat} {x : α} (h : l[k]? = some x) : (l.drop k).flatMap f = f x ++ (l.drop (k + 1)).flatMap f := by
  obtain ⟨hk, rfl⟩ := List.getElem?_eq_some_iff.1 h
  rw [List.drop_eq_getElem_cons hk, List.flatMap_cons]
theorem clsOf_len (a b : Hs) : (clsOf a b).length ≤ 2 := by
  unfold clsOf clsA clsB
  rw [List.length_append]
  have h1 : ∀ (p : Prop) [Decidable p] (x : Cl), (if p then [x] else []).length ≤ 1 := fun p _ x => by split <;> simp
  have := h1 (outF true a.legs b.legs < 5761440) ⟨a.key, b.key, 1, outF true a.legs b.legs⟩
  have := h1 ((a.driver.toList == b.driver.toList) = true ∧ outF false a.legs b.legs < 5761440) ⟨a.key, b.key, 2, outF false a.legs b.legs⟩
  omega
theorem cls_flat_len (a : Hs) : ∀ l : List Hs, (l.flatMap (clsOf a)).length ≤ 2 * l.length
  | [] => by simp
  | y :: t => by
    rw [List.flatMap_cons, List.length_append, List.length_cons]
    have := clsOf_len a y
    have := cls_flat_len a t
    omega
theorem clashL_len : ∀ l : List Hs, (clashL l).length ≤ 2 * l.length * 500 ∨ 500 < l.length
  | [] => .inl (by simp [clashL])
  | a :: r => by
    unfold clashL
    rw [List.length_append, List.length_cons]
    have h1 := cls_flat_len a r
    rcases clashL_len r with h2 | h2
    · by_cases h : 500 < r.length + 1
      · exact .inr h
      · left; omega
    · right; omega
def clashOr (E : Int) (l : List Hs) : List Cl := if E = 0 then clashL l else []
theorem tm_of {l : List Hs} {x : Hs} {k : Nat} (h : ∀ x ∈ l, hireE x.hr = 0) (hx : l[k]? = some x) : Tm x.legs := last_times (h x (List.mem_of_getElem? hx))
theorem repr_pos {a : Int} (h0 : 0 ≤ a) : 0 ≤ repr a ↔ a < 5761440 := by unfold repr; split <;> omega
theorem repr_eq {a : Int} (h : a < 5761440) : repr a = a := if_pos h

set_option maxRecDepth 100000 in
set_option maxHeartbeats 2000000 in
theorem clashes_any (hs : List Hs) (A : Option Addr) (n c : Nat) (w : World) (hl : SlT hsEnc 5 36 w A n hs) (hg : Legs hs w) (hok : ∀ h ∈ hs, HsOk h) (hnc : n ≤ c) (hn : n ≤ 1000000) :
    Calls Tryd.prog 81 #[.slice A n c] w (fun e w' => ∃ A2 n2 c2, e = .returned (.tuple #[.slice A2 n2 c2, .int .i64 (hiresE hs)]) ∧ w.grownBy w' none ∧ SlT clEnc 4 123 w' A2 n2 (clashOr (hiresE hs) hs)) := by
  refine gw_enter ⟨69, w, none, []⟩ Tryd.func81 rfl Tryd.ntmps81 rfl (mem0 (X := [SlOld hsEnc 5 36 w.heap.size none A n hs, LegsOld w.heap.size none hs]) (allF_cons hl.old (allF_cons hg.old allF_nil)) (allL_cons SlOld.lasts (allL_cons LegsOld.lasts allL_nil))) ?_
  refine gw_seq ?_
  refine gw_region ?_
  have hlen := hl.len
  refine wl_ov (ov_assign rfl) rfl ?_
  refine wl_ov (ov_assign rfl) rfl ?_
  refine wl_nil ?_
  refine nx_then ?_
  refine gw_seq ?_
  refine gw_seq ?_
  refine gw_region ?_
  refine wl_ov (ov_move rfl) rfl ?_
  refine wl_callv rfl cb82 rfl rfl (fun wx hm => (checkAll_any hs A n c wx (hm.fact 0 rfl).1 (fun h hh => ((hm.fact 1 rfl) h hh).1) hok (by omega))) ?_
  refine wl_ov (ov_assign rfl) rfl ?_
  refine wl_nil ?_
  refine nx_then ?_
  refine gw_seq ?_
  refine gw_region ?_
  refine wl_ov (ov_move rfl) rfl ?_
  refine wl_ov (ov_neq rfl rfl) rfl ?_
  refine wl_nil ?_
  refine nx_then ?_
  refine gw_cond rfl (fun hh => ?_) (fun hh => ?_)
  · have hE : ¬ (hiresE hs = 0) := by simpa using hh
    clear hh
    refine gw_seq ?_
    refine gw_region ?_
    refine wl_ov (ov_move rfl) rfl ?_
    refine wl_ov (ov_assign rfl) rfl ?_
    refine wl_ov (ov_assign rfl) rfl ?_
    refine wl_nil ?_
    refine nx_then ?_
    refine gw_ret ?_
    refine nx_then_ret ?_
    refine nx_ret2 rfl rfl rfl fun wx hm => ?_
    refine ⟨none, 0, 0, rfl, hm.g, ?_⟩
    rw [show clashOr (hiresE hs) hs = [] from if_neg hE]
    exact SlT.nil_ _ _
  · have hE : hiresE hs = 0 := by simpa using hh
    clear hh
    refine gw_skip ?_
    refine nx_then ?_
    refine gw_seq ?_
    refine gw_region ?_
    have hhr := hiresE_ok hE
    have hn5 := hhr.1
    refine wl_nilOwn 123 4 ?_
    refine wl_ov (ov_assign rfl) rfl ?_
    refine wl_nil ?_
    refine nx_then ?_
    refine gw_seq ?_
    refine gw_seq ?_
    refine gw_region ?_
    refine wl_ov (ov_move rfl) rfl ?_
    refine wl_ov (ov_len es99 rfl) rfl ?_
    refine wl_ov (ov_move rfl) rfl ?_
    refine wl_nil ?_
    refine nx_then ?_
    refine gw_block ?_
    refine gw_loop (γ := Nat × Nat × Value × List Cl × List Value) (fun (g : Nat × Nat × Value × List Cl × List Value) => g.1 ≤ n ∧ g.2.2.2.1 ++ clashL (hs.drop g.1) = clashL hs ∧ g.2.1 = g.2.2.2.1.length ∧ g.2.2.2.2 = g.2.2.2.1.flatMap clEnc) (fun (g : Nat × Nat × Value × List Cl × List Value) => [(0, .slice A n c), (2, .slice none 0 0), (3, .int .i64 0), (5, g.2.2.1), (17, .slice A n c), (18, .int .i64 ((n : Nat) : Int)), (19, .int .i64 ((g.1 : Nat) : Int))]) (fun (g : Nat × Nat × Value × List Cl × List Value) => fun _ => True) (fun (g : Nat × Nat × Value × List Cl × List Value) => []) (fun (g : Nat × Nat × Value × List Cl × List Value) => [⟨g.2.2.1, 123, 4, g.2.1, g.2.2.2.2⟩]) (fun (g : Nat × Nat × Value × List Cl × List Value) => [SlOld hsEnc 5 36 w.heap.size none A n hs, LegsOld w.heap.size none hs]) (fun (g : Nat × Nat × Value × List Cl × List Value) => n - g.1) (0, 0, .slice none 0 0, [], []) ⟨Nat.zero_le _, rfl, rfl, rfl⟩ ⟨rfl, rfl, rfl, rfl, rfl, rfl, rfl, trivial⟩ (fun _ hm => hm.pick [] [0] [0, 1] rfl rfl) ?_
    rintro ⟨i, j, v, cl, xs⟩ hinv
    replace hinv : i ≤ n ∧ cl ++ clashL (hs.drop i) = clashL hs ∧ j = cl.length ∧ xs = cl.flatMap clEnc := hinv
    dsimp only
    refine gw_seq ?_
    refine gw_region ?_
    obtain ⟨hi0, hi1, hi2, rfl⟩ := hinv
    refine wl_ov (ov_lss rfl rfl) rfl ?_
    refine wl_nil ?_
    refine nx_then ?_
    refine gw_seq ?_
    refine gw_cond rfl (fun hh => ?_) (fun hh => ?_)
    · have hi : ((i : Nat) : Int) < ((n : Nat) : Int) := by simpa using hh
      clear hh
      refine gw_skip ?_
      refine nx_then ?_
      refine gw_seq ?_
      refine gw_block ?_
      refine gw_seq ?_
      refine gw_region ?_
      obtain ⟨b, off, hA, _, _⟩ := hl.get (by omega)
      subst hA
      obtain ⟨x, hx⟩ : ∃ x, hs[i]? = some x := ⟨_, List.getElem?_eq_getElem (by omega)⟩
      obtain ⟨k1, d1, f1, t1, A1, n1, c1, l1⟩ := x
      have hat := clashL_at hx
      obtain ⟨hho1, hhn1⟩ := hok _ (List.mem_of_getElem? hx)
      have hhn1 : n1 ≤ 1000 := hhn1
      have htm1 : Tm l1 := tm_of hhr.2 hx
      refine wl_also (Y := SlOld lgEnc 9 138 w.heap.size none A1 n1 l1) (SlOld.lasts) (fun wx hm => (hm.fact 1 rfl) _ (List.mem_of_getElem? hx)) ?_
      refine wl_also (Y := SlOld hsEnc 5 36 w.heap.size none (if c = i + 1 then (some ⟨b, off, none⟩) else Option.map (fun a : Addr => a.add ((i + 1) * 5)) (some ⟨b, off, none⟩)) (n - (i + 1)) (hs.drop (i + 1))) (SlOld.lasts) (fun wx hm => (hm.fact 1 rfl).dropS (i + 1) (by omega) hnc) ?_
      obtain ⟨AD, hAD⟩ : ∃ D : Option Addr, D = (if c = i + 1 then (some ⟨b, off, none⟩) else Option.map (fun a : Addr => a.add ((i + 1) * 5)) (some ⟨b, off, none⟩)) := ⟨_, rfl⟩
      rw [← hAD]
      refine wl_ov (ov_move rfl) rfl ?_
      refine wl_ov (ov_index (j := i) es99 rfl rfl (by omega)) rfl ?_
      refine wl_ov (ov_elem rz36 rfl (fun _ hm => (hm.fact 2 rfl).1) hx rfl rfl) rfl ?_
      refine wl_alloc zc36 rfl fun g1 => ?_
      refine wl_ov (ov_assign rfl) rfl ?_
      refine wl_stores (cs' := [.string k1, .string d1, .int .i64 f1, .int .i64 t1, .slice A1 n1 c1]) 0 rz36 rfl rfl rfl rfl rfl rfl rfl rfl ?_
      refine wl_nil ?_
      refine nx_then ?_
      refine gw_seq ?_
      refine gw_region ?_
      refine wl_ov (ov_move rfl) rfl ?_
      refine wl_ov (ov_move rfl) rfl ?_
      refine wl_ov (ov_add rfl rfl (by omega) (by omega)) rfl ?_
      refine wl_set 26 (v' := .int .i64 ((i + 1 : Nat) : Int)) rfl (congrArg (Value.int .i64) (by omega)) ?_
      refine wl_ov (ov_sliceLo (lo := i + 1) es99 rfl rfl rfl (by omega)) rfl ?_
      refine wl_set 27 (v' := .slice AD (n - (i + 1)) (c - (i + 1))) rfl (congrArg (fun z => Value.slice z (n - (i + 1)) (c - (i + 1))) hAD.symm) ?_
      refine wl_ov (ov_len es99 rfl) rfl ?_
      refine wl_ov (ov_move rfl) rfl ?_
      refine wl_nil ?_
      refine nx_then ?_
      refine gw_block ?_
      refine gw_loop (γ := Nat × Nat × Value × List Cl × List Value) (fun (g : Nat × Nat × Value × List Cl × List Value) => g.1 ≤ n - (i + 1) ∧ g.2.2.2.1 ++ ((hs.drop (i + 1)).drop g.1).flatMap (clsOf ⟨k1, d1, f1, t1, A1, n1, c1, l1⟩) ++ clashL (hs.drop (i + 1)) = clashL hs ∧ g.2.1 = g.2.2.2.1.length ∧ g.2.2.2.2 = g.2.2.2.1.flatMap clEnc) (fun (g : Nat × Nat × Value × List Cl × List Value) => [(0, .slice (some ⟨b, off, none⟩) n c), (2, .slice none 0 0), (3, .int .i64 0), (5, g.2.2.1), (7, .pointer (some ⟨g1, 0, none⟩)), (17, .slice (some ⟨b, off, none⟩) n c), (18, .int .i64 ((n : Nat) : Int)), (19, .int .i64 ((i : Nat) : Int)), (27, .slice AD (n - (i + 1)) (c - (i + 1))), (28, .int .i64 ((n - (i + 1) : Nat) : Int)), (29, .int .i64 ((g.1 : Nat) : Int))]) (fun (g : Nat × Nat × Value × List Cl × List Value) => fun _ => True) (fun (g : Nat × Nat × Value × List Cl × List Value) => [(g1, 36, [.string k1, .string d1, .int .i64 f1, .int .i64 t1, .slice A1 n1 c1])]) (fun (g : Nat × Nat × Value × List Cl × List Value) => [⟨g.2.2.1, 123, 4, g.2.1, g.2.2.2.2⟩]) (fun (g : Nat × Nat × Value × List Cl × List Value) => [SlOld hsEnc 5 36 w.heap.size none AD (n - (i + 1)) (hs.drop (i + 1)), SlOld lgEnc 9 138 w.heap.size none A1 n1 l1, SlOld hsEnc 5 36 w.heap.size none (some ⟨b, off, none⟩) n hs, LegsOld w.heap.size none hs]) (fun (g : Nat × Nat × Value × List Cl × List Value) => n - (i + 1) - g.1) (0, j, v, cl, cl.flatMap clEnc) ⟨Nat.zero_le _, by dsimp only; rw [List.drop_zero, List.append_assoc, ← hat]; exact hi1, hi2, rfl⟩ ⟨rfl, rfl, rfl, rfl, rfl, rfl, rfl, rfl, rfl, rfl, rfl, trivial⟩ (fun _ hm => hm.pick [0] [0] [0, 1, 2, 3] rfl rfl) ?_
      rintro ⟨k, j2, v2, cl2, xs2⟩ hinv
      replace hinv : k ≤ n - (i + 1) ∧ cl2 ++ ((hs.drop (i + 1)).drop k).flatMap (clsOf ⟨k1, d1, f1, t1, A1, n1, c1, l1⟩) ++ clashL (hs.drop (i + 1)) = clashL hs ∧ j2 = cl2.length ∧ xs2 = cl2.flatMap clEnc := hinv
      dsimp only
      refine gw_seq ?_
      refine gw_region ?_
      obtain ⟨hk0, hk1, hk2, rfl⟩ := hinv
      refine wl_ov (ov_lss rfl rfl) rfl ?_
      refine wl_nil ?_
      refine nx_then ?_
      refine gw_seq ?_
      refine gw_cond rfl (fun hh => ?_) (fun hh => ?_)
      · have hk : ((k : Nat) : Int) < ((n - (i + 1) : Nat) : Int) := by simpa using hh
        clear hh
        refine gw_skip ?_
        refine nx_then ?_
        refine gw_seq ?_
        refine gw_block ?_
        refine gw_seq ?_
        refine gw_region ?_
        refine wl_look (R := ∃ b off, AD = some ⟨b, off, none⟩) (fun wx hm => by obtain ⟨b, off, h, _, _⟩ := SlT.get ((hm.fact 0 rfl)).1 (by omega : 0 < n - (i + 1)); exact ⟨b, off, h⟩) ?_
        rintro ⟨b2, o2, rfl⟩
        have hdl : (hs.drop (i + 1)).length = n - (i + 1) := by rw [List.length_drop]; omega
        obtain ⟨y, hy⟩ : ∃ x, (hs.drop (i + 1))[k]? = some x := ⟨_, List.getElem?_eq_getElem (by omega)⟩
        obtain ⟨k2, d2, f2, t2, A2, n2, c2, l2⟩ := y
        have hfl := flatMap_at (f := clsOf ⟨k1, d1, f1, t1, A1, n1, c1, l1⟩) hy
        have hy2 : hs[i + 1 + k]? = some ⟨k2, d2, f2, t2, A2, n2, c2, l2⟩ := by rw [← List.getElem?_drop]; exact hy
        obtain ⟨hho2, hhn2⟩ := hok _ (List.mem_of_getElem? hy2)
        have hhn2 : n2 ≤ 1000 := hhn2
        have htm2 : Tm l2 := tm_of hhr.2 hy2
        refine wl_also (Y := SlOld lgEnc 9 138 w.heap.size none A2 n2 l2) (SlOld.lasts) (fun wx hm => (hm.fact 3 rfl) _ (List.mem_of_getElem? hy2)) ?_
        obtain ⟨MA, hMA⟩ : ∃ M, M = outF true l1 l2 := ⟨_, rfl⟩
        obtain ⟨MB, hMB⟩ : ∃ M, M = outF false l1 l2 := ⟨_, rfl⟩
        have hMA0 := outF_bound (fl := true) htm2 htm1
        have hMB0 := outF_bound (fl := false) htm2 htm1
        rw [← hMA] at hMA0
        rw [← hMB] at hMB0
        have hjb : cl2.length ≤ 500000 := by
          have h1 := congrArg List.length hk1
          simp only [List.length_append] at h1
          have h2 := hhr.1
          rcases clashL_len hs with h3 | h3 <;> omega
        refine wl_ov (ov_index (j := k) es99 rfl rfl (by omega)) rfl ?_
        refine wl_ov (ov_elem rz36 rfl (fun _ hm => (hm.fact 1 rfl).1) hy rfl rfl) rfl ?_
        refine wl_alloc zc36 rfl fun g2 => ?_
        refine wl_stores (cs' := [.string k2, .string d2, .int .i64 f2, .int .i64 t2, .slice A2 n2 c2]) 0 rz36 rfl rfl rfl rfl rfl rfl rfl rfl ?_
        refine wl_nil ?_
        refine nx_then ?_
        refine gw_seq ?_
        refine gw_seq ?_
        refine gw_region ?_
        refine wl_ov (ov_loads rz36 rfl (fun _ hm => hm.blkI 1 rfl) rfl rfl) rfl ?_
        refine wl_ov (ov_loads rz36 rfl (fun _ hm => hm.blkI 0 rfl) rfl rfl) rfl ?_
        refine wl_callv (v := .int .i64 (repr MA)) rfl cb133 rfl rfl (fun wx hm => (by rw [hMA]; exact together_true k1 d1 f1 t1 l1 A1 n1 c1 k2 d2 f2 t2 l2 A2 n2 c2 wx (hm.fact 2 rfl).1 (hm.fact 0 rfl).1 (by omega) (by omega) htm1 htm2)) ?_
        refine wl_ov (ov_assign rfl) rfl ?_
        refine wl_nil ?_
        refine nx_then ?_
        refine gw_seq ?_
        refine gw_region ?_
        refine wl_ov (ov_move rfl) rfl ?_
        refine wl_ov (ov_geq rfl rfl) rfl ?_
        refine wl_nil ?_
        refine nx_then ?_
        refine gw_cond rfl (fun hh => ?_) (fun hh => ?_)
        · have ha : 0 ≤ repr MA := by simpa using hh
          clear hh
          refine gw_region ?_
          have hal : MA < 5761440 := (repr_pos hMA0.1).1 ha
          have har := repr_eq hal
          refine wl_ov (ov_move rfl) rfl ?_
          refine wl_ov (ov_field fo36_0 rfl rfl) rfl ?_
          refine wl_ov (ov_load sc9 rfl (fun _ hm => hm.blkI 1 rfl) rfl) rfl ?_
          refine wl_ov (ov_field fo36_0 rfl rfl) rfl ?_
          refine wl_ov (ov_load sc9 rfl (fun _ hm => hm.blkI 0 rfl) rfl) rfl ?_
          refine wl_ov (ov_move rfl) rfl ?_
          refine wl_ov (ov_build (cs := [.string k1, .string k2, .int .i64 1, .int .i64 (repr MA)]) rfl (by kernel_rfl)) rfl ?_
          refine wl_buildSlice (e := 123) (cs := [.string k1, .string k2, .int .i64 1, .int .i64 (repr MA)]) rfl (by kernel_rfl) rfl fun g3 => ?_
          refine wl_append (news := [.string k1, .string k2, .int .i64 1, .int .i64 (repr MA)]) 0 0 ap118 rfl rfl rfl rfl rfl rfl rfl (by omega) (by unfold maxLen; omega) rfl rfl fun v3 hv3 => ?_
          rw [har]
          refine wl_ov (ov_assign rfl) rfl ?_
          refine wl_nil ?_
          refine nx_then ?_
          refine gw_seq ?_
          refine gw_seq ?_
          refine gw_region ?_
          refine wl_ov (ov_field fo36_1 rfl rfl) rfl ?_
          refine wl_ov (ov_load sc9 rfl (fun _ hm => hm.blkI 2 rfl) rfl) rfl ?_
          refine wl_ov (ov_field fo36_1 rfl rfl) rfl ?_
          refine wl_ov (ov_load sc9 rfl (fun _ hm => hm.blkI 1 rfl) rfl) rfl ?_
          refine wl_ov (ov_sneq rfl rfl) rfl ?_
          refine wl_nil ?_
          refine nx_then ?_
          refine gw_cond rfl (fun hh => ?_) (fun hh => ?_)
          · have hd : (d1.toList == d2.toList) = false := by simpa using hh
            clear hh
            refine gw_exit ?_
            refine nx_then_exit ?_
            refine nx_blk_here ?_
            refine nx_then ?_
            refine gw_region ?_
            have hdf : (d1.toList == d2.toList) = false := by simpa using hd
            refine wl_ov (ov_add rfl rfl (by omega) (by omega)) rfl ?_
            refine wl_ov (ov_move rfl) rfl ?_
            refine wl_nil ?_
            have hcls : clsOf ⟨k1, d1, f1, t1, A1, n1, c1, l1⟩ ⟨k2, d2, f2, t2, A2, n2, c2, l2⟩ = [⟨k1, k2, 1, MA⟩] := by unfold clsOf clsA clsB; dsimp only; rw [← hMA, ← hMB]; simp [hal, hdf]
            exact nx_round (k + 1, j2 + 1, v3, cl2 ++ ([⟨k1, k2, 1, MA⟩] : List Cl), cl2.flatMap clEnc ++ ([.string k1, .string k2, .int .i64 1, .int .i64 (MA)] : List Value)) ⟨by dsimp only; omega, by dsimp only; rw [← hk1, hfl, hcls]; simp, by dsimp only; simp [hk2], by dsimp only; simp [clEnc]⟩ (by dsimp only; omega) ⟨rfl, rfl, rfl, rfl, rfl, rfl, rfl, rfl, rfl, rfl, (some_int (by omega)), trivial⟩ (fun _ hm => hm.pick [2] [0] [1, 2, 3, 4] rfl rfl)
          · have hd : (d1.toList == d2.toList) = true := by simpa using hh
            clear hh
            refine gw_skip ?_
            refine nx_then ?_
            refine gw_seq ?_
            refine gw_region ?_
            have hdf : (d1.toList == d2.toList) = true := by simpa using hd
            refine wl_ov (ov_loads rz36 rfl (fun _ hm => hm.blkI 2 rfl) rfl rfl) rfl ?_
            refine wl_ov (ov_loads rz36 rfl (fun _ hm => hm.blkI 1 rfl) rfl rfl) rfl ?_
            refine wl_callv (v := .int .i64 (repr MB)) rfl cb133 rfl rfl (fun wx hm => (by rw [hMB]; exact together_false k1 d1 f1 t1 l1 A1 n1 c1 k2 d2 f2 t2 l2 A2 n2 c2 wx (hm.fact 2 rfl).1 (hm.fact 0 rfl).1 (by omega) (by omega) htm1 htm2)) ?_
            refine wl_ov (ov_assign rfl) rfl ?_
            refine wl_nil ?_
            refine nx_then ?_
            refine gw_seq ?_
            refine gw_region ?_
            refine wl_ov (ov_move rfl) rfl ?_
            refine wl_ov (ov_geq rfl rfl) rfl ?_
            refine wl_nil ?_
            refine nx_then ?_
            refine gw_cond rfl (fun hh => ?_) (fun hh => ?_)
            · have hb : 0 ≤ repr MB := by simpa using hh
              clear hh
              refine gw_region ?_
              have hbl : MB < 5761440 := (repr_pos hMB0.1).1 hb
              have hbr := repr_eq hbl
              refine wl_ov (ov_move rfl) rfl ?_
              refine wl_ov (ov_field fo36_0 rfl rfl) rfl ?_
              refine wl_ov (ov_load sc9 rfl (fun _ hm => hm.blkI 2 rfl) rfl) rfl ?_
              refine wl_ov (ov_field fo36_0 rfl rfl) rfl ?_
              refine wl_ov (ov_load sc9 rfl (fun _ hm => hm.blkI 1 rfl) rfl) rfl ?_
              refine wl_ov (ov_move rfl) rfl ?_
              refine wl_ov (ov_build (cs := [.string k1, .string k2, .int .i64 2, .int .i64 (repr MB)]) rfl (by kernel_rfl)) rfl ?_
              refine wl_buildSlice (e := 123) (cs := [.string k1, .string k2, .int .i64 2, .int .i64 (repr MB)]) rfl (by kernel_rfl) rfl fun g4 => ?_
              refine wl_append (news := [.string k1, .string k2, .int .i64 2, .int .i64 (repr MB)]) 0 0 ap118 rfl rfl rfl rfl rfl rfl rfl (by omega) (by unfold maxLen; omega) rfl rfl fun v4 hv4 => ?_
              rw [hbr]
              refine wl_ov (ov_assign rfl) rfl ?_
              refine wl_nil ?_
              refine nx_blk_nrm ?_
              refine nx_then ?_
              refine gw_region ?_
              refine wl_ov (ov_add rfl rfl (by omega) (by omega)) rfl ?_
              refine wl_ov (ov_move rfl) rfl ?_
              refine wl_nil ?_
              have hcls : clsOf ⟨k1, d1, f1, t1, A1, n1, c1, l1⟩ ⟨k2, d2, f2, t2, A2, n2, c2, l2⟩ = [⟨k1, k2, 1, MA⟩, ⟨k1, k2, 2, MB⟩] := by unfold clsOf clsA clsB; dsimp only; rw [← hMA, ← hMB]; simp [hal, hdf, hbl]
              exact nx_round (k + 1, j2 + 1 + 1, v4, cl2 ++ ([⟨k1, k2, 1, MA⟩, ⟨k1, k2, 2, MB⟩] : List Cl), cl2.flatMap clEnc ++ ([.string k1, .string k2, .int .i64 1, .int .i64 (MA)] : List Value) ++ ([.string k1, .string k2, .int .i64 2, .int .i64 (MB)] : List Value)) ⟨by dsimp only; omega, by dsimp only; rw [← hk1, hfl, hcls]; simp, by dsimp only; simp [hk2], by dsimp only; simp [clEnc]⟩ (by dsimp only; omega) ⟨rfl, rfl, rfl, rfl, rfl, rfl, rfl, rfl, rfl, rfl, (some_int (by omega)), trivial⟩ (fun _ hm => hm.pick [3] [0] [1, 2, 3, 4] rfl rfl)
            · have hb : ¬ (0 ≤ repr MB) := by simpa using hh
              clear hh
              refine gw_skip ?_
              refine nx_blk_nrm ?_
              refine nx_then ?_
              refine gw_region ?_
              have hbl : ¬ MB < 5761440 := fun h => hb ((repr_pos hMB0.1).2 h)
              refine wl_ov (ov_add rfl rfl (by omega) (by omega)) rfl ?_
              refine wl_ov (ov_move rfl) rfl ?_
              refine wl_nil ?_
              have hcls : clsOf ⟨k1, d1, f1, t1, A1, n1, c1, l1⟩ ⟨k2, d2, f2, t2, A2, n2, c2, l2⟩ = [⟨k1, k2, 1, MA⟩] := by unfold clsOf clsA clsB; dsimp only; rw [← hMA, ← hMB]; simp [hal, hdf, hbl]
              exact nx_round (k + 1, j2 + 1, v3, cl2 ++ ([⟨k1, k2, 1, MA⟩] : List Cl), cl2.flatMap clEnc ++ ([.string k1, .string k2, .int .i64 1, .int .i64 (MA)] : List Value)) ⟨by dsimp only; omega, by dsimp only; rw [← hk1, hfl, hcls]; simp, by dsimp only; simp [hk2], by dsimp only; simp [clEnc]⟩ (by dsimp only; omega) ⟨rfl, rfl, rfl, rfl, rfl, rfl, rfl, rfl, rfl, rfl, (some_int (by omega)), trivial⟩ (fun _ hm => hm.pick [2] [0] [1, 2, 3, 4] rfl rfl)
        · have ha : ¬ (0 ≤ repr MA) := by simpa using hh
          clear hh
          refine gw_skip ?_
          refine nx_then ?_
          refine gw_seq ?_
          refine gw_seq ?_
          refine gw_region ?_
          have hal : ¬ MA < 5761440 := fun h => ha ((repr_pos hMA0.1).2 h)
          refine wl_ov (ov_field fo36_1 rfl rfl) rfl ?_
          refine wl_ov (ov_load sc9 rfl (fun _ hm => hm.blkI 1 rfl) rfl) rfl ?_
          refine wl_ov (ov_field fo36_1 rfl rfl) rfl ?_
          refine wl_ov (ov_load sc9 rfl (fun _ hm => hm.blkI 0 rfl) rfl) rfl ?_
          refine wl_ov (ov_sneq rfl rfl) rfl ?_
          refine wl_nil ?_
          refine nx_then ?_
          refine gw_cond rfl (fun hh => ?_) (fun hh => ?_)
          · have hd : (d1.toList == d2.toList) = false := by simpa using hh
            clear hh
            refine gw_exit ?_
            refine nx_then_exit ?_
            refine nx_blk_here ?_
            refine nx_then ?_
            refine gw_region ?_
            have hdf : (d1.toList == d2.toList) = false := by simpa using hd
            refine wl_ov (ov_add rfl rfl (by omega) (by omega)) rfl ?_
            refine wl_ov (ov_move rfl) rfl ?_
            refine wl_nil ?_
            have hcls : clsOf ⟨k1, d1, f1, t1, A1, n1, c1, l1⟩ ⟨k2, d2, f2, t2, A2, n2, c2, l2⟩ = [] := by unfold clsOf clsA clsB; dsimp only; rw [← hMA, ← hMB]; simp [hal, hdf]
            exact nx_round (k + 1, j2, v2, cl2, cl2.flatMap clEnc) ⟨by dsimp only; omega, by dsimp only; rw [← hk1, hfl, hcls]; rfl, hk2, rfl⟩ (by dsimp only; omega) ⟨rfl, rfl, rfl, rfl, rfl, rfl, rfl, rfl, rfl, rfl, (some_int (by omega)), trivial⟩ (fun _ hm => hm.pick [1] [0] [1, 2, 3, 4] rfl rfl)
          · have hd : (d1.toList == d2.toList) = true := by simpa using hh
            clear hh
            refine gw_skip ?_
            refine nx_then ?_
            refine gw_seq ?_
            refine gw_region ?_
            have hdf : (d1.toList == d2.toList) = true := by simpa using hd
            refine wl_ov (ov_loads rz36 rfl (fun _ hm => hm.blkI 1 rfl) rfl rfl) rfl ?_
            refine wl_ov (ov_loads rz36 rfl (fun _ hm => hm.blkI 0 rfl) rfl rfl) rfl ?_
            refine wl_callv (v := .int .i64 (repr MB)) rfl cb133 rfl rfl (fun wx hm => (by rw [hMB]; exact together_false k1 d1 f1 t1 l1 A1 n1 c1 k2 d2 f2 t2 l2 A2 n2 c2 wx (hm.fact 2 rfl).1 (hm.fact 0 rfl).1 (by omega) (by omega) htm1 htm2)) ?_
            refine wl_ov (ov_assign rfl) rfl ?_
            refine wl_nil ?_
            refine nx_then ?_
            refine gw_seq ?_
            refine gw_region ?_
            refine wl_ov (ov_move rfl) rfl ?_
            refine wl_ov (ov_geq rfl rfl) rfl ?_
            refine wl_nil ?_
            refine nx_then ?_
            refine gw_cond rfl (fun hh => ?_) (fun hh => ?_)
            · have hb : 0 ≤ repr MB := by simpa using hh
              clear hh
              refine gw_region ?_
              have hbl : MB < 5761440 := (repr_pos hMB0.1).1 hb
              have hbr := repr_eq hbl
              refine wl_ov (ov_move rfl) rfl ?_
              refine wl_ov (ov_field fo36_0 rfl rfl) rfl ?_
              refine wl_ov (ov_load sc9 rfl (fun _ hm => hm.blkI 1 rfl) rfl) rfl ?_
              refine wl_ov (ov_field fo36_0 rfl rfl) rfl ?_
              refine wl_ov (ov_load sc9 rfl (fun _ hm => hm.blkI 0 rfl) rfl) rfl ?_
              refine wl_ov (ov_move rfl) rfl ?_
              refine wl_ov (ov_build (cs := [.string k1, .string k2, .int .i64 2, .int .i64 (repr MB)]) rfl (by kernel_rfl)) rfl ?_
              refine wl_buildSlice (e := 123) (cs := [.string k1, .string k2, .int .i64 2, .int .i64 (repr MB)]) rfl (by kernel_rfl) rfl fun g5 => ?_
              refine wl_append (news := [.string k1, .string k2, .int .i64 2, .int .i64 (repr MB)]) 0 0 ap118 rfl rfl rfl rfl rfl rfl rfl (by omega) (by unfold maxLen; omega) rfl rfl fun v4 hv4 => ?_
              rw [hbr]
              refine wl_ov (ov_assign rfl) rfl ?_
              refine wl_nil ?_
              refine nx_blk_nrm ?_
              refine nx_then ?_
              refine gw_region ?_
              refine wl_ov (ov_add rfl rfl (by omega) (by omega)) rfl ?_
              refine wl_ov (ov_move rfl) rfl ?_
              refine wl_nil ?_
              have hcls : clsOf ⟨k1, d1, f1, t1, A1, n1, c1, l1⟩ ⟨k2, d2, f2, t2, A2, n2, c2, l2⟩ = [⟨k1, k2, 2, MB⟩] := by unfold clsOf clsA clsB; dsimp only; rw [← hMA, ← hMB]; simp [hal, hdf, hbl]
              exact nx_round (k + 1, j2 + 1, v4, cl2 ++ ([⟨k1, k2, 2, MB⟩] : List Cl), cl2.flatMap clEnc ++ ([.string k1, .string k2, .int .i64 2, .int .i64 (MB)] : List Value)) ⟨by dsimp only; omega, by dsimp only; rw [← hk1, hfl, hcls]; simp, by dsimp only; simp [hk2], by dsimp only; simp [clEnc]⟩ (by dsimp only; omega) ⟨rfl, rfl, rfl, rfl, rfl, rfl, rfl, rfl, rfl, rfl, (some_int (by omega)), trivial⟩ (fun _ hm => hm.pick [2] [0] [1, 2, 3, 4] rfl rfl)
            · have hb : ¬ (0 ≤ repr MB) := by simpa using hh
              clear hh
              refine gw_skip ?_
              refine nx_blk_nrm ?_
              refine nx_then ?_
              refine gw_region ?_
              have hbl : ¬ MB < 5761440 := fun h => hb ((repr_pos hMB0.1).2 h)
              refine wl_ov (ov_add rfl rfl (by omega) (by omega)) rfl ?_
              refine wl_ov (ov_move rfl) rfl ?_
              refine wl_nil ?_
              have hcls : clsOf ⟨k1, d1, f1, t1, A1, n1, c1, l1⟩ ⟨k2, d2, f2, t2, A2, n2, c2, l2⟩ = [] := by unfold clsOf clsA clsB; dsimp only; rw [← hMA, ← hMB]; simp [hal, hdf, hbl]
              exact nx_round (k + 1, j2, v2, cl2, cl2.flatMap clEnc) ⟨by dsimp only; omega, by dsimp only; rw [← hk1, hfl, hcls]; rfl, hk2, rfl⟩ (by dsimp only; omega) ⟨rfl, rfl, rfl, rfl, rfl, rfl, rfl, rfl, rfl, rfl, (some_int (by omega)), trivial⟩ (fun _ hm => hm.pick [1] [0] [1, 2, 3, 4] rfl rfl)
      · have hk : ¬ (((k : Nat) : Int) < ((n - (i + 1) : Nat) : Int)) := by simpa using hh
        clear hh
        refine gw_exit ?_
        refine nx_then_exit ?_
        refine nx_then_exit ?_
        refine nx_blk_here ?_
        refine nx_blk_nrm ?_
        refine nx_then ?_
        refine gw_region ?_
        have hdr : ((hs.drop (i + 1)).drop k) = [] := List.drop_eq_nil_of_le (by rw [List.length_drop]; omega)
        rw [hdr, List.flatMap_nil, List.append_nil] at hk1
        refine wl_ov (ov_add rfl rfl (by omega) (by omega)) rfl ?_
        refine wl_ov (ov_move rfl) rfl ?_
        refine wl_nil ?_
        exact nx_round (i + 1, j2, v2, cl2, cl2.flatMap clEnc) ⟨by dsimp only; omega, hk1, hk2, rfl⟩ (by dsimp only; omega) ⟨rfl, rfl, rfl, rfl, rfl, rfl, (some_int (by omega)), trivial⟩ (fun _ hm => hm.pick [] [0] [2, 3] rfl rfl)
    · have hi : ¬ (((i : Nat) : Int) < ((n : Nat) : Int)) := by simpa using hh
      clear hh
      refine gw_exit ?_
      refine nx_then_exit ?_
      refine nx_then_exit ?_
      refine nx_blk_here ?_
      refine nx_then ?_
      refine gw_seq ?_
      refine gw_region ?_
      have hnil : hs.drop i = [] := List.drop_eq_nil_of_le (by omega)
      rw [hnil] at hi1
      have hcl : cl = clashL hs := by rw [← hi1]; exact (List.append_nil _).symm
      subst hcl
      refine wl_look (R := ∃ A cc, v = .slice A j cc) (fun wx hm => own_slice (hm.ownI 0 rfl)) ?_
      rintro ⟨A3, c3, rfl⟩
      refine wl_ov (ov_move rfl) rfl ?_
      refine wl_ov (ov_assign rfl) rfl ?_
      refine wl_ov (ov_assign rfl) rfl ?_
      refine wl_nil ?_
      refine nx_then ?_
      refine gw_ret ?_
      refine nx_ret2 rfl rfl rfl fun wx hm => ?_
      refine ⟨A3, j, c3, by rw [hE], hm.g, ?_⟩
      rw [show clashOr (hiresE hs) hs = clashL hs from if_pos hE]
      exact SlT.ofOwn cl_len (hm.ownI 0 rfl) hi2.symm

def drv (D : Bool) (x : Int) : Int := bif D then x else 5761440
theorem drv_lt {D : Bool} {x : Int} (h : drv D x < 5761440) : D = true ∧ x < 5761440 := by
  cases D with
  | true => exact ⟨rfl, h⟩
  | false => exact absurd h (by show ¬ (5761440 : Int) < 5761440; decide)
set_option maxRecDepth 100000 in
set_option maxHeartbeats 4000000 in
theorem clashesOf_any (hs : List Hs) (A : Option Addr) (n c : Nat) (w : World) (hl : SlT hsEnc 5 36 w A n hs) (hg : Legs hs w) (hok : ∀ h ∈ hs, HsOk h) (hnc : n ≤ c) (hhr : hs.length ≤ 500 ∧ ∀ x ∈ hs, hireE x.hr = 0) :
    Calls Tryd.prog 84 #[.slice A n c] w (fun e w' => ∃ A2 n2 c2, e = .returned (.slice A2 n2 c2) ∧ w.grownBy w' none ∧ SlT clEnc 4 123 w' A2 n2 (clashL hs)) := by
  refine gw_enter ⟨103, w, none, []⟩ Tryd.func84 rfl Tryd.ntmps84 rfl (mem0 (X := [SlOld hsEnc 5 36 w.heap.size none A n hs, LegsOld w.heap.size none hs]) (allF_cons hl.old (allF_cons hg.old allF_nil)) (allL_cons SlOld.lasts (allL_cons LegsOld.lasts allL_nil))) ?_
  refine gw_seq ?_
  refine gw_region ?_
  have hlen := hl.len
  have hn5 := hhr.1
  refine wl_nilOwn 123 4 ?_
  refine wl_ov (ov_assign rfl) rfl ?_
  refine wl_nil ?_
  refine nx_then ?_
  refine gw_seq ?_
  refine gw_region ?_
  refine wl_ov (ov_assign rfl) rfl ?_
  refine wl_nil ?_
  refine nx_then ?_
  refine gw_seq ?_
  refine gw_seq ?_
  refine gw_region ?_
  refine wl_ov (ov_move rfl) rfl ?_
  refine wl_ov (ov_len es99 rfl) rfl ?_
  refine wl_ov (ov_move rfl) rfl ?_
  refine wl_nil ?_
  refine nx_then ?_
  refine gw_block ?_
  refine gw_loop (γ := Nat × Nat × Value × List Cl × List Value) (fun (g : Nat × Nat × Value × List Cl × List Value) => g.1 ≤ n ∧ g.2.2.2.1 ++ clashL (hs.drop g.1) = clashL hs ∧ g.2.1 = g.2.2.2.1.length ∧ g.2.2.2.2 = g.2.2.2.1.flatMap clEnc) (fun (g : Nat × Nat × Value × List Cl × List Value) => [(0, .slice A n c), (2, .slice none 0 0), (3, g.2.2.1), (17, .slice A n c), (18, .int .i64 ((n : Nat) : Int)), (19, .int .i64 ((g.1 : Nat) : Int))]) (fun (g : Nat × Nat × Value × List Cl × List Value) => fun _ => True) (fun (g : Nat × Nat × Value × List Cl × List Value) => []) (fun (g : Nat × Nat × Value × List Cl × List Value) => [⟨g.2.2.1, 123, 4, g.2.1, g.2.2.2.2⟩]) (fun (g : Nat × Nat × Value × List Cl × List Value) => [SlOld hsEnc 5 36 w.heap.size none A n hs, LegsOld w.heap.size none hs]) (fun (g : Nat × Nat × Value × List Cl × List Value) => n - g.1) (0, 0, .slice none 0 0, [], []) ⟨Nat.zero_le _, rfl, rfl, rfl⟩ ⟨rfl, rfl, rfl, rfl, rfl, rfl, trivial⟩ (fun _ hm => hm.pick [] [0] [0, 1] rfl rfl) ?_
  rintro ⟨i, j, v, cl, xs⟩ hinv
  replace hinv : i ≤ n ∧ cl ++ clashL (hs.drop i) = clashL hs ∧ j = cl.length ∧ xs = cl.flatMap clEnc := hinv
  dsimp only
  refine gw_seq ?_
  refine gw_region ?_
  obtain ⟨hi0, hi1, hi2, rfl⟩ := hinv
  refine wl_ov (ov_lss rfl rfl) rfl ?_
  refine wl_nil ?_
  refine nx_then ?_
  refine gw_seq ?_
  refine gw_cond rfl (fun hh => ?_) (fun hh => ?_)
  · have hi : ((i : Nat) : Int) < ((n : Nat) : Int) := by simpa using hh
    clear hh
    refine gw_skip ?_
    refine nx_then ?_
    refine gw_seq ?_
    refine gw_block ?_
    refine gw_seq ?_
    refine gw_region ?_
    obtain ⟨b, off, hA, _, _⟩ := hl.get (by omega)
    subst hA
    obtain ⟨x, hx⟩ : ∃ x, hs[i]? = some x := ⟨_, List.getElem?_eq_getElem (by omega)⟩
    obtain ⟨k1, d1, f1, t1, A1, n1, c1, l1⟩ := x
    have hat := clashL_at hx
    obtain ⟨hho1, hhn1⟩ := hok _ (List.mem_of_getElem? hx)
    have hhn1 : n1 ≤ 1000 := hhn1
    have htm1 : Tm l1 := tm_of hhr.2 hx
    refine wl_also (Y := SlOld lgEnc 9 138 w.heap.size none A1 n1 l1) (SlOld.lasts) (fun wx hm => (hm.fact 1 rfl) _ (List.mem_of_getElem? hx)) ?_
    refine wl_also (Y := SlOld hsEnc 5 36 w.heap.size none (if c = i + 1 then (some ⟨b, off, none⟩) else Option.map (fun a : Addr => a.add ((i + 1) * 5)) (some ⟨b, off, none⟩)) (n - (i + 1)) (hs.drop (i + 1))) (SlOld.lasts) (fun wx hm => (hm.fact 1 rfl).dropS (i + 1) (by omega) hnc) ?_
    obtain ⟨AD, hAD⟩ : ∃ D : Option Addr, D = (if c = i + 1 then (some ⟨b, off, none⟩) else Option.map (fun a : Addr => a.add ((i + 1) * 5)) (some ⟨b, off, none⟩)) := ⟨_, rfl⟩
    rw [← hAD]
    refine wl_ov (ov_move rfl) rfl ?_
    refine wl_ov (ov_index (j := i) es99 rfl rfl (by omega)) rfl ?_
    refine wl_ov (ov_elem rz36 rfl (fun _ hm => (hm.fact 2 rfl).1) hx rfl rfl) rfl ?_
    refine wl_alloc zc36 rfl fun g1 => ?_
    refine wl_ov (ov_assign rfl) rfl ?_
    refine wl_stores (cs' := [.string k1, .string d1, .int .i64 f1, .int .i64 t1, .slice A1 n1 c1]) 0 rz36 rfl rfl rfl rfl rfl rfl rfl rfl ?_
    refine wl_nil ?_
    refine nx_then ?_
    refine gw_seq ?_
    refine gw_region ?_
    refine wl_ov (ov_move rfl) rfl ?_
    refine wl_ov (ov_move rfl) rfl ?_
    refine wl_ov (ov_add rfl rfl (by omega) (by omega)) rfl ?_
    refine wl_set 26 (v' := .int .i64 ((i + 1 : Nat) : Int)) rfl (congrArg (Value.int .i64) (by omega)) ?_
    refine wl_ov (ov_sliceLo (lo := i + 1) es99 rfl rfl rfl (by omega)) rfl ?_
    refine wl_set 27 (v' := .slice AD (n - (i + 1)) (c - (i + 1))) rfl (congrArg (fun z => Value.slice z (n - (i + 1)) (c - (i + 1))) hAD.symm) ?_
    refine wl_ov (ov_len es99 rfl) rfl ?_
    refine wl_ov (ov_move rfl) rfl ?_
    refine wl_nil ?_
    refine nx_then ?_
    refine gw_block ?_
    refine gw_loop (γ := Nat × Nat × Value × List Cl × List Value) (fun (g : Nat × Nat × Value × List Cl × List Value) => g.1 ≤ n - (i + 1) ∧ g.2.2.2.1 ++ ((hs.drop (i + 1)).drop g.1).flatMap (clsOf ⟨k1, d1, f1, t1, A1, n1, c1, l1⟩) ++ clashL (hs.drop (i + 1)) = clashL hs ∧ g.2.1 = g.2.2.2.1.length ∧ g.2.2.2.2 = g.2.2.2.1.flatMap clEnc) (fun (g : Nat × Nat × Value × List Cl × List Value) => [(0, .slice (some ⟨b, off, none⟩) n c), (2, .slice none 0 0), (3, g.2.2.1), (5, .pointer (some ⟨g1, 0, none⟩)), (17, .slice (some ⟨b, off, none⟩) n c), (18, .int .i64 ((n : Nat) : Int)), (19, .int .i64 ((i : Nat) : Int)), (27, .slice AD (n - (i + 1)) (c - (i + 1))), (28, .int .i64 ((n - (i + 1) : Nat) : Int)), (29, .int .i64 ((g.1 : Nat) : Int))]) (fun (g : Nat × Nat × Value × List Cl × List Value) => fun _ => True) (fun (g : Nat × Nat × Value × List Cl × List Value) => [(g1, 36, [.string k1, .string d1, .int .i64 f1, .int .i64 t1, .slice A1 n1 c1])]) (fun (g : Nat × Nat × Value × List Cl × List Value) => [⟨g.2.2.1, 123, 4, g.2.1, g.2.2.2.2⟩]) (fun (g : Nat × Nat × Value × List Cl × List Value) => [SlOld hsEnc 5 36 w.heap.size none AD (n - (i + 1)) (hs.drop (i + 1)), SlOld lgEnc 9 138 w.heap.size none A1 n1 l1, SlOld hsEnc 5 36 w.heap.size none (some ⟨b, off, none⟩) n hs, LegsOld w.heap.size none hs]) (fun (g : Nat × Nat × Value × List Cl × List Value) => n - (i + 1) - g.1) (0, j, v, cl, cl.flatMap clEnc) ⟨Nat.zero_le _, by dsimp only; rw [List.drop_zero, List.append_assoc, ← hat]; exact hi1, hi2, rfl⟩ ⟨rfl, rfl, rfl, rfl, rfl, rfl, rfl, rfl, rfl, rfl, trivial⟩ (fun _ hm => hm.pick [0] [0] [0, 1, 2, 3] rfl rfl) ?_
    rintro ⟨k, j2, v2, cl2, xs2⟩ hinv
    replace hinv : k ≤ n - (i + 1) ∧ cl2 ++ ((hs.drop (i + 1)).drop k).flatMap (clsOf ⟨k1, d1, f1, t1, A1, n1, c1, l1⟩) ++ clashL (hs.drop (i + 1)) = clashL hs ∧ j2 = cl2.length ∧ xs2 = cl2.flatMap clEnc := hinv
    dsimp only
    refine gw_seq ?_
    refine gw_region ?_
    obtain ⟨hk0, hk1, hk2, rfl⟩ := hinv
    refine wl_ov (ov_lss rfl rfl) rfl ?_
    refine wl_nil ?_
    refine nx_then ?_
    refine gw_seq ?_
    refine gw_cond rfl (fun hh => ?_) (fun hh => ?_)
    · have hk : ((k : Nat) : Int) < ((n - (i + 1) : Nat) : Int) := by simpa using hh
      clear hh
      refine gw_skip ?_
      refine nx_then ?_
      refine gw_seq ?_
      refine gw_block ?_
      refine gw_seq ?_
      refine gw_region ?_
      refine wl_look (R := ∃ b off, AD = some ⟨b, off, none⟩) (fun wx hm => by obtain ⟨b, off, h, _, _⟩ := SlT.get ((hm.fact 0 rfl)).1 (by omega : 0 < n - (i + 1)); exact ⟨b, off, h⟩) ?_
      rintro ⟨b2, o2, rfl⟩
      have hdl : (hs.drop (i + 1)).length = n - (i + 1) := by rw [List.length_drop]; omega
      obtain ⟨y, hy⟩ : ∃ x, (hs.drop (i + 1))[k]? = some x := ⟨_, List.getElem?_eq_getElem (by omega)⟩
      obtain ⟨k2, d2, f2, t2, A2, n2, c2, l2⟩ := y
      have hfl := flatMap_at (f := clsOf ⟨k1, d1, f1, t1, A1, n1, c1, l1⟩) hy
      have hy2 : hs[i + 1 + k]? = some ⟨k2, d2, f2, t2, A2, n2, c2, l2⟩ := by rw [← List.getElem?_drop]; exact hy
      obtain ⟨hho2, hhn2⟩ := hok _ (List.mem_of_getElem? hy2)
      have hhn2 : n2 ≤ 1000 := hhn2
      have htm2 : Tm l2 := tm_of hhr.2 hy2
      refine wl_also (Y := SlOld lgEnc 9 138 w.heap.size none A2 n2 l2) (SlOld.lasts) (fun wx hm => (hm.fact 3 rfl) _ (List.mem_of_getElem? hy2)) ?_
      obtain ⟨MA, hMA⟩ : ∃ M, M = outF true l1 l2 := ⟨_, rfl⟩
      obtain ⟨MB, hMB⟩ : ∃ M, M = outF false l1 l2 := ⟨_, rfl⟩
      have hMA0 := outF_bound (fl := true) htm2 htm1
      have hMB0 := outF_bound (fl := false) htm2 htm1
      rw [← hMA] at hMA0
      rw [← hMB] at hMB0
      have hjb : cl2.length ≤ 500000 := by
        have h1 := congrArg List.length hk1
        simp only [List.length_append] at h1
        have h2 := hhr.1
        rcases clashL_len hs with h3 | h3 <;> omega
      obtain ⟨D, hD⟩ : ∃ D, D = (d1.toList == d2.toList) := ⟨_, rfl⟩
      refine wl_ov (ov_index (j := k) es99 rfl rfl (by omega)) rfl ?_
      refine wl_ov (ov_elem rz36 rfl (fun _ hm => (hm.fact 1 rfl).1) hy rfl rfl) rfl ?_
      refine wl_alloc zc36 rfl fun g2 => ?_
      refine wl_stores (cs' := [.string k2, .string d2, .int .i64 f2, .int .i64 t2, .slice A2 n2 c2]) 0 rz36 rfl rfl rfl rfl rfl rfl rfl rfl ?_
      refine wl_nil ?_
      refine nx_then ?_
      refine gw_seq ?_
      refine gw_region ?_
      refine wl_ov (ov_assign rfl) rfl ?_
      refine wl_ov (ov_assign rfl) rfl ?_
      refine wl_nil ?_
      refine nx_then ?_
      refine gw_seq ?_
      refine gw_seq ?_
      refine gw_region ?_
      refine wl_ov (ov_field fo36_3 rfl rfl) rfl ?_
      refine wl_ov (ov_load sc34 rfl (fun _ hm => hm.blkI 1 rfl) rfl) rfl ?_
      refine wl_ov (ov_len es34 rfl) rfl ?_
      refine wl_ov (ov_move rfl) rfl ?_
      refine wl_nil ?_
      refine nx_then ?_
      refine gw_block ?_
      refine gw_loop (γ := Nat) (fun (p : Nat) => p ≤ n1) (fun (p : Nat) => [(0, .slice (some ⟨b, off, none⟩) n c), (2, .slice none 0 0), (3, v2), (5, .pointer (some ⟨g1, 0, none⟩)), (7, .pointer (some ⟨g2, 0, none⟩)), (8, .int .i64 (outF true (l1.take p) l2)), (9, .int .i64 (drv D (outF false (l1.take p) l2))), (17, .slice (some ⟨b, off, none⟩) n c), (18, .int .i64 ((n : Nat) : Int)), (19, .int .i64 ((i : Nat) : Int)), (27, .slice (some ⟨b2, o2, none⟩) (n - (i + 1)) (c - (i + 1))), (28, .int .i64 ((n - (i + 1) : Nat) : Int)), (29, .int .i64 ((k : Nat) : Int)), (34, .slice A1 n1 c1), (35, .int .i64 ((n1 : Nat) : Int)), (36, .int .i64 ((p : Nat) : Int))]) (fun (p : Nat) => fun _ => True) (fun (p : Nat) => [(g2, 36, [.string k2, .string d2, .int .i64 f2, .int .i64 t2, .slice A2 n2 c2]), (g1, 36, [.string k1, .string d1, .int .i64 f1, .int .i64 t1, .slice A1 n1 c1])]) (fun (p : Nat) => [⟨v2, 123, 4, j2, cl2.flatMap clEnc⟩]) (fun (p : Nat) => [SlOld lgEnc 9 138 w.heap.size none A2 n2 l2, SlOld hsEnc 5 36 w.heap.size none (some ⟨b2, o2, none⟩) (n - (i + 1)) (hs.drop (i + 1)), SlOld lgEnc 9 138 w.heap.size none A1 n1 l1, SlOld hsEnc 5 36 w.heap.size none (some ⟨b, off, none⟩) n hs, LegsOld w.heap.size none hs]) (fun (p : Nat) => n1 - p) 0 (Nat.zero_le _) ⟨rfl, rfl, rfl, rfl, rfl, rfl, (some_int (by cases D <;> rfl)), rfl, rfl, rfl, rfl, rfl, rfl, rfl, rfl, rfl, trivial⟩ (fun _ hm => hm.pick [0, 1] [0] [0, 1, 2, 3, 4] rfl rfl) ?_
      intro p hinv
      replace hinv : p ≤ n1 := hinv
      refine gw_seq ?_
      refine gw_region ?_
      refine wl_look (R := l1.length = n1 ∧ l2.length = n2) (fun wx hm => ⟨(hm.fact 2 rfl).1.len, (hm.fact 0 rfl).1.len⟩) ?_
      rintro ⟨hln1, hln2⟩
      refine wl_ov (ov_lss rfl rfl) rfl ?_
      refine wl_nil ?_
      refine nx_then ?_
      refine gw_seq ?_
      refine gw_cond rfl (fun hh => ?_) (fun hh => ?_)
      · have hp : ((p : Nat) : Int) < ((n1 : Nat) : Int) := by simpa using hh
        clear hh
        refine gw_skip ?_
        refine nx_then ?_
        refine gw_seq ?_
        refine gw_block ?_
        refine gw_seq ?_
        refine gw_region ?_
        refine wl_look (R := ∃ b off, A1 = some ⟨b, off, none⟩) (fun wx hm => by obtain ⟨b, off, h, _, _⟩ := SlT.get ((hm.fact 2 rfl)).1 (by omega : 0 < n1); exact ⟨b, off, h⟩) ?_
        rintro ⟨b3, o3, rfl⟩
        obtain ⟨z, hz⟩ : ∃ x, l1[p]? = some x := ⟨_, List.getElem?_eq_getElem (by omega)⟩
        obtain ⟨gv, ⟨oa, os, om, of⟩, ⟨ia, is_, im, if_⟩⟩ := z
        have hga := htm1 _ (List.mem_of_getElem? hz)
        obtain ⟨YA, hYA⟩ : ∃ Y, Y = outF true (l1.take p) l2 := ⟨_, rfl⟩
        have hYAn : outF true (l1.take (p + 1)) l2 = inF true ⟨gv, ⟨oa, os, om, of⟩, ⟨ia, is_, im, if_⟩⟩ l2 YA := by rw [hYA]; exact foldl_take hz
        obtain ⟨YB, hYB⟩ : ∃ Y, Y = outF false (l1.take p) l2 := ⟨_, rfl⟩
        have hYBn : outF false (l1.take (p + 1)) l2 = inF false ⟨gv, ⟨oa, os, om, of⟩, ⟨ia, is_, im, if_⟩⟩ l2 YB := by rw [hYB]; exact foldl_take hz
        refine wl_set 8 (v' := .int .i64 YA) rfl (congrArg (Value.int .i64) hYA.symm) ?_
        refine wl_set 9 (v' := .int .i64 (drv D YB)) rfl (congrArg (fun z => Value.int .i64 (drv D z)) hYB.symm) ?_
        refine wl_ov (ov_index (j := p) es34 rfl rfl (by omega)) rfl ?_
        refine wl_ov (ov_elem rz138 rfl (fun _ hm => (hm.fact 2 rfl).1) hz rfl rfl) rfl ?_
        refine wl_alloc zc138 rfl fun g3 => ?_
        refine wl_stores (cs' := [.string gv, .int .i64 oa, .string os, .int .i64 om, .int .i64 of, .int .i64 ia, .string is_, .int .i64 im, .int .i64 if_]) 0 rz138 rfl rfl rfl rfl rfl rfl rfl rfl ?_
        refine wl_nil ?_
        refine nx_then ?_
        refine gw_seq ?_
        refine gw_region ?_
        refine wl_ov (ov_field fo36_3 rfl rfl) rfl ?_
        refine wl_ov (ov_load sc34 rfl (fun _ hm => hm.blkI 1 rfl) rfl) rfl ?_
        refine wl_ov (ov_len es34 rfl) rfl ?_
        refine wl_ov (ov_move rfl) rfl ?_
        refine wl_nil ?_
        refine nx_then ?_
        refine gw_block ?_
        refine gw_loop (γ := Nat) (fun (s : Nat) => s ≤ n2) (fun (s : Nat) => [(0, .slice (some ⟨b, off, none⟩) n c), (2, .slice none 0 0), (3, v2), (5, .pointer (some ⟨g1, 0, none⟩)), (7, .pointer (some ⟨g2, 0, none⟩)), (8, .int .i64 (inF true ⟨gv, ⟨oa, os, om, of⟩, ⟨ia, is_, im, if_⟩⟩ (l2.take s) YA)), (9, .int .i64 (drv D (inF false ⟨gv, ⟨oa, os, om, of⟩, ⟨ia, is_, im, if_⟩⟩ (l2.take s) YB))), (11, .pointer (some ⟨g3, 0, none⟩)), (17, .slice (some ⟨b, off, none⟩) n c), (18, .int .i64 ((n : Nat) : Int)), (19, .int .i64 ((i : Nat) : Int)), (27, .slice (some ⟨b2, o2, none⟩) (n - (i + 1)) (c - (i + 1))), (28, .int .i64 ((n - (i + 1) : Nat) : Int)), (29, .int .i64 ((k : Nat) : Int)), (34, .slice (some ⟨b3, o3, none⟩) n1 c1), (35, .int .i64 ((n1 : Nat) : Int)), (36, .int .i64 ((p : Nat) : Int)), (41, .slice A2 n2 c2), (42, .int .i64 ((n2 : Nat) : Int)), (43, .int .i64 ((s : Nat) : Int))]) (fun (s : Nat) => fun _ => True) (fun (s : Nat) => [(g3, 138, [.string gv, .int .i64 oa, .string os, .int .i64 om, .int .i64 of, .int .i64 ia, .string is_, .int .i64 im, .int .i64 if_]), (g2, 36, [.string k2, .string d2, .int .i64 f2, .int .i64 t2, .slice A2 n2 c2]), (g1, 36, [.string k1, .string d1, .int .i64 f1, .int .i64 t1, .slice (some ⟨b3, o3, none⟩) n1 c1])]) (fun (s : Nat) => [⟨v2, 123, 4, j2, cl2.flatMap clEnc⟩]) (fun (s : Nat) => [SlOld lgEnc 9 138 w.heap.size none A2 n2 l2, SlOld hsEnc 5 36 w.heap.size none (some ⟨b2, o2, none⟩) (n - (i + 1)) (hs.drop (i + 1)), SlOld lgEnc 9 138 w.heap.size none (some ⟨b3, o3, none⟩) n1 l1, SlOld hsEnc 5 36 w.heap.size none (some ⟨b, off, none⟩) n hs, LegsOld w.heap.size none hs]) (fun (s : Nat) => n2 - s) 0 (Nat.zero_le _) ⟨rfl, rfl, rfl, rfl, rfl, rfl, rfl, rfl, rfl, rfl, rfl, rfl, rfl, rfl, rfl, rfl, rfl, rfl, rfl, rfl, trivial⟩ (fun _ hm => hm.pick [0, 1, 2] [0] [0, 1, 2, 3, 4] rfl rfl) ?_
        intro s hinv
        replace hinv : s ≤ n2 := hinv
        refine gw_seq ?_
        refine gw_region ?_
        refine wl_ov (ov_lss rfl rfl) rfl ?_
        refine wl_nil ?_
        refine nx_then ?_
        refine gw_seq ?_
        refine gw_cond rfl (fun hh => ?_) (fun hh => ?_)
        · have hs2 : ((s : Nat) : Int) < ((n2 : Nat) : Int) := by simpa using hh
          clear hh
          refine gw_skip ?_
          refine nx_then ?_
          refine gw_seq ?_
          refine gw_block ?_
          refine gw_seq ?_
          refine gw_region ?_
          refine wl_look (R := ∃ b off, A2 = some ⟨b, off, none⟩) (fun wx hm => by obtain ⟨b, off, h, _, _⟩ := SlT.get ((hm.fact 0 rfl)).1 (by omega : 0 < n2); exact ⟨b, off, h⟩) ?_
          rintro ⟨b4, o4, rfl⟩
          obtain ⟨v3, hv2⟩ : ∃ x, l2[s]? = some x := ⟨_, List.getElem?_eq_getElem (by omega)⟩
          obtain ⟨hv, ⟨pa, ps, pm, pf⟩, ⟨ja, js, jm, jf⟩⟩ := v3
          obtain ⟨SP, hSP⟩ : ∃ S, S = startP ⟨gv, ⟨oa, os, om, of⟩, ⟨ia, is_, im, if_⟩⟩ ⟨hv, ⟨pa, ps, pm, pf⟩, ⟨ja, js, jm, jf⟩⟩ := ⟨_, rfl⟩
          obtain ⟨QA, hQA⟩ : ∃ Q, Q = inF true ⟨gv, ⟨oa, os, om, of⟩, ⟨ia, is_, im, if_⟩⟩ (l2.take s) YA := ⟨_, rfl⟩
          have hQAn : inF true ⟨gv, ⟨oa, os, om, of⟩, ⟨ia, is_, im, if_⟩⟩ (l2.take (s + 1)) YA = stp true ⟨gv, ⟨oa, os, om, of⟩, ⟨ia, is_, im, if_⟩⟩ ⟨hv, ⟨pa, ps, pm, pf⟩, ⟨ja, js, jm, jf⟩⟩ QA := by rw [hQA]; exact foldl_take hv2
          unfold stp at hQAn
          rw [← hSP] at hQAn
          obtain ⟨QB, hQB⟩ : ∃ Q, Q = inF false ⟨gv, ⟨oa, os, om, of⟩, ⟨ia, is_, im, if_⟩⟩ (l2.take s) YB := ⟨_, rfl⟩
          have hQBn : inF false ⟨gv, ⟨oa, os, om, of⟩, ⟨ia, is_, im, if_⟩⟩ (l2.take (s + 1)) YB = stp false ⟨gv, ⟨oa, os, om, of⟩, ⟨ia, is_, im, if_⟩⟩ ⟨hv, ⟨pa, ps, pm, pf⟩, ⟨ja, js, jm, jf⟩⟩ QB := by rw [hQB]; exact foldl_take hv2
          unfold stp at hQBn
          rw [← hSP] at hQBn
          refine wl_set 8 (v' := .int .i64 QA) rfl (congrArg (Value.int .i64) hQA.symm) ?_
          refine wl_set 9 (v' := .int .i64 (drv D QB)) rfl (congrArg (fun z => Value.int .i64 (drv D z)) hQB.symm) ?_
          refine wl_ov (ov_index (j := s) es34 rfl rfl (by omega)) rfl ?_
          refine wl_ov (ov_elem rz138 rfl (fun _ hm => (hm.fact 0 rfl).1) hv2 rfl rfl) rfl ?_
          refine wl_alloc zc138 rfl fun g4 => ?_
          refine wl_stores (cs' := [.string hv, .int .i64 pa, .string ps, .int .i64 pm, .int .i64 pf, .int .i64 ja, .string js, .int .i64 jm, .int .i64 jf]) 0 rz138 rfl rfl rfl rfl rfl rfl rfl rfl ?_
          refine wl_nil ?_
          refine nx_then ?_
          refine gw_cut (γ := Nat × Nat) (I := (fun (g : Nat × Nat) => True)) (S' := (fun (g : Nat × Nat) => [(0, .slice (some ⟨b, off, none⟩) n c), (2, .slice none 0 0), (3, v2), (5, .pointer (some ⟨g1, 0, none⟩)), (7, .pointer (some ⟨g2, 0, none⟩)), (8, .int .i64 QA), (9, .int .i64 (drv D QB)), (11, .pointer (some ⟨g3, 0, none⟩)), (13, .pointer (some ⟨g4, 0, none⟩)), (14, .pointer (some ⟨g.1, 0, none⟩)), (15, .pointer (some ⟨g.2, 0, none⟩)), (17, .slice (some ⟨b, off, none⟩) n c), (18, .int .i64 ((n : Nat) : Int)), (19, .int .i64 ((i : Nat) : Int)), (27, .slice (some ⟨b2, o2, none⟩) (n - (i + 1)) (c - (i + 1))), (28, .int .i64 ((n - (i + 1) : Nat) : Int)), (29, .int .i64 ((k : Nat) : Int)), (34, .slice (some ⟨b3, o3, none⟩) n1 c1), (35, .int .i64 ((n1 : Nat) : Int)), (36, .int .i64 ((p : Nat) : Int)), (41, .slice (some ⟨b4, o4, none⟩) n2 c2), (42, .int .i64 ((n2 : Nat) : Int)), (43, .int .i64 ((s : Nat) : Int))])) (K' := (fun (g : Nat × Nat) => fun _ => True)) (L' := (fun (g : Nat × Nat) => [(g4, 138, [.string hv, .int .i64 pa, .string ps, .int .i64 pm, .int .i64 pf, .int .i64 ja, .string js, .int .i64 jm, .int .i64 jf]), (g3, 138, [.string gv, .int .i64 oa, .string os, .int .i64 om, .int .i64 of, .int .i64 ia, .string is_, .int .i64 im, .int .i64 if_]), (g2, 36, [.string k2, .string d2, .int .i64 f2, .int .i64 t2, .slice (some ⟨b4, o4, none⟩) n2 c2]), (g1, 36, [.string k1, .string d1, .int .i64 f1, .int .i64 t1, .slice (some ⟨b3, o3, none⟩) n1 c1]), (g.1, 28, [.int .i64 (lastA ⟨gv, ⟨oa, os, om, of⟩, ⟨ia, is_, im, if_⟩⟩), .int .i64 (lastB ⟨gv, ⟨oa, os, om, of⟩, ⟨ia, is_, im, if_⟩⟩)]), (g.2, 28, [.int .i64 (lastA ⟨hv, ⟨pa, ps, pm, pf⟩, ⟨ja, js, jm, jf⟩⟩), .int .i64 (lastB ⟨hv, ⟨pa, ps, pm, pf⟩, ⟨ja, js, jm, jf⟩⟩)])])) (O' := (fun (g : Nat × Nat) => [⟨v2, 123, 4, j2, cl2.flatMap clEnc⟩])) (X' := (fun (g : Nat × Nat) => [SlOld lgEnc 9 138 w.heap.size none (some ⟨b4, o4, none⟩) n2 l2, SlOld hsEnc 5 36 w.heap.size none (some ⟨b2, o2, none⟩) (n - (i + 1)) (hs.drop (i + 1)), SlOld lgEnc 9 138 w.heap.size none (some ⟨b3, o3, none⟩) n1 l1, SlOld hsEnc 5 36 w.heap.size none (some ⟨b, off, none⟩) n hs, LegsOld w.heap.size none hs])) ?_ ?_
          · refine gw_draw (fun wz => Blk wz g4 138 [.string hv, .int .i64 pa, .string ps, .int .i64 pm, .int .i64 pf, .int .i64 ja, .string js, .int .i64 jm, .int .i64 jf] ∧ Blk wz g3 138 [.string gv, .int .i64 oa, .string os, .int .i64 om, .int .i64 of, .int .i64 ia, .string is_, .int .i64 im, .int .i64 if_] ∧ Blk wz g2 36 [.string k2, .string d2, .int .i64 f2, .int .i64 t2, .slice (some ⟨b4, o4, none⟩) n2 c2] ∧ Blk wz g1 36 [.string k1, .string d1, .int .i64 f1, .int .i64 t1, .slice (some ⟨b3, o3, none⟩) n1 c1] ∧ (SlOld lgEnc 9 138 w.heap.size none (some ⟨b4, o4, none⟩) n2 l2) wz ∧ (SlOld hsEnc 5 36 w.heap.size none (some ⟨b2, o2, none⟩) (n - (i + 1)) (hs.drop (i + 1))) wz ∧ (SlOld lgEnc 9 138 w.heap.size none (some ⟨b3, o3, none⟩) n1 l1) wz ∧ (SlOld hsEnc 5 36 w.heap.size none (some ⟨b, off, none⟩) n hs) wz ∧ (LegsOld w.heap.size none hs) wz ∧ True) mixed ?_
            refine wa_take 0 rfl (by kernel_rfl) (by kernel_rfl) (by kernel_rfl) (listed' := #[true, false, false, false, false, false, false, false]) rfl (fun _ _ _ h => h) (fun _ hm => ⟨hm.blkI 0 rfl, hm.blkI 1 rfl, hm.blkI 2 rfl, hm.blkI 3 rfl, hm.fact 0 rfl, hm.fact 1 rfl, hm.fact 2 rfl, hm.fact 3 rfl, hm.fact 4 rfl, trivial⟩) (ov_loads rz138 rfl (fun _ hm => hm.2.1) rfl rfl) rfl ?_
            refine wa_take 2 rfl (by kernel_rfl) (by kernel_rfl) (by kernel_rfl) (listed' := #[true, false, true, false, false, false, false, false]) rfl (fun _ _ _ h => h) (fun _ hm => ⟨hm.blkI 0 rfl, hm.blkI 1 rfl, hm.blkI 2 rfl, hm.blkI 3 rfl, hm.fact 0 rfl, hm.fact 1 rfl, hm.fact 2 rfl, hm.fact 3 rfl, hm.fact 4 rfl, trivial⟩) (ov_loads rz138 rfl (fun _ hm => hm.1) rfl rfl) rfl ?_
            refine wa_all [1, 4, 5] (by kernel_rfl) rfl ⟨⟨_, rfl, ?_⟩, ⟨_, rfl, ?_⟩, ⟨_, rfl, ?_⟩, trivial⟩
            · refine wl_callv rfl cb128 rfl rfl (fun wx hm => (rlasts_any gv oa os om of ia is_ im if_ wx)) ?_
              refine wl_nil ?_
              refine nx_wa0 (listed' := #[true, true, true, false, false, false, false, false]) rfl (fun _ hm => ⟨hm.blkI 0 rfl, hm.blkI 1 rfl, hm.blkI 2 rfl, hm.blkI 3 rfl, hm.fact 0 rfl, hm.fact 1 rfl, hm.fact 2 rfl, hm.fact 3 rfl, hm.fact 4 rfl, trivial⟩) ?_
              refine wa_all [3, 4, 5] (by kernel_rfl) rfl ⟨⟨_, rfl, ?_⟩, ⟨_, rfl, ?_⟩, ⟨_, rfl, ?_⟩, trivial⟩
              · refine wl_callv rfl cb128 rfl rfl (fun wx hm => (rlasts_any hv pa ps pm pf ja js jm jf wx)) ?_
                refine wl_nil ?_
                refine nx_wa0 (listed' := #[true, true, true, true, false, false, false, false]) rfl (fun _ hm => ⟨hm.blkI 0 rfl, hm.blkI 1 rfl, hm.blkI 2 rfl, hm.blkI 3 rfl, hm.fact 0 rfl, hm.fact 1 rfl, hm.fact 2 rfl, hm.fact 3 rfl, hm.fact 4 rfl, trivial⟩) ?_
                refine wa_all [4, 5] (by kernel_rfl) rfl ⟨⟨_, rfl, ?_⟩, ⟨_, rfl, ?_⟩, trivial⟩
                · refine wl_alloc zc28 rfl fun g5 => ?_
                  refine wl_nil ?_
                  refine nx_wa0 (listed' := #[true, true, true, true, true, false, false, false]) rfl (fun _ hm => ⟨hm.blkI 1 rfl, hm.blkI 2 rfl, hm.blkI 3 rfl, hm.blkI 4 rfl, hm.fact 0 rfl, hm.fact 1 rfl, hm.fact 2 rfl, hm.fact 3 rfl, hm.fact 4 rfl, trivial⟩) ?_
                  refine wa_all [5] (by kernel_rfl) rfl ⟨⟨_, rfl, ?_⟩, trivial⟩
                  refine wl_alloc zc28 rfl fun g6 => ?_
                  refine wl_nil ?_
                  refine nx_wa0 (listed' := #[true, true, true, true, true, true, false, false]) rfl (fun _ hm => ⟨hm.blkI 2 rfl, hm.blkI 3 rfl, hm.blkI 4 rfl, hm.blkI 5 rfl, hm.fact 0 rfl, hm.fact 1 rfl, hm.fact 2 rfl, hm.fact 3 rfl, hm.fact 4 rfl, trivial⟩) ?_
                  refine wa_all [6] (by kernel_rfl) rfl ⟨⟨_, rfl, ?_⟩, trivial⟩
                  refine wl_stores (cs' := [.int .i64 (lastA ⟨gv, ⟨oa, os, om, of⟩, ⟨ia, is_, im, if_⟩⟩), .int .i64 (lastB ⟨gv, ⟨oa, os, om, of⟩, ⟨ia, is_, im, if_⟩⟩)]) 1 rz28 rfl rfl rfl rfl rfl rfl rfl rfl ?_
                  refine wl_nil ?_
                  refine nx_wa0 (listed' := #[true, true, true, true, true, true, true, false]) rfl (fun _ hm => ⟨hm.blkI 2 rfl, hm.blkI 3 rfl, hm.blkI 4 rfl, hm.blkI 5 rfl, hm.fact 0 rfl, hm.fact 1 rfl, hm.fact 2 rfl, hm.fact 3 rfl, hm.fact 4 rfl, trivial⟩) ?_
                  refine wa_all [7] (by kernel_rfl) rfl ⟨⟨_, rfl, ?_⟩, trivial⟩
                  refine wl_stores (cs' := [.int .i64 (lastA ⟨hv, ⟨pa, ps, pm, pf⟩, ⟨ja, js, jm, jf⟩⟩), .int .i64 (lastB ⟨hv, ⟨pa, ps, pm, pf⟩, ⟨ja, js, jm, jf⟩⟩)]) 0 rz28 rfl rfl rfl rfl rfl rfl rfl rfl ?_
                  refine wl_nil ?_
                  refine nx_wa0 (listed' := #[true, true, true, true, true, true, true, true]) rfl (fun _ hm => ⟨hm.blkI 2 rfl, hm.blkI 3 rfl, hm.blkI 4 rfl, hm.blkI 5 rfl, hm.fact 0 rfl, hm.fact 1 rfl, hm.fact 2 rfl, hm.fact 3 rfl, hm.fact 4 rfl, trivial⟩) ?_
                  refine wa_done (by kernel_rfl) ?_
                  exact nx_meet (g5, g6) trivial ⟨rfl, rfl, rfl, rfl, rfl, rfl, rfl, rfl, rfl, rfl, rfl, rfl, rfl, rfl, rfl, rfl, rfl, rfl, rfl, rfl, rfl, rfl, rfl, trivial⟩ (fun _ hm => hm.pick [2, 3, 4, 5, 1, 0] [0] [0, 1, 2, 3, 4] rfl rfl)
                · refine wl_alloc zc28 rfl fun g7 => ?_
                  refine wl_nil ?_
                  refine nx_wa0 (listed' := #[true, true, true, true, false, true, false, false]) rfl (fun _ hm => ⟨hm.blkI 1 rfl, hm.blkI 2 rfl, hm.blkI 3 rfl, hm.blkI 4 rfl, hm.fact 0 rfl, hm.fact 1 rfl, hm.fact 2 rfl, hm.fact 3 rfl, hm.fact 4 rfl, trivial⟩) ?_
                  refine wa_all [4] (by kernel_rfl) rfl ⟨⟨_, rfl, ?_⟩, trivial⟩
                  refine wl_alloc zc28 rfl fun g8 => ?_
                  refine wl_nil ?_
                  refine nx_wa0 (listed' := #[true, true, true, true, true, true, false, false]) rfl (fun _ hm => ⟨hm.blkI 2 rfl, hm.blkI 3 rfl, hm.blkI 4 rfl, hm.blkI 5 rfl, hm.fact 0 rfl, hm.fact 1 rfl, hm.fact 2 rfl, hm.fact 3 rfl, hm.fact 4 rfl, trivial⟩) ?_
                  refine wa_all [6] (by kernel_rfl) rfl ⟨⟨_, rfl, ?_⟩, trivial⟩
                  refine wl_stores (cs' := [.int .i64 (lastA ⟨gv, ⟨oa, os, om, of⟩, ⟨ia, is_, im, if_⟩⟩), .int .i64 (lastB ⟨gv, ⟨oa, os, om, of⟩, ⟨ia, is_, im, if_⟩⟩)]) 0 rz28 rfl rfl rfl rfl rfl rfl rfl rfl ?_
                  refine wl_nil ?_
                  refine nx_wa0 (listed' := #[true, true, true, true, true, true, true, false]) rfl (fun _ hm => ⟨hm.blkI 2 rfl, hm.blkI 3 rfl, hm.blkI 4 rfl, hm.blkI 5 rfl, hm.fact 0 rfl, hm.fact 1 rfl, hm.fact 2 rfl, hm.fact 3 rfl, hm.fact 4 rfl, trivial⟩) ?_
                  refine wa_all [7] (by kernel_rfl) rfl ⟨⟨_, rfl, ?_⟩, trivial⟩
                  refine wl_stores (cs' := [.int .i64 (lastA ⟨hv, ⟨pa, ps, pm, pf⟩, ⟨ja, js, jm, jf⟩⟩), .int .i64 (lastB ⟨hv, ⟨pa, ps, pm, pf⟩, ⟨ja, js, jm, jf⟩⟩)]) 1 rz28 rfl rfl rfl rfl rfl rfl rfl rfl ?_
                  refine wl_nil ?_
                  refine nx_wa0 (listed' := #[true, true, true, true, true, true, true, true]) rfl (fun _ hm => ⟨hm.blkI 2 rfl, hm.blkI 3 rfl, hm.blkI 4 rfl, hm.blkI 5 rfl, hm.fact 0 rfl, hm.fact 1 rfl, hm.fact 2 rfl, hm.fact 3 rfl, hm.fact 4 rfl, trivial⟩) ?_
                  refine wa_done (by kernel_rfl) ?_
                  exact nx_meet (g8, g7) trivial ⟨rfl, rfl, rfl, rfl, rfl, rfl, rfl, rfl, rfl, rfl, rfl, rfl, rfl, rfl, rfl, rfl, rfl, rfl, rfl, rfl, rfl, rfl, rfl, trivial⟩ (fun _ hm => hm.pick [2, 3, 4, 5, 0, 1] [0] [0, 1, 2, 3, 4] rfl rfl)
              · refine wl_alloc zc28 rfl fun g9 => ?_
                refine wl_nil ?_
                refine nx_wa0 (listed' := #[true, true, true, false, true, false, false, false]) rfl (fun _ hm => ⟨hm.blkI 1 rfl, hm.blkI 2 rfl, hm.blkI 3 rfl, hm.blkI 4 rfl, hm.fact 0 rfl, hm.fact 1 rfl, hm.fact 2 rfl, hm.fact 3 rfl, hm.fact 4 rfl, trivial⟩) ?_
                refine wa_all [3, 5] (by kernel_rfl) rfl ⟨⟨_, rfl, ?_⟩, ⟨_, rfl, ?_⟩, trivial⟩
                · refine wl_callv rfl cb128 rfl rfl (fun wx hm => (rlasts_any hv pa ps pm pf ja js jm jf wx)) ?_
                  refine wl_nil ?_
                  refine nx_wa0 (listed' := #[true, true, true, true, true, false, false, false]) rfl (fun _ hm => ⟨hm.blkI 1 rfl, hm.blkI 2 rfl, hm.blkI 3 rfl, hm.blkI 4 rfl, hm.fact 0 rfl, hm.fact 1 rfl, hm.fact 2 rfl, hm.fact 3 rfl, hm.fact 4 rfl, trivial⟩) ?_
                  refine wa_all [5] (by kernel_rfl) rfl ⟨⟨_, rfl, ?_⟩, trivial⟩
                  refine wl_alloc zc28 rfl fun g10 => ?_
                  refine wl_nil ?_
                  refine nx_wa0 (listed' := #[true, true, true, true, true, true, false, false]) rfl (fun _ hm => ⟨hm.blkI 2 rfl, hm.blkI 3 rfl, hm.blkI 4 rfl, hm.blkI 5 rfl, hm.fact 0 rfl, hm.fact 1 rfl, hm.fact 2 rfl, hm.fact 3 rfl, hm.fact 4 rfl, trivial⟩) ?_
                  refine wa_all [6] (by kernel_rfl) rfl ⟨⟨_, rfl, ?_⟩, trivial⟩
                  refine wl_stores (cs' := [.int .i64 (lastA ⟨gv, ⟨oa, os, om, of⟩, ⟨ia, is_, im, if_⟩⟩), .int .i64 (lastB ⟨gv, ⟨oa, os, om, of⟩, ⟨ia, is_, im, if_⟩⟩)]) 1 rz28 rfl rfl rfl rfl rfl rfl rfl rfl ?_
                  refine wl_nil ?_
                  refine nx_wa0 (listed' := #[true, true, true, true, true, true, true, false]) rfl (fun _ hm => ⟨hm.blkI 2 rfl, hm.blkI 3 rfl, hm.blkI 4 rfl, hm.blkI 5 rfl, hm.fact 0 rfl, hm.fact 1 rfl, hm.fact 2 rfl, hm.fact 3 rfl, hm.fact 4 rfl, trivial⟩) ?_
                  refine wa_all [7] (by kernel_rfl) rfl ⟨⟨_, rfl, ?_⟩, trivial⟩
                  refine wl_stores (cs' := [.int .i64 (lastA ⟨hv, ⟨pa, ps, pm, pf⟩, ⟨ja, js, jm, jf⟩⟩), .int .i64 (lastB ⟨hv, ⟨pa, ps, pm, pf⟩, ⟨ja, js, jm, jf⟩⟩)]) 0 rz28 rfl rfl rfl rfl rfl rfl rfl rfl ?_
                  refine wl_nil ?_
                  refine nx_wa0 (listed' := #[true, true, true, true, true, true, true, true]) rfl (fun _ hm => ⟨hm.blkI 2 rfl, hm.blkI 3 rfl, hm.blkI 4 rfl, hm.blkI 5 rfl, hm.fact 0 rfl, hm.fact 1 rfl, hm.fact 2 rfl, hm.fact 3 rfl, hm.fact 4 rfl, trivial⟩) ?_
                  refine wa_done (by kernel_rfl) ?_
                  exact nx_meet (g9, g10) trivial ⟨rfl, rfl, rfl, rfl, rfl, rfl, rfl, rfl, rfl, rfl, rfl, rfl, rfl, rfl, rfl, rfl, rfl, rfl, rfl, rfl, rfl, rfl, rfl, trivial⟩ (fun _ hm => hm.pick [2, 3, 4, 5, 1, 0] [0] [0, 1, 2, 3, 4] rfl rfl)
                · refine wl_alloc zc28 rfl fun g11 => ?_
                  refine wl_nil ?_
                  refine nx_wa0 (listed' := #[true, true, true, false, true, true, false, false]) rfl (fun _ hm => ⟨hm.blkI 2 rfl, hm.blkI 3 rfl, hm.blkI 4 rfl, hm.blkI 5 rfl, hm.fact 0 rfl, hm.fact 1 rfl, hm.fact 2 rfl, hm.fact 3 rfl, hm.fact 4 rfl, trivial⟩) ?_
                  refine wa_all [3] (by kernel_rfl) rfl ⟨⟨_, rfl, ?_⟩, trivial⟩
                  refine wl_callv rfl cb128 rfl rfl (fun wx hm => (rlasts_any hv pa ps pm pf ja js jm jf wx)) ?_
                  refine wl_nil ?_
                  refine nx_wa0 (listed' := #[true, true, true, true, true, true, false, false]) rfl (fun _ hm => ⟨hm.blkI 2 rfl, hm.blkI 3 rfl, hm.blkI 4 rfl, hm.blkI 5 rfl, hm.fact 0 rfl, hm.fact 1 rfl, hm.fact 2 rfl, hm.fact 3 rfl, hm.fact 4 rfl, trivial⟩) ?_
                  refine wa_all [6] (by kernel_rfl) rfl ⟨⟨_, rfl, ?_⟩, trivial⟩
                  refine wl_stores (cs' := [.int .i64 (lastA ⟨gv, ⟨oa, os, om, of⟩, ⟨ia, is_, im, if_⟩⟩), .int .i64 (lastB ⟨gv, ⟨oa, os, om, of⟩, ⟨ia, is_, im, if_⟩⟩)]) 1 rz28 rfl rfl rfl rfl rfl rfl rfl rfl ?_
                  refine wl_nil ?_
                  refine nx_wa0 (listed' := #[true, true, true, true, true, true, true, false]) rfl (fun _ hm => ⟨hm.blkI 2 rfl, hm.blkI 3 rfl, hm.blkI 4 rfl, hm.blkI 5 rfl, hm.fact 0 rfl, hm.fact 1 rfl, hm.fact 2 rfl, hm.fact 3 rfl, hm.fact 4 rfl, trivial⟩) ?_
                  refine wa_all [7] (by kernel_rfl) rfl ⟨⟨_, rfl, ?_⟩, trivial⟩
                  refine wl_stores (cs' := [.int .i64 (lastA ⟨hv, ⟨pa, ps, pm, pf⟩, ⟨ja, js, jm, jf⟩⟩), .int .i64 (lastB ⟨hv, ⟨pa, ps, pm, pf⟩, ⟨ja, js, jm, jf⟩⟩)]) 0 rz28 rfl rfl rfl rfl rfl rfl rfl rfl ?_
                  refine wl_nil ?_
                  refine nx_wa0 (listed' := #[true, true, true, true, true, true, true, true]) rfl (fun _ hm => ⟨hm.blkI 2 rfl, hm.blkI 3 rfl, hm.blkI 4 rfl, hm.blkI 5 rfl, hm.fact 0 rfl, hm.fact 1 rfl, hm.fact 2 rfl, hm.fact 3 rfl, hm.fact 4 rfl, trivial⟩) ?_
                  refine wa_done (by kernel_rfl) ?_
                  exact nx_meet (g9, g11) trivial ⟨rfl, rfl, rfl, rfl, rfl, rfl, rfl, rfl, rfl, rfl, rfl, rfl, rfl, rfl, rfl, rfl, rfl, rfl, rfl, rfl, rfl, rfl, rfl, trivial⟩ (fun _ hm => hm.pick [2, 3, 4, 5, 1, 0] [0] [0, 1, 2, 3, 4] rfl rfl)
              · refine wl_alloc zc28 rfl fun g12 => ?_
                refine wl_nil ?_
                refine nx_wa0 (listed' := #[true, true, true, false, false, true, false, false]) rfl (fun _ hm => ⟨hm.blkI 1 rfl, hm.blkI 2 rfl, hm.blkI 3 rfl, hm.blkI 4 rfl, hm.fact 0 rfl, hm.fact 1 rfl, hm.fact 2 rfl, hm.fact 3 rfl, hm.fact 4 rfl, trivial⟩) ?_
                refine wa_all [3, 4] (by kernel_rfl) rfl ⟨⟨_, rfl, ?_⟩, ⟨_, rfl, ?_⟩, trivial⟩
                · refine wl_callv rfl cb128 rfl rfl (fun wx hm => (rlasts_any hv pa ps pm pf ja js jm jf wx)) ?_
                  refine wl_nil ?_
                  refine nx_wa0 (listed' := #[true, true, true, true, false, true, false, false]) rfl (fun _ hm => ⟨hm.blkI 1 rfl, hm.blkI 2 rfl, hm.blkI 3 rfl, hm.blkI 4 rfl, hm.fact 0 rfl, hm.fact 1 rfl, hm.fact 2 rfl, hm.fact 3 rfl, hm.fact 4 rfl, trivial⟩) ?_
                  refine wa_all [4] (by kernel_rfl) rfl ⟨⟨_, rfl, ?_⟩, trivial⟩
                  refine wl_alloc zc28 rfl fun g13 => ?_
                  refine wl_nil ?_
                  refine nx_wa0 (listed' := #[true, true, true, true, true, true, false, false]) rfl (fun _ hm => ⟨hm.blkI 2 rfl, hm.blkI 3 rfl, hm.blkI 4 rfl, hm.blkI 5 rfl, hm.fact 0 rfl, hm.fact 1 rfl, hm.fact 2 rfl, hm.fact 3 rfl, hm.fact 4 rfl, trivial⟩) ?_
                  refine wa_all [6] (by kernel_rfl) rfl ⟨⟨_, rfl, ?_⟩, trivial⟩
                  refine wl_stores (cs' := [.int .i64 (lastA ⟨gv, ⟨oa, os, om, of⟩, ⟨ia, is_, im, if_⟩⟩), .int .i64 (lastB ⟨gv, ⟨oa, os, om, of⟩, ⟨ia, is_, im, if_⟩⟩)]) 0 rz28 rfl rfl rfl rfl rfl rfl rfl rfl ?_
                  refine wl_nil ?_
                  refine nx_wa0 (listed' := #[true, true, true, true, true, true, true, false]) rfl (fun _ hm => ⟨hm.blkI 2 rfl, hm.blkI 3 rfl, hm.blkI 4 rfl, hm.blkI 5 rfl, hm.fact 0 rfl, hm.fact 1 rfl, hm.fact 2 rfl, hm.fact 3 rfl, hm.fact 4 rfl, trivial⟩) ?_
                  refine wa_all [7] (by kernel_rfl) rfl ⟨⟨_, rfl, ?_⟩, trivial⟩
                  refine wl_stores (cs' := [.int .i64 (lastA ⟨hv, ⟨pa, ps, pm, pf⟩, ⟨ja, js, jm, jf⟩⟩), .int .i64 (lastB ⟨hv, ⟨pa, ps, pm, pf⟩, ⟨ja, js, jm, jf⟩⟩)]) 1 rz28 rfl rfl rfl rfl rfl rfl rfl rfl ?_
                  refine wl_nil ?_
                  refine nx_wa0 (listed' := #[true, true, true, true, true, true, true, true]) rfl (fun _ hm => ⟨hm.blkI 2 rfl, hm.blkI 3 rfl, hm.blkI 4 rfl, hm.blkI 5 rfl, hm.fact 0 rfl, hm.fact 1 rfl, hm.fact 2 rfl, hm.fact 3 rfl, hm.fact 4 rfl, trivial⟩) ?_
                  refine wa_done (by kernel_rfl) ?_
                  exact nx_meet (g13, g12) trivial ⟨rfl, rfl, rfl, rfl, rfl, rfl, rfl, rfl, rfl, rfl, rfl, rfl, rfl, rfl, rfl, rfl, rfl, rfl, rfl, rfl, rfl, rfl, rfl, trivial⟩ (fun _ hm => hm.pick [2, 3, 4, 5, 0, 1] [0] [0, 1, 2, 3, 4] rfl rfl)
                · refine wl_alloc zc28 rfl fun g14 => ?_
                  refine wl_nil ?_
                  refine nx_wa0 (listed' := #[true, true, true, false, true, true, false, false]) rfl (fun _ hm => ⟨hm.blkI 2 rfl, hm.blkI 3 rfl, hm.blkI 4 rfl, hm.blkI 5 rfl, hm.fact 0 rfl, hm.fact 1 rfl, hm.fact 2 rfl, hm.fact 3 rfl, hm.fact 4 rfl, trivial⟩) ?_
                  refine wa_all [3] (by kernel_rfl) rfl ⟨⟨_, rfl, ?_⟩, trivial⟩
                  refine wl_callv rfl cb128 rfl rfl (fun wx hm => (rlasts_any hv pa ps pm pf ja js jm jf wx)) ?_
                  refine wl_nil ?_
                  refine nx_wa0 (listed' := #[true, true, true, true, true, true, false, false]) rfl (fun _ hm => ⟨hm.blkI 2 rfl, hm.blkI 3 rfl, hm.blkI 4 rfl, hm.blkI 5 rfl, hm.fact 0 rfl, hm.fact 1 rfl, hm.fact 2 rfl, hm.fact 3 rfl, hm.fact 4 rfl, trivial⟩) ?_
                  refine wa_all [6] (by kernel_rfl) rfl ⟨⟨_, rfl, ?_⟩, trivial⟩
                  refine wl_stores (cs' := [.int .i64 (lastA ⟨gv, ⟨oa, os, om, of⟩, ⟨ia, is_, im, if_⟩⟩), .int .i64 (lastB ⟨gv, ⟨oa, os, om, of⟩, ⟨ia, is_, im, if_⟩⟩)]) 0 rz28 rfl rfl rfl rfl rfl rfl rfl rfl ?_
                  refine wl_nil ?_
                  refine nx_wa0 (listed' := #[true, true, true, true, true, true, true, false]) rfl (fun _ hm => ⟨hm.blkI 2 rfl, hm.blkI 3 rfl, hm.blkI 4 rfl, hm.blkI 5 rfl, hm.fact 0 rfl, hm.fact 1 rfl, hm.fact 2 rfl, hm.fact 3 rfl, hm.fact 4 rfl, trivial⟩) ?_
                  refine wa_all [7] (by kernel_rfl) rfl ⟨⟨_, rfl, ?_⟩, trivial⟩
                  refine wl_stores (cs' := [.int .i64 (lastA ⟨hv, ⟨pa, ps, pm, pf⟩, ⟨ja, js, jm, jf⟩⟩), .int .i64 (lastB ⟨hv, ⟨pa, ps, pm, pf⟩, ⟨ja, js, jm, jf⟩⟩)]) 1 rz28 rfl rfl rfl rfl rfl rfl rfl rfl ?_
                  refine wl_nil ?_
                  refine nx_wa0 (listed' := #[true, true, true, true, true, true, true, true]) rfl (fun _ hm => ⟨hm.blkI 2 rfl, hm.blkI 3 rfl, hm.blkI 4 rfl, hm.blkI 5 rfl, hm.fact 0 rfl, hm.fact 1 rfl, hm.fact 2 rfl, hm.fact 3 rfl, hm.fact 4 rfl, trivial⟩) ?_
                  refine wa_done (by kernel_rfl) ?_
                  exact nx_meet (g14, g12) trivial ⟨rfl, rfl, rfl, rfl, rfl, rfl, rfl, rfl, rfl, rfl, rfl, rfl, rfl, rfl, rfl, rfl, rfl, rfl, rfl, rfl, rfl, rfl, rfl, trivial⟩ (fun _ hm => hm.pick [2, 3, 4, 5, 0, 1] [0] [0, 1, 2, 3, 4] rfl rfl)
            · refine wl_alloc zc28 rfl fun g15 => ?_
              refine wl_nil ?_
              refine nx_wa0 (listed' := #[true, false, true, false, true, false, false, false]) rfl (fun _ hm => ⟨hm.blkI 1 rfl, hm.blkI 2 rfl, hm.blkI 3 rfl, hm.blkI 4 rfl, hm.fact 0 rfl, hm.fact 1 rfl, hm.fact 2 rfl, hm.fact 3 rfl, hm.fact 4 rfl, trivial⟩) ?_
              refine wa_all [1, 5] (by kernel_rfl) rfl ⟨⟨_, rfl, ?_⟩, ⟨_, rfl, ?_⟩, trivial⟩
              · refine wl_callv rfl cb128 rfl rfl (fun wx hm => (rlasts_any gv oa os om of ia is_ im if_ wx)) ?_
                refine wl_nil ?_
                refine nx_wa0 (listed' := #[true, true, true, false, true, false, false, false]) rfl (fun _ hm => ⟨hm.blkI 1 rfl, hm.blkI 2 rfl, hm.blkI 3 rfl, hm.blkI 4 rfl, hm.fact 0 rfl, hm.fact 1 rfl, hm.fact 2 rfl, hm.fact 3 rfl, hm.fact 4 rfl, trivial⟩) ?_
                refine wa_all [3, 5] (by kernel_rfl) rfl ⟨⟨_, rfl, ?_⟩, ⟨_, rfl, ?_⟩, trivial⟩
                · refine wl_callv rfl cb128 rfl rfl (fun wx hm => (rlasts_any hv pa ps pm pf ja js jm jf wx)) ?_
                  refine wl_nil ?_
                  refine nx_wa0 (listed' := #[true, true, true, true, true, false, false, false]) rfl (fun _ hm => ⟨hm.blkI 1 rfl, hm.blkI 2 rfl, hm.blkI 3 rfl, hm.blkI 4 rfl, hm.fact 0 rfl, hm.fact 1 rfl, hm.fact 2 rfl, hm.fact 3 rfl, hm.fact 4 rfl, trivial⟩) ?_
                  refine wa_all [5] (by kernel_rfl) rfl ⟨⟨_, rfl, ?_⟩, trivial⟩
                  refine wl_alloc zc28 rfl fun g16 => ?_
                  refine wl_nil ?_
                  refine nx_wa0 (listed' := #[true, true, true, true, true, true, false, false]) rfl (fun _ hm => ⟨hm.blkI 2 rfl, hm.blkI 3 rfl, hm.blkI 4 rfl, hm.blkI 5 rfl, hm.fact 0 rfl, hm.fact 1 rfl, hm.fact 2 rfl, hm.fact 3 rfl, hm.fact 4 rfl, trivial⟩) ?_
                  refine wa_all [6] (by kernel_rfl) rfl ⟨⟨_, rfl, ?_⟩, trivial⟩
                  refine wl_stores (cs' := [.int .i64 (lastA ⟨gv, ⟨oa, os, om, of⟩, ⟨ia, is_, im, if_⟩⟩), .int .i64 (lastB ⟨gv, ⟨oa, os, om, of⟩, ⟨ia, is_, im, if_⟩⟩)]) 1 rz28 rfl rfl rfl rfl rfl rfl rfl rfl ?_
                  refine wl_nil ?_
                  refine nx_wa0 (listed' := #[true, true, true, true, true, true, true, false]) rfl (fun _ hm => ⟨hm.blkI 2 rfl, hm.blkI 3 rfl, hm.blkI 4 rfl, hm.blkI 5 rfl, hm.fact 0 rfl, hm.fact 1 rfl, hm.fact 2 rfl, hm.fact 3 rfl, hm.fact 4 rfl, trivial⟩) ?_
                  refine wa_all [7] (by kernel_rfl) rfl ⟨⟨_, rfl, ?_⟩, trivial⟩
                  refine wl_stores (cs' := [.int .i64 (lastA ⟨hv, ⟨pa, ps, pm, pf⟩, ⟨ja, js, jm, jf⟩⟩), .int .i64 (lastB ⟨hv, ⟨pa, ps, pm, pf⟩, ⟨ja, js, jm, jf⟩⟩)]) 0 rz28 rfl rfl rfl rfl rfl rfl rfl rfl ?_
                  refine wl_nil ?_
                  refine nx_wa0 (listed' := #[true, true, true, true, true, true, true, true]) rfl (fun _ hm => ⟨hm.blkI 2 rfl, hm.blkI 3 rfl, hm.blkI 4 rfl, hm.blkI 5 rfl, hm.fact 0 rfl, hm.fact 1 rfl, hm.fact 2 rfl, hm.fact 3 rfl, hm.fact 4 rfl, trivial⟩) ?_
                  refine wa_done (by kernel_rfl) ?_
                  exact nx_meet (g15, g16) trivial ⟨rfl, rfl, rfl, rfl, rfl, rfl, rfl, rfl, rfl, rfl, rfl, rfl, rfl, rfl, rfl, rfl, rfl, rfl, rfl, rfl, rfl, rfl, rfl, trivial⟩ (fun _ hm => hm.pick [2, 3, 4, 5, 1, 0] [0] [0, 1, 2, 3, 4] rfl rfl)
                · refine wl_alloc zc28 rfl fun g17 => ?_
                  refine wl_nil ?_
                  refine nx_wa0 (listed' := #[true, true, true, false, true, true, false, false]) rfl (fun _ hm => ⟨hm.blkI 2 rfl, hm.blkI 3 rfl, hm.blkI 4 rfl, hm.blkI 5 rfl, hm.fact 0 rfl, hm.fact 1 rfl, hm.fact 2 rfl, hm.fact 3 rfl, hm.fact 4 rfl, trivial⟩) ?_
                  refine wa_all [3] (by kernel_rfl) rfl ⟨⟨_, rfl, ?_⟩, trivial⟩
                  refine wl_callv rfl cb128 rfl rfl (fun wx hm => (rlasts_any hv pa ps pm pf ja js jm jf wx)) ?_
                  refine wl_nil ?_
                  refine nx_wa0 (listed' := #[true, true, true, true, true, true, false, false]) rfl (fun _ hm => ⟨hm.blkI 2 rfl, hm.blkI 3 rfl, hm.blkI 4 rfl, hm.blkI 5 rfl, hm.fact 0 rfl, hm.fact 1 rfl, hm.fact 2 rfl, hm.fact 3 rfl, hm.fact 4 rfl, trivial⟩) ?_
                  refine wa_all [6] (by kernel_rfl) rfl ⟨⟨_, rfl, ?_⟩, trivial⟩
                  refine wl_stores (cs' := [.int .i64 (lastA ⟨gv, ⟨oa, os, om, of⟩, ⟨ia, is_, im, if_⟩⟩), .int .i64 (lastB ⟨gv, ⟨oa, os, om, of⟩, ⟨ia, is_, im, if_⟩⟩)]) 1 rz28 rfl rfl rfl rfl rfl rfl rfl rfl ?_
                  refine wl_nil ?_
                  refine nx_wa0 (listed' := #[true, true, true, true, true, true, true, false]) rfl (fun _ hm => ⟨hm.blkI 2 rfl, hm.blkI 3 rfl, hm.blkI 4 rfl, hm.blkI 5 rfl, hm.fact 0 rfl, hm.fact 1 rfl, hm.fact 2 rfl, hm.fact 3 rfl, hm.fact 4 rfl, trivial⟩) ?_
                  refine wa_all [7] (by kernel_rfl) rfl ⟨⟨_, rfl, ?_⟩, trivial⟩
                  refine wl_stores (cs' := [.int .i64 (lastA ⟨hv, ⟨pa, ps, pm, pf⟩, ⟨ja, js, jm, jf⟩⟩), .int .i64 (lastB ⟨hv, ⟨pa, ps, pm, pf⟩, ⟨ja, js, jm, jf⟩⟩)]) 0 rz28 rfl rfl rfl rfl rfl rfl rfl rfl ?_
                  refine wl_nil ?_
                  refine nx_wa0 (listed' := #[true, true, true, true, true, true, true, true]) rfl (fun _ hm => ⟨hm.blkI 2 rfl, hm.blkI 3 rfl, hm.blkI 4 rfl, hm.blkI 5 rfl, hm.fact 0 rfl, hm.fact 1 rfl, hm.fact 2 rfl, hm.fact 3 rfl, hm.fact 4 rfl, trivial⟩) ?_
                  refine wa_done (by kernel_rfl) ?_
                  exact nx_meet (g15, g17) trivial ⟨rfl, rfl, rfl, rfl, rfl, rfl, rfl, rfl, rfl, rfl, rfl, rfl, rfl, rfl, rfl, rfl, rfl, rfl, rfl, rfl, rfl, rfl, rfl, trivial⟩ (fun _ hm => hm.pick [2, 3, 4, 5, 1, 0] [0] [0, 1, 2, 3, 4] rfl rfl)
              · refine wl_alloc zc28 rfl fun g18 => ?_
                refine wl_nil ?_
                refine nx_wa0 (listed' := #[true, false, true, false, true, true, false, false]) rfl (fun _ hm => ⟨hm.blkI 2 rfl, hm.blkI 3 rfl, hm.blkI 4 rfl, hm.blkI 5 rfl, hm.fact 0 rfl, hm.fact 1 rfl, hm.fact 2 rfl, hm.fact 3 rfl, hm.fact 4 rfl, trivial⟩) ?_
                refine wa_all [1] (by kernel_rfl) rfl ⟨⟨_, rfl, ?_⟩, trivial⟩
                refine wl_callv rfl cb128 rfl rfl (fun wx hm => (rlasts_any gv oa os om of ia is_ im if_ wx)) ?_
                refine wl_nil ?_
                refine nx_wa0 (listed' := #[true, true, true, false, true, true, false, false]) rfl (fun _ hm => ⟨hm.blkI 2 rfl, hm.blkI 3 rfl, hm.blkI 4 rfl, hm.blkI 5 rfl, hm.fact 0 rfl, hm.fact 1 rfl, hm.fact 2 rfl, hm.fact 3 rfl, hm.fact 4 rfl, trivial⟩) ?_
                refine wa_all [3] (by kernel_rfl) rfl ⟨⟨_, rfl, ?_⟩, trivial⟩
                refine wl_callv rfl cb128 rfl rfl (fun wx hm => (rlasts_any hv pa ps pm pf ja js jm jf wx)) ?_
                refine wl_nil ?_
                refine nx_wa0 (listed' := #[true, true, true, true, true, true, false, false]) rfl (fun _ hm => ⟨hm.blkI 2 rfl, hm.blkI 3 rfl, hm.blkI 4 rfl, hm.blkI 5 rfl, hm.fact 0 rfl, hm.fact 1 rfl, hm.fact 2 rfl, hm.fact 3 rfl, hm.fact 4 rfl, trivial⟩) ?_
                refine wa_all [6] (by kernel_rfl) rfl ⟨⟨_, rfl, ?_⟩, trivial⟩
                refine wl_stores (cs' := [.int .i64 (lastA ⟨gv, ⟨oa, os, om, of⟩, ⟨ia, is_, im, if_⟩⟩), .int .i64 (lastB ⟨gv, ⟨oa, os, om, of⟩, ⟨ia, is_, im, if_⟩⟩)]) 1 rz28 rfl rfl rfl rfl rfl rfl rfl rfl ?_
                refine wl_nil ?_
                refine nx_wa0 (listed' := #[true, true, true, true, true, true, true, false]) rfl (fun _ hm => ⟨hm.blkI 2 rfl, hm.blkI 3 rfl, hm.blkI 4 rfl, hm.blkI 5 rfl, hm.fact 0 rfl, hm.fact 1 rfl, hm.fact 2 rfl, hm.fact 3 rfl, hm.fact 4 rfl, trivial⟩) ?_
                refine wa_all [7] (by kernel_rfl) rfl ⟨⟨_, rfl, ?_⟩, trivial⟩
                refine wl_stores (cs' := [.int .i64 (lastA ⟨hv, ⟨pa, ps, pm, pf⟩, ⟨ja, js, jm, jf⟩⟩), .int .i64 (lastB ⟨hv, ⟨pa, ps, pm, pf⟩, ⟨ja, js, jm, jf⟩⟩)]) 0 rz28 rfl rfl rfl rfl rfl rfl rfl rfl ?_
                refine wl_nil ?_
                refine nx_wa0 (listed' := #[true, true, true, true, true, true, true, true]) rfl (fun _ hm => ⟨hm.blkI 2 rfl, hm.blkI 3 rfl, hm.blkI 4 rfl, hm.blkI 5 rfl, hm.fact 0 rfl, hm.fact 1 rfl, hm.fact 2 rfl, hm.fact 3 rfl, hm.fact 4 rfl, trivial⟩) ?_
                refine wa_done (by kernel_rfl) ?_
                exact nx_meet (g15, g18) trivial ⟨rfl, rfl, rfl, rfl, rfl, rfl, rfl, rfl, rfl, rfl, rfl, rfl, rfl, rfl, rfl, rfl, rfl, rfl, rfl, rfl, rfl, rfl, rfl, trivial⟩ (fun _ hm => hm.pick [2, 3, 4, 5, 1, 0] [0] [0, 1, 2, 3, 4] rfl rfl)
            · refine wl_alloc zc28 rfl fun g19 => ?_
              refine wl_nil ?_
              refine nx_wa0 (listed' := #[true, false, true, false, false, true, false, false]) rfl (fun _ hm => ⟨hm.blkI 1 rfl, hm.blkI 2 rfl, hm.blkI 3 rfl, hm.blkI 4 rfl, hm.fact 0 rfl, hm.fact 1 rfl, hm.fact 2 rfl, hm.fact 3 rfl, hm.fact 4 rfl, trivial⟩) ?_
              refine wa_all [1, 4] (by kernel_rfl) rfl ⟨⟨_, rfl, ?_⟩, ⟨_, rfl, ?_⟩, trivial⟩
              · refine wl_callv rfl cb128 rfl rfl (fun wx hm => (rlasts_any gv oa os om of ia is_ im if_ wx)) ?_
                refine wl_nil ?_
                refine nx_wa0 (listed' := #[true, true, true, false, false, true, false, false]) rfl (fun _ hm => ⟨hm.blkI 1 rfl, hm.blkI 2 rfl, hm.blkI 3 rfl, hm.blkI 4 rfl, hm.fact 0 rfl, hm.fact 1 rfl, hm.fact 2 rfl, hm.fact 3 rfl, hm.fact 4 rfl, trivial⟩) ?_
                refine wa_all [3, 4] (by kernel_rfl) rfl ⟨⟨_, rfl, ?_⟩, ⟨_, rfl, ?_⟩, trivial⟩
                · refine wl_callv rfl cb128 rfl rfl (fun wx hm => (rlasts_any hv pa ps pm pf ja js jm jf wx)) ?_
                  refine wl_nil ?_
                  refine nx_wa0 (listed' := #[true, true, true, true, false, true, false, false]) rfl (fun _ hm => ⟨hm.blkI 1 rfl, hm.blkI 2 rfl, hm.blkI 3 rfl, hm.blkI 4 rfl, hm.fact 0 rfl, hm.fact 1 rfl, hm.fact 2 rfl, hm.fact 3 rfl, hm.fact 4 rfl, trivial⟩) ?_
                  refine wa_all [4] (by kernel_rfl) rfl ⟨⟨_, rfl, ?_⟩, trivial⟩
                  refine wl_alloc zc28 rfl fun g20 => ?_
                  refine wl_nil ?_
                  refine nx_wa0 (listed' := #[true, true, true, true, true, true, false, false]) rfl (fun _ hm => ⟨hm.blkI 2 rfl, hm.blkI 3 rfl, hm.blkI 4 rfl, hm.blkI 5 rfl, hm.fact 0 rfl, hm.fact 1 rfl, hm.fact 2 rfl, hm.fact 3 rfl, hm.fact 4 rfl, trivial⟩) ?_
                  refine wa_all [6] (by kernel_rfl) rfl ⟨⟨_, rfl, ?_⟩, trivial⟩
                  refine wl_stores (cs' := [.int .i64 (lastA ⟨gv, ⟨oa, os, om, of⟩, ⟨ia, is_, im, if_⟩⟩), .int .i64 (lastB ⟨gv, ⟨oa, os, om, of⟩, ⟨ia, is_, im, if_⟩⟩)]) 0 rz28 rfl rfl rfl rfl rfl rfl rfl rfl ?_
                  refine wl_nil ?_
                  refine nx_wa0 (listed' := #[true, true, true, true, true, true, true, false]) rfl (fun _ hm => ⟨hm.blkI 2 rfl, hm.blkI 3 rfl, hm.blkI 4 rfl, hm.blkI 5 rfl, hm.fact 0 rfl, hm.fact 1 rfl, hm.fact 2 rfl, hm.fact 3 rfl, hm.fact 4 rfl, trivial⟩) ?_
                  refine wa_all [7] (by kernel_rfl) rfl ⟨⟨_, rfl, ?_⟩, trivial⟩
                  refine wl_stores (cs' := [.int .i64 (lastA ⟨hv, ⟨pa, ps, pm, pf⟩, ⟨ja, js, jm, jf⟩⟩), .int .i64 (lastB ⟨hv, ⟨pa, ps, pm, pf⟩, ⟨ja, js, jm, jf⟩⟩)]) 1 rz28 rfl rfl rfl rfl rfl rfl rfl rfl ?_
                  refine wl_nil ?_
                  refine nx_wa0 (listed' := #[true, true, true, true, true, true, true, true]) rfl (fun _ hm => ⟨hm.blkI 2 rfl, hm.blkI 3 rfl, hm.blkI 4 rfl, hm.blkI 5 rfl, hm.fact 0 rfl, hm.fact 1 rfl, hm.fact 2 rfl, hm.fact 3 rfl, hm.fact 4 rfl, trivial⟩) ?_
                  refine wa_done (by kernel_rfl) ?_
                  exact nx_meet (g20, g19) trivial ⟨rfl, rfl, rfl, rfl, rfl, rfl, rfl, rfl, rfl, rfl, rfl, rfl, rfl, rfl, rfl, rfl, rfl, rfl, rfl, rfl, rfl, rfl, rfl, trivial⟩ (fun _ hm => hm.pick [2, 3, 4, 5, 0, 1] [0] [0, 1, 2, 3, 4] rfl rfl)
                · refine wl_alloc zc28 rfl fun g21 => ?_
                  refine wl_nil ?_
                  refine nx_wa0 (listed' := #[true, true, true, false, true, true, false, false]) rfl (fun _ hm => ⟨hm.blkI 2 rfl, hm.blkI 3 rfl, hm.blkI 4 rfl, hm.blkI 5 rfl, hm.fact 0 rfl, hm.fact 1 rfl, hm.fact 2 rfl, hm.fact 3 rfl, hm.fact 4 rfl, trivial⟩) ?_
                  refine wa_all [3] (by kernel_rfl) rfl ⟨⟨_, rfl, ?_⟩, trivial⟩
                  refine wl_callv rfl cb128 rfl rfl (fun wx hm => (rlasts_any hv pa ps pm pf ja js jm jf wx)) ?_
                  refine wl_nil ?_
                  refine nx_wa0 (listed' := #[true, true, true, true, true, true, false, false]) rfl (fun _ hm => ⟨hm.blkI 2 rfl, hm.blkI 3 rfl, hm.blkI 4 rfl, hm.blkI 5 rfl, hm.fact 0 rfl, hm.fact 1 rfl, hm.fact 2 rfl, hm.fact 3 rfl, hm.fact 4 rfl, trivial⟩) ?_
                  refine wa_all [6] (by kernel_rfl) rfl ⟨⟨_, rfl, ?_⟩, trivial⟩
                  refine wl_stores (cs' := [.int .i64 (lastA ⟨gv, ⟨oa, os, om, of⟩, ⟨ia, is_, im, if_⟩⟩), .int .i64 (lastB ⟨gv, ⟨oa, os, om, of⟩, ⟨ia, is_, im, if_⟩⟩)]) 0 rz28 rfl rfl rfl rfl rfl rfl rfl rfl ?_
                  refine wl_nil ?_
                  refine nx_wa0 (listed' := #[true, true, true, true, true, true, true, false]) rfl (fun _ hm => ⟨hm.blkI 2 rfl, hm.blkI 3 rfl, hm.blkI 4 rfl, hm.blkI 5 rfl, hm.fact 0 rfl, hm.fact 1 rfl, hm.fact 2 rfl, hm.fact 3 rfl, hm.fact 4 rfl, trivial⟩) ?_
                  refine wa_all [7] (by kernel_rfl) rfl ⟨⟨_, rfl, ?_⟩, trivial⟩
                  refine wl_stores (cs' := [.int .i64 (lastA ⟨hv, ⟨pa, ps, pm, pf⟩, ⟨ja, js, jm, jf⟩⟩), .int .i64 (lastB ⟨hv, ⟨pa, ps, pm, pf⟩, ⟨ja, js, jm, jf⟩⟩)]) 1 rz28 rfl rfl rfl rfl rfl rfl rfl rfl ?_
                  refine wl_nil ?_
                  refine nx_wa0 (listed' := #[true, true, true, true, true, true, true, true]) rfl (fun _ hm => ⟨hm.blkI 2 rfl, hm.blkI 3 rfl, hm.blkI 4 rfl, hm.blkI 5 rfl, hm.fact 0 rfl, hm.fact 1 rfl, hm.fact 2 rfl, hm.fact 3 rfl, hm.fact 4 rfl, trivial⟩) ?_
                  refine wa_done (by kernel_rfl) ?_
                  exact nx_meet (g21, g19) trivial ⟨rfl, rfl, rfl, rfl, rfl, rfl, rfl, rfl, rfl, rfl, rfl, rfl, rfl, rfl, rfl, rfl, rfl, rfl, rfl, rfl, rfl, rfl, rfl, trivial⟩ (fun _ hm => hm.pick [2, 3, 4, 5, 0, 1] [0] [0, 1, 2, 3, 4] rfl rfl)
              · refine wl_alloc zc28 rfl fun g22 => ?_
                refine wl_nil ?_
                refine nx_wa0 (listed' := #[true, false, true, false, true, true, false, false]) rfl (fun _ hm => ⟨hm.blkI 2 rfl, hm.blkI 3 rfl, hm.blkI 4 rfl, hm.blkI 5 rfl, hm.fact 0 rfl, hm.fact 1 rfl, hm.fact 2 rfl, hm.fact 3 rfl, hm.fact 4 rfl, trivial⟩) ?_
                refine wa_all [1] (by kernel_rfl) rfl ⟨⟨_, rfl, ?_⟩, trivial⟩
                refine wl_callv rfl cb128 rfl rfl (fun wx hm => (rlasts_any gv oa os om of ia is_ im if_ wx)) ?_
                refine wl_nil ?_
                refine nx_wa0 (listed' := #[true, true, true, false, true, true, false, false]) rfl (fun _ hm => ⟨hm.blkI 2 rfl, hm.blkI 3 rfl, hm.blkI 4 rfl, hm.blkI 5 rfl, hm.fact 0 rfl, hm.fact 1 rfl, hm.fact 2 rfl, hm.fact 3 rfl, hm.fact 4 rfl, trivial⟩) ?_
                refine wa_all [3] (by kernel_rfl) rfl ⟨⟨_, rfl, ?_⟩, trivial⟩
                refine wl_callv rfl cb128 rfl rfl (fun wx hm => (rlasts_any hv pa ps pm pf ja js jm jf wx)) ?_
                refine wl_nil ?_
                refine nx_wa0 (listed' := #[true, true, true, true, true, true, false, false]) rfl (fun _ hm => ⟨hm.blkI 2 rfl, hm.blkI 3 rfl, hm.blkI 4 rfl, hm.blkI 5 rfl, hm.fact 0 rfl, hm.fact 1 rfl, hm.fact 2 rfl, hm.fact 3 rfl, hm.fact 4 rfl, trivial⟩) ?_
                refine wa_all [6] (by kernel_rfl) rfl ⟨⟨_, rfl, ?_⟩, trivial⟩
                refine wl_stores (cs' := [.int .i64 (lastA ⟨gv, ⟨oa, os, om, of⟩, ⟨ia, is_, im, if_⟩⟩), .int .i64 (lastB ⟨gv, ⟨oa, os, om, of⟩, ⟨ia, is_, im, if_⟩⟩)]) 0 rz28 rfl rfl rfl rfl rfl rfl rfl rfl ?_
                refine wl_nil ?_
                refine nx_wa0 (listed' := #[true, true, true, true, true, true, true, false]) rfl (fun _ hm => ⟨hm.blkI 2 rfl, hm.blkI 3 rfl, hm.blkI 4 rfl, hm.blkI 5 rfl, hm.fact 0 rfl, hm.fact 1 rfl, hm.fact 2 rfl, hm.fact 3 rfl, hm.fact 4 rfl, trivial⟩) ?_
                refine wa_all [7] (by kernel_rfl) rfl ⟨⟨_, rfl, ?_⟩, trivial⟩
                refine wl_stores (cs' := [.int .i64 (lastA ⟨hv, ⟨pa, ps, pm, pf⟩, ⟨ja, js, jm, jf⟩⟩), .int .i64 (lastB ⟨hv, ⟨pa, ps, pm, pf⟩, ⟨ja, js, jm, jf⟩⟩)]) 1 rz28 rfl rfl rfl rfl rfl rfl rfl rfl ?_
                refine wl_nil ?_
                refine nx_wa0 (listed' := #[true, true, true, true, true, true, true, true]) rfl (fun _ hm => ⟨hm.blkI 2 rfl, hm.blkI 3 rfl, hm.blkI 4 rfl, hm.blkI 5 rfl, hm.fact 0 rfl, hm.fact 1 rfl, hm.fact 2 rfl, hm.fact 3 rfl, hm.fact 4 rfl, trivial⟩) ?_
                refine wa_done (by kernel_rfl) ?_
                exact nx_meet (g22, g19) trivial ⟨rfl, rfl, rfl, rfl, rfl, rfl, rfl, rfl, rfl, rfl, rfl, rfl, rfl, rfl, rfl, rfl, rfl, rfl, rfl, rfl, rfl, rfl, rfl, trivial⟩ (fun _ hm => hm.pick [2, 3, 4, 5, 0, 1] [0] [0, 1, 2, 3, 4] rfl rfl)
          · rintro ⟨gwa, gwb⟩ hinv
            replace hinv : True := hinv
            dsimp only
            refine gw_seq ?_
            refine gw_seq ?_
            refine gw_region ?_
            clear hinv
            refine wl_ov (ov_loads rz28 rfl (fun _ hm => hm.blkI 4 rfl) rfl rfl) rfl ?_
            refine wl_ov (ov_loads rz28 rfl (fun _ hm => hm.blkI 5 rfl) rfl rfl) rfl ?_
            refine wl_callv (v := .bool (decide (SP < min (lastB ⟨gv, ⟨oa, os, om, of⟩, ⟨ia, is_, im, if_⟩⟩) (lastB ⟨hv, ⟨pa, ps, pm, pf⟩, ⟨ja, js, jm, jf⟩⟩)))) rfl cb134 rfl rfl (fun wx hm => (by rw [hSP]; exact meet_any (lastA ⟨gv, ⟨oa, os, om, of⟩, ⟨ia, is_, im, if_⟩⟩) (lastB ⟨gv, ⟨oa, os, om, of⟩, ⟨ia, is_, im, if_⟩⟩) (lastA ⟨hv, ⟨pa, ps, pm, pf⟩, ⟨ja, js, jm, jf⟩⟩) (lastB ⟨hv, ⟨pa, ps, pm, pf⟩, ⟨ja, js, jm, jf⟩⟩) wx)) ?_
            refine wl_ov (ov_un_not rfl) rfl ?_
            refine wl_nil ?_
            refine nx_then ?_
            refine gw_cond rfl (fun hh => ?_) (fun hh => ?_)
            · have hmt : (decide (SP < min (lastB ⟨gv, ⟨oa, os, om, of⟩, ⟨ia, is_, im, if_⟩⟩) (lastB ⟨hv, ⟨pa, ps, pm, pf⟩, ⟨ja, js, jm, jf⟩⟩))) = false := by simpa using hh
              clear hh
              refine gw_exit ?_
              refine nx_then_exit ?_
              refine nx_blk_here ?_
              refine nx_then ?_
              refine gw_region ?_
              refine wl_ov (ov_add rfl rfl (by omega) (by omega)) rfl ?_
              refine wl_ov (ov_move rfl) rfl ?_
              refine wl_nil ?_
              have hokA : okP true ⟨gv, ⟨oa, os, om, of⟩, ⟨ia, is_, im, if_⟩⟩ ⟨hv, ⟨pa, ps, pm, pf⟩, ⟨ja, js, jm, jf⟩⟩ = false := by unfold okP; rw [← hSP]; rw [decide_eq_false (show ¬ SP < min (lastB ⟨gv, ⟨oa, os, om, of⟩, ⟨ia, is_, im, if_⟩⟩) (lastB ⟨hv, ⟨pa, ps, pm, pf⟩, ⟨ja, js, jm, jf⟩⟩) by simpa using hmt)]; simp
              have hokB : okP false ⟨gv, ⟨oa, os, om, of⟩, ⟨ia, is_, im, if_⟩⟩ ⟨hv, ⟨pa, ps, pm, pf⟩, ⟨ja, js, jm, jf⟩⟩ = false := by unfold okP; rw [← hSP]; rw [decide_eq_false (show ¬ SP < min (lastB ⟨gv, ⟨oa, os, om, of⟩, ⟨ia, is_, im, if_⟩⟩) (lastB ⟨hv, ⟨pa, ps, pm, pf⟩, ⟨ja, js, jm, jf⟩⟩) by simpa using hmt)]; simp
              rw [hokA] at hQAn
              rw [hokB] at hQBn
              exact nx_round (s + 1) (by omega) (by omega) ⟨rfl, rfl, rfl, rfl, rfl, (some_int (by rw [hQAn]; simp)), (some_int (by rw [hQBn]; simp)), rfl, rfl, rfl, rfl, rfl, rfl, rfl, rfl, rfl, rfl, rfl, rfl, (some_int (by omega)), trivial⟩ (fun _ hm => hm.pick [1, 2, 3] [0] [0, 1, 2, 3, 4] rfl rfl)
            · have hmt : (decide (SP < min (lastB ⟨gv, ⟨oa, os, om, of⟩, ⟨ia, is_, im, if_⟩⟩) (lastB ⟨hv, ⟨pa, ps, pm, pf⟩, ⟨ja, js, jm, jf⟩⟩))) = true := by simpa using hh
              clear hh
              refine gw_skip ?_
              refine nx_then ?_
              refine gw_seq ?_
              refine gw_region ?_
              have hmt2 : decide (SP < min (lastB ⟨gv, ⟨oa, os, om, of⟩, ⟨ia, is_, im, if_⟩⟩) (lastB ⟨hv, ⟨pa, ps, pm, pf⟩, ⟨ja, js, jm, jf⟩⟩)) = true := decide_eq_true (by simpa using hmt)
              refine wl_ov (ov_field fo28_0 rfl rfl) rfl ?_
              refine wl_ov (ov_load sc3 rfl (fun _ hm => hm.blkI 4 rfl) rfl) rfl ?_
              refine wl_ov (ov_field fo28_0 rfl rfl) rfl ?_
              refine wl_ov (ov_load sc3 rfl (fun _ hm => hm.blkI 5 rfl) rfl) rfl ?_
              refine wl_ov (ov_max rfl rfl) rfl ?_
              refine wl_set 59 (v' := .int .i64 SP) rfl (congrArg (Value.int .i64) hSP.symm) ?_
              refine wl_ov (ov_assign rfl) rfl ?_
              refine wl_nil ?_
              refine nx_then ?_
              refine gw_seq ?_
              refine gw_seq ?_
              refine gw_region ?_
              refine wl_ov (ov_field fo138_0 rfl rfl) rfl ?_
              refine wl_ov (ov_load sc9 rfl (fun _ hm => hm.blkI 1 rfl) rfl) rfl ?_
              refine wl_ov (ov_field fo138_0 rfl rfl) rfl ?_
              refine wl_ov (ov_load sc9 rfl (fun _ hm => hm.blkI 0 rfl) rfl) rfl ?_
              refine wl_ov (ov_seql rfl rfl) rfl ?_
              refine wl_nil ?_
              refine nx_then ?_
              refine gw_cond rfl (fun hh => ?_) (fun hh => ?_)
              · have hve : (gv.toList == hv.toList) = true := by simpa using hh
                clear hh
                refine gw_region ?_
                have hve2 : (gv.toList == hv.toList) = true := by simpa using hve
                refine wl_ov (ov_move rfl) rfl ?_
                refine wl_ov (ov_move rfl) rfl ?_
                refine wl_ov (ov_min rfl rfl) rfl ?_
                refine wl_ov (ov_assign rfl) rfl ?_
                refine wl_nil ?_
                refine nx_then ?_
                refine gw_seq ?_
                refine gw_region ?_
                refine wl_ov (ov_field fo36_1 rfl rfl) rfl ?_
                refine wl_ov (ov_load sc9 rfl (fun _ hm => hm.blkI 3 rfl) rfl) rfl ?_
                refine wl_ov (ov_field fo36_1 rfl rfl) rfl ?_
                refine wl_ov (ov_load sc9 rfl (fun _ hm => hm.blkI 2 rfl) rfl) rfl ?_
                refine wl_ov (ov_seql rfl rfl) rfl ?_
                refine wl_nil ?_
                refine nx_then ?_
                refine gw_cond rfl (fun hh => ?_) (fun hh => ?_)
                · have hdd : (d1.toList == d2.toList) = true := by simpa using hh
                  clear hh
                  refine gw_region ?_
                  have hD2 : D = true := by rw [hD]; simpa using hdd
                  refine wl_set 9 (v' := .int .i64 QB) rfl (congrArg (Value.int .i64) (by rw [hD2]; rfl)) ?_
                  refine wl_ov (ov_move rfl) rfl ?_
                  refine wl_ov (ov_move rfl) rfl ?_
                  refine wl_ov (ov_min rfl rfl) rfl ?_
                  refine wl_ov (ov_assign rfl) rfl ?_
                  refine wl_nil ?_
                  refine nx_blk_nrm ?_
                  refine nx_then ?_
                  refine gw_region ?_
                  refine wl_ov (ov_add rfl rfl (by omega) (by omega)) rfl ?_
                  refine wl_ov (ov_move rfl) rfl ?_
                  refine wl_nil ?_
                  have hokA : okP true ⟨gv, ⟨oa, os, om, of⟩, ⟨ia, is_, im, if_⟩⟩ ⟨hv, ⟨pa, ps, pm, pf⟩, ⟨ja, js, jm, jf⟩⟩ = true := by unfold okP; rw [← hSP]; rw [hmt2]; simp only [hve2]; rfl
                  have hokB : okP false ⟨gv, ⟨oa, os, om, of⟩, ⟨ia, is_, im, if_⟩⟩ ⟨hv, ⟨pa, ps, pm, pf⟩, ⟨ja, js, jm, jf⟩⟩ = true := by unfold okP; rw [← hSP]; rw [hmt2]; rfl
                  rw [hokA] at hQAn
                  rw [hokB] at hQBn
                  exact nx_round (s + 1) (by omega) (by omega) ⟨rfl, rfl, rfl, rfl, rfl, (some_int (by rw [hQAn]; rfl)), (some_int (by rw [hQBn]; rw [hD2]; rfl)), rfl, rfl, rfl, rfl, rfl, rfl, rfl, rfl, rfl, rfl, rfl, rfl, (some_int (by omega)), trivial⟩ (fun _ hm => hm.pick [1, 2, 3] [0] [0, 1, 2, 3, 4] rfl rfl)
                · have hdd : (d1.toList == d2.toList) = false := by simpa using hh
                  clear hh
                  refine gw_skip ?_
                  refine nx_blk_nrm ?_
                  refine nx_then ?_
                  refine gw_region ?_
                  have hD2 : D = false := by rw [hD]; simpa using hdd
                  refine wl_ov (ov_add rfl rfl (by omega) (by omega)) rfl ?_
                  refine wl_ov (ov_move rfl) rfl ?_
                  refine wl_nil ?_
                  have hokA : okP true ⟨gv, ⟨oa, os, om, of⟩, ⟨ia, is_, im, if_⟩⟩ ⟨hv, ⟨pa, ps, pm, pf⟩, ⟨ja, js, jm, jf⟩⟩ = true := by unfold okP; rw [← hSP]; rw [hmt2]; simp only [hve2]; rfl
                  have hokB : okP false ⟨gv, ⟨oa, os, om, of⟩, ⟨ia, is_, im, if_⟩⟩ ⟨hv, ⟨pa, ps, pm, pf⟩, ⟨ja, js, jm, jf⟩⟩ = true := by unfold okP; rw [← hSP]; rw [hmt2]; rfl
                  rw [hokA] at hQAn
                  rw [hokB] at hQBn
                  exact nx_round (s + 1) (by omega) (by omega) ⟨rfl, rfl, rfl, rfl, rfl, (some_int (by rw [hQAn]; rfl)), (some_int (by rw [hQBn]; rw [hD2]; rfl)), rfl, rfl, rfl, rfl, rfl, rfl, rfl, rfl, rfl, rfl, rfl, rfl, (some_int (by omega)), trivial⟩ (fun _ hm => hm.pick [1, 2, 3] [0] [0, 1, 2, 3, 4] rfl rfl)
              · have hve : (gv.toList == hv.toList) = false := by simpa using hh
                clear hh
                refine gw_skip ?_
                refine nx_then ?_
                refine gw_seq ?_
                refine gw_region ?_
                have hve2 : (gv.toList == hv.toList) = false := by simpa using hve
                refine wl_ov (ov_field fo36_1 rfl rfl) rfl ?_
                refine wl_ov (ov_load sc9 rfl (fun _ hm => hm.blkI 3 rfl) rfl) rfl ?_
                refine wl_ov (ov_field fo36_1 rfl rfl) rfl ?_
                refine wl_ov (ov_load sc9 rfl (fun _ hm => hm.blkI 2 rfl) rfl) rfl ?_
                refine wl_ov (ov_seql rfl rfl) rfl ?_
                refine wl_nil ?_
                refine nx_then ?_
                refine gw_cond rfl (fun hh => ?_) (fun hh => ?_)
                · have hdd : (d1.toList == d2.toList) = true := by simpa using hh
                  clear hh
                  refine gw_region ?_
                  have hD2 : D = true := by rw [hD]; simpa using hdd
                  refine wl_set 9 (v' := .int .i64 QB) rfl (congrArg (Value.int .i64) (by rw [hD2]; rfl)) ?_
                  refine wl_ov (ov_move rfl) rfl ?_
                  refine wl_ov (ov_move rfl) rfl ?_
                  refine wl_ov (ov_min rfl rfl) rfl ?_
                  refine wl_ov (ov_assign rfl) rfl ?_
                  refine wl_nil ?_
                  refine nx_blk_nrm ?_
                  refine nx_then ?_
                  refine gw_region ?_
                  refine wl_ov (ov_add rfl rfl (by omega) (by omega)) rfl ?_
                  refine wl_ov (ov_move rfl) rfl ?_
                  refine wl_nil ?_
                  have hokA : okP true ⟨gv, ⟨oa, os, om, of⟩, ⟨ia, is_, im, if_⟩⟩ ⟨hv, ⟨pa, ps, pm, pf⟩, ⟨ja, js, jm, jf⟩⟩ = false := by unfold okP; rw [← hSP]; rw [hmt2]; simp only [hve2]; rfl
                  have hokB : okP false ⟨gv, ⟨oa, os, om, of⟩, ⟨ia, is_, im, if_⟩⟩ ⟨hv, ⟨pa, ps, pm, pf⟩, ⟨ja, js, jm, jf⟩⟩ = true := by unfold okP; rw [← hSP]; rw [hmt2]; rfl
                  rw [hokA] at hQAn
                  rw [hokB] at hQBn
                  exact nx_round (s + 1) (by omega) (by omega) ⟨rfl, rfl, rfl, rfl, rfl, (some_int (by rw [hQAn]; simp)), (some_int (by rw [hQBn]; rw [hD2]; rfl)), rfl, rfl, rfl, rfl, rfl, rfl, rfl, rfl, rfl, rfl, rfl, rfl, (some_int (by omega)), trivial⟩ (fun _ hm => hm.pick [1, 2, 3] [0] [0, 1, 2, 3, 4] rfl rfl)
                · have hdd : (d1.toList == d2.toList) = false := by simpa using hh
                  clear hh
                  refine gw_skip ?_
                  refine nx_blk_nrm ?_
                  refine nx_then ?_
                  refine gw_region ?_
                  have hD2 : D = false := by rw [hD]; simpa using hdd
                  refine wl_ov (ov_add rfl rfl (by omega) (by omega)) rfl ?_
                  refine wl_ov (ov_move rfl) rfl ?_
                  refine wl_nil ?_
                  have hokA : okP true ⟨gv, ⟨oa, os, om, of⟩, ⟨ia, is_, im, if_⟩⟩ ⟨hv, ⟨pa, ps, pm, pf⟩, ⟨ja, js, jm, jf⟩⟩ = false := by unfold okP; rw [← hSP]; rw [hmt2]; simp only [hve2]; rfl
                  have hokB : okP false ⟨gv, ⟨oa, os, om, of⟩, ⟨ia, is_, im, if_⟩⟩ ⟨hv, ⟨pa, ps, pm, pf⟩, ⟨ja, js, jm, jf⟩⟩ = true := by unfold okP; rw [← hSP]; rw [hmt2]; rfl
                  rw [hokA] at hQAn
                  rw [hokB] at hQBn
                  exact nx_round (s + 1) (by omega) (by omega) ⟨rfl, rfl, rfl, rfl, rfl, (some_int (by rw [hQAn]; simp)), (some_int (by rw [hQBn]; rw [hD2]; rfl)), rfl, rfl, rfl, rfl, rfl, rfl, rfl, rfl, rfl, rfl, rfl, rfl, (some_int (by omega)), trivial⟩ (fun _ hm => hm.pick [1, 2, 3] [0] [0, 1, 2, 3, 4] rfl rfl)
        · have hs2 : ¬ (((s : Nat) : Int) < ((n2 : Nat) : Int)) := by simpa using hh
          clear hh
          refine gw_exit ?_
          refine nx_then_exit ?_
          refine nx_then_exit ?_
          refine nx_blk_here ?_
          refine nx_blk_nrm ?_
          refine nx_then ?_
          refine gw_region ?_
          have hsn : l2.take s = l2 := List.take_of_length_le (by omega)
          refine wl_ov (ov_add rfl rfl (by omega) (by omega)) rfl ?_
          refine wl_ov (ov_move rfl) rfl ?_
          refine wl_nil ?_
          exact nx_round (p + 1) (by omega) (by omega) ⟨rfl, rfl, rfl, rfl, rfl, (some_int (by rw [hYAn, hsn])), (some_int (by rw [hYBn, hsn])), rfl, rfl, rfl, rfl, rfl, rfl, rfl, rfl, (some_int (by omega)), trivial⟩ (fun _ hm => hm.pick [1, 2] [0] [0, 1, 2, 3, 4] rfl rfl)
      · have hp : ¬ (((p : Nat) : Int) < ((n1 : Nat) : Int)) := by simpa using hh
        clear hh
        refine gw_exit ?_
        refine nx_then_exit ?_
        refine nx_then_exit ?_
        refine nx_blk_here ?_
        refine nx_then ?_
        refine gw_seq ?_
        refine gw_seq ?_
        refine gw_region ?_
        have hpn : l1.take p = l1 := List.take_of_length_le (by omega)
        refine wl_set 8 (v' := .int .i64 MA) rfl (congrArg (Value.int .i64) (by rw [hpn, hMA])) ?_
        refine wl_set 9 (v' := .int .i64 (drv D MB)) rfl (congrArg (Value.int .i64) (by rw [hpn, hMB])) ?_
        refine wl_ov (ov_move rfl) rfl ?_
        refine wl_ov (ov_lss rfl rfl) rfl ?_
        refine wl_nil ?_
        refine nx_then ?_
        refine gw_cond rfl (fun hh => ?_) (fun hh => ?_)
        · have hal : MA < 5761440 := by simpa using hh
          clear hh
          refine gw_region ?_
          refine wl_ov (ov_move rfl) rfl ?_
          refine wl_ov (ov_field fo36_0 rfl rfl) rfl ?_
          refine wl_ov (ov_load sc9 rfl (fun _ hm => hm.blkI 1 rfl) rfl) rfl ?_
          refine wl_ov (ov_field fo36_0 rfl rfl) rfl ?_
          refine wl_ov (ov_load sc9 rfl (fun _ hm => hm.blkI 0 rfl) rfl) rfl ?_
          refine wl_ov (ov_move rfl) rfl ?_
          refine wl_ov (ov_build (cs := [.string k1, .string k2, .int .i64 1, .int .i64 MA]) rfl (by kernel_rfl)) rfl ?_
          refine wl_buildSlice (e := 123) (cs := [.string k1, .string k2, .int .i64 1, .int .i64 MA]) rfl (by kernel_rfl) rfl fun g23 => ?_
          refine wl_append (news := [.string k1, .string k2, .int .i64 1, .int .i64 MA]) 0 0 ap118 rfl rfl rfl rfl rfl rfl rfl (by omega) (by unfold maxLen; omega) rfl rfl fun v4 hv4 => ?_
          refine wl_ov (ov_assign rfl) rfl ?_
          refine wl_nil ?_
          refine nx_then ?_
          refine gw_seq ?_
          refine gw_region ?_
          refine wl_ov (ov_move rfl) rfl ?_
          refine wl_ov (ov_lss rfl rfl) rfl ?_
          refine wl_nil ?_
          refine nx_then ?_
          refine gw_cond rfl (fun hh => ?_) (fun hh => ?_)
          · have hb : drv D MB < 5761440 := by simpa using hh
            clear hh
            refine gw_region ?_
            obtain ⟨hD2, hbl⟩ := drv_lt hb
            have hdf : (d1.toList == d2.toList) = true := hD.symm.trans hD2
            have hbr : drv D MB = MB := by rw [hD2]; rfl
            refine wl_ov (ov_move rfl) rfl ?_
            refine wl_ov (ov_field fo36_0 rfl rfl) rfl ?_
            refine wl_ov (ov_load sc9 rfl (fun _ hm => hm.blkI 2 rfl) rfl) rfl ?_
            refine wl_ov (ov_field fo36_0 rfl rfl) rfl ?_
            refine wl_ov (ov_load sc9 rfl (fun _ hm => hm.blkI 1 rfl) rfl) rfl ?_
            refine wl_ov (ov_move rfl) rfl ?_
            refine wl_ov (ov_build (cs := [.string k1, .string k2, .int .i64 2, .int .i64 (drv D MB)]) rfl (by kernel_rfl)) rfl ?_
            refine wl_buildSlice (e := 123) (cs := [.string k1, .string k2, .int .i64 2, .int .i64 (drv D MB)]) rfl (by kernel_rfl) rfl fun g24 => ?_
            refine wl_append (news := [.string k1, .string k2, .int .i64 2, .int .i64 (drv D MB)]) 0 0 ap118 rfl rfl rfl rfl rfl rfl rfl (by omega) (by unfold maxLen; omega) rfl rfl fun v5 hv5 => ?_
            rw [hbr]
            refine wl_ov (ov_assign rfl) rfl ?_
            refine wl_nil ?_
            refine nx_blk_nrm ?_
            refine nx_then ?_
            refine gw_region ?_
            refine wl_ov (ov_add rfl rfl (by omega) (by omega)) rfl ?_
            refine wl_ov (ov_move rfl) rfl ?_
            refine wl_nil ?_
            have hcls : clsOf ⟨k1, d1, f1, t1, A1, n1, c1, l1⟩ ⟨k2, d2, f2, t2, A2, n2, c2, l2⟩ = [⟨k1, k2, 1, MA⟩, ⟨k1, k2, 2, MB⟩] := by unfold clsOf clsA clsB; dsimp only; rw [← hMA, ← hMB]; simp [hal, hdf, hbl]
            exact nx_round (k + 1, j2 + 1 + 1, v5, cl2 ++ ([⟨k1, k2, 1, MA⟩, ⟨k1, k2, 2, MB⟩] : List Cl), cl2.flatMap clEnc ++ ([.string k1, .string k2, .int .i64 1, .int .i64 MA] : List Value) ++ ([.string k1, .string k2, .int .i64 2, .int .i64 (MB)] : List Value)) ⟨by dsimp only; omega, by dsimp only; rw [← hk1, hfl, hcls]; simp, by dsimp only; simp [hk2], by dsimp only; simp [clEnc]⟩ (by dsimp only; omega) ⟨rfl, rfl, rfl, rfl, rfl, rfl, rfl, rfl, rfl, (some_int (by omega)), trivial⟩ (fun _ hm => hm.pick [3] [0] [1, 2, 3, 4] rfl rfl)
          · have hb : ¬ (drv D MB < 5761440) := by simpa using hh
            clear hh
            refine gw_skip ?_
            refine nx_blk_nrm ?_
            refine nx_then ?_
            refine gw_region ?_
            have hno : ¬ ((d1.toList == d2.toList) = true ∧ MB < 5761440) := fun h => hb (by rw [hD, h.1]; exact h.2)
            refine wl_ov (ov_add rfl rfl (by omega) (by omega)) rfl ?_
            refine wl_ov (ov_move rfl) rfl ?_
            refine wl_nil ?_
            have hcls : clsOf ⟨k1, d1, f1, t1, A1, n1, c1, l1⟩ ⟨k2, d2, f2, t2, A2, n2, c2, l2⟩ = [⟨k1, k2, 1, MA⟩] := by unfold clsOf clsA clsB; dsimp only; rw [← hMA, ← hMB]; simp [hal]; intro hq; have hn3 := hno; simp [hq] at hn3; exact hn3
            exact nx_round (k + 1, j2 + 1, v4, cl2 ++ ([⟨k1, k2, 1, MA⟩] : List Cl), cl2.flatMap clEnc ++ ([.string k1, .string k2, .int .i64 1, .int .i64 MA] : List Value)) ⟨by dsimp only; omega, by dsimp only; rw [← hk1, hfl, hcls]; simp, by dsimp only; simp [hk2], by dsimp only; simp [clEnc]⟩ (by dsimp only; omega) ⟨rfl, rfl, rfl, rfl, rfl, rfl, rfl, rfl, rfl, (some_int (by omega)), trivial⟩ (fun _ hm => hm.pick [2] [0] [1, 2, 3, 4] rfl rfl)
        · have hal : ¬ (MA < 5761440) := by simpa using hh
          clear hh
          refine gw_skip ?_
          refine nx_then ?_
          refine gw_seq ?_
          refine gw_region ?_
          refine wl_ov (ov_move rfl) rfl ?_
          refine wl_ov (ov_lss rfl rfl) rfl ?_
          refine wl_nil ?_
          refine nx_then ?_
          refine gw_cond rfl (fun hh => ?_) (fun hh => ?_)
          · have hb : drv D MB < 5761440 := by simpa using hh
            clear hh
            refine gw_region ?_
            obtain ⟨hD2, hbl⟩ := drv_lt hb
            have hdf : (d1.toList == d2.toList) = true := hD.symm.trans hD2
            have hbr : drv D MB = MB := by rw [hD2]; rfl
            refine wl_ov (ov_move rfl) rfl ?_
            refine wl_ov (ov_field fo36_0 rfl rfl) rfl ?_
            refine wl_ov (ov_load sc9 rfl (fun _ hm => hm.blkI 1 rfl) rfl) rfl ?_
            refine wl_ov (ov_field fo36_0 rfl rfl) rfl ?_
            refine wl_ov (ov_load sc9 rfl (fun _ hm => hm.blkI 0 rfl) rfl) rfl ?_
            refine wl_ov (ov_move rfl) rfl ?_
            refine wl_ov (ov_build (cs := [.string k1, .string k2, .int .i64 2, .int .i64 (drv D MB)]) rfl (by kernel_rfl)) rfl ?_
            refine wl_buildSlice (e := 123) (cs := [.string k1, .string k2, .int .i64 2, .int .i64 (drv D MB)]) rfl (by kernel_rfl) rfl fun g25 => ?_
            refine wl_append (news := [.string k1, .string k2, .int .i64 2, .int .i64 (drv D MB)]) 0 0 ap118 rfl rfl rfl rfl rfl rfl rfl (by omega) (by unfold maxLen; omega) rfl rfl fun v5 hv5 => ?_
            rw [hbr]
            refine wl_ov (ov_assign rfl) rfl ?_
            refine wl_nil ?_
            refine nx_blk_nrm ?_
            refine nx_then ?_
            refine gw_region ?_
            refine wl_ov (ov_add rfl rfl (by omega) (by omega)) rfl ?_
            refine wl_ov (ov_move rfl) rfl ?_
            refine wl_nil ?_
            have hcls : clsOf ⟨k1, d1, f1, t1, A1, n1, c1, l1⟩ ⟨k2, d2, f2, t2, A2, n2, c2, l2⟩ = [⟨k1, k2, 2, MB⟩] := by unfold clsOf clsA clsB; dsimp only; rw [← hMA, ← hMB]; simp [hal, hdf, hbl]
            exact nx_round (k + 1, j2 + 1, v5, cl2 ++ ([⟨k1, k2, 2, MB⟩] : List Cl), cl2.flatMap clEnc ++ ([.string k1, .string k2, .int .i64 2, .int .i64 (MB)] : List Value)) ⟨by dsimp only; omega, by dsimp only; rw [← hk1, hfl, hcls]; simp, by dsimp only; simp [hk2], by dsimp only; simp [clEnc]⟩ (by dsimp only; omega) ⟨rfl, rfl, rfl, rfl, rfl, rfl, rfl, rfl, rfl, (some_int (by omega)), trivial⟩ (fun _ hm => hm.pick [2] [0] [1, 2, 3, 4] rfl rfl)
          · have hb : ¬ (drv D MB < 5761440) := by simpa using hh
            clear hh
            refine gw_skip ?_
            refine nx_blk_nrm ?_
            refine nx_then ?_
            refine gw_region ?_
            have hno : ¬ ((d1.toList == d2.toList) = true ∧ MB < 5761440) := fun h => hb (by rw [hD, h.1]; exact h.2)
            refine wl_ov (ov_add rfl rfl (by omega) (by omega)) rfl ?_
            refine wl_ov (ov_move rfl) rfl ?_
            refine wl_nil ?_
            have hcls : clsOf ⟨k1, d1, f1, t1, A1, n1, c1, l1⟩ ⟨k2, d2, f2, t2, A2, n2, c2, l2⟩ = [] := by unfold clsOf clsA clsB; dsimp only; rw [← hMA, ← hMB]; simp [hal]; intro hq; have hn3 := hno; simp [hq] at hn3; exact hn3
            exact nx_round (k + 1, j2, v2, cl2, cl2.flatMap clEnc) ⟨by dsimp only; omega, by dsimp only; rw [← hk1, hfl, hcls]; rfl, hk2, rfl⟩ (by dsimp only; omega) ⟨rfl, rfl, rfl, rfl, rfl, rfl, rfl, rfl, rfl, (some_int (by omega)), trivial⟩ (fun _ hm => hm.pick [1] [0] [1, 2, 3, 4] rfl rfl)
    · have hk : ¬ (((k : Nat) : Int) < ((n - (i + 1) : Nat) : Int)) := by simpa using hh
      clear hh
      refine gw_exit ?_
      refine nx_then_exit ?_
      refine nx_then_exit ?_
      refine nx_blk_here ?_
      refine nx_blk_nrm ?_
      refine nx_then ?_
      refine gw_region ?_
      have hdr : ((hs.drop (i + 1)).drop k) = [] := List.drop_eq_nil_of_le (by rw [List.length_drop]; omega)
      rw [hdr, List.flatMap_nil, List.append_nil] at hk1
      refine wl_ov (ov_add rfl rfl (by omega) (by omega)) rfl ?_
      refine wl_ov (ov_move rfl) rfl ?_
      refine wl_nil ?_
      exact nx_round (i + 1, j2, v2, cl2, cl2.flatMap clEnc) ⟨by dsimp only; omega, hk1, hk2, rfl⟩ (by dsimp only; omega) ⟨rfl, rfl, rfl, rfl, rfl, (some_int (by omega)), trivial⟩ (fun _ hm => hm.pick [] [0] [2, 3] rfl rfl)
  · have hi : ¬ (((i : Nat) : Int) < ((n : Nat) : Int)) := by simpa using hh
    clear hh
    refine gw_exit ?_
    refine nx_then_exit ?_
    refine nx_then_exit ?_
    refine nx_blk_here ?_
    refine nx_then ?_
    refine gw_seq ?_
    refine gw_region ?_
    have hnil : hs.drop i = [] := List.drop_eq_nil_of_le (by omega)
    rw [hnil] at hi1
    have hcl : cl = clashL hs := by rw [← hi1]; exact (List.append_nil _).symm
    subst hcl
    refine wl_look (R := ∃ A cc, v = .slice A j cc) (fun wx hm => own_slice (hm.ownI 0 rfl)) ?_
    rintro ⟨A3, c3, rfl⟩
    refine wl_ov (ov_move rfl) rfl ?_
    refine wl_ov (ov_assign rfl) rfl ?_
    refine wl_nil ?_
    refine nx_then ?_
    refine gw_ret ?_
    refine nx_ret1 rfl rfl fun wx hm => ?_
    exact ⟨A3, j, c3, rfl, hm.g, SlT.ofOwn cl_len (hm.ownI 0 rfl) hi2.symm⟩

set_option maxRecDepth 100000 in
theorem same_clash_neq (x0 : ByteArray) (x1 : ByteArray) (x2 : Int) (x3 : Int) (w : World) : (binOp .neq 123 (.agg #[.string x0, .string x1, .int .i64 x2, .int .i64 x3]) (.agg #[.string x0, .string x1, .int .i64 x2, .int .i64 x3])).run Tryd.prog w = .ok (.bool false) w := by
  have hS : Tryd.prog.underlying 123 = some (.struct (Tryd.prog.fieldsOf 123)) := by kernel_rfl
  have hp : Tryd.prog.stoodInHeld 123 = false := by kernel_rfl
  rw [run_neq_struct, show (10000 : Nat) = 9999 + 1 from rfl, run_equalIn_agg w 9999 123 _ _ hS hp]
  simp only [Program.fieldsOf, Tryd.underlying123]
  have u3 := Tryd.underlying3
  have u9 := Tryd.underlying9
  clear hS hp
  go_simp
set_option maxRecDepth 100000 in
theorem same_clash_eql (x0 : ByteArray) (x1 : ByteArray) (x2 : Int) (x3 : Int) (w : World) : (binOp .eql 123 (.agg #[.string x0, .string x1, .int .i64 x2, .int .i64 x3]) (.agg #[.string x0, .string x1, .int .i64 x2, .int .i64 x3])).run Tryd.prog w = .ok (.bool true) w := by
  have hS : Tryd.prog.underlying 123 = some (.struct (Tryd.prog.fieldsOf 123)) := by kernel_rfl
  have hp : Tryd.prog.stoodInHeld 123 = false := by kernel_rfl
  rw [run_eql_struct, show (10000 : Nat) = 9999 + 1 from rfl, run_equalIn_agg w 9999 123 _ _ hS hp]
  simp only [Program.fieldsOf, Tryd.underlying123]
  have u3 := Tryd.underlying3
  have u9 := Tryd.underlying9
  clear hS hp
  go_simp
theorem guard_clash : Tryd.prog.eqGuardType Tryd.prog.depth 123 = false := by kernel_rfl

set_option maxRecDepth 100000 in
set_option maxHeartbeats 400000 in
theorem equal_clash_any (l : List Cl) (A1 A2 : Option Addr) (n c1 c2 : Nat) (w : World) (h1 : SlT clEnc 4 123 w A1 n l) (h2 : SlT clEnc 4 123 w A2 n l) (hn : n ≤ 1000000) :
    Calls Tryd.prog 83 #[.slice A1 n c1, .slice A2 n c2] w (fun e w' => e = .returned (.bool true) ∧ w.grownBy w' none) := by
  refine gw_enter ⟨26, w, none, []⟩ Tryd.func83 rfl Tryd.ntmps83 rfl (mem0 (X := [SlOld clEnc 4 123 w.heap.size none A1 n l, SlOld clEnc 4 123 w.heap.size none A2 n l]) (allF_cons h1.old (allF_cons h2.old allF_nil)) (allL_cons SlOld.lasts (allL_cons SlOld.lasts allL_nil))) ?_
  refine gw_seq ?_
  refine gw_region ?_
  have hlen := h1.len
  refine wl_ov (ov_assign rfl) rfl ?_
  refine wl_nil ?_
  refine nx_then ?_
  refine gw_seq ?_
  refine gw_seq ?_
  refine gw_region ?_
  refine wl_ov (ov_move rfl) rfl ?_
  refine wl_ov (ov_len es118 rfl) rfl ?_
  refine wl_ov (ov_move rfl) rfl ?_
  refine wl_ov (ov_len es118 rfl) rfl ?_
  refine wl_ov (ov_neq rfl rfl) rfl ?_
  refine wl_set 10 (v' := .bool false) rfl (congrArg Value.bool (by simp)) ?_
  refine wl_nil ?_
  refine nx_then ?_
  refine gw_cond rfl (fun hh => by cases hh) (fun _ => ?_)
  refine gw_skip ?_
  refine nx_then ?_
  refine gw_seq ?_
  refine gw_seq ?_
  refine gw_region ?_
  refine wl_ov (ov_move rfl) rfl ?_
  refine wl_ov (ov_len es118 rfl) rfl ?_
  refine wl_ov (ov_move rfl) rfl ?_
  refine wl_nil ?_
  refine nx_then ?_
  refine gw_block ?_
  refine gw_loop (γ := Nat) (fun (k : Nat) => k ≤ n) (fun (k : Nat) => [(0, .slice A1 n c1), (1, .slice A2 n c2), (12, .int .i64 ((n : Nat) : Int)), (13, .int .i64 ((k : Nat) : Int))]) (fun (k : Nat) => fun _ => True) (fun (k : Nat) => []) (fun (k : Nat) => []) (fun (k : Nat) => [SlOld clEnc 4 123 w.heap.size none A1 n l, SlOld clEnc 4 123 w.heap.size none A2 n l]) (fun (k : Nat) => n - k) 0 (Nat.zero_le _) ⟨rfl, rfl, rfl, rfl, trivial⟩ (fun _ hm => hm.pick [] [] [0, 1] rfl rfl) ?_
  intro k hinv
  replace hinv : k ≤ n := hinv
  refine gw_seq ?_
  refine gw_region ?_
  refine wl_ov (ov_lss rfl rfl) rfl ?_
  refine wl_nil ?_
  refine nx_then ?_
  refine gw_seq ?_
  refine gw_cond rfl (fun hh => ?_) (fun hh => ?_)
  · have hk : ((k : Nat) : Int) < ((n : Nat) : Int) := by simpa using hh
    clear hh
    refine gw_skip ?_
    refine nx_then ?_
    refine gw_seq ?_
    refine gw_block ?_
    refine gw_seq ?_
    refine gw_region ?_
    obtain ⟨b1, o1, hA, _, _⟩ := h1.get (by omega)
    subst hA
    obtain ⟨b2, o2, hA, _, _⟩ := h2.get (by omega)
    subst hA
    obtain ⟨x, hx⟩ : ∃ x, l[k]? = some x := ⟨_, List.getElem?_eq_getElem (by omega)⟩
    obtain ⟨x0, x1, x2, x3⟩ := x
    refine wl_ov (ov_move rfl) rfl ?_
    refine wl_ov (ov_assign rfl) rfl ?_
    refine wl_nil ?_
    refine nx_then ?_
    refine gw_seq ?_
    refine gw_draw (fun wz => (SlOld clEnc 4 123 w.heap.size none (some ⟨b1, o1, none⟩) n l) wz ∧ (SlOld clEnc 4 123 w.heap.size none (some ⟨b2, o2, none⟩) n l) wz ∧ True) mixed ?_
    refine wa_take 0 rfl (by kernel_rfl) (by kernel_rfl) (by kernel_rfl) (listed' := #[true, false, false, false, false, false, false, false, false]) rfl (fun _ _ _ h => h) (fun _ hm => ⟨hm.fact 0 rfl, hm.fact 1 rfl, trivial⟩) (ov_move rfl) rfl ?_
    refine wa_take 1 rfl (by kernel_rfl) (by kernel_rfl) (by kernel_rfl) (listed' := #[true, true, false, false, false, false, false, false, false]) rfl (fun _ _ _ h => h) (fun _ hm => ⟨hm.fact 0 rfl, hm.fact 1 rfl, trivial⟩) (ov_move rfl) rfl ?_
    refine wa_take 2 rfl (by kernel_rfl) (by kernel_rfl) (by kernel_rfl) (listed' := #[true, true, true, false, false, false, false, false, false]) rfl (fun _ _ _ h => h) (fun _ hm => ⟨hm.fact 0 rfl, hm.fact 1 rfl, trivial⟩) (ov_index (j := k) es118 rfl rfl (by omega)) rfl ?_
    refine wa_take 3 rfl (by kernel_rfl) (by kernel_rfl) (by kernel_rfl) (listed' := #[true, true, true, true, false, false, false, false, false]) rfl (fun _ _ _ h => h) (fun _ hm => ⟨hm.fact 0 rfl, hm.fact 1 rfl, trivial⟩) (ov_elem rz123 rfl (fun _ hm => (hm.1).1) hx rfl rfl) rfl ?_
    refine wa_take 4 rfl (by kernel_rfl) (by kernel_rfl) (by kernel_rfl) (listed' := #[true, true, true, true, true, false, false, false, false]) rfl (fun _ _ _ h => h) (fun _ hm => ⟨hm.fact 0 rfl, hm.fact 1 rfl, trivial⟩) (ov_move rfl) rfl ?_
    refine wa_take 5 rfl (by kernel_rfl) (by kernel_rfl) (by kernel_rfl) (listed' := #[true, true, true, true, true, true, false, false, false]) rfl (fun _ _ _ h => h) (fun _ hm => ⟨hm.fact 0 rfl, hm.fact 1 rfl, trivial⟩) (ov_move rfl) rfl ?_
    refine wa_take 6 rfl (by kernel_rfl) (by kernel_rfl) (by kernel_rfl) (listed' := #[true, true, true, true, true, true, true, false, false]) rfl (fun _ _ _ h => h) (fun _ hm => ⟨hm.fact 0 rfl, hm.fact 1 rfl, trivial⟩) (ov_index (j := k) es118 rfl rfl (by omega)) rfl ?_
    refine wa_take 7 rfl (by kernel_rfl) (by kernel_rfl) (by kernel_rfl) (listed' := #[true, true, true, true, true, true, true, true, false]) rfl (fun _ _ _ h => h) (fun _ hm => ⟨hm.fact 0 rfl, hm.fact 1 rfl, trivial⟩) (ov_elem rz123 rfl (fun _ hm => (hm.2.1).1) hx rfl rfl) rfl ?_
    refine wa_take 8 rfl (by kernel_rfl) (by kernel_rfl) (by kernel_rfl) (listed' := #[true, true, true, true, true, true, true, true, true]) rfl (fun _ _ _ h => h) (fun _ hm => ⟨hm.fact 0 rfl, hm.fact 1 rfl, trivial⟩) (ov_bin rfl rfl (cmp_agg guard_clash (fun wx => same_clash_neq x0 x1 x2 x3 wx))) rfl ?_
    refine wa_done (by kernel_rfl) ?_
    refine nx_then ?_
    refine gw_cond rfl (fun hh => by cases hh) (fun _ => ?_)
    refine gw_skip ?_
    refine nx_blk_nrm ?_
    refine nx_then ?_
    refine gw_region ?_
    refine wl_ov (ov_add rfl rfl (by omega) (by omega)) rfl ?_
    refine wl_ov (ov_move rfl) rfl ?_
    refine wl_nil ?_
    exact nx_round (k + 1) (by omega) (by omega) ⟨rfl, rfl, rfl, (some_int (by omega)), trivial⟩ (fun _ hm => hm.pick [] [] [0, 1] rfl rfl)
  · have hk : ¬ (((k : Nat) : Int) < ((n : Nat) : Int)) := by simpa using hh
    clear hh
    refine gw_exit ?_
    refine nx_then_exit ?_
    refine nx_then_exit ?_
    refine nx_blk_here ?_
    refine nx_then ?_
    refine gw_seq ?_
    refine gw_region ?_
    refine wl_ov (ov_assign rfl) rfl ?_
    refine wl_nil ?_
    refine nx_then ?_
    refine gw_ret ?_
    refine nx_ret1 rfl rfl fun wx hm => ?_
    exact ⟨rfl, hm.g⟩

end Go.Proofs.YtljnekobfjpfaaaDoor
/- The walk of the law HiresClash. -/
namespace Go.Proofs.YtljnekobfjpfaaaDoor
open Go.RowKit

theorem clashOr_len {E : Int} {l : List Hs} (h : l.length ≤ 500) : (clashOr E l).length ≤ 500000 := by
  unfold clashOr; split
  · rcases clashL_len l with h1 | h1 <;> omega
  · simp
set_option maxRecDepth 100000 in
set_option maxHeartbeats 2000000 in
theorem clash_walk (a0 : Option Addr) (len0 cap0 : Nat) (z0 : List Int) (w : World) (hR : RowIn w a0 len0 cap0 z0) :
    Calls Tryd.prog 10 #[.slice a0 len0 cap0] w fun e w' => e = .returned (.bool true) ∧ Below w.heap.size w w' := by
  refine gw_enter ⟨46, w, none, []⟩ Tryd.func10 rfl Tryd.ntmps10 rfl (mem0 (X := []) allF_nil allL_nil) ?_
  refine gw_seq ?_
  refine gw_region ?_
  refine wl_ov (ov_assign rfl) rfl ?_
  refine wl_nil ?_
  refine nx_then ?_
  refine gw_seq ?_
  refine gw_region ?_
  refine wl_ov (ov_move rfl) rfl ?_
  refine wl_ov (ov_build (cs := [.slice a0 len0 cap0, .int .i64 0]) rfl (by kernel_rfl)) rfl ?_
  refine wl_box rfl rfl rfl fun sb => ?_
  refine wl_ov (ov_assign rfl) rfl ?_
  refine wl_nil ?_
  refine nx_then ?_
  refine gw_seq ?_
  refine gw_region ?_
  refine wl_ov (ov_move rfl) rfl ?_
  refine wl_ov (ov_move rfl) rfl ?_
  refine wl_law [36, 138, 123] hR 0 rfl fun w1 B hg1 hsb => ?_
  refine wl_got (γ := Int) (val := fun v => .int .i64 v) (φ := fun v => 0 ≤ v ∧ (v ≤ 4 ∨ v = 0)) rfl cb68 rfl rfl rfl rfl (fun wx hm => (range_any _ _ wx B sb _ hm.k (by omega) (by omega) (by omega) (by omega) (by omega))) fun v1 hv1 => ?_
  obtain ⟨q, rfl⟩ := Int.eq_ofNat_of_zero_le hv1.1
  have hq4 : q ≤ 4 := by have := hv1.2; omega
  refine wl_calls (γ := Option Addr × Nat × Nat × List Hs) (val := (fun (g : Option Addr × Nat × Nat × List Hs) => .slice g.1 g.2.1 g.2.2.1)) (φ := (fun (g : Option Addr × Nat × Nat × List Hs) => (∀ h ∈ g.2.2.2, HsOk h) ∧ g.2.1 ≤ 5 ∧ g.2.1 ≤ g.2.2.1 ∧ g.2.2.2.length = g.2.1)) (Y := (fun (g : Option Addr × Nat × Nat × List Hs) => fun wy => SlT hsEnc 5 36 wy g.1 g.2.1 g.2.2.2 ∧ Legs g.2.2.2 wy)) (m' := 0 + 1 + 20000) rfl cb67 rfl rfl rfl rfl (fun wx hm => (ghires_any q wx B sb _ hm.k (by omega) hq4).mono fun _ _ ⟨A, n, c, hs, he, hsl, hlg, hok, hn5, hnc, hS, hg⟩ => ⟨(A, n, c, hs), he, ⟨hok, hn5, hnc, hsl.len⟩, hS, hg, ⟨hsl, hlg⟩⟩) (fun _ => (SlT.lasts2 rfl).and_ (Legs.lasts rfl)) ?_
  rintro ⟨A, n, c, hs⟩ hH
  dsimp only at hH ⊢
  obtain ⟨hok, hn5, hnc, hlen⟩ := hH
  obtain ⟨CL, hCL⟩ : ∃ L, L = clashOr (hiresE hs) hs := ⟨_, rfl⟩
  have hCLn : CL.length ≤ 500000 := by rw [hCL]; exact clashOr_len (by omega)
  refine wl_ov (ov_assign rfl) rfl ?_
  refine wl_nil ?_
  refine nx_then ?_
  refine gw_seq ?_
  refine gw_region ?_
  refine wl_ov (ov_move rfl) rfl ?_
  refine wl_callx (γ := Option Addr × Nat × Nat) (val := (fun (g : Option Addr × Nat × Nat) => .tuple #[.slice g.1 g.2.1 g.2.2, .int .i64 (hiresE hs)])) (φ := (fun (g : Option Addr × Nat × Nat) => CL.length = g.2.1)) (Y := (fun (g : Option Addr × Nat × Nat) => fun wy => SlT clEnc 4 123 wy g.1 g.2.1 CL)) rfl cb81 rfl rfl (fun wx hm => (by rw [hCL]; exact (clashes_any hs A n c wx (hm.fact 0 rfl).1 (hm.fact 0 rfl).2 hok hnc (by omega)).mono fun _ _ ⟨A2, n2, c2, he, hg, hs⟩ => ⟨(A2, n2, c2), he, hs.len, hg, hs⟩)) (fun _ => SlT.lasts2 rfl) ?_
  rintro ⟨A2, n2, c2⟩ hn2
  dsimp only at hn2 ⊢
  refine wl_ov (ov_move rfl) rfl ?_
  refine wl_ov (ov_extract rfl rfl) rfl ?_
  refine wl_ov (ov_extract rfl rfl) rfl ?_
  refine wl_ov (ov_assign rfl) rfl ?_
  refine wl_ov (ov_assign rfl) rfl ?_
  refine wl_nil ?_
  refine nx_then ?_
  refine gw_seq ?_
  refine gw_region ?_
  refine wl_ov (ov_move rfl) rfl ?_
  refine wl_callv rfl cb71 rfl rfl (fun wx hm => (hiresFault_any hs A n c wx (hm.fact 1 rfl).1 (hm.fact 1 rfl).2 hok (by omega))) ?_
  refine wl_ov (ov_assign rfl) rfl ?_
  refine wl_nil ?_
  refine nx_then ?_
  refine gw_seq ?_
  refine gw_seq ?_
  refine gw_region ?_
  refine wl_ov (ov_move rfl) rfl ?_
  refine wl_callv rfl cb82 rfl rfl (fun wx hm => (checkAll_any hs A n c wx (hm.fact 1 rfl).1 (hm.fact 1 rfl).2 hok (by omega))) ?_
  refine wl_ov (ov_move rfl) rfl ?_
  refine wl_ov (ov_neq rfl rfl) rfl ?_
  refine wl_set 25 (v' := .bool false) rfl (congrArg Value.bool (by simp)) ?_
  refine wl_ov (ov_move rfl) rfl ?_
  refine wl_guard_on rfl rfl rfl ?_
  refine wl_ov (ov_move rfl) rfl ?_
  refine wl_guard_on rfl rfl rfl ?_
  refine wl_ov (ov_move rfl) rfl ?_
  refine wl_guard_on rfl rfl rfl ?_
  refine wl_ov (ov_neq rfl rfl) rfl ?_
  refine wl_set 29 (v' := .bool false) rfl (congrArg Value.bool (by simp)) ?_
  refine wl_ov (ov_pick_f rfl rfl) rfl ?_
  refine wl_nil ?_
  refine nx_then ?_
  refine gw_cond rfl (fun hh => by cases hh) (fun _ => ?_)
  refine gw_skip ?_
  refine nx_then ?_
  refine gw_seq ?_
  refine gw_seq ?_
  refine gw_region ?_
  refine wl_ov (ov_move rfl) rfl ?_
  refine wl_ov (ov_neq rfl rfl) rfl ?_
  refine wl_nil ?_
  refine nx_then ?_
  refine gw_cond rfl (fun hh => ?_) (fun hh => ?_)
  · have hE : ¬ (hiresE hs = 0) := by simpa using hh
    clear hh
    refine gw_seq ?_
    refine gw_region ?_
    have hn0 : n2 = 0 := by rw [← hn2, hCL]; unfold clashOr; rw [if_neg hE]; rfl
    refine wl_ov (ov_move rfl) rfl ?_
    refine wl_ov (ov_len es118 rfl) rfl ?_
    refine wl_ov (ov_eql rfl rfl) rfl ?_
    refine wl_set 35 (v' := .bool true) rfl (congrArg Value.bool (decide_eq_true (by omega))) ?_
    refine wl_ov (ov_move rfl) rfl ?_
    refine wl_guard_on rfl rfl rfl ?_
    refine wl_callv rfl cb19 rfl rfl (fun wx hm => (hired_any wx)) ?_
    refine wl_ov (ov_pick_t rfl rfl) rfl ?_
    refine wl_ov (ov_assign rfl) rfl ?_
    refine wl_nil ?_
    refine nx_then ?_
    refine gw_ret ?_
    refine nx_then_ret ?_
    refine nx_ret1 rfl rfl fun wx hm => ?_
    exact ⟨rfl, law_end hg1 hsb hm.g⟩
  · have hE : hiresE hs = 0 := by simpa using hh
    clear hh
    refine gw_skip ?_
    refine nx_then ?_
    refine gw_seq ?_
    refine gw_region ?_
    have hhr := hiresE_ok hE
    have hCL2 : CL = clashL hs := by rw [hCL]; exact if_pos hE
    refine wl_ov (ov_move rfl) rfl ?_
    refine wl_ov (ov_move rfl) rfl ?_
    refine wl_callx (γ := Option Addr × Nat × Nat) (val := (fun (g : Option Addr × Nat × Nat) => .slice g.1 g.2.1 g.2.2)) (φ := (fun (g : Option Addr × Nat × Nat) => (clashL hs).length = g.2.1)) (Y := (fun (g : Option Addr × Nat × Nat) => fun wy => SlT clEnc 4 123 wy g.1 g.2.1 (clashL hs))) rfl cb84 rfl rfl (fun wx hm => (clashesOf_any hs A n c wx (hm.fact 1 rfl).1 (hm.fact 1 rfl).2 hok hnc hhr).mono fun _ _ ⟨A2, n2, c2, he, hg, hs⟩ => ⟨(A2, n2, c2), he, hs.len, hg, hs⟩) (fun _ => SlT.lasts2 rfl) ?_
    rintro ⟨A3, n3, c3⟩ hn3
    dsimp only at hn3 ⊢
    replace hn3 : n3 = n2 := by rw [← hn3, ← hn2, hCL2]
    refine wl_callv (v := .bool true) rfl cb83 rfl rfl (fun wx hm => (by subst hn3; exact equal_clash_any (clashL hs) A2 A3 n3 c2 c3 wx (by have h := (hm.fact 1 rfl); rw [hCL2] at h; exact h) (hm.fact 0 rfl) (by omega))) ?_
    refine wl_ov (ov_move rfl) rfl ?_
    refine wl_guard_on rfl rfl rfl ?_
    refine wl_callv rfl cb19 rfl rfl (fun wx hm => (hired_any wx)) ?_
    refine wl_ov (ov_pick_t rfl rfl) rfl ?_
    refine wl_ov (ov_assign rfl) rfl ?_
    refine wl_nil ?_
    refine nx_then ?_
    refine gw_ret ?_
    refine nx_ret1 rfl rfl fun wx hm => ?_
    exact ⟨rfl, law_end hg1 hsb hm.g⟩

end Go.Proofs.YtljnekobfjpfaaaDoor
