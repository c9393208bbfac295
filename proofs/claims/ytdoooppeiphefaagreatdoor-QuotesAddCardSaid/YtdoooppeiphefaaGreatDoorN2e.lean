/- Several texts as one: Vb Qe Srt Sl Sk Stc Bt Of2 Rs Ofp Ofq Ofr Vd Qv Bq Cells Lst Lop LopA Ry -/
import Derived.Test.YtdoooppeiphefaaGreatDoorN2c
import Derived.Test.YtdoooppeiphefaaGreatDoorN2b
import Derived.Test.YtdoooppeiphefaaGreatDoorN2a
import Derived.Test.YtdoooppeiphefaaGreatDoorN2d
import Derived.Test.YtdoooppeiphefaaGreatDoorProg
import Derived.Ground.NamesProg
import Derived.Shelf.Small.Bits
import Derived.Shelf.Small.Strs
import Derived.Laws.BitsLemmas
import Derived.Laws.Shifts
import Derived.Deep.LoopGhost
import Derived.Deep.DeepCutAuto
import Derived.StillTailTactics
set_option maxRecDepth 100000
set_option maxHeartbeats 4000000
namespace Go.Proofs.YtdoooppeiphefaaGreatDoor
open Go.RowKit
/-- A tax that may be there. -/
def ap (l : List Tx) (b : Bool) (x : Tx) : List Tx := bif b then l ++ [x] else l
theorem ap_at {b1 b2 b3 : Bool} {x1 x2 x3 y : Tx} {j : Nat} (h : (ap (ap (ap [] b1 x1) b2 x2) b3 x3)[j]? = some y) :
    (y = x1 ∧ ∀ z, ∀ x ∈ (ap (ap (ap [] b1 x1) b2 x2) b3 x3).set j z, x = z ∨ x = x2 ∨ x = x3) ∨ (y = x2 ∧ ∀ z, ∀ x ∈ (ap (ap (ap [] b1 x1) b2 x2) b3 x3).set j z, x = x1 ∨ x = z ∨ x = x3) ∨ (y = x3 ∧ ∀ z, ∀ x ∈ (ap (ap (ap [] b1 x1) b2 x2) b3 x3).set j z, x = x1 ∨ x = x2 ∨ x = z) := by
  match j with
  | 0 => cases b1 <;> cases b2 <;> cases b3 <;> simp only [ap, cond_true, cond_false, List.nil_append, List.cons_append, List.getElem?_cons_zero, List.getElem?_nil, Option.some.injEq, reduceCtorEq] at h <;> subst h <;> first
    | exact .inl ⟨rfl, fun z x hx => by simp [ap] at hx; first | exact hx | (rcases hx with hx | hx <;> simp [hx]) | simp [hx]⟩
    | exact .inr (.inl ⟨rfl, fun z x hx => by simp [ap] at hx; first | exact hx | (rcases hx with hx | hx <;> simp [hx]) | simp [hx]⟩)
    | exact .inr (.inr ⟨rfl, fun z x hx => by simp [ap] at hx; first | exact hx | (rcases hx with hx | hx <;> simp [hx]) | simp [hx]⟩)
  | 1 => cases b1 <;> cases b2 <;> cases b3 <;> simp only [ap, cond_true, cond_false, List.nil_append, List.cons_append, List.getElem?_cons_succ, List.getElem?_cons_zero, List.getElem?_nil, Option.some.injEq, reduceCtorEq] at h <;> subst h <;> first
    | exact .inr (.inl ⟨rfl, fun z x hx => by simp [ap] at hx; first | exact hx | (rcases hx with hx | hx <;> simp [hx]) | simp [hx]⟩)
    | exact .inr (.inr ⟨rfl, fun z x hx => by simp [ap] at hx; first | exact hx | (rcases hx with hx | hx <;> simp [hx]) | simp [hx]⟩)
  | 2 => cases b1 <;> cases b2 <;> cases b3 <;> simp only [ap, cond_true, cond_false, List.nil_append, List.cons_append, List.getElem?_cons_succ, List.getElem?_cons_zero, List.getElem?_nil, Option.some.injEq, reduceCtorEq] at h <;> subst h <;> exact .inr (.inr ⟨rfl, fun z x hx => by simp [ap] at hx; exact hx⟩)
  | n + 3 => cases b1 <;> cases b2 <;> cases b3 <;> simp [ap] at h
theorem ap_mem {b1 b2 b3 : Bool} {x1 x2 x3 : Tx} : ∀ x ∈ ap (ap (ap [] b1 x1) b2 x2) b3 x3, x = x1 ∨ x = x2 ∨ x = x3 := by
  intro x h
  cases b1 <;> cases b2 <;> cases b3 <;> simp [ap] at h <;> first | exact h | exact .inl h | exact .inr (.inl h) | exact .inr (.inr h) | exact h.imp id .inl | exact h.imp id .inr | exact .inr h
theorem ap_yes {l : List Tx} {n : Nat} {x : Tx} (h : n = l.length) : n + 1 = (ap l true x).length := by simp [ap, h]
theorem ap_flat (l : List Tx) (ke : ByteArray) (mi : Int) (A : Option Addr) (n c : Nat) (on : List Int) (ov : Bool) : l.flatMap txEnc ++ ([.string ke, .int .i64 mi, .slice A n c, .bool ov] : List Value) = (ap l true ⟨ke, mi, A, n, c, on, ov⟩).flatMap txEnc := by simp [ap, txEnc]
theorem ons_of {l : List Tx} {x1 x2 x3 : Tx} {w : World} (h : ∀ x ∈ l, x = x1 ∨ x = x2 ∨ x = x3) (h1 : SlT itEnc 1 3 w x1.A x1.n x1.on) (h2 : SlT itEnc 1 3 w x2.A x2.n x2.on) (h3 : SlT itEnc 1 3 w x3.A x3.n x3.on) : Ons l w := fun x hx => by
  rcases h x hx with rfl | rfl | rfl
  · exact h1
  · exact h2
  · exact h3
theorem ok_of {l : List Tx} {x1 x2 x3 : Tx} (h : ∀ x ∈ l, x = x1 ∨ x = x2 ∨ x = x3) (h1 : TxOk x1) (h2 : TxOk x2) (h3 : TxOk x3) : ∀ x ∈ l, TxOk x := fun x hx => by
  rcases h x hx with rfl | rfl | rfl
  · exact h1
  · exact h2
  · exact h3
theorem own_snoc {w : World} {N n c : Nat} {A : Option Addr} {l : List Int} {v : Int} (h : w.ownsRow N 3 1 (.slice A (n + 1) c) (n + 1) (l.flatMap itEnc ++ ([.int .i64 v] : List Value))) (hl : l.length = n) : SlT itEnc 1 3 w A (n + 1) (l ++ [v]) :=
  SlT.ofOwn it_len (by rw [show (l ++ [v]).flatMap itEnc = l.flatMap itEnc ++ ([.int .i64 v] : List Value) by simp [itEnc]]; exact h) (by simp [hl])
theorem gtaxes_any (w : World) (B sb m : Nat) (hS : Strm 25 w B sb m) (hm : m ≤ 100000000000) :
  Calls Tryz.prog 198 #[.pointer (some ⟨sb, 0, none⟩)] w (fun e w' => ∃ (A : Option Addr) (n c : Nat) (l : List Tx), e = .returned (.slice A n c) ∧ SlT txEnc 4 298 w' A n l ∧ Ons l w' ∧ (∀ x ∈ l, TxOk x) ∧ n ≤ 3 ∧ n ≤ c ∧ Strm 25 w' B sb (m + 400) ∧ w.grownBy w' (some sb)) := by
 refine gw_enter ⟨88, w, (some sb), []⟩ Tryz.func198 rfl Tryz.ntmps198 rfl (memS (X := []) hS allF_nil allL_nil) ?_
 refine sr_ (sg_ rfl (nn_ (sr_ (sg_ rfl (nn_ (gw_seq (sr_ ?_)))))))
 refine wl_buildSlice (e := 9) (cs := [.string ⟨#[99, 105, 116, 121]⟩, .string ⟨#[115, 116, 97, 116, 101]⟩, .string ⟨#[118, 97, 116]⟩]) rfl (by kernel_rfl) rfl fun g1 => ?_
 refine wl_ov (ov_len es79 rfl) rfl ?_
 refine wl_set 11 (v' := .int .i64 3) rfl rfl ?_
 refine mv_ rfl (nn_ (gw_block ?_))
 refine gw_nilOwn 298 4 ?_
 refine gw_rounds 4 ?_
 refine gr_next ?_
 refine sr_ (wl_ov (ov_lss rfl rfl) rfl ?_)
 refine wl_set 13 (v' := .bool true) rfl (congrArg Value.bool (by decide)) ?_
 refine nn_ (gw_seq (ct_ rfl (gw_skip (nx_then ?_))))
 refine gw_cut (γ := Bool × Value × Nat × List Value × ByteArray × Int × Option Addr × Nat × Nat × List Int × Bool) (I := (fun g => g.2.2.1 = (ap [] g.1 ⟨g.2.2.2.2.1, g.2.2.2.2.2.1, g.2.2.2.2.2.2.1, g.2.2.2.2.2.2.2.1, g.2.2.2.2.2.2.2.2.1, g.2.2.2.2.2.2.2.2.2.1, g.2.2.2.2.2.2.2.2.2.2⟩).length ∧ g.2.2.2.1 = (ap [] g.1 ⟨g.2.2.2.2.1, g.2.2.2.2.2.1, g.2.2.2.2.2.2.1, g.2.2.2.2.2.2.2.1, g.2.2.2.2.2.2.2.2.1, g.2.2.2.2.2.2.2.2.2.1, g.2.2.2.2.2.2.2.2.2.2⟩).flatMap txEnc ∧ g.2.2.2.2.1.size ≤ 100 ∧ g.2.2.2.2.2.2.2.2.2.1.length = g.2.2.2.2.2.2.2.1 ∧ g.2.2.2.2.2.2.2.1 ≤ 5 ∧ g.2.2.1 ≤ 1)) (S' := (fun g => [(0, .pointer (some ⟨sb, 0, none⟩)), (2, .slice none 0 0), (3, g.2.1), (10, .slice (some ⟨g1, 0, none⟩) 3 3), (11, .int .i64 3), (12, .int .i64 0)])) (K' := (fun g => fun w => Strm 25 w B sb (m + 100))) (L' := (fun g => [(g1, 9, [.string ⟨#[99, 105, 116, 121]⟩, .string ⟨#[115, 116, 97, 116, 101]⟩, .string ⟨#[118, 97, 116]⟩])])) (O' := (fun g => [⟨g.2.1, 298, 4, g.2.2.1, g.2.2.2.1⟩, ⟨.slice g.2.2.2.2.2.2.1 g.2.2.2.2.2.2.2.1 g.2.2.2.2.2.2.2.2.1, 3, 1, g.2.2.2.2.2.2.2.1, g.2.2.2.2.2.2.2.2.2.1.flatMap itEnc⟩])) (X' := (fun g => [])) ?_ ?_
 ·refine gw_block (sr_ ?_)
  refine wl_ov (ov_index (j := 0) es79 rfl rfl (by decide)) rfl ?_
  refine lk_ sc9 0 rfl rfl rfl (sg_ rfl (nn_ (gw_seq (sr_ (mv_ rfl ?_)))))
  refine wl_got (γ := Bool) (val := fun v => .bool v) (φ := fun v => True) rfl cb64 rfl rfl rfl rfl (fun wx hm => ((flip_any _ wx B sb _ hm.k (by omega) (by omega) (by omega)).mono fun _ _ ⟨v, he, hS, hg⟩ => ⟨v, trivial, he, hS, hg⟩)) fun f2 _ => ?_
  refine nn_ ?_
  refine gw_nilOwn 3 1 ?_
  refine gw_cond rfl (fun hh => ?_) (fun hh => ?_)
  ·have hz : f2 = true := by simpa using hh
   clear hh
   refine gw_exit ?_
   refine nx_then_exit ?_
   refine nx_blk_here ?_
   exact nx_meet (false, .slice none 0 0, 0, [], ⟨#[]⟩, 0, none, 0, 0, [], false) ⟨rfl, rfl, by dsimp only; decide, rfl, by dsimp only; omega, by dsimp only; omega⟩ ⟨rfl, rfl, rfl, rfl, rfl, rfl, trivial⟩ (fun _ hm => (hm.more rfl (by first | omega | (dsimp only; omega))).pick [0] [1, 0] [] rfl rfl)
  have hz : f2 = false := by simpa using hh
  clear hh
  refine gw_skip (nx_then (sr_ (mv_ rfl (mv_ rfl ?_))))
  refine wl_buildSlice (e := 3) (cs := [.int .i64 0, .int .i64 50, .int .i64 75, .int .i64 200, .int .i64 1000]) rfl (by kernel_rfl) rfl fun g3 => ?_
  refine wl_got (γ := Int) (val := fun v => .int .i64 v) (φ := fun v => v ∈ ([0, 50, 75, 200, 1000] : List Int)) rfl cb63 rfl rfl rfl rfl (fun wx hm => (pick_any [0, 50, 75, 200, 1000] _ _ _ wx B sb _ hm.k (by omega) (by simp) (by simp) (hm.blkI 0 rfl) (hm.neRow 0 rfl rfl))) fun v4 hv4 => ?_
  have bv4 : 0 ≤ v4 ∧ v4 ≤ 1000 := mem_rng hv4 (by decide)
  have bv40 := bv4.1
  have bv41 := bv4.2
  clear bv4
  refine mv_ rfl ?_
  refine wl_got (γ := Bool) (val := fun v => .bool v) (φ := fun v => True) rfl cb64 rfl rfl rfl rfl (fun wx hm => ((flip_any _ wx B sb _ hm.k (by omega) (by omega) (by omega)).mono fun _ _ ⟨v, he, hS, hg⟩ => ⟨v, trivial, he, hS, hg⟩)) fun f5 _ => ?_
  refine wl_ov (ov_build (cs := [.string ⟨#[99, 105, 116, 121]⟩, .int .i64 v4, .slice none 0 0, .bool f5]) rfl (by kernel_rfl)) rfl ?_
  refine wl_alloc zc298 rfl fun g6 => ?_
  refine wl_stores (cs' := [.string ⟨#[99, 105, 116, 121]⟩, .int .i64 v4, .slice none 0 0, .bool f5]) 0 rz298 rfl rfl rfl rfl rfl rfl rfl rfl ?_
  refine nn_ (gw_seq (sr_ ?_))
  refine wl_buildSlice (e := 3) (cs := [.int .i64 1, .int .i64 2, .int .i64 3, .int .i64 4, .int .i64 6]) rfl (by kernel_rfl) rfl fun g7 => ?_
  refine wl_ov (ov_len es22 rfl) rfl ?_
  refine wl_set 26 (v' := .int .i64 5) rfl rfl ?_
  refine mv_ rfl (nn_ (gw_block ?_))
  refine gw_loop (γ := Nat × Nat × Value × List Int × List Value) (fun g => g.1 ≤ 5 ∧ g.2.1 ≤ g.1 ∧ g.2.2.2.1.length = g.2.1 ∧ g.2.2.2.2 = g.2.2.2.1.flatMap itEnc) (fun g => [(0, .pointer (some ⟨sb, 0, none⟩)), (2, .slice none 0 0), (3, .slice none 0 0), (6, .pointer (some ⟨g6, 0, none⟩)), (10, .slice (some ⟨g1, 0, none⟩) 3 3), (11, .int .i64 3), (12, .int .i64 0), (25, .slice (some ⟨g7, 0, none⟩) 5 5), (26, .int .i64 5), (27, .int .i64 ((g.1 : Nat) : Int))]) (fun g => fun w => Strm 25 w B sb (m + 1 + 1 + 1 + 5 * g.1)) (fun g => [(g7, 3, [.int .i64 1, .int .i64 2, .int .i64 3, .int .i64 4, .int .i64 6]), (g6, 298, [.string ⟨#[99, 105, 116, 121]⟩, .int .i64 v4, g.2.2.1, .bool f5]), (g3, 3, [.int .i64 0, .int .i64 50, .int .i64 75, .int .i64 200, .int .i64 1000]), (g1, 9, [.string ⟨#[99, 105, 116, 121]⟩, .string ⟨#[115, 116, 97, 116, 101]⟩, .string ⟨#[118, 97, 116]⟩])]) (fun g => [⟨g.2.2.1, 3, 1, g.2.1, g.2.2.2.2⟩, ⟨.slice none 0 0, 298, 4, 0, []⟩]) (fun g => []) (fun g => 5 - g.1) (0, 0, .slice none 0 0, [], []) ⟨Nat.zero_le _, Nat.zero_le _, rfl, rfl⟩ ⟨rfl, rfl, rfl, rfl, rfl, rfl, rfl, rfl, rfl, rfl, trivial⟩ (fun _ hm => (hm.more rfl (by first | omega | (dsimp only; omega))).pick [0, 1, 2, 3] [0, 1] [] rfl rfl) ?_
  rintro ⟨k, n, v, l, xs⟩ hinv
  replace hinv : k ≤ 5 ∧ n ≤ k ∧ l.length = n ∧ xs = l.flatMap itEnc := hinv
  dsimp only
  refine sr_ ?_
  obtain ⟨hi0, hi1, hi2, rfl⟩ := hinv
  refine wl_ov (ov_lss rfl rfl) rfl (nn_ (gw_seq ?_))
  refine gw_cond rfl (fun hh => ?_) (fun hh => ?_)
  ·have hk : ((k : Nat) : Int) < 5 := by simpa using hh
   clear hh
   refine gw_skip (nx_then (gw_seq (gw_block (sr_ ?_))))
   obtain ⟨kd, hx⟩ : ∃ x, ([1, 2, 3, 4, 6] : List Int)[k]? = some x := ⟨_, List.getElem?_eq_getElem (by simp; omega)⟩
   refine wl_ov (ov_index (j := k) es22 rfl rfl (by omega)) rfl ?_
   refine wl_ov (ov_elem1 (k := 0) (v := .int .i64 kd) sc3 rfl (fun _ hm => (SlT.ofBlk (l := [1, 2, 3, 4, 6]) it_len (hm.blkI 0 rfl))) hx rfl rfl) rfl ?_
   refine sg_ rfl (nn_ (sr_ (mv_ rfl ?_)))
   refine wl_got (γ := Bool) (val := fun v => .bool v) (φ := fun v => True) rfl cb64 rfl rfl rfl rfl (fun wx hm => ((flip_any _ wx B sb _ hm.k (by omega) (by omega) (by omega)).mono fun _ _ ⟨v, he, hS, hg⟩ => ⟨v, trivial, he, hS, hg⟩)) fun f8 _ => ?_
   refine nn_ ?_
   refine gw_cond rfl (fun hh => ?_) (fun hh => ?_)
   ·have hf : f8 = true := by simpa using hh
    clear hh
    refine gw_region (fd_ fo298_2 rfl rfl (lk_ sc22 1 rfl rfl rfl (mv_ rfl ?_)))
    refine wl_buildSlice (e := 3) (cs := [.int .i64 kd]) rfl (by kernel_rfl) rfl fun g9 => ?_
    refine wl_append (news := [.int .i64 kd]) 0 0 ap22 rfl rfl rfl rfl rfl rfl rfl (by omega) (by unfold maxLen; omega) rfl rfl fun vb hvb => ?_
    refine wl_look (R := ∃ A cc, vb = .slice A (n + 1) cc) (fun wx hm => own_slice (hm.ownI 0 rfl)) ?_
    rintro ⟨Ab, cb, rfl⟩
    refine fd_ fo298_2 rfl rfl ?_
    refine wl_store 2 sc22 rfl rfl rfl rfl rfl rfl ?_
    refine wl_nil (nx_blk_nrm (nx_then (gw_region (ad_ rfl rfl (mv_ rfl (wl_nil ?_))))))
    exact nx_round (k + 1, n + 1, .slice Ab (n + 1) cb, l ++ [kd], l.flatMap itEnc ++ ([.int .i64 kd] : List Value)) ⟨by dsimp only; omega, by dsimp only; omega, by simp [hi2], by simp [itEnc]⟩ (by dsimp only; omega) ⟨rfl, rfl, rfl, rfl, rfl, rfl, rfl, rfl, rfl, (some_int (by omega)), trivial⟩ (fun _ hm => (hm.more rfl (by first | omega | (dsimp only; omega))).pick [1, 2, 3, 4] [0, 1] [] rfl rfl)
   have hf : f8 = false := by simpa using hh
   clear hh
   refine gw_skip (nx_blk_nrm (nx_then (gw_region (ad_ rfl rfl (mv_ rfl (wl_nil ?_))))))
   exact nx_round (k + 1, n, v, l, l.flatMap itEnc) ⟨by dsimp only; omega, by dsimp only; omega, hi2, rfl⟩ (by dsimp only; omega) ⟨rfl, rfl, rfl, rfl, rfl, rfl, rfl, rfl, rfl, (some_int (by omega)), trivial⟩ (fun _ hm => (hm.more rfl (by first | omega | (dsimp only; omega))).pick [0, 1, 2, 3] [0, 1] [] rfl rfl)
  have hk : ¬ (((k : Nat) : Int) < 5) := by simpa using hh
  clear hh
  refine gw_exit ?_
  refine nx_then_exit (nx_then_exit ?_)
  refine nx_blk_here ?_
  refine nx_then (gw_region ?_)
  refine wl_look (R := ∃ A cc, v = .slice A n cc) (fun wx hm => own_slice (hm.ownI 0 rfl)) ?_
  rintro ⟨Ad, cd, rfl⟩
  refine mv_ rfl ?_
  refine wl_ov (ov_loads rz298 rfl (fun _ hm => hm.blkI 1 rfl) rfl rfl) rfl ?_
  refine wl_buildSlice (e := 298) (cs := [.string ⟨#[99, 105, 116, 121]⟩, .int .i64 v4, .slice Ad n cd, .bool f5]) rfl (by kernel_rfl) rfl fun g10 => ?_
  refine wl_append (news := [.string ⟨#[99, 105, 116, 121]⟩, .int .i64 v4, .slice Ad n cd, .bool f5]) 1 0 ap75 rfl rfl rfl rfl rfl rfl rfl (by omega) (by unfold maxLen; omega) rfl rfl fun vc hvc => ?_
  refine sg_ rfl (wl_nil (nx_blk_nrm ?_))
  exact nx_meet (true, vc, 0 + 1, [] ++ ([.string ⟨#[99, 105, 116, 121]⟩, .int .i64 v4, .slice Ad n cd, .bool f5] : List Value), ⟨#[99, 105, 116, 121]⟩, v4, Ad, n, cd, l, f5) ⟨rfl, rfl, by dsimp only; decide, hi2, by dsimp only; omega, by dsimp only; omega⟩ ⟨rfl, rfl, rfl, rfl, rfl, rfl, trivial⟩ (fun _ hm => (hm.more rfl (by first | omega | (dsimp only; omega))).pick [4] [1, 0] [] rfl rfl)
 rintro ⟨b1, v1, nn1, xs1, ke1, mi1, A1, n1, c1, on1, ov1⟩ hinv
 replace hinv : nn1 = (ap [] b1 ⟨ke1, mi1, A1, n1, c1, on1, ov1⟩).length ∧ xs1 = (ap [] b1 ⟨ke1, mi1, A1, n1, c1, on1, ov1⟩).flatMap txEnc ∧ ke1.size ≤ 100 ∧ on1.length = n1 ∧ n1 ≤ 5 ∧ nn1 ≤ 1 := hinv
 dsimp only
 refine gw_region ?_
 obtain ⟨hT1, rfl, hk1, ho1, hm1, hb1⟩ := hinv
 refine ad_ rfl rfl ?_
 refine wl_set 44 (v' := .int .i64 1) rfl rfl ?_
 refine mv_ rfl (wl_nil ?_)
 refine nx_next ?_
 refine gr_next ?_
 refine sr_ (wl_ov (ov_lss rfl rfl) rfl ?_)
 refine wl_set 13 (v' := .bool true) rfl (congrArg Value.bool (by decide)) ?_
 refine nn_ (gw_seq (ct_ rfl (gw_skip (nx_then ?_))))
 refine gw_cut (γ := Bool × Value × Nat × List Value × ByteArray × Int × Option Addr × Nat × Nat × List Int × Bool) (I := (fun g => g.2.2.1 = (ap (ap [] b1 ⟨ke1, mi1, A1, n1, c1, on1, ov1⟩) g.1 ⟨g.2.2.2.2.1, g.2.2.2.2.2.1, g.2.2.2.2.2.2.1, g.2.2.2.2.2.2.2.1, g.2.2.2.2.2.2.2.2.1, g.2.2.2.2.2.2.2.2.2.1, g.2.2.2.2.2.2.2.2.2.2⟩).length ∧ g.2.2.2.1 = (ap (ap [] b1 ⟨ke1, mi1, A1, n1, c1, on1, ov1⟩) g.1 ⟨g.2.2.2.2.1, g.2.2.2.2.2.1, g.2.2.2.2.2.2.1, g.2.2.2.2.2.2.2.1, g.2.2.2.2.2.2.2.2.1, g.2.2.2.2.2.2.2.2.2.1, g.2.2.2.2.2.2.2.2.2.2⟩).flatMap txEnc ∧ g.2.2.2.2.1.size ≤ 100 ∧ g.2.2.2.2.2.2.2.2.2.1.length = g.2.2.2.2.2.2.2.1 ∧ g.2.2.2.2.2.2.2.1 ≤ 5 ∧ g.2.2.1 ≤ 2)) (S' := (fun g => [(0, .pointer (some ⟨sb, 0, none⟩)), (2, .slice none 0 0), (3, g.2.1), (10, .slice (some ⟨g1, 0, none⟩) 3 3), (11, .int .i64 3), (12, .int .i64 1)])) (K' := (fun g => fun w => Strm 25 w B sb (m + 200))) (L' := (fun g => [(g1, 9, [.string ⟨#[99, 105, 116, 121]⟩, .string ⟨#[115, 116, 97, 116, 101]⟩, .string ⟨#[118, 97, 116]⟩])])) (O' := (fun g => [⟨g.2.1, 298, 4, g.2.2.1, g.2.2.2.1⟩, ⟨.slice g.2.2.2.2.2.2.1 g.2.2.2.2.2.2.2.1 g.2.2.2.2.2.2.2.2.1, 3, 1, g.2.2.2.2.2.2.2.1, g.2.2.2.2.2.2.2.2.2.1.flatMap itEnc⟩, ⟨.slice A1 n1 c1, 3, 1, n1, on1.flatMap itEnc⟩])) (X' := (fun g => [])) ?_ ?_
 ·refine gw_block (sr_ ?_)
  refine wl_ov (ov_index (j := 1) es79 rfl rfl (by decide)) rfl ?_
  refine lk_ sc9 0 rfl rfl rfl (sg_ rfl (nn_ (gw_seq (sr_ (mv_ rfl ?_)))))
  refine wl_got (γ := Bool) (val := fun v => .bool v) (φ := fun v => True) rfl cb64 rfl rfl rfl rfl (fun wx hm => ((flip_any _ wx B sb _ hm.k (by omega) (by omega) (by omega)).mono fun _ _ ⟨v, he, hS, hg⟩ => ⟨v, trivial, he, hS, hg⟩)) fun f11 _ => ?_
  refine nn_ ?_
  refine gw_nilOwn 3 1 ?_
  refine gw_cond rfl (fun hh => ?_) (fun hh => ?_)
  ·have hz : f11 = true := by simpa using hh
   clear hh
   refine gw_exit ?_
   refine nx_then_exit ?_
   refine nx_blk_here ?_
   exact nx_meet (false, v1, nn1, (ap [] b1 ⟨ke1, mi1, A1, n1, c1, on1, ov1⟩).flatMap txEnc, ⟨#[]⟩, 0, none, 0, 0, [], false) ⟨hT1, rfl, by dsimp only; decide, rfl, by dsimp only; omega, by dsimp only; omega⟩ ⟨rfl, rfl, rfl, rfl, rfl, rfl, trivial⟩ (fun _ hm => (hm.more rfl (by first | omega | (dsimp only; omega))).pick [0] [1, 0, 2] [] rfl rfl)
  have hz : f11 = false := by simpa using hh
  clear hh
  refine gw_skip (nx_then (sr_ (mv_ rfl (mv_ rfl ?_))))
  refine wl_buildSlice (e := 3) (cs := [.int .i64 0, .int .i64 50, .int .i64 75, .int .i64 200, .int .i64 1000]) rfl (by kernel_rfl) rfl fun g12 => ?_
  refine wl_got (γ := Int) (val := fun v => .int .i64 v) (φ := fun v => v ∈ ([0, 50, 75, 200, 1000] : List Int)) rfl cb63 rfl rfl rfl rfl (fun wx hm => (pick_any [0, 50, 75, 200, 1000] _ _ _ wx B sb _ hm.k (by omega) (by simp) (by simp) (hm.blkI 0 rfl) (hm.neRow 0 rfl rfl))) fun v13 hv13 => ?_
  have bv13 : 0 ≤ v13 ∧ v13 ≤ 1000 := mem_rng hv13 (by decide)
  have bv130 := bv13.1
  have bv131 := bv13.2
  clear bv13
  refine mv_ rfl ?_
  refine wl_got (γ := Bool) (val := fun v => .bool v) (φ := fun v => True) rfl cb64 rfl rfl rfl rfl (fun wx hm => ((flip_any _ wx B sb _ hm.k (by omega) (by omega) (by omega)).mono fun _ _ ⟨v, he, hS, hg⟩ => ⟨v, trivial, he, hS, hg⟩)) fun f14 _ => ?_
  refine wl_ov (ov_build (cs := [.string ⟨#[115, 116, 97, 116, 101]⟩, .int .i64 v13, .slice none 0 0, .bool f14]) rfl (by kernel_rfl)) rfl ?_
  refine wl_alloc zc298 rfl fun g15 => ?_
  refine wl_stores (cs' := [.string ⟨#[115, 116, 97, 116, 101]⟩, .int .i64 v13, .slice none 0 0, .bool f14]) 0 rz298 rfl rfl rfl rfl rfl rfl rfl rfl ?_
  refine nn_ (gw_seq (sr_ ?_))
  refine wl_buildSlice (e := 3) (cs := [.int .i64 1, .int .i64 2, .int .i64 3, .int .i64 4, .int .i64 6]) rfl (by kernel_rfl) rfl fun g16 => ?_
  refine wl_ov (ov_len es22 rfl) rfl ?_
  refine wl_set 26 (v' := .int .i64 5) rfl rfl ?_
  refine mv_ rfl (nn_ (gw_block ?_))
  refine gw_loop (γ := Nat × Nat × Value × List Int × List Value) (fun g => g.1 ≤ 5 ∧ g.2.1 ≤ g.1 ∧ g.2.2.2.1.length = g.2.1 ∧ g.2.2.2.2 = g.2.2.2.1.flatMap itEnc) (fun g => [(0, .pointer (some ⟨sb, 0, none⟩)), (2, .slice none 0 0), (3, v1), (6, .pointer (some ⟨g15, 0, none⟩)), (10, .slice (some ⟨g1, 0, none⟩) 3 3), (11, .int .i64 3), (12, .int .i64 1), (25, .slice (some ⟨g16, 0, none⟩) 5 5), (26, .int .i64 5), (27, .int .i64 ((g.1 : Nat) : Int))]) (fun g => fun w => Strm 25 w B sb (m + 100 + 1 + 1 + 1 + 5 * g.1)) (fun g => [(g16, 3, [.int .i64 1, .int .i64 2, .int .i64 3, .int .i64 4, .int .i64 6]), (g15, 298, [.string ⟨#[115, 116, 97, 116, 101]⟩, .int .i64 v13, g.2.2.1, .bool f14]), (g12, 3, [.int .i64 0, .int .i64 50, .int .i64 75, .int .i64 200, .int .i64 1000]), (g1, 9, [.string ⟨#[99, 105, 116, 121]⟩, .string ⟨#[115, 116, 97, 116, 101]⟩, .string ⟨#[118, 97, 116]⟩])]) (fun g => [⟨g.2.2.1, 3, 1, g.2.1, g.2.2.2.2⟩, ⟨v1, 298, 4, nn1, (ap [] b1 ⟨ke1, mi1, A1, n1, c1, on1, ov1⟩).flatMap txEnc⟩, ⟨.slice A1 n1 c1, 3, 1, n1, on1.flatMap itEnc⟩]) (fun g => []) (fun g => 5 - g.1) (0, 0, .slice none 0 0, [], []) ⟨Nat.zero_le _, Nat.zero_le _, rfl, rfl⟩ ⟨rfl, rfl, rfl, rfl, rfl, rfl, rfl, rfl, rfl, rfl, trivial⟩ (fun _ hm => (hm.more rfl (by first | omega | (dsimp only; omega))).pick [0, 1, 2, 3] [0, 1, 2] [] rfl rfl) ?_
  rintro ⟨k, n, v, l, xs⟩ hinv
  replace hinv : k ≤ 5 ∧ n ≤ k ∧ l.length = n ∧ xs = l.flatMap itEnc := hinv
  dsimp only
  refine sr_ ?_
  obtain ⟨hi0, hi1, hi2, rfl⟩ := hinv
  refine wl_ov (ov_lss rfl rfl) rfl (nn_ (gw_seq ?_))
  refine gw_cond rfl (fun hh => ?_) (fun hh => ?_)
  ·have hk : ((k : Nat) : Int) < 5 := by simpa using hh
   clear hh
   refine gw_skip (nx_then (gw_seq (gw_block (sr_ ?_))))
   obtain ⟨kd, hx⟩ : ∃ x, ([1, 2, 3, 4, 6] : List Int)[k]? = some x := ⟨_, List.getElem?_eq_getElem (by simp; omega)⟩
   refine wl_ov (ov_index (j := k) es22 rfl rfl (by omega)) rfl ?_
   refine wl_ov (ov_elem1 (k := 0) (v := .int .i64 kd) sc3 rfl (fun _ hm => (SlT.ofBlk (l := [1, 2, 3, 4, 6]) it_len (hm.blkI 0 rfl))) hx rfl rfl) rfl ?_
   refine sg_ rfl (nn_ (sr_ (mv_ rfl ?_)))
   refine wl_got (γ := Bool) (val := fun v => .bool v) (φ := fun v => True) rfl cb64 rfl rfl rfl rfl (fun wx hm => ((flip_any _ wx B sb _ hm.k (by omega) (by omega) (by omega)).mono fun _ _ ⟨v, he, hS, hg⟩ => ⟨v, trivial, he, hS, hg⟩)) fun f17 _ => ?_
   refine nn_ ?_
   refine gw_cond rfl (fun hh => ?_) (fun hh => ?_)
   ·have hf : f17 = true := by simpa using hh
    clear hh
    refine gw_region (fd_ fo298_2 rfl rfl (lk_ sc22 1 rfl rfl rfl (mv_ rfl ?_)))
    refine wl_buildSlice (e := 3) (cs := [.int .i64 kd]) rfl (by kernel_rfl) rfl fun g18 => ?_
    refine wl_append (news := [.int .i64 kd]) 0 0 ap22 rfl rfl rfl rfl rfl rfl rfl (by omega) (by unfold maxLen; omega) rfl rfl fun vb hvb => ?_
    refine wl_look (R := ∃ A cc, vb = .slice A (n + 1) cc) (fun wx hm => own_slice (hm.ownI 0 rfl)) ?_
    rintro ⟨Ab, cb, rfl⟩
    refine fd_ fo298_2 rfl rfl ?_
    refine wl_store 2 sc22 rfl rfl rfl rfl rfl rfl ?_
    refine wl_nil (nx_blk_nrm (nx_then (gw_region (ad_ rfl rfl (mv_ rfl (wl_nil ?_))))))
    exact nx_round (k + 1, n + 1, .slice Ab (n + 1) cb, l ++ [kd], l.flatMap itEnc ++ ([.int .i64 kd] : List Value)) ⟨by dsimp only; omega, by dsimp only; omega, by simp [hi2], by simp [itEnc]⟩ (by dsimp only; omega) ⟨rfl, rfl, rfl, rfl, rfl, rfl, rfl, rfl, rfl, (some_int (by omega)), trivial⟩ (fun _ hm => (hm.more rfl (by first | omega | (dsimp only; omega))).pick [1, 2, 3, 4] [0, 1, 2] [] rfl rfl)
   have hf : f17 = false := by simpa using hh
   clear hh
   refine gw_skip (nx_blk_nrm (nx_then (gw_region (ad_ rfl rfl (mv_ rfl (wl_nil ?_))))))
   exact nx_round (k + 1, n, v, l, l.flatMap itEnc) ⟨by dsimp only; omega, by dsimp only; omega, hi2, rfl⟩ (by dsimp only; omega) ⟨rfl, rfl, rfl, rfl, rfl, rfl, rfl, rfl, rfl, (some_int (by omega)), trivial⟩ (fun _ hm => (hm.more rfl (by first | omega | (dsimp only; omega))).pick [0, 1, 2, 3] [0, 1, 2] [] rfl rfl)
  have hk : ¬ (((k : Nat) : Int) < 5) := by simpa using hh
  clear hh
  refine gw_exit ?_
  refine nx_then_exit (nx_then_exit ?_)
  refine nx_blk_here ?_
  refine nx_then (gw_region ?_)
  refine wl_look (R := ∃ A cc, v = .slice A n cc) (fun wx hm => own_slice (hm.ownI 0 rfl)) ?_
  rintro ⟨Ad, cd, rfl⟩
  refine mv_ rfl ?_
  refine wl_ov (ov_loads rz298 rfl (fun _ hm => hm.blkI 1 rfl) rfl rfl) rfl ?_
  refine wl_buildSlice (e := 298) (cs := [.string ⟨#[115, 116, 97, 116, 101]⟩, .int .i64 v13, .slice Ad n cd, .bool f14]) rfl (by kernel_rfl) rfl fun g19 => ?_
  refine wl_append (news := [.string ⟨#[115, 116, 97, 116, 101]⟩, .int .i64 v13, .slice Ad n cd, .bool f14]) 1 0 ap75 rfl rfl rfl rfl rfl rfl rfl (by omega) (by unfold maxLen; omega) rfl rfl fun vc hvc => ?_
  refine sg_ rfl (wl_nil (nx_blk_nrm ?_))
  exact nx_meet (true, vc, nn1 + 1, (ap [] b1 ⟨ke1, mi1, A1, n1, c1, on1, ov1⟩).flatMap txEnc ++ ([.string ⟨#[115, 116, 97, 116, 101]⟩, .int .i64 v13, .slice Ad n cd, .bool f14] : List Value), ⟨#[115, 116, 97, 116, 101]⟩, v13, Ad, n, cd, l, f14) ⟨ap_yes hT1, ap_flat _ _ _ _ _ _ _ _, by dsimp only; decide, hi2, by dsimp only; omega, by dsimp only; omega⟩ ⟨rfl, rfl, rfl, rfl, rfl, rfl, trivial⟩ (fun _ hm => (hm.more rfl (by first | omega | (dsimp only; omega))).pick [4] [1, 0, 2] [] rfl rfl)
 rintro ⟨b2, v2, nn2, xs2, ke2, mi2, A2, n2, c2, on2, ov2⟩ hinv
 replace hinv : nn2 = (ap (ap [] b1 ⟨ke1, mi1, A1, n1, c1, on1, ov1⟩) b2 ⟨ke2, mi2, A2, n2, c2, on2, ov2⟩).length ∧ xs2 = (ap (ap [] b1 ⟨ke1, mi1, A1, n1, c1, on1, ov1⟩) b2 ⟨ke2, mi2, A2, n2, c2, on2, ov2⟩).flatMap txEnc ∧ ke2.size ≤ 100 ∧ on2.length = n2 ∧ n2 ≤ 5 ∧ nn2 ≤ 2 := hinv
 dsimp only
 refine gw_region ?_
 obtain ⟨hT2, rfl, hk2, ho2, hm2, hb2⟩ := hinv
 refine ad_ rfl rfl ?_
 refine wl_set 44 (v' := .int .i64 2) rfl rfl ?_
 refine mv_ rfl (wl_nil ?_)
 refine nx_next ?_
 refine gr_next ?_
 refine sr_ (wl_ov (ov_lss rfl rfl) rfl ?_)
 refine wl_set 13 (v' := .bool true) rfl (congrArg Value.bool (by decide)) ?_
 refine nn_ (gw_seq (ct_ rfl (gw_skip (nx_then ?_))))
 refine gw_cut (γ := Bool × Value × Nat × List Value × ByteArray × Int × Option Addr × Nat × Nat × List Int × Bool) (I := (fun g => g.2.2.1 = (ap (ap (ap [] b1 ⟨ke1, mi1, A1, n1, c1, on1, ov1⟩) b2 ⟨ke2, mi2, A2, n2, c2, on2, ov2⟩) g.1 ⟨g.2.2.2.2.1, g.2.2.2.2.2.1, g.2.2.2.2.2.2.1, g.2.2.2.2.2.2.2.1, g.2.2.2.2.2.2.2.2.1, g.2.2.2.2.2.2.2.2.2.1, g.2.2.2.2.2.2.2.2.2.2⟩).length ∧ g.2.2.2.1 = (ap (ap (ap [] b1 ⟨ke1, mi1, A1, n1, c1, on1, ov1⟩) b2 ⟨ke2, mi2, A2, n2, c2, on2, ov2⟩) g.1 ⟨g.2.2.2.2.1, g.2.2.2.2.2.1, g.2.2.2.2.2.2.1, g.2.2.2.2.2.2.2.1, g.2.2.2.2.2.2.2.2.1, g.2.2.2.2.2.2.2.2.2.1, g.2.2.2.2.2.2.2.2.2.2⟩).flatMap txEnc ∧ g.2.2.2.2.1.size ≤ 100 ∧ g.2.2.2.2.2.2.2.2.2.1.length = g.2.2.2.2.2.2.2.1 ∧ g.2.2.2.2.2.2.2.1 ≤ 5 ∧ g.2.2.1 ≤ 3)) (S' := (fun g => [(0, .pointer (some ⟨sb, 0, none⟩)), (2, .slice none 0 0), (3, g.2.1), (10, .slice (some ⟨g1, 0, none⟩) 3 3), (11, .int .i64 3), (12, .int .i64 2)])) (K' := (fun g => fun w => Strm 25 w B sb (m + 300))) (L' := (fun g => [(g1, 9, [.string ⟨#[99, 105, 116, 121]⟩, .string ⟨#[115, 116, 97, 116, 101]⟩, .string ⟨#[118, 97, 116]⟩])])) (O' := (fun g => [⟨g.2.1, 298, 4, g.2.2.1, g.2.2.2.1⟩, ⟨.slice g.2.2.2.2.2.2.1 g.2.2.2.2.2.2.2.1 g.2.2.2.2.2.2.2.2.1, 3, 1, g.2.2.2.2.2.2.2.1, g.2.2.2.2.2.2.2.2.2.1.flatMap itEnc⟩, ⟨.slice A2 n2 c2, 3, 1, n2, on2.flatMap itEnc⟩, ⟨.slice A1 n1 c1, 3, 1, n1, on1.flatMap itEnc⟩])) (X' := (fun g => [])) ?_ ?_
 ·refine gw_block (sr_ ?_)
  refine wl_ov (ov_index (j := 2) es79 rfl rfl (by decide)) rfl ?_
  refine lk_ sc9 0 rfl rfl rfl (sg_ rfl (nn_ (gw_seq (sr_ (mv_ rfl ?_)))))
  refine wl_got (γ := Bool) (val := fun v => .bool v) (φ := fun v => True) rfl cb64 rfl rfl rfl rfl (fun wx hm => ((flip_any _ wx B sb _ hm.k (by omega) (by omega) (by omega)).mono fun _ _ ⟨v, he, hS, hg⟩ => ⟨v, trivial, he, hS, hg⟩)) fun f20 _ => ?_
  refine nn_ ?_
  refine gw_nilOwn 3 1 ?_
  refine gw_cond rfl (fun hh => ?_) (fun hh => ?_)
  ·have hz : f20 = true := by simpa using hh
   clear hh
   refine gw_exit ?_
   refine nx_then_exit ?_
   refine nx_blk_here ?_
   exact nx_meet (false, v2, nn2, (ap (ap [] b1 ⟨ke1, mi1, A1, n1, c1, on1, ov1⟩) b2 ⟨ke2, mi2, A2, n2, c2, on2, ov2⟩).flatMap txEnc, ⟨#[]⟩, 0, none, 0, 0, [], false) ⟨hT2, rfl, by dsimp only; decide, rfl, by dsimp only; omega, by dsimp only; omega⟩ ⟨rfl, rfl, rfl, rfl, rfl, rfl, trivial⟩ (fun _ hm => (hm.more rfl (by first | omega | (dsimp only; omega))).pick [0] [1, 0, 2, 3] [] rfl rfl)
  have hz : f20 = false := by simpa using hh
  clear hh
  refine gw_skip (nx_then (sr_ (mv_ rfl (mv_ rfl ?_))))
  refine wl_buildSlice (e := 3) (cs := [.int .i64 0, .int .i64 50, .int .i64 75, .int .i64 200, .int .i64 1000]) rfl (by kernel_rfl) rfl fun g21 => ?_
  refine wl_got (γ := Int) (val := fun v => .int .i64 v) (φ := fun v => v ∈ ([0, 50, 75, 200, 1000] : List Int)) rfl cb63 rfl rfl rfl rfl (fun wx hm => (pick_any [0, 50, 75, 200, 1000] _ _ _ wx B sb _ hm.k (by omega) (by simp) (by simp) (hm.blkI 0 rfl) (hm.neRow 0 rfl rfl))) fun v22 hv22 => ?_
  have bv22 : 0 ≤ v22 ∧ v22 ≤ 1000 := mem_rng hv22 (by decide)
  have bv220 := bv22.1
  have bv221 := bv22.2
  clear bv22
  refine mv_ rfl ?_
  refine wl_got (γ := Bool) (val := fun v => .bool v) (φ := fun v => True) rfl cb64 rfl rfl rfl rfl (fun wx hm => ((flip_any _ wx B sb _ hm.k (by omega) (by omega) (by omega)).mono fun _ _ ⟨v, he, hS, hg⟩ => ⟨v, trivial, he, hS, hg⟩)) fun f23 _ => ?_
  refine wl_ov (ov_build (cs := [.string ⟨#[118, 97, 116]⟩, .int .i64 v22, .slice none 0 0, .bool f23]) rfl (by kernel_rfl)) rfl ?_
  refine wl_alloc zc298 rfl fun g24 => ?_
  refine wl_stores (cs' := [.string ⟨#[118, 97, 116]⟩, .int .i64 v22, .slice none 0 0, .bool f23]) 0 rz298 rfl rfl rfl rfl rfl rfl rfl rfl ?_
  refine nn_ (gw_seq (sr_ ?_))
  refine wl_buildSlice (e := 3) (cs := [.int .i64 1, .int .i64 2, .int .i64 3, .int .i64 4, .int .i64 6]) rfl (by kernel_rfl) rfl fun g25 => ?_
  refine wl_ov (ov_len es22 rfl) rfl ?_
  refine wl_set 26 (v' := .int .i64 5) rfl rfl ?_
  refine mv_ rfl (nn_ (gw_block ?_))
  refine gw_loop (γ := Nat × Nat × Value × List Int × List Value) (fun g => g.1 ≤ 5 ∧ g.2.1 ≤ g.1 ∧ g.2.2.2.1.length = g.2.1 ∧ g.2.2.2.2 = g.2.2.2.1.flatMap itEnc) (fun g => [(0, .pointer (some ⟨sb, 0, none⟩)), (2, .slice none 0 0), (3, v2), (6, .pointer (some ⟨g24, 0, none⟩)), (10, .slice (some ⟨g1, 0, none⟩) 3 3), (11, .int .i64 3), (12, .int .i64 2), (25, .slice (some ⟨g25, 0, none⟩) 5 5), (26, .int .i64 5), (27, .int .i64 ((g.1 : Nat) : Int))]) (fun g => fun w => Strm 25 w B sb (m + 200 + 1 + 1 + 1 + 5 * g.1)) (fun g => [(g25, 3, [.int .i64 1, .int .i64 2, .int .i64 3, .int .i64 4, .int .i64 6]), (g24, 298, [.string ⟨#[118, 97, 116]⟩, .int .i64 v22, g.2.2.1, .bool f23]), (g21, 3, [.int .i64 0, .int .i64 50, .int .i64 75, .int .i64 200, .int .i64 1000]), (g1, 9, [.string ⟨#[99, 105, 116, 121]⟩, .string ⟨#[115, 116, 97, 116, 101]⟩, .string ⟨#[118, 97, 116]⟩])]) (fun g => [⟨g.2.2.1, 3, 1, g.2.1, g.2.2.2.2⟩, ⟨v2, 298, 4, nn2, (ap (ap [] b1 ⟨ke1, mi1, A1, n1, c1, on1, ov1⟩) b2 ⟨ke2, mi2, A2, n2, c2, on2, ov2⟩).flatMap txEnc⟩, ⟨.slice A2 n2 c2, 3, 1, n2, on2.flatMap itEnc⟩, ⟨.slice A1 n1 c1, 3, 1, n1, on1.flatMap itEnc⟩]) (fun g => []) (fun g => 5 - g.1) (0, 0, .slice none 0 0, [], []) ⟨Nat.zero_le _, Nat.zero_le _, rfl, rfl⟩ ⟨rfl, rfl, rfl, rfl, rfl, rfl, rfl, rfl, rfl, rfl, trivial⟩ (fun _ hm => (hm.more rfl (by first | omega | (dsimp only; omega))).pick [0, 1, 2, 3] [0, 1, 2, 3] [] rfl rfl) ?_
  rintro ⟨k, n, v, l, xs⟩ hinv
  replace hinv : k ≤ 5 ∧ n ≤ k ∧ l.length = n ∧ xs = l.flatMap itEnc := hinv
  dsimp only
  refine sr_ ?_
  obtain ⟨hi0, hi1, hi2, rfl⟩ := hinv
  refine wl_ov (ov_lss rfl rfl) rfl (nn_ (gw_seq ?_))
  refine gw_cond rfl (fun hh => ?_) (fun hh => ?_)
  ·have hk : ((k : Nat) : Int) < 5 := by simpa using hh
   clear hh
   refine gw_skip (nx_then (gw_seq (gw_block (sr_ ?_))))
   obtain ⟨kd, hx⟩ : ∃ x, ([1, 2, 3, 4, 6] : List Int)[k]? = some x := ⟨_, List.getElem?_eq_getElem (by simp; omega)⟩
   refine wl_ov (ov_index (j := k) es22 rfl rfl (by omega)) rfl ?_
   refine wl_ov (ov_elem1 (k := 0) (v := .int .i64 kd) sc3 rfl (fun _ hm => (SlT.ofBlk (l := [1, 2, 3, 4, 6]) it_len (hm.blkI 0 rfl))) hx rfl rfl) rfl ?_
   refine sg_ rfl (nn_ (sr_ (mv_ rfl ?_)))
   refine wl_got (γ := Bool) (val := fun v => .bool v) (φ := fun v => True) rfl cb64 rfl rfl rfl rfl (fun wx hm => ((flip_any _ wx B sb _ hm.k (by omega) (by omega) (by omega)).mono fun _ _ ⟨v, he, hS, hg⟩ => ⟨v, trivial, he, hS, hg⟩)) fun f26 _ => ?_
   refine nn_ ?_
   refine gw_cond rfl (fun hh => ?_) (fun hh => ?_)
   ·have hf : f26 = true := by simpa using hh
    clear hh
    refine gw_region (fd_ fo298_2 rfl rfl (lk_ sc22 1 rfl rfl rfl (mv_ rfl ?_)))
    refine wl_buildSlice (e := 3) (cs := [.int .i64 kd]) rfl (by kernel_rfl) rfl fun g27 => ?_
    refine wl_append (news := [.int .i64 kd]) 0 0 ap22 rfl rfl rfl rfl rfl rfl rfl (by omega) (by unfold maxLen; omega) rfl rfl fun vb hvb => ?_
    refine wl_look (R := ∃ A cc, vb = .slice A (n + 1) cc) (fun wx hm => own_slice (hm.ownI 0 rfl)) ?_
    rintro ⟨Ab, cb, rfl⟩
    refine fd_ fo298_2 rfl rfl ?_
    refine wl_store 2 sc22 rfl rfl rfl rfl rfl rfl ?_
    refine wl_nil (nx_blk_nrm (nx_then (gw_region (ad_ rfl rfl (mv_ rfl (wl_nil ?_))))))
    exact nx_round (k + 1, n + 1, .slice Ab (n + 1) cb, l ++ [kd], l.flatMap itEnc ++ ([.int .i64 kd] : List Value)) ⟨by dsimp only; omega, by dsimp only; omega, by simp [hi2], by simp [itEnc]⟩ (by dsimp only; omega) ⟨rfl, rfl, rfl, rfl, rfl, rfl, rfl, rfl, rfl, (some_int (by omega)), trivial⟩ (fun _ hm => (hm.more rfl (by first | omega | (dsimp only; omega))).pick [1, 2, 3, 4] [0, 1, 2, 3] [] rfl rfl)
   have hf : f26 = false := by simpa using hh
   clear hh
   refine gw_skip (nx_blk_nrm (nx_then (gw_region (ad_ rfl rfl (mv_ rfl (wl_nil ?_))))))
   exact nx_round (k + 1, n, v, l, l.flatMap itEnc) ⟨by dsimp only; omega, by dsimp only; omega, hi2, rfl⟩ (by dsimp only; omega) ⟨rfl, rfl, rfl, rfl, rfl, rfl, rfl, rfl, rfl, (some_int (by omega)), trivial⟩ (fun _ hm => (hm.more rfl (by first | omega | (dsimp only; omega))).pick [0, 1, 2, 3] [0, 1, 2, 3] [] rfl rfl)
  have hk : ¬ (((k : Nat) : Int) < 5) := by simpa using hh
  clear hh
  refine gw_exit ?_
  refine nx_then_exit (nx_then_exit ?_)
  refine nx_blk_here ?_
  refine nx_then (gw_region ?_)
  refine wl_look (R := ∃ A cc, v = .slice A n cc) (fun wx hm => own_slice (hm.ownI 0 rfl)) ?_
  rintro ⟨Ad, cd, rfl⟩
  refine mv_ rfl ?_
  refine wl_ov (ov_loads rz298 rfl (fun _ hm => hm.blkI 1 rfl) rfl rfl) rfl ?_
  refine wl_buildSlice (e := 298) (cs := [.string ⟨#[118, 97, 116]⟩, .int .i64 v22, .slice Ad n cd, .bool f23]) rfl (by kernel_rfl) rfl fun g28 => ?_
  refine wl_append (news := [.string ⟨#[118, 97, 116]⟩, .int .i64 v22, .slice Ad n cd, .bool f23]) 1 0 ap75 rfl rfl rfl rfl rfl rfl rfl (by omega) (by unfold maxLen; omega) rfl rfl fun vc hvc => ?_
  refine sg_ rfl (wl_nil (nx_blk_nrm ?_))
  exact nx_meet (true, vc, nn2 + 1, (ap (ap [] b1 ⟨ke1, mi1, A1, n1, c1, on1, ov1⟩) b2 ⟨ke2, mi2, A2, n2, c2, on2, ov2⟩).flatMap txEnc ++ ([.string ⟨#[118, 97, 116]⟩, .int .i64 v22, .slice Ad n cd, .bool f23] : List Value), ⟨#[118, 97, 116]⟩, v22, Ad, n, cd, l, f23) ⟨ap_yes hT2, ap_flat _ _ _ _ _ _ _ _, by dsimp only; decide, hi2, by dsimp only; omega, by dsimp only; omega⟩ ⟨rfl, rfl, rfl, rfl, rfl, rfl, trivial⟩ (fun _ hm => (hm.more rfl (by first | omega | (dsimp only; omega))).pick [4] [1, 0, 2, 3] [] rfl rfl)
 rintro ⟨b3, v3, nn3, xs3, ke3, mi3, A3, n3, c3, on3, ov3⟩ hinv
 replace hinv : nn3 = (ap (ap (ap [] b1 ⟨ke1, mi1, A1, n1, c1, on1, ov1⟩) b2 ⟨ke2, mi2, A2, n2, c2, on2, ov2⟩) b3 ⟨ke3, mi3, A3, n3, c3, on3, ov3⟩).length ∧ xs3 = (ap (ap (ap [] b1 ⟨ke1, mi1, A1, n1, c1, on1, ov1⟩) b2 ⟨ke2, mi2, A2, n2, c2, on2, ov2⟩) b3 ⟨ke3, mi3, A3, n3, c3, on3, ov3⟩).flatMap txEnc ∧ ke3.size ≤ 100 ∧ on3.length = n3 ∧ n3 ≤ 5 ∧ nn3 ≤ 3 := hinv
 dsimp only
 refine gw_region ?_
 obtain ⟨hT3, rfl, hk3, ho3, hm3, hb3⟩ := hinv
 refine wl_look (R := ∃ A cc, v3 = .slice A nn3 cc) (fun wx hm => own_slice (hm.ownI 0 rfl)) ?_
 rintro ⟨A, c, rfl⟩
 refine ad_ rfl rfl ?_
 refine wl_set 44 (v' := .int .i64 3) rfl rfl ?_
 refine mv_ rfl (wl_nil ?_)
 refine nx_next ?_
 refine gr_next ?_
 refine sr_ (wl_ov (ov_lss rfl rfl) rfl ?_)
 refine wl_set 13 (v' := .bool false) rfl (congrArg Value.bool (by decide)) ?_
 refine nn_ (gw_seq (cf_ rfl ?_))
 refine gw_exit ?_
 refine nx_then_exit (nx_then_exit ?_)
 refine nx_blk_here ?_
 refine nx_then (gw_seq (sr_ (mv_ rfl (wl_ov (ov_len es75 rfl) rfl ?_))))
 refine wl_ov (ov_gtr rfl rfl) rfl ?_
 refine mv_ rfl ?_
 rcases Bool.eq_false_or_eq_true (decide (0 < ((nn3 : Nat) : Int))) with hb | hb
 ·refine wl_set 48 rfl (congrArg Value.bool hb) ?_
  have hk0 : 0 < nn3 := by simpa using hb
  refine wl_guard_on rfl rfl rfl (mv_ rfl (wl_guard_on rfl rfl rfl ?_))
  refine wl_got (γ := Bool) (val := fun v => .bool v) (φ := fun v => True) rfl cb64 rfl rfl rfl rfl (fun wx hm => ((flip_any _ wx B sb _ hm.k (by omega) (by omega) (by omega)).mono fun _ _ ⟨v, he, hS, hg⟩ => ⟨v, trivial, he, hS, hg⟩)) fun f29 _ => ?_
  refine pt_ rfl rfl (nn_ ?_)
  refine gw_cond rfl (fun hh => ?_) (fun hh => ?_)
  ·have hf : f29 = true := by simpa using hh
   clear hh
   refine sr_ ?_
   refine wl_look (R := ∃ g, A = some ⟨g, 0, none⟩) (fun wx hm => own_addr (hm.ownI 0 rfl) hk0) ?_
   rintro ⟨bo, rfl⟩
   refine mv_ rfl (mv_ rfl (mv_ rfl (wl_ov (ov_len es75 rfl) rfl ?_)))
   refine wl_got (γ := Int) (val := fun v => .int .i64 v) (φ := fun v => IsBelow ((nn3 : Nat) : Int) v) rfl cb29 rfl rfl rfl rfl (fun wx hm => (next_any _ wx B sb _ hm.k (by omega) (by omega) (by omega))) fun vj hvj => ?_
   have hj := isBelow_lt hvj (by omega)
   obtain ⟨j, rfl⟩ := Int.eq_ofNat_of_zero_le hj.1
   have hjn : j < nn3 := by omega
   obtain ⟨y, hy⟩ : ∃ y, (ap (ap (ap [] b1 ⟨ke1, mi1, A1, n1, c1, on1, ov1⟩) b2 ⟨ke2, mi2, A2, n2, c2, on2, ov2⟩) b3 ⟨ke3, mi3, A3, n3, c3, on3, ov3⟩)[j]? = some y := ⟨_, List.getElem?_eq_getElem (by omega)⟩
   rcases ap_at hy with ⟨rfl, hz⟩ | ⟨rfl, hz⟩ | ⟨rfl, hz⟩
   ·refine wl_ov (ov_index (j := j) es75 rfl rfl (by omega)) rfl ?_
    refine sg_ rfl (nn_ (sr_ (mv_ rfl ?_)))
    refine wl_got (γ := Int) (val := fun v => .int .i64 v) (φ := fun v => IsBelow 3 v) rfl cb29 rfl rfl rfl rfl (fun wx hm => (next_any _ wx B sb _ hm.k (by omega) (by omega) (by omega))) fun vs hvs => ?_
    refine nn_ (gw_block (sr_ (wl_ov (ov_eql rfl rfl) rfl (sg_ rfl (nn_ ?_)))))
    refine gw_cond rfl (fun hh => ?_) (fun hh => ?_)
    ·have h0 : vs = 0 := by simpa using hh
     clear hh
     refine gw_region (mv_ rfl (mv_ rfl ?_))
     refine wl_buildSlice (e := 9) (cs := [.string ⟨#[]⟩, .string ⟨#[99, 105, 116, 121]⟩, .string ⟨#[65]⟩]) rfl (by kernel_rfl) rfl fun g30 => ?_
     refine wl_got (γ := ByteArray) (val := fun v => .string v) (φ := fun v => v ∈ ([⟨#[]⟩, ⟨#[99, 105, 116, 121]⟩, ⟨#[65]⟩] : List ByteArray)) rfl cb62 rfl rfl rfl rfl (fun wx hm => (some_any [⟨#[]⟩, ⟨#[99, 105, 116, 121]⟩, ⟨#[65]⟩] _ _ _ wx B sb _ hm.k (by omega) (by simp) (by simp) (hm.blkI 0 rfl) (hm.neRow 0 rfl rfl))) fun sn hsn => ?_
     have zsn : sn.size ≤ 100 := mem_sz hsn (by decide)
     refine wl_ov (ov_nilcheck rfl) rfl (fd_ fo298_0 rfl rfl ?_)
     refine wl_storeE (l := (ap (ap (ap [] b1 ⟨ke1, mi1, A1, n1, c1, on1, ov1⟩) b2 ⟨ke2, mi2, A2, n2, c2, on2, ov2⟩) b3 ⟨ke3, mi3, A3, n3, c3, on3, ov3⟩)) (j := j) (r := 0) (el := ⟨ke1, mi1, A1, n1, c1, on1, ov1⟩) (el' := ⟨sn, mi1, A1, n1, c1, on1, ov1⟩) 0 sc9 rfl rfl rfl rfl tx_len rfl hy hT3.symm (by decide) rfl rfl ?_
     refine wl_nil (nx_blk_nrm (nx_then (sr_ (mv_ rfl (sg_ rfl (nn_ ?_))))))
     refine gw_ret ?_
     refine nx_ret1 rfl rfl fun wx hm => ?_
     exact ⟨some ⟨bo, 0, none⟩, nn3, c, ((ap (ap (ap [] b1 ⟨ke1, mi1, A1, n1, c1, on1, ov1⟩) b2 ⟨ke2, mi2, A2, n2, c2, on2, ov2⟩) b3 ⟨ke3, mi3, A3, n3, c3, on3, ov3⟩).set j ⟨sn, mi1, A1, n1, c1, on1, ov1⟩), rfl, SlT.ofOwn tx_len (hm.ownI 0 rfl) (by simpa using hT3.symm), ons_of (hz _) (SlT.ofOwn it_len (hm.ownI 3 rfl) ho1) (SlT.ofOwn it_len (hm.ownI 2 rfl) ho2) (SlT.ofOwn it_len (hm.ownI 1 rfl) ho3), ok_of (hz _) (show TxOk _ from ⟨(by omega : (sn : ByteArray).size ≤ 1000000), (by omega : n1 ≤ 1000)⟩) (show TxOk _ from ⟨(by omega : (ke2 : ByteArray).size ≤ 1000000), (by omega : n2 ≤ 1000)⟩) (show TxOk _ from ⟨(by omega : (ke3 : ByteArray).size ≤ 1000000), (by omega : n3 ≤ 1000)⟩), by omega, own_cap (hm.ownI 0 rfl), hm.k.more (by omega), hm.g⟩
    have h0 : ¬ (vs = 0) := by simpa using hh
    clear hh
    refine sr_ (wl_ov (ov_eql rfl rfl) rfl (sg_ rfl (nn_ ?_)))
    refine gw_cond rfl (fun hh => ?_) (fun hh => ?_)
    ·have h1 : vs = 1 := by simpa using hh
     clear hh
     refine gw_region (mv_ rfl (mv_ rfl ?_))
     refine wl_got (γ := Int) (val := fun v => .int .i64 v) (φ := fun v => -2000000000000000 ≤ v ∧ v ≤ 2000000000000000) rfl cb65 rfl rfl rfl rfl (fun wx hm => (odd_any _ _ wx B sb _ hm.k (by omega) (by omega) (by omega) (by omega))) fun v31 hv31 => ?_
     refine wl_ov (ov_nilcheck rfl) rfl (fd_ fo298_1 rfl rfl ?_)
     refine wl_storeE (l := (ap (ap (ap [] b1 ⟨ke1, mi1, A1, n1, c1, on1, ov1⟩) b2 ⟨ke2, mi2, A2, n2, c2, on2, ov2⟩) b3 ⟨ke3, mi3, A3, n3, c3, on3, ov3⟩)) (j := j) (r := 1) (el := ⟨ke1, mi1, A1, n1, c1, on1, ov1⟩) (el' := ⟨ke1, v31, A1, n1, c1, on1, ov1⟩) 0 sc3 rfl rfl rfl rfl tx_len rfl hy hT3.symm (by decide) rfl rfl ?_
     refine wl_nil (nx_blk_nrm (nx_then (sr_ (mv_ rfl (sg_ rfl (nn_ ?_))))))
     refine gw_ret ?_
     refine nx_ret1 rfl rfl fun wx hm => ?_
     exact ⟨some ⟨bo, 0, none⟩, nn3, c, ((ap (ap (ap [] b1 ⟨ke1, mi1, A1, n1, c1, on1, ov1⟩) b2 ⟨ke2, mi2, A2, n2, c2, on2, ov2⟩) b3 ⟨ke3, mi3, A3, n3, c3, on3, ov3⟩).set j ⟨ke1, v31, A1, n1, c1, on1, ov1⟩), rfl, SlT.ofOwn tx_len (hm.ownI 0 rfl) (by simpa using hT3.symm), ons_of (hz _) (SlT.ofOwn it_len (hm.ownI 3 rfl) ho1) (SlT.ofOwn it_len (hm.ownI 2 rfl) ho2) (SlT.ofOwn it_len (hm.ownI 1 rfl) ho3), ok_of (hz _) (show TxOk _ from ⟨(by omega : (ke1 : ByteArray).size ≤ 1000000), (by omega : n1 ≤ 1000)⟩) (show TxOk _ from ⟨(by omega : (ke2 : ByteArray).size ≤ 1000000), (by omega : n2 ≤ 1000)⟩) (show TxOk _ from ⟨(by omega : (ke3 : ByteArray).size ≤ 1000000), (by omega : n3 ≤ 1000)⟩), by omega, own_cap (hm.ownI 0 rfl), hm.k.more (by omega), hm.g⟩
    have h1 : ¬ (vs = 1) := by simpa using hh
    clear hh
    refine gd (fun wz => Blk wz g1 9 [.string ⟨#[99, 105, 116, 121]⟩, .string ⟨#[115, 116, 97, 116, 101]⟩, .string ⟨#[118, 97, 116]⟩] ∧ True) mixed (fun _ hm => ⟨hm.bl 0, trivial⟩) fun z => ?_
    refine wt 0 13 1 rfl z (ov_move rfl) ?_
    refine wt 1 13 3 rfl z (ov_move rfl) ?_
    refine wt 2 13 7 rfl z (ov_nilcheck rfl) ?_
    refine wt 3 13 15 rfl z (ov_field fo298_2 rfl rfl) ?_
    refine wt 5 13 47 rfl z (ov_move rfl) ?_
    refine wa_all [4, 6] (by kernel_rfl) rfl ⟨⟨_, rfl, ?_⟩, ⟨_, rfl, ?_⟩, trivial⟩
    ·refine wl_ov (ov_elem1 (k := 2) (v := .slice A1 n1 c1) sc22 rfl (fun _ hm => (SlT.ofOwn tx_len (hm.ownI 0 rfl) hT3.symm)) hy rfl rfl) rfl ?_
     refine wl_nil ?_
     refine nw 13 63 (fun _ hm => ⟨hm.bl 0, trivial⟩) fun z => ?_
     refine wa1 6 rfl ?_
     refine wl_buildSlice (e := 3) (cs := [.int .i64 0, .int .i64 5, .int .i64 6, .int .i64 7, .int .i64 1]) rfl (by kernel_rfl) rfl fun g32 => ?_
     refine wl_nil ?_
     refine nw 13 127 (fun _ hm => ⟨hm.bl 1, trivial⟩) fun z => ?_
     refine wa1 7 rfl ?_
     refine wl_got (γ := Int) (val := fun v => .int .i64 v) (φ := fun v => v ∈ ([0, 5, 6, 7, 1] : List Int)) rfl cb63 rfl rfl rfl rfl (fun wx hm => (pick_any [0, 5, 6, 7, 1] _ _ _ wx B sb _ hm.k (by omega) (by simp) (by simp) (hm.blkI 0 rfl) (hm.neRow 0 rfl rfl))) fun v33 hv33 => ?_
     have bv33 : 0 ≤ v33 ∧ v33 ≤ 7 := mem_rng hv33 (by decide)
     have bv330 := bv33.1
     have bv331 := bv33.2
     clear bv33
     refine wl_nil ?_
     refine nw 13 255 (fun _ hm => ⟨hm.bl 1, trivial⟩) fun z => ?_
     refine wa1 8 rfl ?_
     refine wl_buildSlice (e := 3) (cs := [.int .i64 v33]) rfl (by kernel_rfl) rfl fun g34 => ?_
     refine wl_nil ?_
     refine nw 13 511 (fun _ hm => ⟨hm.bl 2, trivial⟩) fun z => ?_
     refine wa1 9 rfl ?_
     refine wl_append (news := [.int .i64 v33]) 3 0 ap22 rfl rfl rfl rfl rfl rfl rfl (by omega) (by unfold maxLen; omega) rfl rfl fun va hva => ?_
     refine wl_look (R := ∃ A cc, va = .slice A (n1 + 1) cc) (fun wx hm => own_slice (hm.ownI 3 rfl)) ?_
     rintro ⟨Aa, ca, rfl⟩
     refine wl_nil ?_
     refine nw 13 1023 (fun _ hm => ⟨hm.bl 2, trivial⟩) fun z => ?_
     refine wt 10 13 2047 rfl z (ov_nilcheck rfl) ?_
     refine wt 11 13 4095 rfl z (ov_field fo298_2 rfl rfl) ?_
     refine wa1 12 rfl ?_
     refine wl_storeE (l := (ap (ap (ap [] b1 ⟨ke1, mi1, A1, n1, c1, on1, ov1⟩) b2 ⟨ke2, mi2, A2, n2, c2, on2, ov2⟩) b3 ⟨ke3, mi3, A3, n3, c3, on3, ov3⟩)) (j := j) (r := 2) (el := ⟨ke1, mi1, A1, n1, c1, on1, ov1⟩) (el' := ⟨ke1, mi1, Aa, n1 + 1, ca, on1 ++ [v33], ov1⟩) 0 sc22 rfl rfl rfl rfl tx_len rfl hy hT3.symm (by decide) rfl rfl ?_
     refine wl_nil ?_
     refine nw 13 8191 (fun _ hm => ⟨hm.bl 2, trivial⟩) fun z => ?_
     refine wa_done (by kernel_rfl) ?_
     refine nx_blk_nrm (nx_then (sr_ (mv_ rfl (sg_ rfl (nn_ ?_)))))
     refine gw_ret ?_
     refine nx_ret1 rfl rfl fun wx hm => ?_
     exact ⟨some ⟨bo, 0, none⟩, nn3, c, ((ap (ap (ap [] b1 ⟨ke1, mi1, A1, n1, c1, on1, ov1⟩) b2 ⟨ke2, mi2, A2, n2, c2, on2, ov2⟩) b3 ⟨ke3, mi3, A3, n3, c3, on3, ov3⟩).set j ⟨ke1, mi1, Aa, n1 + 1, ca, on1 ++ [v33], ov1⟩), rfl, SlT.ofOwn tx_len (hm.ownI 0 rfl) (by simpa using hT3.symm), ons_of (hz _) (own_snoc (hm.ownI 3 rfl) ho1) (SlT.ofOwn it_len (hm.ownI 2 rfl) ho2) (SlT.ofOwn it_len (hm.ownI 1 rfl) ho3), ok_of (hz _) (show TxOk _ from ⟨(by omega : (ke1 : ByteArray).size ≤ 1000000), (by omega : n1 + 1 ≤ 1000)⟩) (show TxOk _ from ⟨(by omega : (ke2 : ByteArray).size ≤ 1000000), (by omega : n2 ≤ 1000)⟩) (show TxOk _ from ⟨(by omega : (ke3 : ByteArray).size ≤ 1000000), (by omega : n3 ≤ 1000)⟩), by omega, own_cap (hm.ownI 0 rfl), hm.k.more (by omega), hm.g⟩
    refine wl_buildSlice (e := 3) (cs := [.int .i64 0, .int .i64 5, .int .i64 6, .int .i64 7, .int .i64 1]) rfl (by kernel_rfl) rfl fun g35 => ?_
    refine wl_nil ?_
    refine nw 13 111 (fun _ hm => ⟨hm.bl 1, trivial⟩) fun z => ?_
    refine wa_all [4, 7] (by kernel_rfl) rfl ⟨⟨_, rfl, ?_⟩, ⟨_, rfl, ?_⟩, trivial⟩
    ·refine wl_ov (ov_elem1 (k := 2) (v := .slice A1 n1 c1) sc22 rfl (fun _ hm => (SlT.ofOwn tx_len (hm.ownI 0 rfl) hT3.symm)) hy rfl rfl) rfl ?_
     refine wl_nil ?_
     refine nw 13 127 (fun _ hm => ⟨hm.bl 1, trivial⟩) fun z => ?_
     refine wa1 7 rfl ?_
     refine wl_got (γ := Int) (val := fun v => .int .i64 v) (φ := fun v => v ∈ ([0, 5, 6, 7, 1] : List Int)) rfl cb63 rfl rfl rfl rfl (fun wx hm => (pick_any [0, 5, 6, 7, 1] _ _ _ wx B sb _ hm.k (by omega) (by simp) (by simp) (hm.blkI 0 rfl) (hm.neRow 0 rfl rfl))) fun v36 hv36 => ?_
     have bv36 : 0 ≤ v36 ∧ v36 ≤ 7 := mem_rng hv36 (by decide)
     have bv360 := bv36.1
     have bv361 := bv36.2
     clear bv36
     refine wl_nil ?_
     refine nw 13 255 (fun _ hm => ⟨hm.bl 1, trivial⟩) fun z => ?_
     refine wa1 8 rfl ?_
     refine wl_buildSlice (e := 3) (cs := [.int .i64 v36]) rfl (by kernel_rfl) rfl fun g37 => ?_
     refine wl_nil ?_
     refine nw 13 511 (fun _ hm => ⟨hm.bl 2, trivial⟩) fun z => ?_
     refine wa1 9 rfl ?_
     refine wl_append (news := [.int .i64 v36]) 3 0 ap22 rfl rfl rfl rfl rfl rfl rfl (by omega) (by unfold maxLen; omega) rfl rfl fun va hva => ?_
     refine wl_look (R := ∃ A cc, va = .slice A (n1 + 1) cc) (fun wx hm => own_slice (hm.ownI 3 rfl)) ?_
     rintro ⟨Aa, ca, rfl⟩
     refine wl_nil ?_
     refine nw 13 1023 (fun _ hm => ⟨hm.bl 2, trivial⟩) fun z => ?_
     refine wt 10 13 2047 rfl z (ov_nilcheck rfl) ?_
     refine wt 11 13 4095 rfl z (ov_field fo298_2 rfl rfl) ?_
     refine wa1 12 rfl ?_
     refine wl_storeE (l := (ap (ap (ap [] b1 ⟨ke1, mi1, A1, n1, c1, on1, ov1⟩) b2 ⟨ke2, mi2, A2, n2, c2, on2, ov2⟩) b3 ⟨ke3, mi3, A3, n3, c3, on3, ov3⟩)) (j := j) (r := 2) (el := ⟨ke1, mi1, A1, n1, c1, on1, ov1⟩) (el' := ⟨ke1, mi1, Aa, n1 + 1, ca, on1 ++ [v36], ov1⟩) 0 sc22 rfl rfl rfl rfl tx_len rfl hy hT3.symm (by decide) rfl rfl ?_
     refine wl_nil ?_
     refine nw 13 8191 (fun _ hm => ⟨hm.bl 2, trivial⟩) fun z => ?_
     refine wa_done (by kernel_rfl) ?_
     refine nx_blk_nrm (nx_then (sr_ (mv_ rfl (sg_ rfl (nn_ ?_)))))
     refine gw_ret ?_
     refine nx_ret1 rfl rfl fun wx hm => ?_
     exact ⟨some ⟨bo, 0, none⟩, nn3, c, ((ap (ap (ap [] b1 ⟨ke1, mi1, A1, n1, c1, on1, ov1⟩) b2 ⟨ke2, mi2, A2, n2, c2, on2, ov2⟩) b3 ⟨ke3, mi3, A3, n3, c3, on3, ov3⟩).set j ⟨ke1, mi1, Aa, n1 + 1, ca, on1 ++ [v36], ov1⟩), rfl, SlT.ofOwn tx_len (hm.ownI 0 rfl) (by simpa using hT3.symm), ons_of (hz _) (own_snoc (hm.ownI 3 rfl) ho1) (SlT.ofOwn it_len (hm.ownI 2 rfl) ho2) (SlT.ofOwn it_len (hm.ownI 1 rfl) ho3), ok_of (hz _) (show TxOk _ from ⟨(by omega : (ke1 : ByteArray).size ≤ 1000000), (by omega : n1 + 1 ≤ 1000)⟩) (show TxOk _ from ⟨(by omega : (ke2 : ByteArray).size ≤ 1000000), (by omega : n2 ≤ 1000)⟩) (show TxOk _ from ⟨(by omega : (ke3 : ByteArray).size ≤ 1000000), (by omega : n3 ≤ 1000)⟩), by omega, own_cap (hm.ownI 0 rfl), hm.k.more (by omega), hm.g⟩
    refine wl_got (γ := Int) (val := fun v => .int .i64 v) (φ := fun v => v ∈ ([0, 5, 6, 7, 1] : List Int)) rfl cb63 rfl rfl rfl rfl (fun wx hm => (pick_any [0, 5, 6, 7, 1] _ _ _ wx B sb _ hm.k (by omega) (by simp) (by simp) (hm.blkI 0 rfl) (hm.neRow 0 rfl rfl))) fun v38 hv38 => ?_
    have bv38 : 0 ≤ v38 ∧ v38 ≤ 7 := mem_rng hv38 (by decide)
    have bv380 := bv38.1
    have bv381 := bv38.2
    clear bv38
    refine wl_nil ?_
    refine nw 13 239 (fun _ hm => ⟨hm.bl 1, trivial⟩) fun z => ?_
    refine wa_all [4, 8] (by kernel_rfl) rfl ⟨⟨_, rfl, ?_⟩, ⟨_, rfl, ?_⟩, trivial⟩
    ·refine wl_ov (ov_elem1 (k := 2) (v := .slice A1 n1 c1) sc22 rfl (fun _ hm => (SlT.ofOwn tx_len (hm.ownI 0 rfl) hT3.symm)) hy rfl rfl) rfl ?_
     refine wl_nil ?_
     refine nw 13 255 (fun _ hm => ⟨hm.bl 1, trivial⟩) fun z => ?_
     refine wa1 8 rfl ?_
     refine wl_buildSlice (e := 3) (cs := [.int .i64 v38]) rfl (by kernel_rfl) rfl fun g39 => ?_
     refine wl_nil ?_
     refine nw 13 511 (fun _ hm => ⟨hm.bl 2, trivial⟩) fun z => ?_
     refine wa1 9 rfl ?_
     refine wl_append (news := [.int .i64 v38]) 3 0 ap22 rfl rfl rfl rfl rfl rfl rfl (by omega) (by unfold maxLen; omega) rfl rfl fun va hva => ?_
     refine wl_look (R := ∃ A cc, va = .slice A (n1 + 1) cc) (fun wx hm => own_slice (hm.ownI 3 rfl)) ?_
     rintro ⟨Aa, ca, rfl⟩
     refine wl_nil ?_
     refine nw 13 1023 (fun _ hm => ⟨hm.bl 2, trivial⟩) fun z => ?_
     refine wt 10 13 2047 rfl z (ov_nilcheck rfl) ?_
     refine wt 11 13 4095 rfl z (ov_field fo298_2 rfl rfl) ?_
     refine wa1 12 rfl ?_
     refine wl_storeE (l := (ap (ap (ap [] b1 ⟨ke1, mi1, A1, n1, c1, on1, ov1⟩) b2 ⟨ke2, mi2, A2, n2, c2, on2, ov2⟩) b3 ⟨ke3, mi3, A3, n3, c3, on3, ov3⟩)) (j := j) (r := 2) (el := ⟨ke1, mi1, A1, n1, c1, on1, ov1⟩) (el' := ⟨ke1, mi1, Aa, n1 + 1, ca, on1 ++ [v38], ov1⟩) 0 sc22 rfl rfl rfl rfl tx_len rfl hy hT3.symm (by decide) rfl rfl ?_
     refine wl_nil ?_
     refine nw 13 8191 (fun _ hm => ⟨hm.bl 2, trivial⟩) fun z => ?_
     refine wa_done (by kernel_rfl) ?_
     refine nx_blk_nrm (nx_then (sr_ (mv_ rfl (sg_ rfl (nn_ ?_)))))
     refine gw_ret ?_
     refine nx_ret1 rfl rfl fun wx hm => ?_
     exact ⟨some ⟨bo, 0, none⟩, nn3, c, ((ap (ap (ap [] b1 ⟨ke1, mi1, A1, n1, c1, on1, ov1⟩) b2 ⟨ke2, mi2, A2, n2, c2, on2, ov2⟩) b3 ⟨ke3, mi3, A3, n3, c3, on3, ov3⟩).set j ⟨ke1, mi1, Aa, n1 + 1, ca, on1 ++ [v38], ov1⟩), rfl, SlT.ofOwn tx_len (hm.ownI 0 rfl) (by simpa using hT3.symm), ons_of (hz _) (own_snoc (hm.ownI 3 rfl) ho1) (SlT.ofOwn it_len (hm.ownI 2 rfl) ho2) (SlT.ofOwn it_len (hm.ownI 1 rfl) ho3), ok_of (hz _) (show TxOk _ from ⟨(by omega : (ke1 : ByteArray).size ≤ 1000000), (by omega : n1 + 1 ≤ 1000)⟩) (show TxOk _ from ⟨(by omega : (ke2 : ByteArray).size ≤ 1000000), (by omega : n2 ≤ 1000)⟩) (show TxOk _ from ⟨(by omega : (ke3 : ByteArray).size ≤ 1000000), (by omega : n3 ≤ 1000)⟩), by omega, own_cap (hm.ownI 0 rfl), hm.k.more (by omega), hm.g⟩
    refine wl_buildSlice (e := 3) (cs := [.int .i64 v38]) rfl (by kernel_rfl) rfl fun g40 => ?_
    refine wl_nil ?_
    refine nw 13 495 (fun _ hm => ⟨hm.bl 2, trivial⟩) fun z => ?_
    refine wa1 4 rfl ?_
    refine wl_ov (ov_elem1 (k := 2) (v := .slice A1 n1 c1) sc22 rfl (fun _ hm => (SlT.ofOwn tx_len (hm.ownI 0 rfl) hT3.symm)) hy rfl rfl) rfl ?_
    refine wl_nil ?_
    refine nw 13 511 (fun _ hm => ⟨hm.bl 2, trivial⟩) fun z => ?_
    refine wa1 9 rfl ?_
    refine wl_append (news := [.int .i64 v38]) 3 0 ap22 rfl rfl rfl rfl rfl rfl rfl (by omega) (by unfold maxLen; omega) rfl rfl fun va hva => ?_
    refine wl_look (R := ∃ A cc, va = .slice A (n1 + 1) cc) (fun wx hm => own_slice (hm.ownI 3 rfl)) ?_
    rintro ⟨Aa, ca, rfl⟩
    refine wl_nil ?_
    refine nw 13 1023 (fun _ hm => ⟨hm.bl 2, trivial⟩) fun z => ?_
    refine wt 10 13 2047 rfl z (ov_nilcheck rfl) ?_
    refine wt 11 13 4095 rfl z (ov_field fo298_2 rfl rfl) ?_
    refine wa1 12 rfl ?_
    refine wl_storeE (l := (ap (ap (ap [] b1 ⟨ke1, mi1, A1, n1, c1, on1, ov1⟩) b2 ⟨ke2, mi2, A2, n2, c2, on2, ov2⟩) b3 ⟨ke3, mi3, A3, n3, c3, on3, ov3⟩)) (j := j) (r := 2) (el := ⟨ke1, mi1, A1, n1, c1, on1, ov1⟩) (el' := ⟨ke1, mi1, Aa, n1 + 1, ca, on1 ++ [v38], ov1⟩) 0 sc22 rfl rfl rfl rfl tx_len rfl hy hT3.symm (by decide) rfl rfl ?_
    refine wl_nil ?_
    refine nw 13 8191 (fun _ hm => ⟨hm.bl 2, trivial⟩) fun z => ?_
    refine wa_done (by kernel_rfl) ?_
    refine nx_blk_nrm (nx_then (sr_ (mv_ rfl (sg_ rfl (nn_ ?_)))))
    refine gw_ret ?_
    refine nx_ret1 rfl rfl fun wx hm => ?_
    exact ⟨some ⟨bo, 0, none⟩, nn3, c, ((ap (ap (ap [] b1 ⟨ke1, mi1, A1, n1, c1, on1, ov1⟩) b2 ⟨ke2, mi2, A2, n2, c2, on2, ov2⟩) b3 ⟨ke3, mi3, A3, n3, c3, on3, ov3⟩).set j ⟨ke1, mi1, Aa, n1 + 1, ca, on1 ++ [v38], ov1⟩), rfl, SlT.ofOwn tx_len (hm.ownI 0 rfl) (by simpa using hT3.symm), ons_of (hz _) (own_snoc (hm.ownI 3 rfl) ho1) (SlT.ofOwn it_len (hm.ownI 2 rfl) ho2) (SlT.ofOwn it_len (hm.ownI 1 rfl) ho3), ok_of (hz _) (show TxOk _ from ⟨(by omega : (ke1 : ByteArray).size ≤ 1000000), (by omega : n1 + 1 ≤ 1000)⟩) (show TxOk _ from ⟨(by omega : (ke2 : ByteArray).size ≤ 1000000), (by omega : n2 ≤ 1000)⟩) (show TxOk _ from ⟨(by omega : (ke3 : ByteArray).size ≤ 1000000), (by omega : n3 ≤ 1000)⟩), by omega, own_cap (hm.ownI 0 rfl), hm.k.more (by omega), hm.g⟩
   ·refine wl_ov (ov_index (j := j) es75 rfl rfl (by omega)) rfl ?_
    refine sg_ rfl (nn_ (sr_ (mv_ rfl ?_)))
    refine wl_got (γ := Int) (val := fun v => .int .i64 v) (φ := fun v => IsBelow 3 v) rfl cb29 rfl rfl rfl rfl (fun wx hm => (next_any _ wx B sb _ hm.k (by omega) (by omega) (by omega))) fun vs hvs => ?_
    refine nn_ (gw_block (sr_ (wl_ov (ov_eql rfl rfl) rfl (sg_ rfl (nn_ ?_)))))
    refine gw_cond rfl (fun hh => ?_) (fun hh => ?_)
    ·have h0 : vs = 0 := by simpa using hh
     clear hh
     refine gw_region (mv_ rfl (mv_ rfl ?_))
     refine wl_buildSlice (e := 9) (cs := [.string ⟨#[]⟩, .string ⟨#[99, 105, 116, 121]⟩, .string ⟨#[65]⟩]) rfl (by kernel_rfl) rfl fun g41 => ?_
     refine wl_got (γ := ByteArray) (val := fun v => .string v) (φ := fun v => v ∈ ([⟨#[]⟩, ⟨#[99, 105, 116, 121]⟩, ⟨#[65]⟩] : List ByteArray)) rfl cb62 rfl rfl rfl rfl (fun wx hm => (some_any [⟨#[]⟩, ⟨#[99, 105, 116, 121]⟩, ⟨#[65]⟩] _ _ _ wx B sb _ hm.k (by omega) (by simp) (by simp) (hm.blkI 0 rfl) (hm.neRow 0 rfl rfl))) fun sn hsn => ?_
     have zsn : sn.size ≤ 100 := mem_sz hsn (by decide)
     refine wl_ov (ov_nilcheck rfl) rfl (fd_ fo298_0 rfl rfl ?_)
     refine wl_storeE (l := (ap (ap (ap [] b1 ⟨ke1, mi1, A1, n1, c1, on1, ov1⟩) b2 ⟨ke2, mi2, A2, n2, c2, on2, ov2⟩) b3 ⟨ke3, mi3, A3, n3, c3, on3, ov3⟩)) (j := j) (r := 0) (el := ⟨ke2, mi2, A2, n2, c2, on2, ov2⟩) (el' := ⟨sn, mi2, A2, n2, c2, on2, ov2⟩) 0 sc9 rfl rfl rfl rfl tx_len rfl hy hT3.symm (by decide) rfl rfl ?_
     refine wl_nil (nx_blk_nrm (nx_then (sr_ (mv_ rfl (sg_ rfl (nn_ ?_))))))
     refine gw_ret ?_
     refine nx_ret1 rfl rfl fun wx hm => ?_
     exact ⟨some ⟨bo, 0, none⟩, nn3, c, ((ap (ap (ap [] b1 ⟨ke1, mi1, A1, n1, c1, on1, ov1⟩) b2 ⟨ke2, mi2, A2, n2, c2, on2, ov2⟩) b3 ⟨ke3, mi3, A3, n3, c3, on3, ov3⟩).set j ⟨sn, mi2, A2, n2, c2, on2, ov2⟩), rfl, SlT.ofOwn tx_len (hm.ownI 0 rfl) (by simpa using hT3.symm), ons_of (hz _) (SlT.ofOwn it_len (hm.ownI 3 rfl) ho1) (SlT.ofOwn it_len (hm.ownI 2 rfl) ho2) (SlT.ofOwn it_len (hm.ownI 1 rfl) ho3), ok_of (hz _) (show TxOk _ from ⟨(by omega : (ke1 : ByteArray).size ≤ 1000000), (by omega : n1 ≤ 1000)⟩) (show TxOk _ from ⟨(by omega : (sn : ByteArray).size ≤ 1000000), (by omega : n2 ≤ 1000)⟩) (show TxOk _ from ⟨(by omega : (ke3 : ByteArray).size ≤ 1000000), (by omega : n3 ≤ 1000)⟩), by omega, own_cap (hm.ownI 0 rfl), hm.k.more (by omega), hm.g⟩
    have h0 : ¬ (vs = 0) := by simpa using hh
    clear hh
    refine sr_ (wl_ov (ov_eql rfl rfl) rfl (sg_ rfl (nn_ ?_)))
    refine gw_cond rfl (fun hh => ?_) (fun hh => ?_)
    ·have h1 : vs = 1 := by simpa using hh
     clear hh
     refine gw_region (mv_ rfl (mv_ rfl ?_))
     refine wl_got (γ := Int) (val := fun v => .int .i64 v) (φ := fun v => -2000000000000000 ≤ v ∧ v ≤ 2000000000000000) rfl cb65 rfl rfl rfl rfl (fun wx hm => (odd_any _ _ wx B sb _ hm.k (by omega) (by omega) (by omega) (by omega))) fun v42 hv42 => ?_
     refine wl_ov (ov_nilcheck rfl) rfl (fd_ fo298_1 rfl rfl ?_)
     refine wl_storeE (l := (ap (ap (ap [] b1 ⟨ke1, mi1, A1, n1, c1, on1, ov1⟩) b2 ⟨ke2, mi2, A2, n2, c2, on2, ov2⟩) b3 ⟨ke3, mi3, A3, n3, c3, on3, ov3⟩)) (j := j) (r := 1) (el := ⟨ke2, mi2, A2, n2, c2, on2, ov2⟩) (el' := ⟨ke2, v42, A2, n2, c2, on2, ov2⟩) 0 sc3 rfl rfl rfl rfl tx_len rfl hy hT3.symm (by decide) rfl rfl ?_
     refine wl_nil (nx_blk_nrm (nx_then (sr_ (mv_ rfl (sg_ rfl (nn_ ?_))))))
     refine gw_ret ?_
     refine nx_ret1 rfl rfl fun wx hm => ?_
     exact ⟨some ⟨bo, 0, none⟩, nn3, c, ((ap (ap (ap [] b1 ⟨ke1, mi1, A1, n1, c1, on1, ov1⟩) b2 ⟨ke2, mi2, A2, n2, c2, on2, ov2⟩) b3 ⟨ke3, mi3, A3, n3, c3, on3, ov3⟩).set j ⟨ke2, v42, A2, n2, c2, on2, ov2⟩), rfl, SlT.ofOwn tx_len (hm.ownI 0 rfl) (by simpa using hT3.symm), ons_of (hz _) (SlT.ofOwn it_len (hm.ownI 3 rfl) ho1) (SlT.ofOwn it_len (hm.ownI 2 rfl) ho2) (SlT.ofOwn it_len (hm.ownI 1 rfl) ho3), ok_of (hz _) (show TxOk _ from ⟨(by omega : (ke1 : ByteArray).size ≤ 1000000), (by omega : n1 ≤ 1000)⟩) (show TxOk _ from ⟨(by omega : (ke2 : ByteArray).size ≤ 1000000), (by omega : n2 ≤ 1000)⟩) (show TxOk _ from ⟨(by omega : (ke3 : ByteArray).size ≤ 1000000), (by omega : n3 ≤ 1000)⟩), by omega, own_cap (hm.ownI 0 rfl), hm.k.more (by omega), hm.g⟩
    have h1 : ¬ (vs = 1) := by simpa using hh
    clear hh
    refine gd (fun wz => Blk wz g1 9 [.string ⟨#[99, 105, 116, 121]⟩, .string ⟨#[115, 116, 97, 116, 101]⟩, .string ⟨#[118, 97, 116]⟩] ∧ True) mixed (fun _ hm => ⟨hm.bl 0, trivial⟩) fun z => ?_
    refine wt 0 13 1 rfl z (ov_move rfl) ?_
    refine wt 1 13 3 rfl z (ov_move rfl) ?_
    refine wt 2 13 7 rfl z (ov_nilcheck rfl) ?_
    refine wt 3 13 15 rfl z (ov_field fo298_2 rfl rfl) ?_
    refine wt 5 13 47 rfl z (ov_move rfl) ?_
    refine wa_all [4, 6] (by kernel_rfl) rfl ⟨⟨_, rfl, ?_⟩, ⟨_, rfl, ?_⟩, trivial⟩
    ·refine wl_ov (ov_elem1 (k := 2) (v := .slice A2 n2 c2) sc22 rfl (fun _ hm => (SlT.ofOwn tx_len (hm.ownI 0 rfl) hT3.symm)) hy rfl rfl) rfl ?_
     refine wl_nil ?_
     refine nw 13 63 (fun _ hm => ⟨hm.bl 0, trivial⟩) fun z => ?_
     refine wa1 6 rfl ?_
     refine wl_buildSlice (e := 3) (cs := [.int .i64 0, .int .i64 5, .int .i64 6, .int .i64 7, .int .i64 1]) rfl (by kernel_rfl) rfl fun g43 => ?_
     refine wl_nil ?_
     refine nw 13 127 (fun _ hm => ⟨hm.bl 1, trivial⟩) fun z => ?_
     refine wa1 7 rfl ?_
     refine wl_got (γ := Int) (val := fun v => .int .i64 v) (φ := fun v => v ∈ ([0, 5, 6, 7, 1] : List Int)) rfl cb63 rfl rfl rfl rfl (fun wx hm => (pick_any [0, 5, 6, 7, 1] _ _ _ wx B sb _ hm.k (by omega) (by simp) (by simp) (hm.blkI 0 rfl) (hm.neRow 0 rfl rfl))) fun v44 hv44 => ?_
     have bv44 : 0 ≤ v44 ∧ v44 ≤ 7 := mem_rng hv44 (by decide)
     have bv440 := bv44.1
     have bv441 := bv44.2
     clear bv44
     refine wl_nil ?_
     refine nw 13 255 (fun _ hm => ⟨hm.bl 1, trivial⟩) fun z => ?_
     refine wa1 8 rfl ?_
     refine wl_buildSlice (e := 3) (cs := [.int .i64 v44]) rfl (by kernel_rfl) rfl fun g45 => ?_
     refine wl_nil ?_
     refine nw 13 511 (fun _ hm => ⟨hm.bl 2, trivial⟩) fun z => ?_
     refine wa1 9 rfl ?_
     refine wl_append (news := [.int .i64 v44]) 2 0 ap22 rfl rfl rfl rfl rfl rfl rfl (by omega) (by unfold maxLen; omega) rfl rfl fun va hva => ?_
     refine wl_look (R := ∃ A cc, va = .slice A (n2 + 1) cc) (fun wx hm => own_slice (hm.ownI 2 rfl)) ?_
     rintro ⟨Aa, ca, rfl⟩
     refine wl_nil ?_
     refine nw 13 1023 (fun _ hm => ⟨hm.bl 2, trivial⟩) fun z => ?_
     refine wt 10 13 2047 rfl z (ov_nilcheck rfl) ?_
     refine wt 11 13 4095 rfl z (ov_field fo298_2 rfl rfl) ?_
     refine wa1 12 rfl ?_
     refine wl_storeE (l := (ap (ap (ap [] b1 ⟨ke1, mi1, A1, n1, c1, on1, ov1⟩) b2 ⟨ke2, mi2, A2, n2, c2, on2, ov2⟩) b3 ⟨ke3, mi3, A3, n3, c3, on3, ov3⟩)) (j := j) (r := 2) (el := ⟨ke2, mi2, A2, n2, c2, on2, ov2⟩) (el' := ⟨ke2, mi2, Aa, n2 + 1, ca, on2 ++ [v44], ov2⟩) 0 sc22 rfl rfl rfl rfl tx_len rfl hy hT3.symm (by decide) rfl rfl ?_
     refine wl_nil ?_
     refine nw 13 8191 (fun _ hm => ⟨hm.bl 2, trivial⟩) fun z => ?_
     refine wa_done (by kernel_rfl) ?_
     refine nx_blk_nrm (nx_then (sr_ (mv_ rfl (sg_ rfl (nn_ ?_)))))
     refine gw_ret ?_
     refine nx_ret1 rfl rfl fun wx hm => ?_
     exact ⟨some ⟨bo, 0, none⟩, nn3, c, ((ap (ap (ap [] b1 ⟨ke1, mi1, A1, n1, c1, on1, ov1⟩) b2 ⟨ke2, mi2, A2, n2, c2, on2, ov2⟩) b3 ⟨ke3, mi3, A3, n3, c3, on3, ov3⟩).set j ⟨ke2, mi2, Aa, n2 + 1, ca, on2 ++ [v44], ov2⟩), rfl, SlT.ofOwn tx_len (hm.ownI 0 rfl) (by simpa using hT3.symm), ons_of (hz _) (SlT.ofOwn it_len (hm.ownI 3 rfl) ho1) (own_snoc (hm.ownI 2 rfl) ho2) (SlT.ofOwn it_len (hm.ownI 1 rfl) ho3), ok_of (hz _) (show TxOk _ from ⟨(by omega : (ke1 : ByteArray).size ≤ 1000000), (by omega : n1 ≤ 1000)⟩) (show TxOk _ from ⟨(by omega : (ke2 : ByteArray).size ≤ 1000000), (by omega : n2 + 1 ≤ 1000)⟩) (show TxOk _ from ⟨(by omega : (ke3 : ByteArray).size ≤ 1000000), (by omega : n3 ≤ 1000)⟩), by omega, own_cap (hm.ownI 0 rfl), hm.k.more (by omega), hm.g⟩
    refine wl_buildSlice (e := 3) (cs := [.int .i64 0, .int .i64 5, .int .i64 6, .int .i64 7, .int .i64 1]) rfl (by kernel_rfl) rfl fun g46 => ?_
    refine wl_nil ?_
    refine nw 13 111 (fun _ hm => ⟨hm.bl 1, trivial⟩) fun z => ?_
    refine wa_all [4, 7] (by kernel_rfl) rfl ⟨⟨_, rfl, ?_⟩, ⟨_, rfl, ?_⟩, trivial⟩
    ·refine wl_ov (ov_elem1 (k := 2) (v := .slice A2 n2 c2) sc22 rfl (fun _ hm => (SlT.ofOwn tx_len (hm.ownI 0 rfl) hT3.symm)) hy rfl rfl) rfl ?_
     refine wl_nil ?_
     refine nw 13 127 (fun _ hm => ⟨hm.bl 1, trivial⟩) fun z => ?_
     refine wa1 7 rfl ?_
     refine wl_got (γ := Int) (val := fun v => .int .i64 v) (φ := fun v => v ∈ ([0, 5, 6, 7, 1] : List Int)) rfl cb63 rfl rfl rfl rfl (fun wx hm => (pick_any [0, 5, 6, 7, 1] _ _ _ wx B sb _ hm.k (by omega) (by simp) (by simp) (hm.blkI 0 rfl) (hm.neRow 0 rfl rfl))) fun v47 hv47 => ?_
     have bv47 : 0 ≤ v47 ∧ v47 ≤ 7 := mem_rng hv47 (by decide)
     have bv470 := bv47.1
     have bv471 := bv47.2
     clear bv47
     refine wl_nil ?_
     refine nw 13 255 (fun _ hm => ⟨hm.bl 1, trivial⟩) fun z => ?_
     refine wa1 8 rfl ?_
     refine wl_buildSlice (e := 3) (cs := [.int .i64 v47]) rfl (by kernel_rfl) rfl fun g48 => ?_
     refine wl_nil ?_
     refine nw 13 511 (fun _ hm => ⟨hm.bl 2, trivial⟩) fun z => ?_
     refine wa1 9 rfl ?_
     refine wl_append (news := [.int .i64 v47]) 2 0 ap22 rfl rfl rfl rfl rfl rfl rfl (by omega) (by unfold maxLen; omega) rfl rfl fun va hva => ?_
     refine wl_look (R := ∃ A cc, va = .slice A (n2 + 1) cc) (fun wx hm => own_slice (hm.ownI 2 rfl)) ?_
     rintro ⟨Aa, ca, rfl⟩
     refine wl_nil ?_
     refine nw 13 1023 (fun _ hm => ⟨hm.bl 2, trivial⟩) fun z => ?_
     refine wt 10 13 2047 rfl z (ov_nilcheck rfl) ?_
     refine wt 11 13 4095 rfl z (ov_field fo298_2 rfl rfl) ?_
     refine wa1 12 rfl ?_
     refine wl_storeE (l := (ap (ap (ap [] b1 ⟨ke1, mi1, A1, n1, c1, on1, ov1⟩) b2 ⟨ke2, mi2, A2, n2, c2, on2, ov2⟩) b3 ⟨ke3, mi3, A3, n3, c3, on3, ov3⟩)) (j := j) (r := 2) (el := ⟨ke2, mi2, A2, n2, c2, on2, ov2⟩) (el' := ⟨ke2, mi2, Aa, n2 + 1, ca, on2 ++ [v47], ov2⟩) 0 sc22 rfl rfl rfl rfl tx_len rfl hy hT3.symm (by decide) rfl rfl ?_
     refine wl_nil ?_
     refine nw 13 8191 (fun _ hm => ⟨hm.bl 2, trivial⟩) fun z => ?_
     refine wa_done (by kernel_rfl) ?_
     refine nx_blk_nrm (nx_then (sr_ (mv_ rfl (sg_ rfl (nn_ ?_)))))
     refine gw_ret ?_
     refine nx_ret1 rfl rfl fun wx hm => ?_
     exact ⟨some ⟨bo, 0, none⟩, nn3, c, ((ap (ap (ap [] b1 ⟨ke1, mi1, A1, n1, c1, on1, ov1⟩) b2 ⟨ke2, mi2, A2, n2, c2, on2, ov2⟩) b3 ⟨ke3, mi3, A3, n3, c3, on3, ov3⟩).set j ⟨ke2, mi2, Aa, n2 + 1, ca, on2 ++ [v47], ov2⟩), rfl, SlT.ofOwn tx_len (hm.ownI 0 rfl) (by simpa using hT3.symm), ons_of (hz _) (SlT.ofOwn it_len (hm.ownI 3 rfl) ho1) (own_snoc (hm.ownI 2 rfl) ho2) (SlT.ofOwn it_len (hm.ownI 1 rfl) ho3), ok_of (hz _) (show TxOk _ from ⟨(by omega : (ke1 : ByteArray).size ≤ 1000000), (by omega : n1 ≤ 1000)⟩) (show TxOk _ from ⟨(by omega : (ke2 : ByteArray).size ≤ 1000000), (by omega : n2 + 1 ≤ 1000)⟩) (show TxOk _ from ⟨(by omega : (ke3 : ByteArray).size ≤ 1000000), (by omega : n3 ≤ 1000)⟩), by omega, own_cap (hm.ownI 0 rfl), hm.k.more (by omega), hm.g⟩
    refine wl_got (γ := Int) (val := fun v => .int .i64 v) (φ := fun v => v ∈ ([0, 5, 6, 7, 1] : List Int)) rfl cb63 rfl rfl rfl rfl (fun wx hm => (pick_any [0, 5, 6, 7, 1] _ _ _ wx B sb _ hm.k (by omega) (by simp) (by simp) (hm.blkI 0 rfl) (hm.neRow 0 rfl rfl))) fun v49 hv49 => ?_
    have bv49 : 0 ≤ v49 ∧ v49 ≤ 7 := mem_rng hv49 (by decide)
    have bv490 := bv49.1
    have bv491 := bv49.2
    clear bv49
    refine wl_nil ?_
    refine nw 13 239 (fun _ hm => ⟨hm.bl 1, trivial⟩) fun z => ?_
    refine wa_all [4, 8] (by kernel_rfl) rfl ⟨⟨_, rfl, ?_⟩, ⟨_, rfl, ?_⟩, trivial⟩
    ·refine wl_ov (ov_elem1 (k := 2) (v := .slice A2 n2 c2) sc22 rfl (fun _ hm => (SlT.ofOwn tx_len (hm.ownI 0 rfl) hT3.symm)) hy rfl rfl) rfl ?_
     refine wl_nil ?_
     refine nw 13 255 (fun _ hm => ⟨hm.bl 1, trivial⟩) fun z => ?_
     refine wa1 8 rfl ?_
     refine wl_buildSlice (e := 3) (cs := [.int .i64 v49]) rfl (by kernel_rfl) rfl fun g50 => ?_
     refine wl_nil ?_
     refine nw 13 511 (fun _ hm => ⟨hm.bl 2, trivial⟩) fun z => ?_
     refine wa1 9 rfl ?_
     refine wl_append (news := [.int .i64 v49]) 2 0 ap22 rfl rfl rfl rfl rfl rfl rfl (by omega) (by unfold maxLen; omega) rfl rfl fun va hva => ?_
     refine wl_look (R := ∃ A cc, va = .slice A (n2 + 1) cc) (fun wx hm => own_slice (hm.ownI 2 rfl)) ?_
     rintro ⟨Aa, ca, rfl⟩
     refine wl_nil ?_
     refine nw 13 1023 (fun _ hm => ⟨hm.bl 2, trivial⟩) fun z => ?_
     refine wt 10 13 2047 rfl z (ov_nilcheck rfl) ?_
     refine wt 11 13 4095 rfl z (ov_field fo298_2 rfl rfl) ?_
     refine wa1 12 rfl ?_
     refine wl_storeE (l := (ap (ap (ap [] b1 ⟨ke1, mi1, A1, n1, c1, on1, ov1⟩) b2 ⟨ke2, mi2, A2, n2, c2, on2, ov2⟩) b3 ⟨ke3, mi3, A3, n3, c3, on3, ov3⟩)) (j := j) (r := 2) (el := ⟨ke2, mi2, A2, n2, c2, on2, ov2⟩) (el' := ⟨ke2, mi2, Aa, n2 + 1, ca, on2 ++ [v49], ov2⟩) 0 sc22 rfl rfl rfl rfl tx_len rfl hy hT3.symm (by decide) rfl rfl ?_
     refine wl_nil ?_
     refine nw 13 8191 (fun _ hm => ⟨hm.bl 2, trivial⟩) fun z => ?_
     refine wa_done (by kernel_rfl) ?_
     refine nx_blk_nrm (nx_then (sr_ (mv_ rfl (sg_ rfl (nn_ ?_)))))
     refine gw_ret ?_
     refine nx_ret1 rfl rfl fun wx hm => ?_
     exact ⟨some ⟨bo, 0, none⟩, nn3, c, ((ap (ap (ap [] b1 ⟨ke1, mi1, A1, n1, c1, on1, ov1⟩) b2 ⟨ke2, mi2, A2, n2, c2, on2, ov2⟩) b3 ⟨ke3, mi3, A3, n3, c3, on3, ov3⟩).set j ⟨ke2, mi2, Aa, n2 + 1, ca, on2 ++ [v49], ov2⟩), rfl, SlT.ofOwn tx_len (hm.ownI 0 rfl) (by simpa using hT3.symm), ons_of (hz _) (SlT.ofOwn it_len (hm.ownI 3 rfl) ho1) (own_snoc (hm.ownI 2 rfl) ho2) (SlT.ofOwn it_len (hm.ownI 1 rfl) ho3), ok_of (hz _) (show TxOk _ from ⟨(by omega : (ke1 : ByteArray).size ≤ 1000000), (by omega : n1 ≤ 1000)⟩) (show TxOk _ from ⟨(by omega : (ke2 : ByteArray).size ≤ 1000000), (by omega : n2 + 1 ≤ 1000)⟩) (show TxOk _ from ⟨(by omega : (ke3 : ByteArray).size ≤ 1000000), (by omega : n3 ≤ 1000)⟩), by omega, own_cap (hm.ownI 0 rfl), hm.k.more (by omega), hm.g⟩
    refine wl_buildSlice (e := 3) (cs := [.int .i64 v49]) rfl (by kernel_rfl) rfl fun g51 => ?_
    refine wl_nil ?_
    refine nw 13 495 (fun _ hm => ⟨hm.bl 2, trivial⟩) fun z => ?_
    refine wa1 4 rfl ?_
    refine wl_ov (ov_elem1 (k := 2) (v := .slice A2 n2 c2) sc22 rfl (fun _ hm => (SlT.ofOwn tx_len (hm.ownI 0 rfl) hT3.symm)) hy rfl rfl) rfl ?_
    refine wl_nil ?_
    refine nw 13 511 (fun _ hm => ⟨hm.bl 2, trivial⟩) fun z => ?_
    refine wa1 9 rfl ?_
    refine wl_append (news := [.int .i64 v49]) 2 0 ap22 rfl rfl rfl rfl rfl rfl rfl (by omega) (by unfold maxLen; omega) rfl rfl fun va hva => ?_
    refine wl_look (R := ∃ A cc, va = .slice A (n2 + 1) cc) (fun wx hm => own_slice (hm.ownI 2 rfl)) ?_
    rintro ⟨Aa, ca, rfl⟩
    refine wl_nil ?_
    refine nw 13 1023 (fun _ hm => ⟨hm.bl 2, trivial⟩) fun z => ?_
    refine wt 10 13 2047 rfl z (ov_nilcheck rfl) ?_
    refine wt 11 13 4095 rfl z (ov_field fo298_2 rfl rfl) ?_
    refine wa1 12 rfl ?_
    refine wl_storeE (l := (ap (ap (ap [] b1 ⟨ke1, mi1, A1, n1, c1, on1, ov1⟩) b2 ⟨ke2, mi2, A2, n2, c2, on2, ov2⟩) b3 ⟨ke3, mi3, A3, n3, c3, on3, ov3⟩)) (j := j) (r := 2) (el := ⟨ke2, mi2, A2, n2, c2, on2, ov2⟩) (el' := ⟨ke2, mi2, Aa, n2 + 1, ca, on2 ++ [v49], ov2⟩) 0 sc22 rfl rfl rfl rfl tx_len rfl hy hT3.symm (by decide) rfl rfl ?_
    refine wl_nil ?_
    refine nw 13 8191 (fun _ hm => ⟨hm.bl 2, trivial⟩) fun z => ?_
    refine wa_done (by kernel_rfl) ?_
    refine nx_blk_nrm (nx_then (sr_ (mv_ rfl (sg_ rfl (nn_ ?_)))))
    refine gw_ret ?_
    refine nx_ret1 rfl rfl fun wx hm => ?_
    exact ⟨some ⟨bo, 0, none⟩, nn3, c, ((ap (ap (ap [] b1 ⟨ke1, mi1, A1, n1, c1, on1, ov1⟩) b2 ⟨ke2, mi2, A2, n2, c2, on2, ov2⟩) b3 ⟨ke3, mi3, A3, n3, c3, on3, ov3⟩).set j ⟨ke2, mi2, Aa, n2 + 1, ca, on2 ++ [v49], ov2⟩), rfl, SlT.ofOwn tx_len (hm.ownI 0 rfl) (by simpa using hT3.symm), ons_of (hz _) (SlT.ofOwn it_len (hm.ownI 3 rfl) ho1) (own_snoc (hm.ownI 2 rfl) ho2) (SlT.ofOwn it_len (hm.ownI 1 rfl) ho3), ok_of (hz _) (show TxOk _ from ⟨(by omega : (ke1 : ByteArray).size ≤ 1000000), (by omega : n1 ≤ 1000)⟩) (show TxOk _ from ⟨(by omega : (ke2 : ByteArray).size ≤ 1000000), (by omega : n2 + 1 ≤ 1000)⟩) (show TxOk _ from ⟨(by omega : (ke3 : ByteArray).size ≤ 1000000), (by omega : n3 ≤ 1000)⟩), by omega, own_cap (hm.ownI 0 rfl), hm.k.more (by omega), hm.g⟩
   refine wl_ov (ov_index (j := j) es75 rfl rfl (by omega)) rfl ?_
   refine sg_ rfl (nn_ (sr_ (mv_ rfl ?_)))
   refine wl_got (γ := Int) (val := fun v => .int .i64 v) (φ := fun v => IsBelow 3 v) rfl cb29 rfl rfl rfl rfl (fun wx hm => (next_any _ wx B sb _ hm.k (by omega) (by omega) (by omega))) fun vs hvs => ?_
   refine nn_ (gw_block (sr_ (wl_ov (ov_eql rfl rfl) rfl (sg_ rfl (nn_ ?_)))))
   refine gw_cond rfl (fun hh => ?_) (fun hh => ?_)
   ·have h0 : vs = 0 := by simpa using hh
    clear hh
    refine gw_region (mv_ rfl (mv_ rfl ?_))
    refine wl_buildSlice (e := 9) (cs := [.string ⟨#[]⟩, .string ⟨#[99, 105, 116, 121]⟩, .string ⟨#[65]⟩]) rfl (by kernel_rfl) rfl fun g52 => ?_
    refine wl_got (γ := ByteArray) (val := fun v => .string v) (φ := fun v => v ∈ ([⟨#[]⟩, ⟨#[99, 105, 116, 121]⟩, ⟨#[65]⟩] : List ByteArray)) rfl cb62 rfl rfl rfl rfl (fun wx hm => (some_any [⟨#[]⟩, ⟨#[99, 105, 116, 121]⟩, ⟨#[65]⟩] _ _ _ wx B sb _ hm.k (by omega) (by simp) (by simp) (hm.blkI 0 rfl) (hm.neRow 0 rfl rfl))) fun sn hsn => ?_
    have zsn : sn.size ≤ 100 := mem_sz hsn (by decide)
    refine wl_ov (ov_nilcheck rfl) rfl (fd_ fo298_0 rfl rfl ?_)
    refine wl_storeE (l := (ap (ap (ap [] b1 ⟨ke1, mi1, A1, n1, c1, on1, ov1⟩) b2 ⟨ke2, mi2, A2, n2, c2, on2, ov2⟩) b3 ⟨ke3, mi3, A3, n3, c3, on3, ov3⟩)) (j := j) (r := 0) (el := ⟨ke3, mi3, A3, n3, c3, on3, ov3⟩) (el' := ⟨sn, mi3, A3, n3, c3, on3, ov3⟩) 0 sc9 rfl rfl rfl rfl tx_len rfl hy hT3.symm (by decide) rfl rfl ?_
    refine wl_nil (nx_blk_nrm (nx_then (sr_ (mv_ rfl (sg_ rfl (nn_ ?_))))))
    refine gw_ret ?_
    refine nx_ret1 rfl rfl fun wx hm => ?_
    exact ⟨some ⟨bo, 0, none⟩, nn3, c, ((ap (ap (ap [] b1 ⟨ke1, mi1, A1, n1, c1, on1, ov1⟩) b2 ⟨ke2, mi2, A2, n2, c2, on2, ov2⟩) b3 ⟨ke3, mi3, A3, n3, c3, on3, ov3⟩).set j ⟨sn, mi3, A3, n3, c3, on3, ov3⟩), rfl, SlT.ofOwn tx_len (hm.ownI 0 rfl) (by simpa using hT3.symm), ons_of (hz _) (SlT.ofOwn it_len (hm.ownI 3 rfl) ho1) (SlT.ofOwn it_len (hm.ownI 2 rfl) ho2) (SlT.ofOwn it_len (hm.ownI 1 rfl) ho3), ok_of (hz _) (show TxOk _ from ⟨(by omega : (ke1 : ByteArray).size ≤ 1000000), (by omega : n1 ≤ 1000)⟩) (show TxOk _ from ⟨(by omega : (ke2 : ByteArray).size ≤ 1000000), (by omega : n2 ≤ 1000)⟩) (show TxOk _ from ⟨(by omega : (sn : ByteArray).size ≤ 1000000), (by omega : n3 ≤ 1000)⟩), by omega, own_cap (hm.ownI 0 rfl), hm.k.more (by omega), hm.g⟩
   have h0 : ¬ (vs = 0) := by simpa using hh
   clear hh
   refine sr_ (wl_ov (ov_eql rfl rfl) rfl (sg_ rfl (nn_ ?_)))
   refine gw_cond rfl (fun hh => ?_) (fun hh => ?_)
   ·have h1 : vs = 1 := by simpa using hh
    clear hh
    refine gw_region (mv_ rfl (mv_ rfl ?_))
    refine wl_got (γ := Int) (val := fun v => .int .i64 v) (φ := fun v => -2000000000000000 ≤ v ∧ v ≤ 2000000000000000) rfl cb65 rfl rfl rfl rfl (fun wx hm => (odd_any _ _ wx B sb _ hm.k (by omega) (by omega) (by omega) (by omega))) fun v53 hv53 => ?_
    refine wl_ov (ov_nilcheck rfl) rfl (fd_ fo298_1 rfl rfl ?_)
    refine wl_storeE (l := (ap (ap (ap [] b1 ⟨ke1, mi1, A1, n1, c1, on1, ov1⟩) b2 ⟨ke2, mi2, A2, n2, c2, on2, ov2⟩) b3 ⟨ke3, mi3, A3, n3, c3, on3, ov3⟩)) (j := j) (r := 1) (el := ⟨ke3, mi3, A3, n3, c3, on3, ov3⟩) (el' := ⟨ke3, v53, A3, n3, c3, on3, ov3⟩) 0 sc3 rfl rfl rfl rfl tx_len rfl hy hT3.symm (by decide) rfl rfl ?_
    refine wl_nil (nx_blk_nrm (nx_then (sr_ (mv_ rfl (sg_ rfl (nn_ ?_))))))
    refine gw_ret ?_
    refine nx_ret1 rfl rfl fun wx hm => ?_
    exact ⟨some ⟨bo, 0, none⟩, nn3, c, ((ap (ap (ap [] b1 ⟨ke1, mi1, A1, n1, c1, on1, ov1⟩) b2 ⟨ke2, mi2, A2, n2, c2, on2, ov2⟩) b3 ⟨ke3, mi3, A3, n3, c3, on3, ov3⟩).set j ⟨ke3, v53, A3, n3, c3, on3, ov3⟩), rfl, SlT.ofOwn tx_len (hm.ownI 0 rfl) (by simpa using hT3.symm), ons_of (hz _) (SlT.ofOwn it_len (hm.ownI 3 rfl) ho1) (SlT.ofOwn it_len (hm.ownI 2 rfl) ho2) (SlT.ofOwn it_len (hm.ownI 1 rfl) ho3), ok_of (hz _) (show TxOk _ from ⟨(by omega : (ke1 : ByteArray).size ≤ 1000000), (by omega : n1 ≤ 1000)⟩) (show TxOk _ from ⟨(by omega : (ke2 : ByteArray).size ≤ 1000000), (by omega : n2 ≤ 1000)⟩) (show TxOk _ from ⟨(by omega : (ke3 : ByteArray).size ≤ 1000000), (by omega : n3 ≤ 1000)⟩), by omega, own_cap (hm.ownI 0 rfl), hm.k.more (by omega), hm.g⟩
   have h1 : ¬ (vs = 1) := by simpa using hh
   clear hh
   refine gd (fun wz => Blk wz g1 9 [.string ⟨#[99, 105, 116, 121]⟩, .string ⟨#[115, 116, 97, 116, 101]⟩, .string ⟨#[118, 97, 116]⟩] ∧ True) mixed (fun _ hm => ⟨hm.bl 0, trivial⟩) fun z => ?_
   refine wt 0 13 1 rfl z (ov_move rfl) ?_
   refine wt 1 13 3 rfl z (ov_move rfl) ?_
   refine wt 2 13 7 rfl z (ov_nilcheck rfl) ?_
   refine wt 3 13 15 rfl z (ov_field fo298_2 rfl rfl) ?_
   refine wt 5 13 47 rfl z (ov_move rfl) ?_
   refine wa_all [4, 6] (by kernel_rfl) rfl ⟨⟨_, rfl, ?_⟩, ⟨_, rfl, ?_⟩, trivial⟩
   ·refine wl_ov (ov_elem1 (k := 2) (v := .slice A3 n3 c3) sc22 rfl (fun _ hm => (SlT.ofOwn tx_len (hm.ownI 0 rfl) hT3.symm)) hy rfl rfl) rfl ?_
    refine wl_nil ?_
    refine nw 13 63 (fun _ hm => ⟨hm.bl 0, trivial⟩) fun z => ?_
    refine wa1 6 rfl ?_
    refine wl_buildSlice (e := 3) (cs := [.int .i64 0, .int .i64 5, .int .i64 6, .int .i64 7, .int .i64 1]) rfl (by kernel_rfl) rfl fun g54 => ?_
    refine wl_nil ?_
    refine nw 13 127 (fun _ hm => ⟨hm.bl 1, trivial⟩) fun z => ?_
    refine wa1 7 rfl ?_
    refine wl_got (γ := Int) (val := fun v => .int .i64 v) (φ := fun v => v ∈ ([0, 5, 6, 7, 1] : List Int)) rfl cb63 rfl rfl rfl rfl (fun wx hm => (pick_any [0, 5, 6, 7, 1] _ _ _ wx B sb _ hm.k (by omega) (by simp) (by simp) (hm.blkI 0 rfl) (hm.neRow 0 rfl rfl))) fun v55 hv55 => ?_
    have bv55 : 0 ≤ v55 ∧ v55 ≤ 7 := mem_rng hv55 (by decide)
    have bv550 := bv55.1
    have bv551 := bv55.2
    clear bv55
    refine wl_nil ?_
    refine nw 13 255 (fun _ hm => ⟨hm.bl 1, trivial⟩) fun z => ?_
    refine wa1 8 rfl ?_
    refine wl_buildSlice (e := 3) (cs := [.int .i64 v55]) rfl (by kernel_rfl) rfl fun g56 => ?_
    refine wl_nil ?_
    refine nw 13 511 (fun _ hm => ⟨hm.bl 2, trivial⟩) fun z => ?_
    refine wa1 9 rfl ?_
    refine wl_append (news := [.int .i64 v55]) 1 0 ap22 rfl rfl rfl rfl rfl rfl rfl (by omega) (by unfold maxLen; omega) rfl rfl fun va hva => ?_
    refine wl_look (R := ∃ A cc, va = .slice A (n3 + 1) cc) (fun wx hm => own_slice (hm.ownI 1 rfl)) ?_
    rintro ⟨Aa, ca, rfl⟩
    refine wl_nil ?_
    refine nw 13 1023 (fun _ hm => ⟨hm.bl 2, trivial⟩) fun z => ?_
    refine wt 10 13 2047 rfl z (ov_nilcheck rfl) ?_
    refine wt 11 13 4095 rfl z (ov_field fo298_2 rfl rfl) ?_
    refine wa1 12 rfl ?_
    refine wl_storeE (l := (ap (ap (ap [] b1 ⟨ke1, mi1, A1, n1, c1, on1, ov1⟩) b2 ⟨ke2, mi2, A2, n2, c2, on2, ov2⟩) b3 ⟨ke3, mi3, A3, n3, c3, on3, ov3⟩)) (j := j) (r := 2) (el := ⟨ke3, mi3, A3, n3, c3, on3, ov3⟩) (el' := ⟨ke3, mi3, Aa, n3 + 1, ca, on3 ++ [v55], ov3⟩) 0 sc22 rfl rfl rfl rfl tx_len rfl hy hT3.symm (by decide) rfl rfl ?_
    refine wl_nil ?_
    refine nw 13 8191 (fun _ hm => ⟨hm.bl 2, trivial⟩) fun z => ?_
    refine wa_done (by kernel_rfl) ?_
    refine nx_blk_nrm (nx_then (sr_ (mv_ rfl (sg_ rfl (nn_ ?_)))))
    refine gw_ret ?_
    refine nx_ret1 rfl rfl fun wx hm => ?_
    exact ⟨some ⟨bo, 0, none⟩, nn3, c, ((ap (ap (ap [] b1 ⟨ke1, mi1, A1, n1, c1, on1, ov1⟩) b2 ⟨ke2, mi2, A2, n2, c2, on2, ov2⟩) b3 ⟨ke3, mi3, A3, n3, c3, on3, ov3⟩).set j ⟨ke3, mi3, Aa, n3 + 1, ca, on3 ++ [v55], ov3⟩), rfl, SlT.ofOwn tx_len (hm.ownI 0 rfl) (by simpa using hT3.symm), ons_of (hz _) (SlT.ofOwn it_len (hm.ownI 3 rfl) ho1) (SlT.ofOwn it_len (hm.ownI 2 rfl) ho2) (own_snoc (hm.ownI 1 rfl) ho3), ok_of (hz _) (show TxOk _ from ⟨(by omega : (ke1 : ByteArray).size ≤ 1000000), (by omega : n1 ≤ 1000)⟩) (show TxOk _ from ⟨(by omega : (ke2 : ByteArray).size ≤ 1000000), (by omega : n2 ≤ 1000)⟩) (show TxOk _ from ⟨(by omega : (ke3 : ByteArray).size ≤ 1000000), (by omega : n3 + 1 ≤ 1000)⟩), by omega, own_cap (hm.ownI 0 rfl), hm.k.more (by omega), hm.g⟩
   refine wl_buildSlice (e := 3) (cs := [.int .i64 0, .int .i64 5, .int .i64 6, .int .i64 7, .int .i64 1]) rfl (by kernel_rfl) rfl fun g57 => ?_
   refine wl_nil ?_
   refine nw 13 111 (fun _ hm => ⟨hm.bl 1, trivial⟩) fun z => ?_
   refine wa_all [4, 7] (by kernel_rfl) rfl ⟨⟨_, rfl, ?_⟩, ⟨_, rfl, ?_⟩, trivial⟩
   ·refine wl_ov (ov_elem1 (k := 2) (v := .slice A3 n3 c3) sc22 rfl (fun _ hm => (SlT.ofOwn tx_len (hm.ownI 0 rfl) hT3.symm)) hy rfl rfl) rfl ?_
    refine wl_nil ?_
    refine nw 13 127 (fun _ hm => ⟨hm.bl 1, trivial⟩) fun z => ?_
    refine wa1 7 rfl ?_
    refine wl_got (γ := Int) (val := fun v => .int .i64 v) (φ := fun v => v ∈ ([0, 5, 6, 7, 1] : List Int)) rfl cb63 rfl rfl rfl rfl (fun wx hm => (pick_any [0, 5, 6, 7, 1] _ _ _ wx B sb _ hm.k (by omega) (by simp) (by simp) (hm.blkI 0 rfl) (hm.neRow 0 rfl rfl))) fun v58 hv58 => ?_
    have bv58 : 0 ≤ v58 ∧ v58 ≤ 7 := mem_rng hv58 (by decide)
    have bv580 := bv58.1
    have bv581 := bv58.2
    clear bv58
    refine wl_nil ?_
    refine nw 13 255 (fun _ hm => ⟨hm.bl 1, trivial⟩) fun z => ?_
    refine wa1 8 rfl ?_
    refine wl_buildSlice (e := 3) (cs := [.int .i64 v58]) rfl (by kernel_rfl) rfl fun g59 => ?_
    refine wl_nil ?_
    refine nw 13 511 (fun _ hm => ⟨hm.bl 2, trivial⟩) fun z => ?_
    refine wa1 9 rfl ?_
    refine wl_append (news := [.int .i64 v58]) 1 0 ap22 rfl rfl rfl rfl rfl rfl rfl (by omega) (by unfold maxLen; omega) rfl rfl fun va hva => ?_
    refine wl_look (R := ∃ A cc, va = .slice A (n3 + 1) cc) (fun wx hm => own_slice (hm.ownI 1 rfl)) ?_
    rintro ⟨Aa, ca, rfl⟩
    refine wl_nil ?_
    refine nw 13 1023 (fun _ hm => ⟨hm.bl 2, trivial⟩) fun z => ?_
    refine wt 10 13 2047 rfl z (ov_nilcheck rfl) ?_
    refine wt 11 13 4095 rfl z (ov_field fo298_2 rfl rfl) ?_
    refine wa1 12 rfl ?_
    refine wl_storeE (l := (ap (ap (ap [] b1 ⟨ke1, mi1, A1, n1, c1, on1, ov1⟩) b2 ⟨ke2, mi2, A2, n2, c2, on2, ov2⟩) b3 ⟨ke3, mi3, A3, n3, c3, on3, ov3⟩)) (j := j) (r := 2) (el := ⟨ke3, mi3, A3, n3, c3, on3, ov3⟩) (el' := ⟨ke3, mi3, Aa, n3 + 1, ca, on3 ++ [v58], ov3⟩) 0 sc22 rfl rfl rfl rfl tx_len rfl hy hT3.symm (by decide) rfl rfl ?_
    refine wl_nil ?_
    refine nw 13 8191 (fun _ hm => ⟨hm.bl 2, trivial⟩) fun z => ?_
    refine wa_done (by kernel_rfl) ?_
    refine nx_blk_nrm (nx_then (sr_ (mv_ rfl (sg_ rfl (nn_ ?_)))))
    refine gw_ret ?_
    refine nx_ret1 rfl rfl fun wx hm => ?_
    exact ⟨some ⟨bo, 0, none⟩, nn3, c, ((ap (ap (ap [] b1 ⟨ke1, mi1, A1, n1, c1, on1, ov1⟩) b2 ⟨ke2, mi2, A2, n2, c2, on2, ov2⟩) b3 ⟨ke3, mi3, A3, n3, c3, on3, ov3⟩).set j ⟨ke3, mi3, Aa, n3 + 1, ca, on3 ++ [v58], ov3⟩), rfl, SlT.ofOwn tx_len (hm.ownI 0 rfl) (by simpa using hT3.symm), ons_of (hz _) (SlT.ofOwn it_len (hm.ownI 3 rfl) ho1) (SlT.ofOwn it_len (hm.ownI 2 rfl) ho2) (own_snoc (hm.ownI 1 rfl) ho3), ok_of (hz _) (show TxOk _ from ⟨(by omega : (ke1 : ByteArray).size ≤ 1000000), (by omega : n1 ≤ 1000)⟩) (show TxOk _ from ⟨(by omega : (ke2 : ByteArray).size ≤ 1000000), (by omega : n2 ≤ 1000)⟩) (show TxOk _ from ⟨(by omega : (ke3 : ByteArray).size ≤ 1000000), (by omega : n3 + 1 ≤ 1000)⟩), by omega, own_cap (hm.ownI 0 rfl), hm.k.more (by omega), hm.g⟩
   refine wl_got (γ := Int) (val := fun v => .int .i64 v) (φ := fun v => v ∈ ([0, 5, 6, 7, 1] : List Int)) rfl cb63 rfl rfl rfl rfl (fun wx hm => (pick_any [0, 5, 6, 7, 1] _ _ _ wx B sb _ hm.k (by omega) (by simp) (by simp) (hm.blkI 0 rfl) (hm.neRow 0 rfl rfl))) fun v60 hv60 => ?_
   have bv60 : 0 ≤ v60 ∧ v60 ≤ 7 := mem_rng hv60 (by decide)
   have bv600 := bv60.1
   have bv601 := bv60.2
   clear bv60
   refine wl_nil ?_
   refine nw 13 239 (fun _ hm => ⟨hm.bl 1, trivial⟩) fun z => ?_
   refine wa_all [4, 8] (by kernel_rfl) rfl ⟨⟨_, rfl, ?_⟩, ⟨_, rfl, ?_⟩, trivial⟩
   ·refine wl_ov (ov_elem1 (k := 2) (v := .slice A3 n3 c3) sc22 rfl (fun _ hm => (SlT.ofOwn tx_len (hm.ownI 0 rfl) hT3.symm)) hy rfl rfl) rfl ?_
    refine wl_nil ?_
    refine nw 13 255 (fun _ hm => ⟨hm.bl 1, trivial⟩) fun z => ?_
    refine wa1 8 rfl ?_
    refine wl_buildSlice (e := 3) (cs := [.int .i64 v60]) rfl (by kernel_rfl) rfl fun g61 => ?_
    refine wl_nil ?_
    refine nw 13 511 (fun _ hm => ⟨hm.bl 2, trivial⟩) fun z => ?_
    refine wa1 9 rfl ?_
    refine wl_append (news := [.int .i64 v60]) 1 0 ap22 rfl rfl rfl rfl rfl rfl rfl (by omega) (by unfold maxLen; omega) rfl rfl fun va hva => ?_
    refine wl_look (R := ∃ A cc, va = .slice A (n3 + 1) cc) (fun wx hm => own_slice (hm.ownI 1 rfl)) ?_
    rintro ⟨Aa, ca, rfl⟩
    refine wl_nil ?_
    refine nw 13 1023 (fun _ hm => ⟨hm.bl 2, trivial⟩) fun z => ?_
    refine wt 10 13 2047 rfl z (ov_nilcheck rfl) ?_
    refine wt 11 13 4095 rfl z (ov_field fo298_2 rfl rfl) ?_
    refine wa1 12 rfl ?_
    refine wl_storeE (l := (ap (ap (ap [] b1 ⟨ke1, mi1, A1, n1, c1, on1, ov1⟩) b2 ⟨ke2, mi2, A2, n2, c2, on2, ov2⟩) b3 ⟨ke3, mi3, A3, n3, c3, on3, ov3⟩)) (j := j) (r := 2) (el := ⟨ke3, mi3, A3, n3, c3, on3, ov3⟩) (el' := ⟨ke3, mi3, Aa, n3 + 1, ca, on3 ++ [v60], ov3⟩) 0 sc22 rfl rfl rfl rfl tx_len rfl hy hT3.symm (by decide) rfl rfl ?_
    refine wl_nil ?_
    refine nw 13 8191 (fun _ hm => ⟨hm.bl 2, trivial⟩) fun z => ?_
    refine wa_done (by kernel_rfl) ?_
    refine nx_blk_nrm (nx_then (sr_ (mv_ rfl (sg_ rfl (nn_ ?_)))))
    refine gw_ret ?_
    refine nx_ret1 rfl rfl fun wx hm => ?_
    exact ⟨some ⟨bo, 0, none⟩, nn3, c, ((ap (ap (ap [] b1 ⟨ke1, mi1, A1, n1, c1, on1, ov1⟩) b2 ⟨ke2, mi2, A2, n2, c2, on2, ov2⟩) b3 ⟨ke3, mi3, A3, n3, c3, on3, ov3⟩).set j ⟨ke3, mi3, Aa, n3 + 1, ca, on3 ++ [v60], ov3⟩), rfl, SlT.ofOwn tx_len (hm.ownI 0 rfl) (by simpa using hT3.symm), ons_of (hz _) (SlT.ofOwn it_len (hm.ownI 3 rfl) ho1) (SlT.ofOwn it_len (hm.ownI 2 rfl) ho2) (own_snoc (hm.ownI 1 rfl) ho3), ok_of (hz _) (show TxOk _ from ⟨(by omega : (ke1 : ByteArray).size ≤ 1000000), (by omega : n1 ≤ 1000)⟩) (show TxOk _ from ⟨(by omega : (ke2 : ByteArray).size ≤ 1000000), (by omega : n2 ≤ 1000)⟩) (show TxOk _ from ⟨(by omega : (ke3 : ByteArray).size ≤ 1000000), (by omega : n3 + 1 ≤ 1000)⟩), by omega, own_cap (hm.ownI 0 rfl), hm.k.more (by omega), hm.g⟩
   refine wl_buildSlice (e := 3) (cs := [.int .i64 v60]) rfl (by kernel_rfl) rfl fun g62 => ?_
   refine wl_nil ?_
   refine nw 13 495 (fun _ hm => ⟨hm.bl 2, trivial⟩) fun z => ?_
   refine wa1 4 rfl ?_
   refine wl_ov (ov_elem1 (k := 2) (v := .slice A3 n3 c3) sc22 rfl (fun _ hm => (SlT.ofOwn tx_len (hm.ownI 0 rfl) hT3.symm)) hy rfl rfl) rfl ?_
   refine wl_nil ?_
   refine nw 13 511 (fun _ hm => ⟨hm.bl 2, trivial⟩) fun z => ?_
   refine wa1 9 rfl ?_
   refine wl_append (news := [.int .i64 v60]) 1 0 ap22 rfl rfl rfl rfl rfl rfl rfl (by omega) (by unfold maxLen; omega) rfl rfl fun va hva => ?_
   refine wl_look (R := ∃ A cc, va = .slice A (n3 + 1) cc) (fun wx hm => own_slice (hm.ownI 1 rfl)) ?_
   rintro ⟨Aa, ca, rfl⟩
   refine wl_nil ?_
   refine nw 13 1023 (fun _ hm => ⟨hm.bl 2, trivial⟩) fun z => ?_
   refine wt 10 13 2047 rfl z (ov_nilcheck rfl) ?_
   refine wt 11 13 4095 rfl z (ov_field fo298_2 rfl rfl) ?_
   refine wa1 12 rfl ?_
   refine wl_storeE (l := (ap (ap (ap [] b1 ⟨ke1, mi1, A1, n1, c1, on1, ov1⟩) b2 ⟨ke2, mi2, A2, n2, c2, on2, ov2⟩) b3 ⟨ke3, mi3, A3, n3, c3, on3, ov3⟩)) (j := j) (r := 2) (el := ⟨ke3, mi3, A3, n3, c3, on3, ov3⟩) (el' := ⟨ke3, mi3, Aa, n3 + 1, ca, on3 ++ [v60], ov3⟩) 0 sc22 rfl rfl rfl rfl tx_len rfl hy hT3.symm (by decide) rfl rfl ?_
   refine wl_nil ?_
   refine nw 13 8191 (fun _ hm => ⟨hm.bl 2, trivial⟩) fun z => ?_
   refine wa_done (by kernel_rfl) ?_
   refine nx_blk_nrm (nx_then (sr_ (mv_ rfl (sg_ rfl (nn_ ?_)))))
   refine gw_ret ?_
   refine nx_ret1 rfl rfl fun wx hm => ?_
   exact ⟨some ⟨bo, 0, none⟩, nn3, c, ((ap (ap (ap [] b1 ⟨ke1, mi1, A1, n1, c1, on1, ov1⟩) b2 ⟨ke2, mi2, A2, n2, c2, on2, ov2⟩) b3 ⟨ke3, mi3, A3, n3, c3, on3, ov3⟩).set j ⟨ke3, mi3, Aa, n3 + 1, ca, on3 ++ [v60], ov3⟩), rfl, SlT.ofOwn tx_len (hm.ownI 0 rfl) (by simpa using hT3.symm), ons_of (hz _) (SlT.ofOwn it_len (hm.ownI 3 rfl) ho1) (SlT.ofOwn it_len (hm.ownI 2 rfl) ho2) (own_snoc (hm.ownI 1 rfl) ho3), ok_of (hz _) (show TxOk _ from ⟨(by omega : (ke1 : ByteArray).size ≤ 1000000), (by omega : n1 ≤ 1000)⟩) (show TxOk _ from ⟨(by omega : (ke2 : ByteArray).size ≤ 1000000), (by omega : n2 ≤ 1000)⟩) (show TxOk _ from ⟨(by omega : (ke3 : ByteArray).size ≤ 1000000), (by omega : n3 + 1 ≤ 1000)⟩), by omega, own_cap (hm.ownI 0 rfl), hm.k.more (by omega), hm.g⟩
  have hf : f29 = false := by simpa using hh
  clear hh
  refine gw_skip (nx_then (sr_ (mv_ rfl (sg_ rfl (nn_ ?_)))))
  refine gw_ret ?_
  refine nx_ret1 rfl rfl fun wx hm => ?_
  exact ⟨A, nn3, c, (ap (ap (ap [] b1 ⟨ke1, mi1, A1, n1, c1, on1, ov1⟩) b2 ⟨ke2, mi2, A2, n2, c2, on2, ov2⟩) b3 ⟨ke3, mi3, A3, n3, c3, on3, ov3⟩), rfl, SlT.ofOwn tx_len (hm.ownI 0 rfl) hT3.symm, ons_of ap_mem (SlT.ofOwn it_len (hm.ownI 3 rfl) ho1) (SlT.ofOwn it_len (hm.ownI 2 rfl) ho2) (SlT.ofOwn it_len (hm.ownI 1 rfl) ho3), ok_of ap_mem (show TxOk _ from ⟨(by omega : (ke1 : ByteArray).size ≤ 1000000), (by omega : n1 ≤ 1000)⟩) (show TxOk _ from ⟨(by omega : (ke2 : ByteArray).size ≤ 1000000), (by omega : n2 ≤ 1000)⟩) (show TxOk _ from ⟨(by omega : (ke3 : ByteArray).size ≤ 1000000), (by omega : n3 ≤ 1000)⟩), by omega, own_cap (hm.ownI 0 rfl), hm.k.more (by omega), hm.g⟩
 refine wl_set 48 rfl (congrArg Value.bool hb) ?_
 refine goff rfl rfl rfl (goff rfl rfl rfl (pf_ rfl rfl (nn_ (cf_ rfl (gw_skip (nx_then (sr_ (mv_ rfl (sg_ rfl (nn_ ?_))))))))))
 refine gw_ret ?_
 refine nx_ret1 rfl rfl fun wx hm => ?_
 exact ⟨A, nn3, c, (ap (ap (ap [] b1 ⟨ke1, mi1, A1, n1, c1, on1, ov1⟩) b2 ⟨ke2, mi2, A2, n2, c2, on2, ov2⟩) b3 ⟨ke3, mi3, A3, n3, c3, on3, ov3⟩), rfl, SlT.ofOwn tx_len (hm.ownI 0 rfl) hT3.symm, ons_of ap_mem (SlT.ofOwn it_len (hm.ownI 3 rfl) ho1) (SlT.ofOwn it_len (hm.ownI 2 rfl) ho2) (SlT.ofOwn it_len (hm.ownI 1 rfl) ho3), ok_of ap_mem (show TxOk _ from ⟨(by omega : (ke1 : ByteArray).size ≤ 1000000), (by omega : n1 ≤ 1000)⟩) (show TxOk _ from ⟨(by omega : (ke2 : ByteArray).size ≤ 1000000), (by omega : n2 ≤ 1000)⟩) (show TxOk _ from ⟨(by omega : (ke3 : ByteArray).size ≤ 1000000), (by omega : n3 ≤ 1000)⟩), by omega, own_cap (hm.ownI 0 rfl), hm.k.more (by omega), hm.g⟩
end Go.Proofs.YtdoooppeiphefaaGreatDoor
namespace Go.Proofs.YtdoooppeiphefaaGreatDoor
open Go.RowKit
theorem cheap_g {l : List Rt} (h : ∀ x ∈ l, RtG x) : CheapR l := fun x hx => (h x hx).2
theorem gtariff_any (w : World) (B sb m : Nat) (hS : Strm 25 w B sb m) (hm : m ≤ 10000000000) :
  Calls Tryz.prog 96 #[.pointer (some ⟨sb, 0, none⟩)] w (fun e w' => ∃ (rA : Option Addr) (rn rc : Nat) (rl : List Rt) (eA : Option Addr) (en ec : Nat) (el : List Ex) (fA : Option Addr) (fn fc : Nat) (fl : List Fe) (cA : Option Addr) (cn cc : Nat) (cl : List Cd) (tA : Option Addr) (tn tc : Nat) (tl : List Tx), e = .returned (.agg #[.slice rA rn rc, .slice eA en ec, .slice fA fn fc, .slice cA cn cc, .slice tA tn tc]) ∧ (((∀ x ∈ rl, RtG x) ∧ rn ≤ 10 ∧ rn ≤ rc) ∧ ((∀ x ∈ el, ExOk x) ∧ en ≤ 2 ∧ en ≤ ec) ∧ ((∀ x ∈ fl, FeOk x) ∧ fn ≤ 5 ∧ fn ≤ fc) ∧ ((∀ x ∈ cl, CdOk x) ∧ cn ≤ 3 ∧ cn ≤ cc) ∧ ((∀ x ∈ tl, TxOk x) ∧ tn ≤ 3 ∧ tn ≤ tc)) ∧ (SlT rtEnc 7 288 w' rA rn rl ∧ SlT exEnc 4 295 w' eA en el ∧ SlT feEnc 3 352 w' fA fn fl ∧ SlT cdEnc 6 354 w' cA cn cl ∧ SlT txEnc 4 298 w' tA tn tl ∧ Ons tl w') ∧ Strm 25 w' B sb (m + 710) ∧ w.grownBy w' (some sb)) := by
 refine gw_enter ⟨14, w, (some sb), [288, 295, 352, 354, 298, 3]⟩ Tryz.func96 rfl Tryz.ntmps96 rfl (memS (X := []) hS allF_nil allL_nil) ?_
 refine sr_ ?_
 refine wl_alloc zc77 rfl fun g1 => ?_
 refine nn_ (sr_ (mv_ rfl ?_))
 refine wl_calls (γ := Option Addr × Nat × Nat × List Rt) (val := (fun g => .slice g.1 g.2.1 g.2.2.1)) (φ := (fun g => (∀ x ∈ g.2.2.2, RtG x) ∧ g.2.1 ≤ 10 ∧ g.2.1 ≤ g.2.2.1)) (Y := (fun g => fun wy => SlT rtEnc 7 288 wy g.1 g.2.1 g.2.2.2)) (m' := m + 200) rfl cb194 rfl rfl rfl rfl (fun wx hm => (grates_g wx B sb _ hm.k (by omega)).mono fun _ _ ⟨A, n, c, l, he, hs, hok, hn, hnc, hS, hg⟩ => ⟨(A, n, c, l), he, ⟨hok, hn, hnc⟩, hS, hg, hs⟩) (fun _ => SlT.lasts2 rfl) ?_
 rintro ⟨rA, rn, rc, rl⟩ hr
 dsimp only at hr ⊢
 refine mv_ rfl ?_
 refine wl_calls (γ := Option Addr × Nat × Nat × List Ex) (val := (fun g => .slice g.1 g.2.1 g.2.2.1)) (φ := (fun g => (∀ x ∈ g.2.2.2, ExOk x) ∧ g.2.1 ≤ 2 ∧ g.2.1 ≤ g.2.2.1)) (Y := (fun g => fun wy => SlT exEnc 4 295 wy g.1 g.2.1 g.2.2.2)) (m' := m + 200 + 30) rfl cb195 rfl rfl rfl rfl (fun wx hm => (gextras_any wx B sb _ hm.k (by omega)).mono fun _ _ ⟨A, n, c, l, he, hs, hok, hn, hnc, hS, hg⟩ => ⟨(A, n, c, l), he, ⟨hok, hn, hnc⟩, hS, hg, hs⟩) (fun _ => SlT.lasts2 rfl) ?_
 rintro ⟨eA, en, ec, el⟩ he
 dsimp only at he ⊢
 refine mv_ rfl ?_
 refine wl_calls (γ := Option Addr × Nat × Nat × List Fe) (val := (fun g => .slice g.1 g.2.1 g.2.2.1)) (φ := (fun g => (∀ x ∈ g.2.2.2, FeOk x) ∧ g.2.1 ≤ 5 ∧ g.2.1 ≤ g.2.2.1)) (Y := (fun g => fun wy => SlT feEnc 3 352 wy g.1 g.2.1 g.2.2.2)) (m' := m + 200 + 30 + 30) rfl cb196 rfl rfl rfl rfl (fun wx hm => (gfees_any wx B sb _ hm.k (by omega)).mono fun _ _ ⟨A, n, c, l, he, hs, hok, hn, hnc, hS, hg⟩ => ⟨(A, n, c, l), he, ⟨hok, hn, hnc⟩, hS, hg, hs⟩) (fun _ => SlT.lasts2 rfl) ?_
 rintro ⟨fA, fn, fc, fl⟩ hf
 dsimp only at hf ⊢
 refine mv_ rfl ?_
 refine wl_calls (γ := Option Addr × Nat × Nat × List Cd) (val := (fun g => .slice g.1 g.2.1 g.2.2.1)) (φ := (fun g => (∀ x ∈ g.2.2.2, CdOk x) ∧ g.2.1 ≤ 3 ∧ g.2.1 ≤ g.2.2.1)) (Y := (fun g => fun wy => SlT cdEnc 6 354 wy g.1 g.2.1 g.2.2.2)) (m' := m + 200 + 30 + 30 + 50) rfl cb197 rfl rfl rfl rfl (fun wx hm => (gcodes_any wx B sb _ hm.k (by omega)).mono fun _ _ ⟨A, n, c, l, he, hs, hok, hn, hnc, hS, hg⟩ => ⟨(A, n, c, l), he, ⟨hok, hn, hnc⟩, hS, hg, hs⟩) (fun _ => SlT.lasts2 rfl) ?_
 rintro ⟨cA, cn, cc, cl⟩ hc
 dsimp only at hc ⊢
 refine mv_ rfl ?_
 refine wl_calls (γ := Option Addr × Nat × Nat × List Tx) (val := (fun g => .slice g.1 g.2.1 g.2.2.1)) (φ := (fun g => (∀ x ∈ g.2.2.2, TxOk x) ∧ g.2.1 ≤ 3 ∧ g.2.1 ≤ g.2.2.1)) (Y := (fun g => fun wy => SlT txEnc 4 298 wy g.1 g.2.1 g.2.2.2 ∧ Ons g.2.2.2 wy)) (m' := m + 200 + 30 + 30 + 50 + 400) rfl cb198 rfl rfl rfl rfl (fun wx hm => (gtaxes_any wx B sb _ hm.k (by omega)).mono fun _ _ ⟨A, n, c, l, he, hs, hons, hok, hn, hnc, hS, hg⟩ => ⟨(A, n, c, l), he, ⟨hok, hn, hnc⟩, hS, hg, ⟨hs, hons⟩⟩) (fun _ => (SlT.lasts2 rfl).and_ (Ons.lasts rfl)) ?_
 rintro ⟨tA, tn, tc, tl⟩ ht
 dsimp only at ht ⊢
 refine wl_ov (ov_build (cs := [.slice rA rn rc, .slice eA en ec, .slice fA fn fc, .slice cA cn cc, .slice tA tn tc]) rfl (by kernel_rfl)) rfl ?_
 refine wl_stores (cs' := [.slice rA rn rc, .slice eA en ec, .slice fA fn fc, .slice cA cn cc, .slice tA tn tc]) 0 rz77 rfl rfl rfl rfl rfl rfl rfl rfl ?_
 refine nn_ ?_
 refine gw_ret ?_
 refine nx_retc 0 rfl rz77 rfl rfl rfl fun wx hm => ?_
 exact ⟨rA, rn, rc, rl, eA, en, ec, el, fA, fn, fc, fl, cA, cn, cc, cl, tA, tn, tc, tl, rfl, ⟨hr, he, hf, hc, ht⟩, ⟨(hm.fact 4 rfl), (hm.fact 3 rfl), (hm.fact 2 rfl), (hm.fact 1 rfl), (hm.fact 0 rfl).1, (hm.fact 0 rfl).2⟩, hm.k.more (by omega), hm.g⟩
end Go.Proofs.YtdoooppeiphefaaGreatDoor
namespace Go.Proofs.YtdoooppeiphefaaGreatDoor
open Go.RowKit
section
variable {α : Type}
def sink (lt : α → α → Bool) : Nat → List α → List α
  | 0, l => l
  | j + 1, l => match l[j + 1]?, l[j]? with
    | some x, some y => if lt x y then sink lt j ((l.set (j + 1) y).set j x) else l
    | _, _ => l
def isortF (lt : α → α → Bool) : Nat → Nat → List α → List α
  | 0, _, l => l
  | f + 1, i, l => isortF lt f (i + 1) (sink lt i l)
def isort (lt : α → α → Bool) (l : List α) : List α := isortF lt (l.length - 1) 1 l
theorem sink_yes {lt : α → α → Bool} {j : Nat} {l : List α} {x y : α} (hx : l[j + 1]? = some x) (hy : l[j]? = some y) (h : lt x y = true) : sink lt (j + 1) l = sink lt j ((l.set (j + 1) y).set j x) := by
  simp only [sink, hx, hy, h, if_true]
theorem sink_no {lt : α → α → Bool} {j : Nat} {l : List α} {x y : α} (hx : l[j + 1]? = some x) (hy : l[j]? = some y) (h : lt x y = false) : sink lt (j + 1) l = l := by
  simp only [sink, hx, hy, h, Bool.false_eq_true, if_false]
theorem sink_len (lt : α → α → Bool) : ∀ (j : Nat) (l : List α), (sink lt j l).length = l.length
  | 0, _ => rfl
  | j + 1, l => by
    unfold sink
    split
    · split
      · rw [sink_len lt j]; simp
      · rfl
    · rfl
theorem isortF_len (lt : α → α → Bool) : ∀ (f i : Nat) (l : List α), (isortF lt f i l).length = l.length
  | 0, _, _ => rfl
  | f + 1, i, l => by
    unfold isortF
    rw [isortF_len lt f, sink_len]
theorem isort_len (lt : α → α → Bool) (l : List α) : (isort lt l).length = l.length := isortF_len lt _ _ _
end
section
variable {P : Program} {c : Cx} {ops : Array Oper} {Q : Exit → Act → World → Prop} {rest : List Oper} {S : List (Nat × Value)} {K : World → Prop} {L : List (Nat × TypeId × List Value)} {O : List Own} {X : List (World → Prop)} {d : Nat} {ty : TypeId} {pos : String} {aft : Array Edge}
theorem memR {n0 : Nat} {Tt : List TypeId} {w : World} {base : Nat} {e : TypeId} {sz n cap g : Nat} {xs : List Value} (hS : w.ownsRow base e sz (.slice (some ⟨g, 0, none⟩) n cap) n xs) (hX : ∀ A ∈ X, A w) (hl : ∀ A ∈ X, Lasts2 w.heap.size (some g) Tt A) : Mem ⟨n0, w, some g, Tt⟩ (RowK base e sz n cap g xs) [] [] X w :=
  have hS2 : RowK base e sz n cap g xs w := hS
  ⟨World.grownBy.refl _ _, hS2, (fun _ hx => by cases hx), List.Pairwise.nil, (fun _ hx => by cases hx), (fun _ hx => by cases hx), List.Pairwise.nil, hX, RowK.keeps hS2.lt.2, hl, (fun _ hr => by cases hr; exact hS2.lt.2)⟩
/-- The row has turned. -/
theorem Mem.turned {base g n cap sz : Nat} {e : TypeId} {xs xs' : List Value} {w w' : World} (h : Mem c (RowK base e sz n cap g xs) L O X w) (hrow : c.row = some g) (hT : c.Tt.contains e = false) (hown : w'.ownsRow base e sz (.slice (some ⟨g, 0, none⟩) n cap) n xs') (hg : w.grownBy w' (some g)) : Mem c (RowK base e sz n cap g xs') L O X w' := by
  have hlt0 := h.rs g hrow
  have hk : w.ownsRow base e sz (.slice (some ⟨g, 0, none⟩) n cap) n xs := h.k
  obtain ⟨cells, hcells⟩ : ∃ cells, w.heap[g]? = some (.cells cells e (0, 0)) := by
    rcases hk.2 with ⟨h1, _⟩ | ⟨g', cap', cur, h1, _, h2, _⟩
    · cases h1
    · injection h1 with h1 _ _
      injection h1 with h1
      injection h1 with h1 _ _
      subst h1
      exact ⟨_, h2⟩
  refine ⟨grow_trans h.g (hrow ▸ hg), hown, fun x hx => ⟨(h.b x hx).1, (h.b x hx).2.grown hg (fun e => ?_)⟩, h.nd, fun r hr => (h.o r hr).kept hg ?_, h.od, h.oo, fun A hA => ?_, RowK.keeps hlt0, h.l, h.rs⟩
  · have := (h.b x hx).1; injection e with e; omega
  · cases hv : r.v.ownBlock with
    | none => exact .inl rfl
    | some g' => exact .inr (fun e => by have := ((h.o r hr).lt g' hv).1; injection e with e; omega)
  · exact (h.l A hA).st w _ g e cells hcells (fun e => by simp [e] at hT) (.inr hrow) hg (h.x A hA)
theorem wl_storesRow {α : Type} {enc : α → List Value} {t : TypeId} {x y : Operand} {base g n cap sz o j r m : Nat} {e : TypeId} {vs : List Value} {l : List α} {el el' : α} (hrow : c.row = some g) (hs : rowSz P t = some m) (hx : rd S x = some (.pointer (some ⟨g, o, none⟩))) (hy : rd S y = some (.agg vs.toArray)) (h1 : vs.all (·.oneCell') = true) (hn : vs.length = m)
    (hk : ∀ x, (enc x).length = sz) (ho : 0 + j * sz + r = o) (hj : l[j]? = some el) (hl : l.length = n) (hr : r + m ≤ sz) (he : splice (enc el) r vs = enc el') (hT : c.Tt.contains e = false)
    (h : WL P c ops Q rest S (RowK base e sz n cap g ((l.set j el').flatMap enc)) L O X) : WL P c ops Q (⟨none, .store t x y, ty, pos, aft, none⟩ :: rest) S (RowK base e sz n cap g (l.flatMap enc)) L O X := by
  intro a w ha hm
  have hown : w.ownsRow base e sz (.slice (some ⟨g, 0, none⟩) n cap) n (l.flatMap enc) := hm.k
  have hjl := (List.getElem?_eq_some_iff.1 hj).1
  have hlt : o + m ≤ n * sz := by
    have : (j + 1) * sz ≤ n * sz := Nat.mul_le_mul_right sz (by omega)
    rw [Nat.add_mul] at this
    omega
  obtain ⟨dd, hu, _, hi⟩ := run_row hs
  rcases hown.2 with ⟨h', _⟩ | ⟨g', cap', cur, h', hb, hg, hnc, hcm, hcs, htake⟩
  · simp at h'
  · simp only [Value.slice.injEq, Option.some.injEq, Addr.mk.injEq, and_true, true_and] at h'
    obtain ⟨rfl, rfl⟩ := h'
    have hbk : Blk w g e cur.toList := by unfold Blk; rw [Array.toArray_toList]; exact hg
    have hcl : n * sz ≤ cur.toList.length := by
      have := Nat.mul_le_mul_right sz hnc
      simp [hcs]; exact this
    refine wpList_store_blk rfl t x y rfl g o e cur.toList vs hbk (ha.eval hx) (ha.eval hy) m hi hn (by omega) (by simpa using h1) fun w' hb' hgr => ?_
    have hsl := splice_length cur.toList o vs (by omega)
    have hfl := flat_len enc sz hk (l.set j el')
    rw [List.length_set, hl] at hfl
    refine h _ _ ⟨ha.size, ha.val, ha.df⟩ (hm.turned hrow hT ⟨hfl, .inr ⟨g, cap, (splice cur.toList o vs).toArray, rfl, hb, hb', hnc, hcm, by simpa [hsl] using hcs, ?_⟩⟩ hgr)
    rw [List.toList_toArray, own_take_splice hcl (by omega), htake, ← ho, Nat.zero_add, own_flat_splice enc sz hk hj he (by omega)]
/-- A call that turns the row. -/
theorem wl_callK {f : FuncId} {x : Operand} {ags : List Operand} {ats : Array TypeId} {vs fs cs : List Value} {v : Value} {base g n cap sz : Nat} {e : TypeId} {xs xs' : List Value} (hrow : c.row = some g) (hT : c.Tt.contains e = false) (hx : rd S x = some (.func (.func f) fs.toArray cs.toArray)) (hf : callableB P f = true) (ha : evArgs S ags = some vs) (hd : Nat.ble (d + 1) c.n = true)
    (hC : ∀ w, Mem c (RowK base e sz n cap g xs) L O X w → Calls P f (fs ++ vs ++ cs).toArray w (fun e1 w' => e1 = .returned v ∧ w'.ownsRow base e sz (.slice (some ⟨g, 0, none⟩) n cap) n xs' ∧ w.grownBy w' (some g))) (h : WL P c ops Q rest ((d, v) :: S) (RowK base e sz n cap g xs') L O X) :
    WL P c ops Q (⟨some d, .call ⟨.value x, ags.toArray, ats⟩, ty, pos, aft, none⟩ :: rest) S (RowK base e sz n cap g xs) L O X :=
  wl_callG (γ := Unit) (val := fun _ => v) (φ := fun _ => True) (K' := fun _ => RowK base e sz n cap g xs') (L' := fun _ => L) (O' := fun _ => O) (X' := fun _ => X) hx hf ha hd (fun w hm => (hC w hm).mono fun _ _ ⟨he, ho, hg⟩ => ⟨(), he, trivial, hm.turned hrow hT ho hg⟩) (fun _ _ => h)
end
/-- A call on a row of the call's own ends by the row's contract. -/
theorem fin_row {base : Nat} {e : TypeId} {sz n cap g : Nat} {xs : List Value} {w0 w : World} (hk : RowK base e sz n cap g xs w) (hg : w0.grownBy w (some g)) : w.ownsRow base e sz (.slice (some ⟨g, 0, none⟩) n cap) n xs ∧ w0.grownBy w (some g) := ⟨hk, hg⟩
end Go.Proofs.YtdoooppeiphefaaGreatDoor
namespace Go.Proofs
open Go.Shelf
def Tryz.lays125_ren : Go.Shelf.Ren := ⟨fun | 125 => 176 | 128 => 265 | 129 => 266 | n => n, fun | 46 => 260 | 3 => 3 | 51 => 339 | 53 => 341 | 4 => 4 | 5 => 5 | 9 => 9 | n => n, fun | n => n⟩
theorem Tryz.lays125 : Go.Proofs.Lays.n125 Tryz.prog Tryz.lays125_ren := {
  mixed := by kernel_rfl
  f125 := Tryz.func176.trans (congrArg some (by kernel_rfl))
  f128 := Tryz.func265.trans (congrArg some (by kernel_rfl))
  f129 := Tryz.func266.trans (congrArg some (by kernel_rfl))
  t3 := Tryz.underlying3
  a3 := Tryz.isAgg3
  z3 := Tryz.sizeOf3
  v3 := Tryz.zeroValue3
  t4 := Tryz.underlying4
  a4 := Tryz.isAgg4
  z4 := Tryz.sizeOf4
  v4 := Tryz.zeroValue4
  t5 := Tryz.underlying5
  a5 := Tryz.isAgg5
  z5 := Tryz.sizeOf5
  v5 := Tryz.zeroValue5
  t9 := Tryz.underlying9
  a9 := Tryz.isAgg9
  z9 := Tryz.sizeOf9
  v9 := Tryz.zeroValue9
  t46 := Tryz.underlying260
  a46 := Tryz.isAgg260
  z46 := Tryz.sizeOf260
  v46 := Tryz.zeroValue260
  t51 := Tryz.underlying339
  a51 := Tryz.isAgg339
  z51 := Tryz.sizeOf339
  v51 := Tryz.zeroValue339
  t53 := Tryz.underlying341
  a53 := Tryz.isAgg341
  z53 := Tryz.sizeOf341
  v53 := Tryz.zeroValue341 }
end Go.Proofs
namespace Go.Proofs.YtdoooppeiphefaaGreatDoor
open Go.RowKit
theorem bitsLen_any (n : Nat) (w : World) (hn : n ≤ 1000000) : Calls Tryz.prog 176 #[.int .u64 ((n : Nat) : Int)] w (fun e w' => ∃ v : Int, e = .returned (.int .i64 v) ∧ w.grownBy w' none) := by
  have hcon := Any.bits_Len Tryz.lays125 ((n : Nat) : Int) w (by omega) (by omega)
  refine Calls.mono hcon ?_
  rintro e w' ⟨rfl, rfl⟩
  exact ⟨_, rfl, World.grownBy.refl _ _⟩
end Go.Proofs.YtdoooppeiphefaaGreatDoor
namespace Go.Proofs.YtdoooppeiphefaaGreatDoor
open Go.RowKit
section
variable {P : Program} {nn : Nat} {S : List (Nat × Value)} {Z : World → Prop} {d : Nat} {ty : TypeId} {pos : String} {aft : Array Edge}
def kindTy (P : Program) (t : TypeId) : Option IntKind :=
  match P.underlying t with
  | some (.int k) => some k
  | _ => none
theorem kindTy_u {t : TypeId} {k : IntKind} (h : kindTy P t = some k) : P.underlying t = some (.int k) := by
  unfold kindTy at h
  cases hu : P.underlying t with
  | none => simp [hu] at h
  | some dd => cases dd <;> simp [hu] at h <;> simp [h]
theorem ov_u64 {s t : TypeId} {k : IntKind} {x : Operand} {a : Nat} (hs : kindTy P s = some .i64) (ht : kindTy P t = some .u64) (hx : rd S x = some (.int k (a : Int))) (ha : a ≤ 9223372036854775807) : OV P nn S Z ⟨some d, .convert s t x, ty, pos, aft, none⟩ (.int .u64 (a : Int)) := fun b w hb hm => by
  have h1 : IntKind.u64.wrap (a : Int) = (a : Int) := by rw [IntKind.wrap_u64]; omega
  have hk : P.intKind t = .u64 := by simp [Program.intKind, kindTy_u ht]
  have h2 := run_convert_int (P := P) w s t k (a : Int) (by rw [kindTy_u hs]; rfl) (by rw [hk]; exact kindTy_u ht)
  rw [hk, h1] at h2
  simp [execOp, hb.eval hx, h2]
end
end Go.Proofs.YtdoooppeiphefaaGreatDoor
namespace Go.Proofs.YtdoooppeiphefaaGreatDoor
open Go.RowKit
structure Ofr where
  cls : ByteArray
  cents : Int
def ofEnc (x : Ofr) : List Value := [.string x.cls, .int .i64 x.cents]
theorem of_len (x : Ofr) : (ofEnc x).length = 2 := rfl
def cmpO (a b : Ofr) : Int := firstE [cmpI a.cents b.cents, cmpS a.cls b.cls]
def ltO (a b : Ofr) : Bool := decide (cmpO a b < 0)
theorem offLess1 (ac : ByteArray) (ae : Int) (bc : ByteArray) (be : Int) (w : World) :
  Calls Tryz.prog 117 #[.agg #[.string ac, .int .i64 ae], .agg #[.string bc, .int .i64 be]] w (fun e w' => e = .returned (.int .i64 (cmpO ⟨ac, ae⟩ ⟨bc, be⟩)) ∧ w.grownBy w' none) := by
 refine gw_enter ⟨17, w, none, []⟩ Tryz.func117 rfl Tryz.ntmps117 rfl (mem0 (X := []) allF_nil allL_nil) ?_
 refine sr_ ?_
 refine wl_box rfl rfl rfl fun g1 => ?_
 refine wl_box rfl rfl rfl fun g2 => ?_
 refine sg_ rfl (nn_ (gw_seq ?_))
 refine gd (fun wz => Blk wz g2 103 [.string bc, .int .i64 be] ∧ Blk wz g1 103 [.string ac, .int .i64 ae] ∧ True) mixed (fun _ hm => ⟨hm.bl 0, hm.bl 1, trivial⟩) fun z => ?_
 refine wt 0 13 1 rfl z (ov_field fo103_1 rfl rfl) ?_
 refine wt 1 13 3 rfl z (ov_load sc3 rfl (fun _ hm => hm.2.1) rfl) ?_
 refine wt 2 13 7 rfl z (ov_field fo103_1 rfl rfl) ?_
 refine wt 3 13 15 rfl z (ov_load sc3 rfl (fun _ hm => hm.1) rfl) ?_
 refine wt 5 13 47 rfl z (ov_field fo103_0 rfl rfl) ?_
 refine wt 6 13 111 rfl z (ov_load sc9 rfl (fun _ hm => hm.2.1) rfl) ?_
 refine wt 7 13 239 rfl z (ov_field fo103_0 rfl rfl) ?_
 refine wt 8 13 495 rfl z (ov_load sc9 rfl (fun _ hm => hm.1) rfl) ?_
 refine wa1 4 rfl ?_
 refine wl_callv rfl cb119 rfl rfl (fun wx hm => (cmp_int _ _ wx)) ?_
 refine wl_nil ?_
 refine nw 13 511 (fun _ hm => ⟨hm.bl 0, hm.bl 1, trivial⟩) fun z => ?_
 refine wa1 9 rfl ?_
 refine wl_callv rfl cb120 rfl rfl (fun wx hm => (cmp_string _ _ wx)) ?_
 refine wl_nil ?_
 refine nw 13 1023 (fun _ hm => ⟨hm.bl 0, hm.bl 1, trivial⟩) fun z => ?_
 refine wa1 10 rfl ?_
 refine wl_buildSlice (e := 3) (cs := [.int .i64 (cmpI ae be), .int .i64 (cmpS ac bc)]) rfl (by kernel_rfl) rfl fun g3 => ?_
 refine wl_nil ?_
 refine nw 13 2047 (fun _ hm => ⟨hm.bl 1, hm.bl 2, trivial⟩) fun z => ?_
 refine wa1 11 rfl ?_
 refine wl_callv rfl cb118 rfl rfl (fun wx hm => (or_two _ _ _ _ _ wx (hm.blkI 0 rfl))) ?_
 refine wl_nil ?_
 refine nw 13 4095 (fun _ hm => ⟨hm.bl 1, hm.bl 2, trivial⟩) fun z => ?_
 refine wt 12 13 8191 rfl z (ov_assign rfl) ?_
 refine wa_done (by kernel_rfl) ?_
 refine nx_then ?_
 refine gw_ret ?_
 refine nx_ret1 rfl rfl fun wx hm => ?_
 exact ⟨rfl, hm.g⟩
theorem ins_off1  (l0 : List Ofr) (br n cap base : Nat) (w : World) (h : w.ownsRow base 103 2 (.slice (some ⟨br, 0, none⟩) n cap) n (l0.flatMap ofEnc)) (hl0 : l0.length = n) (hn : n ≤ 1000000)  :
  Calls Tryz.prog 285 #[.slice (some ⟨br, 0, none⟩) n cap, .int .i64 0, .int .i64 ((n : Nat) : Int), .func (.func 117) #[] #[]] w (fun e w' => e = .returned (.tuple #[]) ∧ w'.ownsRow base 103 2 (.slice (some ⟨br, 0, none⟩) n cap) n ((isort (ltO) l0).flatMap ofEnc) ∧ w.grownBy w' (some br)) := by
 obtain ⟨R, hR⟩ : ∃ z, z = isort (ltO) l0 := ⟨_, rfl⟩
 rw [← hR]
 refine gw_enter ⟨53, w, (some br), []⟩ Tryz.func285 rfl Tryz.ntmps285 rfl (memR (X := []) h allF_nil allL_nil) ?_
 refine sr_ (mv_ rfl (ad_ rfl rfl ?_))
 refine wl_set 11 (v' := .int .i64 1) rfl rfl ?_
 refine sg_ rfl (nn_ (gw_block ?_))
 refine gw_loop (γ := Nat × List Ofr) (fun gg => (1 ≤ gg.1 ∧ gg.1 ≤ n + 1) ∧ gg.2.length = n ∧ isortF (ltO) (n - gg.1) gg.1 gg.2 = R) (fun gg => [(0, .slice (some ⟨br, 0, none⟩) n cap), (1, .int .i64 0), (2, .int .i64 ((n : Nat) : Int)), (3, .func (.func 117) #[] #[]), (8, .int .i64 ((gg.1 : Nat) : Int))]) (fun gg => RowK base 103 2 n cap br ((gg.2).flatMap ofEnc)) (fun gg => []) (fun gg => []) (fun gg => []) (fun gg => n + 1 - gg.1) (1, l0) ⟨⟨Nat.le_refl _, by omega⟩, hl0, by rw [hR]; unfold isort; rw [hl0]⟩ ⟨rfl, rfl, rfl, rfl, (some_int (by omega)), trivial⟩ (fun _ hm => hm.pick [] [] [] rfl rfl) ?_
 rintro ⟨i, l⟩ hinv
 replace hinv : (1 ≤ i ∧ i ≤ n + 1) ∧ l.length = n ∧ isortF (ltO) (n - i) i l = R := hinv
 dsimp only
 refine gw_seq (sr_ ?_)
 obtain ⟨⟨hi1, hi2⟩, hl1, hR1⟩ := hinv
 refine mv_ rfl (mv_ rfl (wl_ov (ov_lss rfl rfl) rfl (nn_ ?_)))
 refine gw_cond rfl (fun hh => ?_) (fun hh => ?_)
 ·have hi : ((i : Nat) : Int) < ((n : Nat) : Int) := by simpa using hh
  clear hh
  refine gw_skip (nx_then (gw_seq (gw_block (sr_ ?_))))
  have hRi : isortF (ltO) (n - (i + 1)) (i + 1) (sink (ltO) i l) = R := by rw [← hR1, show n - i = (n - (i + 1)) + 1 by omega]; rfl
  obtain ⟨S, hS⟩ : ∃ z, z = sink (ltO) i l := ⟨_, rfl⟩
  rw [← hS] at hRi
  have hSl : S.length = n := by rw [hS, sink_len]; exact hl1
  refine mv_ rfl (sg_ rfl (nn_ (gw_block ?_)))
  refine gw_loop (γ := Nat × List Ofr) (fun gg => (gg.1 ≤ i) ∧ gg.2.length = n ∧ sink (ltO) gg.1 gg.2 = S) (fun gg => [(0, .slice (some ⟨br, 0, none⟩) n cap), (1, .int .i64 0), (2, .int .i64 ((n : Nat) : Int)), (3, .func (.func 117) #[] #[]), (8, .int .i64 ((i : Nat) : Int)), (9, .int .i64 ((gg.1 : Nat) : Int))]) (fun gg => RowK base 103 2 n cap br ((gg.2).flatMap ofEnc)) (fun gg => []) (fun gg => []) (fun gg => []) (fun gg => gg.1) (i, l) ⟨Nat.le_refl _, hl1, hS.symm⟩ ⟨rfl, rfl, rfl, rfl, rfl, rfl, trivial⟩ (fun _ hm => hm.pick [] [] [] rfl rfl) ?_
  rintro ⟨jj, m⟩ hinv
  replace hinv : (jj ≤ i) ∧ m.length = n ∧ sink (ltO) jj m = S := hinv
  dsimp only
  refine gw_seq (gw_seq ?_)
  obtain ⟨hj1, hm1, hS1⟩ := hinv
  rcases jj with _ | j
  ·refine gd (fun wz => True) mixed (fun _ _ => trivial) fun z => ?_
   refine wt 0 17 1 rfl z (ov_move rfl) ?_
   refine wa_set 18 (v' := .int .i64 0) rfl rfl ?_
   refine wt 1 17 3 rfl z (ov_move rfl) ?_
   refine wt 2 17 7 rfl z (ov_gtr rfl rfl) ?_
   refine wa_set 20 (v' := .bool false) rfl (congrArg Value.bool (by decide)) ?_
   refine wt 3 17 15 rfl z (ov_move rfl) ?_
   refine wtf 4 17 31 rfl rfl rfl z ?_
   refine wtf 5 17 63 rfl rfl rfl z ?_
   refine wtf 6 17 127 rfl rfl rfl z ?_
   refine wtf 7 17 255 rfl rfl rfl z ?_
   refine wtf 8 17 511 rfl rfl rfl z ?_
   refine wtf 9 17 1023 rfl rfl rfl z ?_
   refine wtf 10 17 2047 rfl rfl rfl z ?_
   refine wtf 11 17 4095 rfl rfl rfl z ?_
   refine wtf 12 17 8191 rfl rfl rfl z ?_
   refine wtf 13 17 16383 rfl rfl rfl z ?_
   refine wtf 14 17 32767 rfl rfl rfl z ?_
   refine wtf 15 17 65535 rfl rfl rfl z ?_
   refine wt 16 17 131071 rfl z (ov_pick_f rfl rfl) ?_
   refine wa_done (by kernel_rfl) ?_
   refine nx_then (cf_ rfl ?_)
   refine gw_exit ?_
   refine nx_then_exit (nx_then_exit ?_)
   refine nx_blk_here ?_
   refine nx_blk_nrm (nx_then (gw_region (mv_ rfl (ad_ rfl rfl (sg_ rfl (wl_nil ?_))))))
   have hm2 : m = S := hS1
   exact nx_round (i + 1, m) ⟨⟨by dsimp only; omega, by dsimp only; omega⟩, by rw [hm2]; exact hSl, by rw [hm2]; exact hRi⟩ (by dsimp only; omega) ⟨rfl, rfl, rfl, rfl, (some_int (by omega)), trivial⟩ (fun _ hm => hm.pick [] [] [] rfl rfl)
  have hj2 : j + 1 < n := by omega
  obtain ⟨xx, hx⟩ : ∃ x, m[j + 1]? = some x := ⟨_, List.getElem?_eq_getElem (by omega)⟩
  obtain ⟨x0, x1⟩ := xx
  obtain ⟨yy, hy⟩ : ∃ x, m[j]? = some x := ⟨_, List.getElem?_eq_getElem (by omega)⟩
  obtain ⟨y0, y1⟩ := yy
  refine gd (fun wz => (RowK base 103 2 n cap br ((m).flatMap ofEnc)) wz ∧ True) mixed (fun _ hm => ⟨hm.k, trivial⟩) fun z => ?_
  refine wt 0 17 1 rfl z (ov_move rfl) ?_
  refine wt 1 17 3 rfl z (ov_move rfl) ?_
  refine wt 2 17 7 rfl z (ov_gtr rfl rfl) ?_
  refine wa_set 20 (v' := .bool true) rfl (congrArg Value.bool (decide_eq_true (by omega))) ?_
  refine wt 3 17 15 rfl z (ov_move rfl) ?_
  refine wto 4 17 31 rfl rfl rfl z (ov_move rfl) ?_
  refine wto 5 17 63 rfl rfl rfl z (ov_move rfl) ?_
  refine wto 6 17 127 rfl rfl rfl z (ov_move rfl) ?_
  refine wto 7 17 255 rfl rfl rfl z (ov_index (j := (j + 1)) es98 rfl rfl (by omega)) ?_
  refine wto 8 17 511 rfl rfl rfl z (ov_elem (vs := [.string x0, .int .i64 x1]) rz103 rfl (fun _ hm => (RowK.get (hm.1) of_len hm1)) hx rfl rfl) ?_
  refine wto 9 17 1023 rfl rfl rfl z (ov_move rfl) ?_
  refine wto 10 17 2047 rfl rfl rfl z (ov_move rfl) ?_
  refine wto 11 17 4095 rfl rfl rfl z (ov_sub rfl rfl (by omega) (by omega)) ?_
  refine wa_set 29 (v' := .int .i64 ((j : Nat) : Int)) rfl (congrArg (Value.int .i64) (by omega)) ?_
  refine wto 12 17 8191 rfl rfl rfl z (ov_index (j := j) es98 rfl rfl (by omega)) ?_
  refine wto 13 17 16383 rfl rfl rfl z (ov_elem (vs := [.string y0, .int .i64 y1]) rz103 rfl (fun _ hm => (RowK.get (hm.1) of_len hm1)) hy rfl rfl) ?_
  refine wa1 14 rfl ?_
  refine wl_guard_on rfl rfl rfl ?_
  refine wl_callv rfl cb117 rfl rfl (fun wx hm => (offLess1 x0 x1 y0 y1 wx)) ?_
  refine wl_nil ?_
  refine nw 17 32767 (fun _ hm => ⟨hm.k, trivial⟩) fun z => ?_
  refine wto 15 17 65535 rfl rfl rfl z (ov_lss rfl rfl) ?_
  refine wt 16 17 131071 rfl z (ov_pick_t rfl rfl) ?_
  refine wa_done (by kernel_rfl) ?_
  refine nx_then ?_
  refine gw_cond rfl (fun hh => ?_) (fun hh => ?_)
  ·have hlt : cmpO ⟨x0, x1⟩ ⟨y0, y1⟩ < 0 := by simpa using hh
   clear hh
   refine gw_skip (nx_then (gw_seq (gw_block ?_)))
   have hlt2 : (ltO) ⟨x0, x1⟩ ⟨y0, y1⟩ = true := decide_eq_true (show cmpO ⟨x0, x1⟩ ⟨y0, y1⟩ < 0 from hlt)
   have hS2 := (sink_yes hx hy hlt2).symm.trans hS1
   refine gd (fun wz => True) mixed (fun _ _ => trivial) fun z => ?_
   refine wt 0 18 1 rfl z (ov_move rfl) ?_
   refine wt 1 18 3 rfl z (ov_move rfl) ?_
   refine wt 2 18 7 rfl z (ov_move rfl) ?_
   refine wt 3 18 15 rfl z (ov_move rfl) ?_
   refine wt 4 18 31 rfl z (ov_sub rfl rfl (by omega) (by omega)) ?_
   refine wa_set 41 (v' := .int .i64 ((j : Nat) : Int)) rfl (congrArg (Value.int .i64) (by omega)) ?_
   refine wt 5 18 63 rfl z (ov_move rfl) ?_
   refine wt 6 18 127 rfl z (ov_move rfl) ?_
   refine wt 7 18 255 rfl z (ov_sub rfl rfl (by omega) (by omega)) ?_
   refine wa_set 44 (v' := .int .i64 ((j : Nat) : Int)) rfl (congrArg (Value.int .i64) (by omega)) ?_
   refine wt 8 18 511 rfl z (ov_index (j := j) es98 rfl rfl (by omega)) ?_
   refine wt 10 18 1535 rfl z (ov_move rfl) ?_
   refine wt 11 18 3583 rfl z (ov_move rfl) ?_
   refine wt 12 18 7679 rfl z (ov_index (j := (j + 1)) es98 rfl rfl (by omega)) ?_
   refine wa_all [9, 13] (by kernel_rfl) rfl ⟨⟨_, rfl, ?_⟩, ⟨_, rfl, ?_⟩, trivial⟩
   ·refine wl_ov (ov_elem (vs := [.string y0, .int .i64 y1]) rz103 rfl (fun _ hm => (RowK.get hm.k of_len hm1)) hy rfl rfl) rfl ?_
    refine wl_nil ?_
    refine nw 18 8191 (fun _ _ => trivial) fun z => ?_
    refine wa1 13 rfl ?_
    refine wl_ov (ov_elem (vs := [.string x0, .int .i64 x1]) rz103 rfl (fun _ hm => (RowK.get hm.k of_len hm1)) hx rfl rfl) rfl ?_
    refine wl_nil ?_
    refine nw 18 16383 (fun _ _ => trivial) fun z => ?_
    refine wt 14 18 32767 rfl z (ov_index (j := (j + 1)) es98 rfl rfl (by omega)) ?_
    refine wa1 15 rfl ?_
    refine wl_storesRow (l := m) (j := j + 1) (r := 0) (el := ⟨x0, x1⟩) (el' := ⟨y0, y1⟩) rfl rz103 rfl rfl rfl rfl of_len rfl hx hm1 (by decide) rfl rfl ?_
    refine wl_nil ?_
    refine nw 18 65535 (fun _ _ => trivial) fun z => ?_
    refine wt 16 18 131071 rfl z (ov_index (j := j) es98 rfl rfl (by omega)) ?_
    refine wa1 17 rfl ?_
    refine wl_storesRow (l := m.set (j + 1) ⟨y0, y1⟩) (j := j) (r := 0) (el := ⟨y0, y1⟩) (el' := ⟨x0, x1⟩) rfl rz103 rfl rfl rfl rfl of_len rfl (by rw [List.getElem?_set_ne (by omega)]; exact hy) (by rw [List.length_set]; exact hm1) (by decide) rfl rfl ?_
    refine wl_nil ?_
    refine nw 18 262143 (fun _ _ => trivial) fun z => ?_
    refine wa_done (by kernel_rfl) ?_
    refine nx_blk_nrm (nx_then (gw_region (mv_ rfl ?_)))
    refine wl_ov (ov_sub rfl rfl (by omega) (by omega)) rfl ?_
    refine wl_set 36 (v' := .int .i64 ((j : Nat) : Int)) rfl (congrArg (Value.int .i64) (by omega)) ?_
    refine sg_ rfl (wl_nil ?_)
    exact nx_round (j, (m.set (j + 1) ⟨y0, y1⟩).set j ⟨x0, x1⟩) ⟨by dsimp only; omega, by simp [hm1], hS2⟩ (by dsimp only; omega) ⟨rfl, rfl, rfl, rfl, rfl, (some_int (by omega)), trivial⟩ (fun _ hm => hm.pick [] [] [] rfl rfl)
   refine wl_ov (ov_elem (vs := [.string x0, .int .i64 x1]) rz103 rfl (fun _ hm => (RowK.get hm.k of_len hm1)) hx rfl rfl) rfl ?_
   refine wl_nil ?_
   refine nw 18 15871 (fun _ _ => trivial) fun z => ?_
   refine wa1 9 rfl ?_
   refine wl_ov (ov_elem (vs := [.string y0, .int .i64 y1]) rz103 rfl (fun _ hm => (RowK.get hm.k of_len hm1)) hy rfl rfl) rfl ?_
   refine wl_nil ?_
   refine nw 18 16383 (fun _ _ => trivial) fun z => ?_
   refine wt 14 18 32767 rfl z (ov_index (j := (j + 1)) es98 rfl rfl (by omega)) ?_
   refine wa1 15 rfl ?_
   refine wl_storesRow (l := m) (j := j + 1) (r := 0) (el := ⟨x0, x1⟩) (el' := ⟨y0, y1⟩) rfl rz103 rfl rfl rfl rfl of_len rfl hx hm1 (by decide) rfl rfl ?_
   refine wl_nil ?_
   refine nw 18 65535 (fun _ _ => trivial) fun z => ?_
   refine wt 16 18 131071 rfl z (ov_index (j := j) es98 rfl rfl (by omega)) ?_
   refine wa1 17 rfl ?_
   refine wl_storesRow (l := m.set (j + 1) ⟨y0, y1⟩) (j := j) (r := 0) (el := ⟨y0, y1⟩) (el' := ⟨x0, x1⟩) rfl rz103 rfl rfl rfl rfl of_len rfl (by rw [List.getElem?_set_ne (by omega)]; exact hy) (by rw [List.length_set]; exact hm1) (by decide) rfl rfl ?_
   refine wl_nil ?_
   refine nw 18 262143 (fun _ _ => trivial) fun z => ?_
   refine wa_done (by kernel_rfl) ?_
   refine nx_blk_nrm (nx_then (gw_region (mv_ rfl ?_)))
   refine wl_ov (ov_sub rfl rfl (by omega) (by omega)) rfl ?_
   refine wl_set 36 (v' := .int .i64 ((j : Nat) : Int)) rfl (congrArg (Value.int .i64) (by omega)) ?_
   refine sg_ rfl (wl_nil ?_)
   exact nx_round (j, (m.set (j + 1) ⟨y0, y1⟩).set j ⟨x0, x1⟩) ⟨by dsimp only; omega, by simp [hm1], hS2⟩ (by dsimp only; omega) ⟨rfl, rfl, rfl, rfl, rfl, (some_int (by omega)), trivial⟩ (fun _ hm => hm.pick [] [] [] rfl rfl)
  have hlt : ¬ (cmpO ⟨x0, x1⟩ ⟨y0, y1⟩ < 0) := by simpa using hh
  clear hh
  refine gw_exit ?_
  refine nx_then_exit (nx_then_exit ?_)
  refine nx_blk_here ?_
  refine nx_blk_nrm (nx_then (gw_region ?_))
  have hlt2 : (ltO) ⟨x0, x1⟩ ⟨y0, y1⟩ = false := decide_eq_false (show ¬ cmpO ⟨x0, x1⟩ ⟨y0, y1⟩ < 0 from hlt)
  have hS2 := (sink_no hx hy hlt2).symm.trans hS1
  refine mv_ rfl (ad_ rfl rfl (sg_ rfl (wl_nil ?_)))
  have hm2 : m = S := hS2
  exact nx_round (i + 1, m) ⟨⟨by dsimp only; omega, by dsimp only; omega⟩, by rw [hm2]; exact hSl, by rw [hm2]; exact hRi⟩ (by dsimp only; omega) ⟨rfl, rfl, rfl, rfl, (some_int (by omega)), trivial⟩ (fun _ hm => hm.pick [] [] [] rfl rfl)
 have hi : ¬ (((i : Nat) : Int) < ((n : Nat) : Int)) := by simpa using hh
 clear hh
 refine gw_exit ?_
 refine nx_then_exit (nx_then_exit ?_)
 refine nx_blk_here ?_
 obtain rfl : l = R := by rw [← hR1, show n - i = 0 by omega]; rfl
 refine nx_ret0 rfl fun wx hm => ?_
 exact ⟨rfl, fin_row hm.k hm.g⟩
theorem pdq_off1  (l0 : List Ofr) (br n cap base : Nat) (lim : Int) (w : World) (h : w.ownsRow base 103 2 (.slice (some ⟨br, 0, none⟩) n cap) n (l0.flatMap ofEnc)) (hl0 : l0.length = n) (hn : n ≤ 12)  :
  Calls Tryz.prog 222 #[.slice (some ⟨br, 0, none⟩) n cap, .int .i64 0, .int .i64 ((n : Nat) : Int), .int .i64 lim, .func (.func 117) #[] #[]] w (fun e w' => e = .returned (.tuple #[]) ∧ w'.ownsRow base 103 2 (.slice (some ⟨br, 0, none⟩) n cap) n ((isort (ltO) l0).flatMap ofEnc) ∧ w.grownBy w' (some br)) := by
 refine gw_enter ⟨148, w, (some br), []⟩ Tryz.func222 rfl Tryz.ntmps222 rfl (memR (X := []) h allF_nil allL_nil) ?_
 refine sr_ (sg_ rfl (nn_ (sr_ (sg_ rfl (nn_ (gw_block ?_))))))
 refine gw_rounds 1 ?_
 refine gr_next ?_
 refine gw_block (sr_ (mv_ rfl (mv_ rfl ?_)))
 refine wl_ov (ov_sub rfl rfl (by omega) (by omega)) rfl ?_
 refine sg_ rfl (nn_ (gw_seq (sr_ (mv_ rfl (wl_ov (ov_leq rfl rfl) rfl ?_)))))
 refine wl_set 25 (v' := .bool true) rfl (congrArg Value.bool (decide_eq_true (by omega))) ?_
 refine nn_ (ct_ rfl (sr_ (mv_ rfl (mv_ rfl (mv_ rfl (mv_ rfl ?_))))))
 refine wl_callK rfl rfl rfl cb285 rfl rfl (fun wx hm => (ins_off1  l0 br n cap base wx hm.k hl0 (by omega) )) ?_
 refine nn_ ?_
 refine gw_ret ?_
 refine nx_then_ret (nx_blk_ret (nx_then_ret (nx_blk_ret ?_)))
 refine nx_ret0' rfl fun wx hm => ?_
 exact ⟨rfl, fin_row hm.k hm.g⟩
theorem sort_off1  (l0 : List Ofr) (br n cap base : Nat) (w : World) (h : w.ownsRow base 103 2 (.slice (some ⟨br, 0, none⟩) n cap) n (l0.flatMap ofEnc)) (hl0 : l0.length = n) (hn : n ≤ 12)  :
  Calls Tryz.prog 116 #[.slice (some ⟨br, 0, none⟩) n cap, .func (.func 117) #[] #[]] w (fun e w' => e = .returned (.tuple #[]) ∧ w'.ownsRow base 103 2 (.slice (some ⟨br, 0, none⟩) n cap) n ((isort (ltO) l0).flatMap ofEnc) ∧ w.grownBy w' (some br)) := by
 refine gw_enter ⟨14, w, (some br), []⟩ Tryz.func116 rfl Tryz.ntmps116 rfl (memR (X := []) h allF_nil allL_nil) ?_
 refine sr_ (mv_ rfl (wl_ov (ov_len es98 rfl) rfl (sg_ rfl (nn_ (gw_region (mv_ rfl (mv_ rfl (mv_ rfl ?_))))))))
 refine wl_ov (ov_u64 (a := n) (by kernel_rfl) (by kernel_rfl) rfl (by omega)) rfl ?_
 refine wl_callx (γ := Int) (val := (fun g => .int .i64 g)) (φ := (fun g => True)) (Y := (fun g => fun _ => True)) rfl cb176 rfl rfl (fun wx hm => (bitsLen_any n wx (by omega)).mono fun _ _ ⟨v, he, hg⟩ => ⟨v, he, trivial, hg, trivial⟩) (fun _ => Lasts2.true_) ?_
 rintro lim hphi
 clear hphi
 refine mv_ rfl ?_
 refine wl_callK rfl rfl rfl cb222 rfl rfl (fun wx hm => (pdq_off1  l0 br n cap base _ wx hm.k hl0 hn )) ?_
 refine wl_nil ?_
 refine nx_ret0 rfl fun wx hm => ?_
 exact ⟨rfl, fin_row hm.k hm.g⟩
theorem ins0_off1  (A : Option Addr) (cap : Nat)  (w : World) : Calls Tryz.prog 285 #[.slice A 0 cap, .int .i64 0, .int .i64 0, .func (.func 117) #[] #[]] w (fun e w' => e = .returned (.tuple #[]) ∧ w.grownBy w' none) := by
 refine gw_enter ⟨53, w, none, []⟩ Tryz.func285 rfl Tryz.ntmps285 rfl (mem0 (X := []) allF_nil allL_nil) ?_
 refine sr_ (mv_ rfl (ad_ rfl rfl ?_))
 refine wl_set 11 (v' := .int .i64 1) rfl rfl ?_
 refine sg_ rfl (nn_ (gw_block ?_))
 refine gw_rounds 1 ?_
 refine gr_next ?_
 refine gw_seq (sr_ (mv_ rfl (mv_ rfl (wl_ov (ov_lss rfl rfl) rfl ?_))))
 refine wl_set 14 (v' := .bool false) rfl (congrArg Value.bool (by decide)) ?_
 refine nn_ (cf_ rfl ?_)
 refine gw_exit ?_
 refine nx_then_exit (nx_then_exit ?_)
 refine nx_blk_here ?_
 refine nx_ret0 rfl fun wx hm => ?_
 exact ⟨rfl, hm.g⟩
theorem pdq0_off1  (A : Option Addr) (cap : Nat) (lim : Int) (w : World) : Calls Tryz.prog 222 #[.slice A 0 cap, .int .i64 0, .int .i64 0, .int .i64 lim, .func (.func 117) #[] #[]] w (fun e w' => e = .returned (.tuple #[]) ∧ w.grownBy w' none) := by
 refine gw_enter ⟨148, w, none, []⟩ Tryz.func222 rfl Tryz.ntmps222 rfl (mem0 (X := []) allF_nil allL_nil) ?_
 refine sr_ (sg_ rfl (nn_ (sr_ (sg_ rfl (nn_ (gw_block ?_))))))
 refine gw_rounds 1 ?_
 refine gr_next ?_
 refine gw_block (sr_ (mv_ rfl (mv_ rfl ?_)))
 refine wl_ov (ov_sub rfl rfl (by omega) (by omega)) rfl ?_
 refine wl_set 23 (v' := .int .i64 0) rfl rfl ?_
 refine sg_ rfl (nn_ (gw_seq (sr_ (mv_ rfl (wl_ov (ov_leq rfl rfl) rfl ?_)))))
 refine wl_set 25 (v' := .bool true) rfl (congrArg Value.bool (by decide)) ?_
 refine nn_ (ct_ rfl (sr_ (mv_ rfl (mv_ rfl (mv_ rfl (mv_ rfl ?_))))))
 refine wl_callv rfl cb285 rfl rfl (fun wx hm => (ins0_off1  A cap  wx)) ?_
 refine nn_ ?_
 refine gw_ret ?_
 refine nx_then_ret (nx_blk_ret (nx_then_ret (nx_blk_ret ?_)))
 refine nx_ret0' rfl fun wx hm => ?_
 exact ⟨rfl, hm.g⟩
theorem sort0_off1  (A : Option Addr) (cap : Nat)  (w : World) : Calls Tryz.prog 116 #[.slice A 0 cap, .func (.func 117) #[] #[]] w (fun e w' => e = .returned (.tuple #[]) ∧ w.grownBy w' none) := by
 refine gw_enter ⟨14, w, none, []⟩ Tryz.func116 rfl Tryz.ntmps116 rfl (mem0 (X := []) allF_nil allL_nil) ?_
 refine sr_ (mv_ rfl (wl_ov (ov_len es98 rfl) rfl ?_))
 refine wl_set 6 (v' := .int .i64 0) rfl rfl ?_
 refine sg_ rfl (nn_ (gw_region (mv_ rfl (mv_ rfl (mv_ rfl ?_)))))
 refine wl_ov (ov_u64 (a := 0) (by kernel_rfl) (by kernel_rfl) rfl (by omega)) rfl ?_
 refine wl_callx (γ := Int) (val := (fun g => .int .i64 g)) (φ := (fun g => True)) (Y := (fun g => fun _ => True)) rfl cb176 rfl rfl (fun wx hm => (by have h := bitsLen_any 0 wx (by omega); exact h.mono fun _ _ ⟨v, he, hg⟩ => ⟨v, he, trivial, hg, trivial⟩)) (fun _ => Lasts2.true_) ?_
 rintro lim hphi
 clear hphi
 refine mv_ rfl ?_
 refine wl_callv rfl cb222 rfl rfl (fun wx hm => (pdq0_off1  A cap _ wx)) ?_
 refine wl_nil ?_
 refine nx_ret0 rfl fun wx hm => ?_
 exact ⟨rfl, hm.g⟩
end Go.Proofs.YtdoooppeiphefaaGreatDoor
namespace Go.Proofs.YtdoooppeiphefaaGreatDoor
open Go.RowKit
section
variable {P : Program} {c : Cx} {ops : Array Oper} {Q : Exit → Act → World → Prop} {rest : List Oper} {S : List (Nat × Value)} {K : World → Prop} {L : List (Nat × TypeId × List Value)} {O : List Own} {X : List (World → Prop)}
variable {d : Nat} {ty : TypeId} {pos : String} {aft : Array Edge}
theorem wl_callr {f : FuncId} {x : Operand} {ags : List Operand} {ats : Array TypeId} {vs fs cs : List Value} {v : Value} {r : Own} {xs' : List Value} (i : Nat) (hO : O[i]? = some r) (hT : c.Tt.contains r.e = false) (hx : rd S x = some (.func (.func f) fs.toArray cs.toArray)) (hf : callableB P f = true) (ha : evArgs S ags = some vs) (hd : Nat.ble (d + 1) c.n = true)
    (hC : ∀ w, Mem c K L O X w → Calls P f (fs ++ vs ++ cs).toArray w (fun e w' => e = .returned v ∧ w'.ownsRow c.w0.heap.size r.e r.sz r.v r.n xs' ∧ w.grownBy w' r.v.ownBlock)) (h : WL P c ops Q rest ((d, v) :: S) K L (setOwn ⟨r.v, r.e, r.sz, r.n, xs'⟩ O i) X) :
    WL P c ops Q (⟨some d, .call ⟨.value x, ags.toArray, ats⟩, ty, pos, aft, none⟩ :: rest) S K L O X :=
  wl_callG (γ := Unit) (val := fun _ => v) (φ := fun _ => True) (K' := fun _ => K) (L' := fun _ => L) (O' := fun _ => setOwn ⟨r.v, r.e, r.sz, r.n, xs'⟩ O i) (X' := fun _ => X) hx hf ha hd (fun w hm => (hC w hm).mono fun _ _ ⟨he, ho, hg⟩ => ⟨(), he, trivial, hm.append hO hT ho hg (.inl rfl)⟩) (fun _ _ => h)
end
end Go.Proofs.YtdoooppeiphefaaGreatDoor
namespace Go.Proofs.YtdoooppeiphefaaGreatDoor
open Go.RowKit
def bdL (x : Ln) : Prop := -1000000000000 ≤ x.cents ∧ x.cents ≤ 1000000000000
theorem taxesV_sm {ls : List Ln} (hs : ∀ on, -200000000000 ≤ onSum on ls ∧ onSum on ls ≤ 200000000000) : ∀ (r : List Tx) (out : List Ln) (k : Nat), k + r.length ≤ 3 → (∀ x ∈ r, 0 ≤ x.mille ∧ x.mille ≤ 1000) → (∀ x ∈ out, bdL x) → (-pwT k ≤ sumBy centsOf out ∧ sumBy centsOf out ≤ pwT k) → ∀ x ∈ taxesV ls out r, bdL x
  | [], _, _, _, _, ho, _ => ho
  | t :: r, out, k, hk, hm, ho, hp => by
    rw [List.length_cons] at hk
    have h := taxL_ok (ls := ls) (x := t) (hs t.on) hp (by omega) (hm t (List.mem_cons_self ..))
    exact taxesV_sm hs r _ (k + 1) (by omega) (fun x hx => hm x (List.mem_cons_of_mem _ hx)) (fun x hx => by
      rcases List.mem_append.1 hx with hx | hx
      · exact ho x hx
      · rw [List.mem_singleton.1 hx]; exact h.1) h.2
theorem chk_all {l : List Rt} {c : ByteArray} {fr tt : Int} (h : chkE l c fr tt = 0) : ratesE l = 0 ∧ timeE fr tt = 0 := by
  unfold chkE at h
  have hz := fe_all h
  exact ⟨hz _ (by simp), hz _ (by simp)⟩
theorem qis_sm {rl : List Rt} {el : List Ex} {fl : List Fe} {cl : List Cd} {tl : List Tx} {qc : ByteArray} {fr tt : Int} {qa qb : ByteArray} {ks cks : List ByteArray} {E : Int} {ls : List Ln} (h0 : tariffE rl el fl cl tl = 0) (hch : CheapR rl) (hask : askE (fun k => el.any (exP k)) ks = 0) (ht3 : tl.length ≤ 3) (h : QIs rl el fl cl tl qc fr tt qa qb ks cks E ls) : ∀ x ∈ ls, bdL x := by
  obtain ⟨hr0, he0, hf0, hc0, ht0⟩ := tariffE_ok h0
  obtain ⟨er, ps, h1, h2, h3⟩ := h
  by_cases hE : E = 0
  · rw [if_pos hE] at h3
    have her : er = 0 := by
      refine Classical.byContradiction fun hn => ?_
      rw [qe_one hn] at h2
      exact hn (h2.symm.trans hE)
    subst her
    obtain ⟨hck, hbest⟩ := div_right h1
    obtain ⟨_, htm⟩ := chk_all hck
    have hpo := best_ok hr0 hch htm hbest
    have hsm := pcSum_ok hpo
    obtain ⟨hnk, hak⟩ := askE_ok hask
    have hbb := bestK_bound (cls := qc) (fr := fr) (tt := tt) hc0 hsm.1 cks
    have hl3 := line_sm (a := qa) (b := qb) hpo ⟨hbb.1, by omega⟩ he0 hak htm hf0
    have hlen := line_len (el := el) (n := daysV fr tt) (fl := fl) (a := qa) (b := qb) (x := bestK cl cks qc fr tt (pcSum ps)) hpo hnk
    subst h3
    intro x hx
    unfold lineQ at hx
    rcases List.mem_append.1 hx with hx | hx
    · have := hl3 x hx
      unfold bdL; omega
    · refine taxesV_sm (fun on => ?_) tl [] 0 (by omega) (taxesE_mille ht0).2 (fun x h => by cases h) ⟨by simp [pwT, sumBy], by simp [pwT, sumBy]⟩ x hx
      have := onSum_sm hl3 (by omega) on (line3 el (daysV fr tt) ks fl qa qb ps (bestK cl cks qc fr tt (pcSum ps))).length
      rw [List.take_length] at this
      exact this
  · rw [if_neg hE] at h3
    subst h3
    intro x hx; cases hx
def ofOf (E : Int) (c : ByteArray) (ls : List Ln) : List Ofr := if E = 0 then [⟨c, sumBy centsOf ls⟩] else []
/-- The offers of some classes, in their order. -/
def OfsIs (rl : List Rt) (el : List Ex) (fl : List Fe) (cl : List Cd) (tl : List Tx) (fr tt : Int) (qa qb : ByteArray) (ks cks : List ByteArray) : List ByteArray → List Ofr → Prop
  | [], os => os = []
  | c :: r, os => ∃ E ls os', QIs rl el fl cl tl c fr tt qa qb ks cks E ls ∧ (∀ x ∈ ls, bdL x) ∧ ls.length ≤ 200 ∧ OfsIs rl el fl cl tl fr tt qa qb ks cks r os' ∧ os = ofOf E c ls ++ os'
theorem ofs_snoc {rl : List Rt} {el : List Ex} {fl : List Fe} {cl : List Cd} {tl : List Tx} {fr tt : Int} {qa qb : ByteArray} {ks cks : List ByteArray} {c : ByteArray} {E : Int} {ls : List Ln} (hq : QIs rl el fl cl tl c fr tt qa qb ks cks E ls) (hb : ∀ x ∈ ls, bdL x) (hl : ls.length ≤ 200) : ∀ {ds : List ByteArray} {os : List Ofr}, OfsIs rl el fl cl tl fr tt qa qb ks cks ds os → OfsIs rl el fl cl tl fr tt qa qb ks cks (ds ++ [c]) (os ++ ofOf E c ls)
  | [], os, h => by
    have h : os = [] := h
    subst h
    exact ⟨E, ls, [], hq, hb, hl, rfl, by simp⟩
  | d :: r, os, ⟨F, ms, o1, h1, hb1, hl1, h2, h3⟩ => ⟨F, ms, o1 ++ ofOf E c ls, h1, hb1, hl1, ofs_snoc hq hb hl h2, by rw [h3, List.append_assoc]⟩
def clsG : List ByteArray → List ByteArray → Int
  | _, [] => 0
  | pre, c :: r => if (!keyB c) = true then 5 else if pre.any (fun y => c.toList == y.toList) = true then 6 else clsG (pre ++ [c]) r
theorem clsG_at {ds : List ByteArray} {i : Nat} {c : ByteArray} (h : ds[i]? = some c) : clsG (ds.take i) (ds.drop i) = if (!keyB c) = true then 5 else if (ds.take i).any (fun y => c.toList == y.toList) = true then 6 else clsG (ds.take (i + 1)) (ds.drop (i + 1)) := by
  obtain ⟨hi, rfl⟩ := List.getElem?_eq_some_iff.1 h
  rw [List.drop_eq_getElem_cons hi, List.take_succ_eq_append_getElem hi]
  rfl
end Go.Proofs.YtdoooppeiphefaaGreatDoor
namespace Go.Proofs.YtdoooppeiphefaaGreatDoor
open Go.RowKit
def offE (rl : List Rt) (el : List Ex) (fl : List Fe) (cl : List Cd) (tl : List Tx) (ds : List ByteArray) (fr tt : Int) (ks : List ByteArray) : Int := firstE [tariffE rl el fl cl tl, clsG [] ds, askE (fun k => el.any (exP k)) ks, timeE fr tt]
theorem offE_one {rl : List Rt} {el : List Ex} {fl : List Fe} {cl : List Cd} {tl : List Tx} {ds : List ByteArray} {fr tt : Int} {ks : List ByteArray} (h : tariffE rl el fl cl tl ≠ 0) : offE rl el fl cl tl ds fr tt ks = tariffE rl el fl cl tl := by unfold offE firstE; rw [if_neg h]
theorem offE_two {rl : List Rt} {el : List Ex} {fl : List Fe} {cl : List Cd} {tl : List Tx} {ds : List ByteArray} {fr tt : Int} {ks : List ByteArray} (h : tariffE rl el fl cl tl = 0) (h2 : clsG [] ds ≠ 0) : offE rl el fl cl tl ds fr tt ks = clsG [] ds := by unfold offE; simp [firstE, h, h2]
theorem offE_three {rl : List Rt} {el : List Ex} {fl : List Fe} {cl : List Cd} {tl : List Tx} {ds : List ByteArray} {fr tt : Int} {ks : List ByteArray} (h : tariffE rl el fl cl tl = 0) (h2 : clsG [] ds = 0) : offE rl el fl cl tl ds fr tt ks = firstE [askE (fun k => el.any (exP k)) ks, timeE fr tt] := by unfold offE; rw [h, h2]; rfl
theorem offers_any (rl : List Rt) (rA : Option Addr) (rn rc : Nat) (el : List Ex) (eA : Option Addr) (en ec : Nat) (fl : List Fe) (fA : Option Addr) (fn fc : Nat) (cl : List Cd) (cA : Option Addr) (cn cc : Nat) (tl : List Tx) (tA : Option Addr) (tn tc : Nat) (ds : List ByteArray) (A0 : Option Addr) (n0 c0 : Nat) (qc : ByteArray) (fr tt : Int) (qa qb : ByteArray) (ks : List ByteArray) (A1 : Option Addr) (n1 c1 : Nat) (cks : List ByteArray) (A2 : Option Addr) (n2 c2 : Nat) (w : World) (hr : SlT rtEnc 7 288 w rA rn rl) (he : SlT exEnc 4 295 w eA en el) (hf : SlT feEnc 3 352 w fA fn fl) (hc : SlT cdEnc 6 354 w cA cn cl) (ht : SlT txEnc 4 298 w tA tn tl) (hons : Ons tl w) (hro : ∀ x ∈ rl, RtOk x) (heo : ∀ x ∈ el, ExOk x) (hfo : ∀ x ∈ fl, FeOk x) (hco : ∀ x ∈ cl, CdOk x) (hto : ∀ x ∈ tl, TxOk x) (hrn : rn ≤ 1000) (hen : en ≤ 1000) (hfn : fn ≤ 1000) (hcn : cn ≤ 1000) (htn : tn ≤ 3) (htc : tn ≤ tc) (hd : SlT sgEnc 1 9 w A0 n0 ds) (hn0 : n0 ≤ 12) (hnc0 : n0 ≤ c0) (hdz : ∀ x ∈ ds, x.size ≤ 1000000) (hs : SlT sgEnc 1 9 w A1 n1 ks) (hs2 : SlT sgEnc 1 9 w A2 n2 cks) (hn1 : n1 ≤ c1) (hn2 : n2 ≤ c2) (hz : qc.size ≤ 1000000 ∧ qa.size ≤ 1000000 ∧ qb.size ≤ 1000000) (hn10 : n1 ≤ 1000000) (hn20 : n2 ≤ 1000000) (hch : CheapR rl) :
  Calls Tryz.prog 40 #[.agg #[.slice rA rn rc, .slice eA en ec, .slice fA fn fc, .slice cA cn cc, .slice tA tn tc], .slice A0 n0 c0, .agg #[.string qc, .int .i64 fr, .int .i64 tt, .string qa, .string qb, .slice A1 n1 c1, .slice A2 n2 c2]] w (fun e w' => ∃ (A : Option Addr) (n c : Nat) (os : List Ofr), e = .returned (.tuple #[.slice A n c, .int .i64 (offE rl el fl cl tl ds fr tt ks)]) ∧ SlT ofEnc 2 103 w' A n os ∧ n ≤ 12 ∧ ((offE rl el fl cl tl ds fr tt ks) = 0 → ∃ us, OfsIs rl el fl cl tl fr tt qa qb ks cks ds us ∧ os = isort ltO us) ∧ ((offE rl el fl cl tl ds fr tt ks) ≠ 0 → os = []) ∧ w.grownBy w' none) := by
 refine gw_enter ⟨87, w, none, [88]⟩ Tryz.func40 rfl Tryz.ntmps40 rfl (mem0 (X := [SlOld rtEnc 7 288 w.heap.size none rA rn rl, SlOld exEnc 4 295 w.heap.size none eA en el, SlOld feEnc 3 352 w.heap.size none fA fn fl, SlOld cdEnc 6 354 w.heap.size none cA cn cl, SlOld txEnc 4 298 w.heap.size none tA tn tl, OnsOld w.heap.size none tl, SlOld sgEnc 1 9 w.heap.size none A1 n1 ks, SlOld sgEnc 1 9 w.heap.size none A2 n2 cks, SlOld sgEnc 1 9 w.heap.size none A0 n0 ds]) (allF_cons hr.old (allF_cons he.old (allF_cons hf.old (allF_cons hc.old (allF_cons ht.old (allF_cons hons.old (allF_cons hs.old (allF_cons hs2.old (allF_cons hd.old allF_nil))))))))) (allL_cons SlOld.lasts (allL_cons SlOld.lasts (allL_cons SlOld.lasts (allL_cons SlOld.lasts (allL_cons SlOld.lasts (allL_cons OnsOld.lasts (allL_cons SlOld.lasts (allL_cons SlOld.lasts (allL_cons SlOld.lasts allL_nil)))))))))) ?_
 refine sr_ ?_
 obtain ⟨TE, hTE⟩ : ∃ E, E = tariffE rl el fl cl tl := ⟨_, rfl⟩
 obtain ⟨AE, hAE⟩ : ∃ E, E = askE (fun k => el.any (exP k)) ks := ⟨_, rfl⟩
 obtain ⟨OE, hOE⟩ : ∃ E, E = offE rl el fl cl tl ds fr tt ks := ⟨_, rfl⟩
 rw [← hOE]
 have hdl := hd.len
 refine wl_box rfl rfl rfl fun g1 => ?_
 refine wl_box rfl rfl rfl fun g2 => ?_
 refine sg_ rfl (sg_ rfl (nn_ (gw_seq (sr_ ?_))))
 refine wl_ov (ov_loads rz77 rfl (fun _ hm => hm.blkI 1 rfl) rfl rfl) rfl ?_
 refine wl_callv (v := .int .i64 TE) rfl cb101 rfl rfl (fun wx hm => (by rw [hTE]; exact tcheck_any rl rA rn rc el eA en ec fl fA fn fc cl cA cn cc tl tA tn tc wx (hm.fact 0 rfl).1 (hm.fact 1 rfl).1 (hm.fact 2 rfl).1 (hm.fact 3 rfl).1 (hm.fact 4 rfl).1 (OnsOld.ons (hm.fact 5 rfl)) hro heo hfo hco hto hrn hen hfn hcn htn htc)) ?_
 refine mv_ rfl (wl_ov (ov_len es79 rfl) rfl ?_)
 refine wl_ov (ov_gtr rfl rfl) rfl ?_
 refine wl_set 22 (v' := .bool false) rfl (congrArg Value.bool (decide_eq_false (by omega))) ?_
 refine wl_callw rfl cb67 rfl rfl (fun wx hm => (when_any _ _ wx)) ?_
 refine wl_buildSlice (e := 33) (cs := [.int .i64 TE, .int .i64 (whenE false 2)]) rfl (by kernel_rfl) rfl fun g3 => ?_
 refine wl_callw rfl cb66 rfl rfl (fun wx hm => (first_any [TE, whenE false 2] _ _ _ wx (hm.blkI 0 rfl) (by simp))) ?_
 refine sg_ rfl (nn_ (sr_ (mv_ rfl (wl_ov (ov_neq rfl rfl) rfl (nn_ ?_)))))
 refine gw_cond rfl (fun hh => ?_) (fun hh => ?_)
 ·have h1 : ¬ (firstE [TE, whenE false 2] = 0) := by simpa using hh
  clear hh
  refine sr_ ?_
  have h2 : TE ≠ 0 := fun e => h1 (by rw [e]; rfl)
  have h3 : firstE [TE, whenE false 2] = TE := by unfold firstE; rw [if_neg h2]
  have h4 : OE = TE := by rw [hOE, offE_one (by rw [← hTE]; exact h2), hTE]
  refine mv_ rfl (sg_ rfl (sg_ rfl (nn_ ?_)))
  refine gw_ret ?_
  refine nx_then_ret ?_
  refine nx_ret2 rfl rfl rfl fun wx hm => ?_
  exact ⟨none, 0, 0, [], by rw [h3, h4], SlT.nil_ _ _, Nat.zero_le _, fun h => absurd h (by rw [h4]; exact h2), fun _ => rfl, hm.g⟩
 have h1 : firstE [TE, whenE false 2] = 0 := by simpa using hh
 clear hh
 refine gw_skip (nx_then (gw_seq (sr_ ?_)))
 have h2 : TE = 0 := fe_all h1 TE (by simp)
 have h0 : tariffE rl el fl cl tl = 0 := hTE.symm.trans h2
 refine mv_ rfl (wl_ov (ov_len es79 rfl) rfl (mv_ rfl (nn_ (gw_block ?_))))
 refine gw_loop (γ := Nat) (fun (i : Nat) => i ≤ n0 ∧ clsG [] ds = clsG (ds.take i) (ds.drop i)) (fun (i : Nat) => [(1, .slice A0 n0 c0), (3, .pointer (some ⟨g1, 0, none⟩)), (5, .pointer (some ⟨g2, 0, none⟩)), (29, .slice A0 n0 c0), (30, .int .i64 ((n0 : Nat) : Int)), (31, .int .i64 ((i : Nat) : Int))]) (fun (i : Nat) => fun _ => True) (fun (i : Nat) => [(g3, 33, [.int .i64 TE, .int .i64 (whenE false 2)]), (g2, 81, [.string qc, .int .i64 fr, .int .i64 tt, .string qa, .string qb, .slice A1 n1 c1, .slice A2 n2 c2]), (g1, 77, [.slice rA rn rc, .slice eA en ec, .slice fA fn fc, .slice cA cn cc, .slice tA tn tc])]) (fun (i : Nat) => []) (fun (i : Nat) => [SlOld rtEnc 7 288 w.heap.size none rA rn rl, SlOld exEnc 4 295 w.heap.size none eA en el, SlOld feEnc 3 352 w.heap.size none fA fn fl, SlOld cdEnc 6 354 w.heap.size none cA cn cl, SlOld txEnc 4 298 w.heap.size none tA tn tl, OnsOld w.heap.size none tl, SlOld sgEnc 1 9 w.heap.size none A1 n1 ks, SlOld sgEnc 1 9 w.heap.size none A2 n2 cks, SlOld sgEnc 1 9 w.heap.size none A0 n0 ds]) (fun (i : Nat) => n0 - i) 0 ⟨Nat.zero_le _, rfl⟩ ⟨rfl, rfl, rfl, rfl, rfl, rfl, trivial⟩ (fun _ hm => hm.pick [0, 1, 2] [] [0, 1, 2, 3, 4, 5, 6, 7, 8] rfl rfl) ?_
 intro i hinv
 replace hinv : i ≤ n0 ∧ clsG [] ds = clsG (ds.take i) (ds.drop i) := hinv
 refine sr_ (wl_ov (ov_lss rfl rfl) rfl (nn_ (gw_seq ?_)))
 refine gw_cond rfl (fun hh => ?_) (fun hh => ?_)
 ·have hi : ((i : Nat) : Int) < ((n0 : Nat) : Int) := by simpa using hh
  clear hh
  refine gw_skip (nx_then (gw_seq (gw_block (sr_ ?_))))
  obtain ⟨b0, o0, hA, _, _⟩ := hd.get (by omega)
  subst hA
  obtain ⟨kc, hx⟩ : ∃ x, ds[i]? = some x := ⟨_, List.getElem?_eq_getElem (by omega)⟩
  have hkc : kc.size ≤ 1000000 := hdz _ (List.mem_of_getElem? hx)
  have hat := clsG_at hx
  refine mv_ rfl ?_
  refine wl_ov (ov_index (j := i) es79 rfl rfl (by omega)) rfl ?_
  refine wl_ov (ov_elem1 (k := 0) (v := .string kc) sc9 rfl (fun _ hm => (hm.fact 8 rfl).1) hx rfl rfl) rfl ?_
  refine sg_ rfl (sg_ rfl (nn_ (gw_block (sr_ (mv_ rfl ?_)))))
  refine wl_callw rfl cb112 rfl rfl (fun wx hm => (isKey_any _ wx (by omega))) ?_
  refine wl_ov (ov_un_not rfl) rfl (sg_ rfl (nn_ ?_))
  refine gw_cond rfl (fun hh => ?_) (fun hh => ?_)
  ·have h5 : (keyB kc) = false := by simpa using hh
   clear hh
   refine sr_ ?_
   have h6 : clsG [] ds = 5 := by rw [hinv.2, hat, if_pos (show (!keyB kc) = true by rw [h5]; rfl)]
   have h7 : OE = 5 := by rw [hOE, offE_two h0 (by rw [h6]; decide), h6]
   refine sg_ rfl (sg_ rfl (nn_ ?_))
   refine gw_ret ?_
   refine nx_blk_ret (nx_blk_ret (nx_then_ret (nx_then_ret (nx_blk_ret (nx_then_ret ?_)))))
   refine nx_ret2 rfl rfl rfl fun wx hm => ?_
   exact ⟨none, 0, 0, [], by rw [h7], SlT.nil_ _ _, Nat.zero_le _, fun h => absurd h (by rw [h7]; decide), fun _ => rfl, hm.g⟩
  have h5 : (keyB kc) = true := by simpa using hh
  clear hh
  refine sr_ (mv_ rfl (mv_ rfl ?_))
  refine wl_ov (ov_sliceHi (hi := i) es79 rfl rfl rfl (by omega)) rfl ?_
  refine mv_ rfl ?_
  refine wl_callv rfl cb113 rfl rfl (fun wx hm => (contains_str (ds.take i) _ i c0 kc wx (SlT.takeT (hm.fact 8 rfl).1 (by omega)) (by omega))) ?_
  refine sg_ rfl (nn_ ?_)
  refine gw_cond rfl (fun hh => ?_) (fun hh => ?_)
  ·have h8 : ((ds.take i).any (fun y => kc.toList == y.toList)) = true := by simpa using hh
   clear hh
   refine sr_ ?_
   have h6 : clsG [] ds = 6 := by rw [hinv.2, hat, if_neg (show ¬ (!keyB kc) = true by simpa using h5), if_pos h8]
   have h7 : OE = 6 := by rw [hOE, offE_two h0 (by rw [h6]; decide), h6]
   refine sg_ rfl (sg_ rfl (nn_ ?_))
   refine gw_ret ?_
   refine nx_blk_ret (nx_blk_ret (nx_then_ret (nx_then_ret (nx_blk_ret (nx_then_ret ?_)))))
   refine nx_ret2 rfl rfl rfl fun wx hm => ?_
   exact ⟨none, 0, 0, [], by rw [h7], SlT.nil_ _ _, Nat.zero_le _, fun h => absurd h (by rw [h7]; decide), fun _ => rfl, hm.g⟩
  have h8 : ((ds.take i).any (fun y => kc.toList == y.toList)) = false := by simpa using hh
  clear hh
  refine gw_skip (nx_blk_nrm (nx_blk_nrm (nx_then (gw_region ?_))))
  have hst : clsG [] ds = clsG (ds.take (i + 1)) (ds.drop (i + 1)) := by rw [hinv.2, hat, if_neg (show ¬ (!keyB kc) = true by simpa using h5), if_neg (by rw [h8]; decide)]
  refine ad_ rfl rfl (mv_ rfl (wl_nil ?_))
  exact nx_round (i + 1) ⟨by omega, hst⟩ (by omega) ⟨rfl, rfl, rfl, rfl, rfl, (some_int (by omega)), trivial⟩ (fun _ hm => hm.pick [0, 1, 2] [] [0, 1, 2, 3, 4, 5, 6, 7, 8] rfl rfl)
 have hi : ¬ (((i : Nat) : Int) < ((n0 : Nat) : Int)) := by simpa using hh
 clear hh
 refine gw_exit ?_
 refine nx_then_exit (nx_then_exit ?_)
 refine nx_blk_here ?_
 refine nx_then (gw_seq ?_)
 have hcz : clsG [] ds = 0 := by rw [hinv.2, List.drop_eq_nil_of_le (by omega)]; rfl
 have hO3 : OE = firstE [AE, timeE fr tt] := by rw [hOE, offE_three h0 hcz, hAE]
 refine gw_cut (γ := Unit) (I := (fun (uu : Unit) => True)) (S' := (fun (uu : Unit) => [(1, .slice A0 n0 c0), (3, .pointer (some ⟨g1, 0, none⟩)), (5, .pointer (some ⟨g2, 0, none⟩)), (11, .int .i64 OE)])) (K' := (fun (uu : Unit) => fun _ => True)) (L' := (fun (uu : Unit) => [(g3, 33, [.int .i64 TE, .int .i64 (whenE false 2)]), (g2, 81, [.string qc, .int .i64 fr, .int .i64 tt, .string qa, .string qb, .slice A1 n1 c1, .slice A2 n2 c2]), (g1, 77, [.slice rA rn rc, .slice eA en ec, .slice fA fn fc, .slice cA cn cc, .slice tA tn tc])])) (O' := (fun (uu : Unit) => [])) (X' := (fun (uu : Unit) => [SlOld rtEnc 7 288 w.heap.size none rA rn rl, SlOld exEnc 4 295 w.heap.size none eA en el, SlOld feEnc 3 352 w.heap.size none fA fn fl, SlOld cdEnc 6 354 w.heap.size none cA cn cl, SlOld txEnc 4 298 w.heap.size none tA tn tl, OnsOld w.heap.size none tl, SlOld sgEnc 1 9 w.heap.size none A1 n1 ks, SlOld sgEnc 1 9 w.heap.size none A2 n2 cks, SlOld sgEnc 1 9 w.heap.size none A0 n0 ds])) ?_ ?_
 ·refine gd (fun wz => Blk wz g3 33 [.int .i64 TE, .int .i64 (whenE false 2)] ∧ Blk wz g2 81 [.string qc, .int .i64 fr, .int .i64 tt, .string qa, .string qb, .slice A1 n1 c1, .slice A2 n2 c2] ∧ Blk wz g1 77 [.slice rA rn rc, .slice eA en ec, .slice fA fn fc, .slice cA cn cc, .slice tA tn tc] ∧ (SlOld rtEnc 7 288 w.heap.size none rA rn rl) wz ∧ (SlOld exEnc 4 295 w.heap.size none eA en el) wz ∧ (SlOld feEnc 3 352 w.heap.size none fA fn fl) wz ∧ (SlOld cdEnc 6 354 w.heap.size none cA cn cl) wz ∧ (SlOld txEnc 4 298 w.heap.size none tA tn tl) wz ∧ (OnsOld w.heap.size none tl) wz ∧ (SlOld sgEnc 1 9 w.heap.size none A1 n1 ks) wz ∧ (SlOld sgEnc 1 9 w.heap.size none A2 n2 cks) wz ∧ (SlOld sgEnc 1 9 w.heap.size none A0 n0 ds) wz ∧ True) mixed (fun _ hm => ⟨hm.bl 0, hm.bl 1, hm.bl 2, hm.fa 0, hm.fa 1, hm.fa 2, hm.fa 3, hm.fa 4, hm.fa 5, hm.fa 6, hm.fa 7, hm.fa 8, trivial⟩) fun z => ?_
  refine wt 0 10 1 rfl z (ov_loads rz77 rfl (fun _ hm => hm.2.2.1) rfl rfl) ?_
  refine wt 1 10 3 rfl z (ov_field fo81_4 rfl rfl) ?_
  refine wt 2 10 7 rfl z (ov_load sc79 rfl (fun _ hm => hm.2.1) rfl) ?_
  refine wt 4 10 23 rfl z (ov_field fo81_1 rfl rfl) ?_
  refine wt 5 10 55 rfl z (ov_loads rz39 rfl (fun _ hm => hm.2.1) rfl rfl) ?_
  refine wa1 3 rfl ?_
  refine wl_callv (v := .int .i64 AE) rfl cb102 rfl rfl (fun wx hm => (by rw [hAE]; exact askedExtras_any el eA en ec rA fA cA tA rn rc fn fc cn cc tn tc ks A1 n1 c1 wx (hm.fact 1 rfl).1 hen (hm.fact 6 rfl).1 hn10 hn1)) ?_
  refine wl_nil ?_
  refine nw 10 63 (fun _ hm => ⟨hm.bl 0, hm.bl 1, hm.bl 2, hm.fa 0, hm.fa 1, hm.fa 2, hm.fa 3, hm.fa 4, hm.fa 5, hm.fa 6, hm.fa 7, hm.fa 8, trivial⟩) fun z => ?_
  refine wa1 6 rfl ?_
  refine wl_callv rfl cb114 rfl rfl (fun wx hm => (time_any _ _ wx)) ?_
  refine wl_nil ?_
  refine nw 10 127 (fun _ hm => ⟨hm.bl 0, hm.bl 1, hm.bl 2, hm.fa 0, hm.fa 1, hm.fa 2, hm.fa 3, hm.fa 4, hm.fa 5, hm.fa 6, hm.fa 7, hm.fa 8, trivial⟩) fun z => ?_
  refine wa1 7 rfl ?_
  refine wl_buildSlice (e := 33) (cs := [.int .i64 AE, .int .i64 (timeE fr tt)]) rfl (by kernel_rfl) rfl fun g4 => ?_
  refine wl_nil ?_
  refine nw 10 255 (fun _ hm => ⟨hm.bl 1, hm.bl 2, hm.bl 3, hm.fa 0, hm.fa 1, hm.fa 2, hm.fa 3, hm.fa 4, hm.fa 5, hm.fa 6, hm.fa 7, hm.fa 8, trivial⟩) fun z => ?_
  refine wa1 8 rfl ?_
  refine wl_callw rfl cb66 rfl rfl (fun wx hm => (first_any [AE, timeE fr tt] _ _ _ wx (hm.blkI 0 rfl) (by simp))) ?_
  refine wl_nil ?_
  refine nw 10 511 (fun _ hm => ⟨hm.bl 1, hm.bl 2, hm.bl 3, hm.fa 0, hm.fa 1, hm.fa 2, hm.fa 3, hm.fa 4, hm.fa 5, hm.fa 6, hm.fa 7, hm.fa 8, trivial⟩) fun z => ?_
  refine wt 9 10 1023 rfl z (ov_assign rfl) ?_
  refine wa_done (by kernel_rfl) ?_
  exact nx_meet () trivial ⟨rfl, rfl, rfl, (some_int hO3.symm), trivial⟩ (fun _ hm => hm.pick [1, 2, 3] [] [0, 1, 2, 3, 4, 5, 6, 7, 8] rfl rfl)
 intro uu hinv
 replace hinv : True := hinv
 refine sr_ (mv_ rfl (wl_ov (ov_neq rfl rfl) rfl (nn_ ?_)))
 refine gw_cond rfl (fun hh => ?_) (fun hh => ?_)
 ·have h9 : ¬ (OE = 0) := by simpa using hh
  clear hh
  refine sr_ ?_
  have h10 : OE ≠ 0 := by simpa using h9
  refine mv_ rfl (sg_ rfl (sg_ rfl (nn_ ?_)))
  refine gw_ret ?_
  refine nx_then_ret ?_
  refine nx_ret2 rfl rfl rfl fun wx hm => ?_
  exact ⟨none, 0, 0, [], rfl, SlT.nil_ _ _, Nat.zero_le _, fun h => absurd h h10, fun _ => rfl, hm.g⟩
 have h9 : OE = 0 := by simpa using hh
 clear hh
 refine gw_skip (nx_then (sr_ ?_))
 have h10 : OE = 0 := by simpa using h9
 have hfz := hO3.symm.trans h10
 have hask : askE (fun k => el.any (exP k)) ks = 0 := hAE.symm.trans (fe_all hfz AE (by simp))
 have htl3 : tl.length ≤ 3 := by have := ht.len; omega
 obtain ⟨hzc, hza, hzb⟩ := hz
 refine wl_nilOwn 103 2 ?_
 refine sg_ rfl (nn_ (gw_seq (sr_ (mv_ rfl (wl_ov (ov_len es79 rfl) rfl (mv_ rfl (nn_ (gw_block ?_))))))))
 refine gw_loop (γ := Nat × Nat × Value × List Ofr × List Value) (fun g => (g.1 ≤ n0 ∧ g.2.1 ≤ g.1) ∧ g.2.2.2.1.length = g.2.1 ∧ OfsIs rl el fl cl tl fr tt qa qb ks cks (ds.take g.1) g.2.2.2.1 ∧ g.2.2.2.2 = g.2.2.2.1.flatMap ofEnc) (fun g => [(3, .pointer (some ⟨g1, 0, none⟩)), (5, .pointer (some ⟨g2, 0, none⟩)), (12, g.2.2.1), (59, .slice A0 n0 c0), (60, .int .i64 ((n0 : Nat) : Int)), (61, .int .i64 ((g.1 : Nat) : Int))]) (fun g => fun _ => True) (fun g => [(g3, 33, [.int .i64 TE, .int .i64 (whenE false 2)]), (g2, 81, [.string qc, .int .i64 fr, .int .i64 tt, .string qa, .string qb, .slice A1 n1 c1, .slice A2 n2 c2]), (g1, 77, [.slice rA rn rc, .slice eA en ec, .slice fA fn fc, .slice cA cn cc, .slice tA tn tc])]) (fun g => [⟨g.2.2.1, 103, 2, g.2.1, g.2.2.2.2⟩]) (fun g => [SlOld rtEnc 7 288 w.heap.size none rA rn rl, SlOld exEnc 4 295 w.heap.size none eA en el, SlOld feEnc 3 352 w.heap.size none fA fn fl, SlOld cdEnc 6 354 w.heap.size none cA cn cl, SlOld txEnc 4 298 w.heap.size none tA tn tl, OnsOld w.heap.size none tl, SlOld sgEnc 1 9 w.heap.size none A1 n1 ks, SlOld sgEnc 1 9 w.heap.size none A2 n2 cks, SlOld sgEnc 1 9 w.heap.size none A0 n0 ds]) (fun g => n0 - g.1) (0, 0, .slice none 0 0, [], []) ⟨⟨Nat.zero_le _, Nat.le_refl _⟩, rfl, rfl, rfl⟩ ⟨rfl, rfl, rfl, rfl, rfl, rfl, trivial⟩ (fun _ hm => hm.pick [0, 1, 2] [0] [0, 1, 2, 3, 4, 5, 6, 7, 8] rfl rfl) ?_
 rintro ⟨i, k, v, us, xs⟩ hinv
 replace hinv : (i ≤ n0 ∧ k ≤ i) ∧ us.length = k ∧ OfsIs rl el fl cl tl fr tt qa qb ks cks (ds.take i) us ∧ xs = us.flatMap ofEnc := hinv
 dsimp only
 refine sr_ ?_
 obtain ⟨⟨hi1, hi2⟩, hul, hus, rfl⟩ := hinv
 refine wl_ov (ov_lss rfl rfl) rfl (nn_ (gw_seq ?_))
 refine gw_cond rfl (fun hh => ?_) (fun hh => ?_)
 ·have hi : ((i : Nat) : Int) < ((n0 : Nat) : Int) := by simpa using hh
  clear hh
  refine gw_skip (nx_then (gw_seq (gw_block (sr_ ?_))))
  obtain ⟨b0, o0, hA, _, _⟩ := hd.get (by omega)
  subst hA
  obtain ⟨kc, hx⟩ : ∃ x, ds[i]? = some x := ⟨_, List.getElem?_eq_getElem (by omega)⟩
  have hkc : kc.size ≤ 1000000 := hdz _ (List.mem_of_getElem? hx)
  have htk : ds.take (i + 1) = ds.take i ++ [kc] := by rw [List.take_add_one, hx]; rfl
  refine wl_ov (ov_index (j := i) es79 rfl rfl (by omega)) rfl ?_
  refine wl_ov (ov_elem1 (k := 0) (v := .string kc) sc9 rfl (fun _ hm => (hm.fact 8 rfl).1) hx rfl rfl) rfl ?_
  refine sg_ rfl (nn_ (sr_ ?_))
  refine wl_ov (ov_loads rz81 rfl (fun _ hm => hm.blkI 1 rfl) rfl rfl) rfl ?_
  refine wl_alloc zc81 rfl fun g5 => ?_
  refine wl_stores (cs' := [.string qc, .int .i64 fr, .int .i64 tt, .string qa, .string qb, .slice A1 n1 c1, .slice A2 n2 c2]) 0 rz81 rfl rfl rfl rfl rfl rfl rfl rfl ?_
  refine nn_ (sr_ (mv_ rfl (fd_ fo81_0 rfl rfl ?_)))
  refine wl_store 0 sc9 rfl rfl rfl rfl rfl rfl ?_
  refine nn_ (sr_ ?_)
  refine wl_ov (ov_loads rz77 rfl (fun _ hm => hm.blkI 3 rfl) rfl rfl) rfl ?_
  refine wl_ov (ov_loads rz81 rfl (fun _ hm => hm.blkI 0 rfl) rfl rfl) rfl ?_
  refine wl_callx (γ := Option Addr × Nat × Nat × List Ln × Int) (val := (fun g => .tuple #[.slice g.1 g.2.1 g.2.2.1, .int .i64 g.2.2.2.2])) (φ := (fun g => g.2.1 ≤ 200 ∧ QIs rl el fl cl tl kc fr tt qa qb ks cks g.2.2.2.2 g.2.2.2.1 ∧ g.2.2.2.1.length = g.2.1)) (Y := (fun g => fun wy => SlT lnEnc 3 88 wy g.1 g.2.1 g.2.2.2.1)) rfl cb103 rfl rfl (fun wx hm => (quote_any rl rA rn rc el eA en ec fl fA fn fc cl cA cn cc tl tA tn tc kc fr tt qa qb ks A1 n1 c1 cks A2 n2 c2 wx (hm.fact 0 rfl).1 (hm.fact 1 rfl).1 (hm.fact 2 rfl).1 (hm.fact 3 rfl).1 (hm.fact 4 rfl).1 (OnsOld.ons (hm.fact 5 rfl)) hro heo hfo hco hto hrn hen hfn hcn htn htc (hm.fact 6 rfl).1 (hm.fact 7 rfl).1 hn1 hn2 ⟨hkc, hza, hzb⟩ hn10 hn20 h0 hch hask).mono fun _ _ ⟨A, n, c, ls, E, he, hs, hn, hq, hg⟩ => ⟨(A, n, c, ls, E), he, ⟨hn, hq, hs.len⟩, hg, hs⟩) (fun _ => SlT.lasts2 rfl) ?_
  rintro ⟨A9, n9, c9, ls, E⟩ hq9
  dsimp only at hq9 ⊢
  obtain ⟨hn9, hqi, hl9⟩ := hq9
  have hbd : ∀ x ∈ ls, bdL x := qis_sm h0 hch hask htl3 hqi
  have hsn := ofs_snoc hqi hbd (by omega) hus
  rw [← htk] at hsn
  refine mv_ rfl (wl_ov (ov_extract rfl rfl) rfl (wl_ov (ov_extract rfl rfl) rfl (sg_ rfl (sg_ rfl (nn_ (sr_ (mv_ rfl (wl_ov (ov_eql rfl rfl) rfl (nn_ ?_)))))))))
  refine gw_cond rfl (fun hh => ?_) (fun hh => ?_)
  ·have hE : E = 0 := by simpa using hh
   clear hh
   refine gw_region ?_
   have hE2 : ofOf E kc ls = [⟨kc, sumBy centsOf ls⟩] := by unfold ofOf; rw [if_pos (by simpa using hE)]
   rw [hE2] at hsn
   obtain ⟨SV, hSV⟩ : ∃ v, v = sumBy centsOf ls := ⟨_, rfl⟩
   rw [← hSV] at hsn
   refine mv_ rfl (mv_ rfl (mv_ rfl ?_))
   refine wl_callv (v := .int .i64 SV) rfl cb115 rfl rfl (fun wx hm => (by rw [hSV]; exact sum_any ls A9 n9 c9 wx (hm.fact 0 rfl) hbd (by omega))) ?_
   refine wl_ov (ov_build (cs := [.string kc, .int .i64 SV]) rfl (by kernel_rfl)) rfl ?_
   refine wl_buildSlice (e := 103) (cs := [.string kc, .int .i64 SV]) rfl (by kernel_rfl) rfl fun g6 => ?_
   refine wl_append (news := [.string kc, .int .i64 SV]) 0 0 ap98 rfl rfl rfl rfl rfl rfl rfl (by omega) (by unfold maxLen; omega) rfl rfl fun v2 hv2 => ?_
   refine sg_ rfl (wl_nil (nx_blk_nrm (nx_then (gw_region (ad_ rfl rfl (mv_ rfl (wl_nil ?_)))))))
   exact nx_round (i + 1, k + 1, v2, us ++ [⟨kc, SV⟩], us.flatMap ofEnc ++ ([.string kc, .int .i64 SV] : List Value)) ⟨⟨by dsimp only; omega, by dsimp only; omega⟩, by simp [hul], hsn, by simp [ofEnc]⟩ (by dsimp only; omega) ⟨rfl, rfl, rfl, rfl, rfl, (some_int (by omega)), trivial⟩ (fun _ hm => hm.pick [2, 3, 4] [0] [1, 2, 3, 4, 5, 6, 7, 8, 9] rfl rfl)
  have hE : ¬ (E = 0) := by simpa using hh
  clear hh
  refine gw_skip (nx_blk_nrm (nx_then (gw_region ?_)))
  have hE2 : ofOf E kc ls = [] := by unfold ofOf; rw [if_neg (by simpa using hE)]
  rw [hE2, List.append_nil] at hsn
  refine ad_ rfl rfl (mv_ rfl (wl_nil ?_))
  exact nx_round (i + 1, k, v, us, us.flatMap ofEnc) ⟨⟨by dsimp only; omega, by dsimp only; omega⟩, hul, hsn, rfl⟩ (by dsimp only; omega) ⟨rfl, rfl, rfl, rfl, rfl, (some_int (by omega)), trivial⟩ (fun _ hm => hm.pick [1, 2, 3] [0] [1, 2, 3, 4, 5, 6, 7, 8, 9] rfl rfl)
 have hi : ¬ (((i : Nat) : Int) < ((n0 : Nat) : Int)) := by simpa using hh
 clear hh
 refine gw_exit ?_
 refine nx_then_exit (nx_then_exit ?_)
 refine nx_blk_here ?_
 refine nx_then (sr_ ?_)
 have hall : ds.take i = ds := List.take_of_length_le (by omega)
 rw [hall] at hus
 by_cases hk0 : k = 0
 ·subst hk0
  obtain rfl : us = [] := List.length_eq_zero_iff.1 hul
  refine wl_look (R := ∃ A cc, v = .slice A 0 cc) (fun wx hm => own_slice (hm.ownI 0 rfl)) ?_
  rintro ⟨A5, c5, rfl⟩
  refine mv_ rfl ?_
  refine wl_callv rfl cb116 rfl rfl (fun wx hm => (sort0_off1 _ _ wx)) ?_
  refine nn_ (sr_ (mv_ rfl (sg_ rfl (sg_ rfl (nn_ ?_)))))
  refine gw_ret ?_
  refine nx_ret2 rfl rfl rfl fun wx hm => ?_
  exact ⟨A5, 0, c5, isort ltO [], by rw [h10], SlT.ofOwn of_len (hm.ownI 0 rfl) (by rw [isort_len]; exact hul), by omega, fun _ => ⟨[], hus, rfl⟩, fun h => absurd h10 h, hm.g⟩
 refine wl_look (R := ∃ A cc, v = .slice A k cc) (fun wx hm => own_slice (hm.ownI 0 rfl)) ?_
 rintro ⟨A5, c5, rfl⟩
 refine wl_look (R := ∃ g, A5 = some ⟨g, 0, none⟩) (fun wx hm => own_addr (hm.ownI 0 rfl) (by omega)) ?_
 rintro ⟨g5, rfl⟩
 refine mv_ rfl ?_
 refine wl_callr (v := .tuple #[]) (xs' := (isort ltO us).flatMap ofEnc) 0 rfl rfl rfl cb116 rfl rfl (fun wx hm => (sort_off1 us g5 k c5 _ wx (hm.ownI 0 rfl) hul (by omega) )) ?_
 refine nn_ (sr_ (mv_ rfl (sg_ rfl (sg_ rfl (nn_ ?_)))))
 refine gw_ret ?_
 refine nx_ret2 rfl rfl rfl fun wx hm => ?_
 exact ⟨(some ⟨g5, 0, none⟩), k, c5, isort ltO us, by rw [h10], SlT.ofOwn of_len (hm.ownI 0 rfl) (by rw [isort_len]; exact hul), by omega, fun _ => ⟨us, hus, rfl⟩, fun h => absurd h10 h, hm.g⟩
end Go.Proofs.YtdoooppeiphefaaGreatDoor
namespace Go.Proofs.YtdoooppeiphefaaGreatDoor
open Go.RowKit
set_option maxRecDepth 100000 in
theorem same_offer_neq (x0 : ByteArray) (x1 : Int) (w : World) : (binOp .neq 103 (.agg #[.string x0, .int .i64 x1]) (.agg #[.string x0, .int .i64 x1])).run Tryz.prog w = .ok (.bool false) w := by
  have hS : Tryz.prog.underlying 103 = some (.struct (Tryz.prog.fieldsOf 103)) := by kernel_rfl
  have hp : Tryz.prog.stoodInHeld 103 = false := by kernel_rfl
  rw [run_neq_struct, show (10000 : Nat) = 9999 + 1 from rfl, run_equalIn_agg w 9999 103 _ _ hS hp]
  simp only [Program.fieldsOf, Tryz.underlying103]
  have u3 := Tryz.underlying3
  have u9 := Tryz.underlying9
  clear hS hp
  go_simp
theorem guard_offer : Tryz.prog.eqGuardType Tryz.prog.depth 103 = false := by kernel_rfl
theorem equal_offer_any (l : List Ofr) (A1 A2 : Option Addr) (n c1 c2 : Nat) (w : World) (h1 : SlT ofEnc 2 103 w A1 n l) (h2 : SlT ofEnc 2 103 w A2 n l) (hn : n ≤ 1000000) :
  Calls Tryz.prog 41 #[.slice A1 n c1, .slice A2 n c2] w (fun e w' => e = .returned (.bool true) ∧ w.grownBy w' none) := by
 refine gw_enter ⟨26, w, none, []⟩ Tryz.func41 rfl Tryz.ntmps41 rfl (mem0 (X := [SlOld ofEnc 2 103 w.heap.size none A1 n l, SlOld ofEnc 2 103 w.heap.size none A2 n l]) (allF_cons h1.old (allF_cons h2.old allF_nil)) (allL_cons SlOld.lasts (allL_cons SlOld.lasts allL_nil))) ?_
 refine sr_ ?_
 have hlen := h1.len
 refine sg_ rfl (nn_ (gw_seq (sr_ (mv_ rfl (wl_ov (ov_len es98 rfl) rfl (mv_ rfl (wl_ov (ov_len es98 rfl) rfl (wl_ov (ov_neq rfl rfl) rfl ?_))))))))
 refine wl_set 10 (v' := .bool false) rfl (congrArg Value.bool (by simp)) ?_
 refine nn_ (cf_ rfl (gw_skip (nx_then (gw_seq (sr_ (mv_ rfl (wl_ov (ov_len es98 rfl) rfl (mv_ rfl (nn_ (gw_block ?_))))))))))
 refine gw_loop (γ := Nat) (fun (k : Nat) => k ≤ n) (fun (k : Nat) => [(0, .slice A1 n c1), (1, .slice A2 n c2), (12, .int .i64 ((n : Nat) : Int)), (13, .int .i64 ((k : Nat) : Int))]) (fun (k : Nat) => fun _ => True) (fun (k : Nat) => []) (fun (k : Nat) => []) (fun (k : Nat) => [SlOld ofEnc 2 103 w.heap.size none A1 n l, SlOld ofEnc 2 103 w.heap.size none A2 n l]) (fun (k : Nat) => n - k) 0 (Nat.zero_le _) ⟨rfl, rfl, rfl, rfl, trivial⟩ (fun _ hm => hm.pick [] [] [0, 1] rfl rfl) ?_
 intro k hinv
 replace hinv : k ≤ n := hinv
 refine sr_ (wl_ov (ov_lss rfl rfl) rfl (nn_ (gw_seq ?_)))
 refine gw_cond rfl (fun hh => ?_) (fun hh => ?_)
 ·have hk : ((k : Nat) : Int) < ((n : Nat) : Int) := by simpa using hh
  clear hh
  refine gw_skip (nx_then (gw_seq (gw_block (sr_ ?_))))
  obtain ⟨b1, o1, hA, _, _⟩ := h1.get (by omega)
  subst hA
  obtain ⟨b2, o2, hA, _, _⟩ := h2.get (by omega)
  subst hA
  obtain ⟨x, hx⟩ : ∃ x, l[k]? = some x := ⟨_, List.getElem?_eq_getElem (by omega)⟩
  obtain ⟨x0, x1⟩ := x
  refine mv_ rfl (sg_ rfl (nn_ (gw_seq ?_)))
  refine gd (fun wz => (SlOld ofEnc 2 103 w.heap.size none (some ⟨b1, o1, none⟩) n l) wz ∧ (SlOld ofEnc 2 103 w.heap.size none (some ⟨b2, o2, none⟩) n l) wz ∧ True) mixed (fun _ hm => ⟨hm.fa 0, hm.fa 1, trivial⟩) fun z => ?_
  refine wt 0 9 1 rfl z (ov_move rfl) ?_
  refine wt 1 9 3 rfl z (ov_move rfl) ?_
  refine wt 2 9 7 rfl z (ov_index (j := k) es98 rfl rfl (by omega)) ?_
  refine wt 3 9 15 rfl z (ov_elem (vs := [.string x0, .int .i64 x1]) rz103 rfl (fun _ hm => (hm.1).1) hx rfl rfl) ?_
  refine wt 4 9 31 rfl z (ov_move rfl) ?_
  refine wt 5 9 63 rfl z (ov_move rfl) ?_
  refine wt 6 9 127 rfl z (ov_index (j := k) es98 rfl rfl (by omega)) ?_
  refine wt 7 9 255 rfl z (ov_elem (vs := [.string x0, .int .i64 x1]) rz103 rfl (fun _ hm => (hm.2.1).1) hx rfl rfl) ?_
  refine wt 8 9 511 rfl z (ov_bin rfl rfl (cmp_agg guard_offer (fun wx => same_offer_neq x0 x1 wx))) ?_
  refine wa_done (by kernel_rfl) ?_
  refine nx_then (cf_ rfl (gw_skip (nx_blk_nrm (nx_then (gw_region (ad_ rfl rfl (mv_ rfl (wl_nil ?_))))))))
  exact nx_round (k + 1) (by omega) (by omega) ⟨rfl, rfl, rfl, (some_int (by omega)), trivial⟩ (fun _ hm => hm.pick [] [] [0, 1] rfl rfl)
 have hk : ¬ (((k : Nat) : Int) < ((n : Nat) : Int)) := by simpa using hh
 clear hh
 refine gw_exit ?_
 refine nx_then_exit (nx_then_exit ?_)
 refine nx_blk_here ?_
 refine nx_then (sr_ (sg_ rfl (nn_ ?_)))
 refine gw_ret ?_
 refine nx_ret1 rfl rfl fun wx hm => ?_
 exact ⟨rfl, hm.g⟩
end Go.Proofs.YtdoooppeiphefaaGreatDoor
namespace Go.Proofs.YtdoooppeiphefaaGreatDoor
open Go.RowKit
def tlE (l : List Tx) (ls : List Ln) : Int := firstE [taxesE l, linesE ls, whenE (ls.any isTax) 4]
theorem tlE_ok {l : List Tx} {ls : List Ln} (h : tlE l ls = 0) : taxesE l = 0 ∧ linesE ls = 0 := by
  have hz := fe_all h
  exact ⟨hz _ (by simp), hz _ (by simp)⟩
theorem tlE_two {l : List Tx} {ls : List Ln} (h : firstE [taxesE l, linesE ls] ≠ 0) : tlE l ls = firstE [taxesE l, linesE ls] := by
  unfold tlE
  simp only [firstE] at h ⊢
  by_cases h1 : taxesE l = 0
  · by_cases h2 : linesE ls = 0
    · simp [h1, h2] at h
    · simp [h1, h2]
  · simp [h1]
theorem tlE_has {l : List Tx} {ls : List Ln} (h : firstE [taxesE l, linesE ls] = 0) : tlE l ls = whenE (ls.any isTax) 4 := by
  have hz := fe_all h
  have h1 := hz (taxesE l) (by simp)
  have h2 := hz (linesE ls) (by simp)
  unfold tlE
  simp only [firstE, h1, h2]
  cases ls.any isTax <;> simp [whenE]
theorem taxLines_any (l : List Tx) (A : Option Addr) (n c0 : Nat) (ls : List Ln) (A2 : Option Addr) (n2 c2 : Nat) (w : World) (hl : SlT txEnc 4 298 w A n l) (hg : Ons l w) (hok : ∀ x ∈ l, TxOk x) (hn : n ≤ 3) (hnc : n ≤ c0) (hs : SlT lnEnc 3 88 w A2 n2 ls) (hlo : ∀ x ∈ ls, LnOk x) (hn2 : n2 ≤ 200) :
  Calls Tryz.prog 35 #[.slice A n c0, .slice A2 n2 c2] w (fun e w' => ∃ A3 n3 c3, e = .returned (.tuple #[.slice A3 n3 c3, .int .i64 (tlE l ls)]) ∧ (tlE l ls = 0 → SlT lnEnc 3 88 w' A3 n3 (taxesV ls [] l)) ∧ (tlE l ls ≠ 0 → n3 = 0) ∧ n3 ≤ 3 ∧ w.grownBy w' none) := by
 refine gw_enter ⟨21, w, none, [88]⟩ Tryz.func35 rfl Tryz.ntmps35 rfl (mem0 (X := [SlOld txEnc 4 298 w.heap.size none A n l, OnsOld w.heap.size none l, SlOld lnEnc 3 88 w.heap.size none A2 n2 ls]) (allF_cons hl.old (allF_cons hg.old (allF_cons hs.old allF_nil))) (allL_cons SlOld.lasts (allL_cons OnsOld.lasts (allL_cons SlOld.lasts allL_nil)))) ?_
 refine sr_ ?_
 obtain ⟨TE, hTE⟩ : ∃ E, E = taxesE l := ⟨_, rfl⟩
 obtain ⟨LE, hLE⟩ : ∃ E, E = linesE ls := ⟨_, rfl⟩
 obtain ⟨HT, hHT⟩ : ∃ E, E = ls.any isTax := ⟨_, rfl⟩
 refine sg_ rfl (sg_ rfl (nn_ (gw_seq (sr_ (mv_ rfl ?_)))))
 refine wl_callv (v := .int .i64 TE) rfl cb104 rfl rfl (fun wx hm => (by rw [hTE]; exact checkTaxes_any l A n c0 wx (hm.fact 0 rfl).1 (OnsOld.ons (hm.fact 1 rfl)) hok (by omega) hnc)) ?_
 refine mv_ rfl ?_
 refine wl_callv (v := .int .i64 LE) rfl cb105 rfl rfl (fun wx hm => (by rw [hLE]; exact checkLines_any ls A2 n2 c2 wx (hm.fact 2 rfl).1 hlo (by omega))) ?_
 refine wl_buildSlice (e := 33) (cs := [.int .i64 TE, .int .i64 LE]) rfl (by kernel_rfl) rfl fun g1 => ?_
 refine wl_callw rfl cb66 rfl rfl (fun wx hm => (first_any [TE, LE] _ _ _ wx (hm.blkI 0 rfl) (by simp))) ?_
 refine sg_ rfl (nn_ (sr_ (mv_ rfl (wl_ov (ov_neq rfl rfl) rfl (nn_ ?_)))))
 refine gw_cond rfl (fun hh => ?_) (fun hh => ?_)
 ·have h1 : ¬ (firstE [TE, LE] = 0) := by simpa using hh
  clear hh
  refine sr_ (mv_ rfl (sg_ rfl (sg_ rfl (nn_ ?_))))
  refine gw_ret ?_
  refine nx_then_ret ?_
  have h2 : tlE l ls = firstE [TE, LE] := by rw [hTE, hLE] at h1 ⊢; exact tlE_two h1
  refine nx_ret2 rfl rfl rfl fun wx hm => ?_
  exact ⟨none, 0, 0, by rw [h2], fun h => absurd (h2.symm.trans h) h1, fun _ => rfl, by omega, hm.g⟩
 have h1 : firstE [TE, LE] = 0 := by simpa using hh
 clear hh
 refine gw_skip (nx_then (gw_seq (sr_ ?_)))
 have h2 : tlE l ls = whenE HT 4 := by rw [hTE, hLE] at h1; rw [hHT]; exact tlE_has h1
 refine mv_ rfl ?_
 refine wl_callv (v := .bool HT) rfl cb106 rfl rfl (fun wx hm => (by rw [hHT]; exact hasTaxLine_c ls A2 n2 c2 wx (hm.fact 2 rfl).1 (by omega))) ?_
 refine nn_ ?_
 refine gw_cond rfl (fun hh => ?_) (fun hh => ?_)
 ·have h3 : HT = true := by simpa using hh
  clear hh
  refine sr_ (sg_ rfl (sg_ rfl (nn_ ?_)))
  refine gw_ret ?_
  refine nx_then_ret ?_
  refine nx_ret2 rfl rfl rfl fun wx hm => ?_
  exact ⟨none, 0, 0, by rw [h2, h3]; rfl, fun h => by (rw [h2, h3] at h; cases h), fun _ => rfl, by omega, hm.g⟩
 have h3 : HT = false := by simpa using hh
 clear hh
 refine gw_skip (nx_then (sr_ ?_))
 have h4 : tlE l ls = 0 := by rw [h2, h3]; rfl
 obtain ⟨h5, h6⟩ := tlE_ok h4
 refine mv_ rfl (mv_ rfl ?_)
 refine wl_callx (γ := Option Addr × Nat × Nat) (val := (fun g => .slice g.1 g.2.1 g.2.2)) (φ := (fun g => g.2.1 ≤ 3)) (Y := (fun g => fun wy => SlT lnEnc 3 88 wy g.1 g.2.1 (taxesV ls [] l))) rfl cb108 rfl rfl (fun wx hm => (taxes_any l A n c0 ls A2 n2 c2 wx (hm.fact 0 rfl).1 (OnsOld.ons (hm.fact 1 rfl)) hok hn (hm.fact 2 rfl).1 hn2 (taxesE_mille h5).2 (onSum_all (linesE_ok h6).2 (by have := (hm.fact 2 rfl).1.len; omega))).mono fun _ _ ⟨A3, n3, c3, he, hs, hn, hg⟩ => ⟨(A3, n3, c3), he, hn, hg, hs⟩) (fun _ => SlT.lasts2 rfl) ?_
 rintro ⟨A3, n3, c3⟩ hn3
 dsimp only at hn3 ⊢
 refine sg_ rfl (sg_ rfl (nn_ ?_))
 refine gw_ret ?_
 refine nx_ret2 rfl rfl rfl fun wx hm => ?_
 exact ⟨A3, n3, c3, by rw [h4], fun _ => (hm.fact 0 rfl), fun h => absurd h4 h, hn3, hm.g⟩
end Go.Proofs.YtdoooppeiphefaaGreatDoor
namespace Go.Proofs.YtdoooppeiphefaaGreatDoor
open Go.RowKit
theorem qv_ext {a b : ByteArray} (h : a.toList = b.toList) : a = b := by
  rw [ByteArray.toList_eq, ByteArray.toList_eq] at h
  cases a; cases b
  simp only at h
  exact congrArg ByteArray.mk (Array.toList_inj.1 h)
theorem kindK_key (k : Int) : keyB (kindK k) = true := by
  unfold kindK
  split
  · decide +kernel
  · split
    · decide +kernel
    · split
      · decide +kernel
      · decide +kernel
theorem bestS_key {cl : List Cd} {cls k : ByteArray} {fr tt cents : Int} {st : ByteArray × Int} (h0 : codesE cl = 0) (hk : cl.any (codeP k) = true) (h : emptyS st.1 = true ∨ keyB st.1 = true) : emptyS (bestS cl cls fr tt cents st k).1 = true ∨ keyB (bestS cl cls fr tt cents st k).1 = true := by
  obtain ⟨c, hc, hp⟩ := List.any_eq_true.1 hk
  have he : c.key = k := qv_ext (by unfold codeP at hp; simpa using hp)
  have hkey : keyB k = true := he ▸ ((codesE_ok h0).2.2 c hc).1
  unfold bestS
  split
  · exact h
  · split
    · exact .inr hkey
    · exact h
theorem bestK_key {cl : List Cd} {cls : ByteArray} {fr tt cents : Int} (h0 : codesE cl = 0) : ∀ (keys : List ByteArray) (st : ByteArray × Int), (∀ k ∈ keys, cl.any (codeP k) = true) → (emptyS st.1 = true ∨ keyB st.1 = true) → emptyS (keys.foldl (bestS cl cls fr tt cents) st).1 = true ∨ keyB (keys.foldl (bestS cl cls fr tt cents) st).1 = true
  | [], _, _, h => h
  | k :: r, _, hk, h => bestK_key h0 r _ (fun x hx => hk x (List.mem_cons_of_mem _ hx)) (bestS_key h0 (hk k (List.mem_cons_self ..)) h)
def KSort (l : List Ln) : Prop := l.Pairwise fun a b => a.kind ≤ b.kind
theorem ks_same {k : Int} : ∀ {l : List Ln}, (∀ x ∈ l, x.kind = k) → KSort l
  | [], _ => List.Pairwise.nil
  | x :: r, h => List.pairwise_cons.2 ⟨fun y hy => by rw [h x (List.mem_cons_self ..), h y (List.mem_cons_of_mem _ hy)]; exact Int.le_refl _, ks_same fun y hy => h y (List.mem_cons_of_mem _ hy)⟩
theorem ks_app {l r : List Ln} {k : Int} (hl : KSort l) (hr : KSort r) (h1 : ∀ x ∈ l, x.kind ≤ k) (h2 : ∀ x ∈ r, k ≤ x.kind) : KSort (l ++ r) :=
  List.pairwise_append.2 ⟨hl, hr, fun a ha b hb => Int.le_trans (h1 a ha) (h2 b hb)⟩
def cntK (k : Int) : List Ln → Int
  | [] => 0
  | x :: r => (if x.kind = k then 1 else 0) + cntK k r
theorem cnt_app {k : Int} : ∀ {l r : List Ln}, cntK k (l ++ r) = cntK k l + cntK k r
  | [], r => by show _ = 0 + _; rw [Int.zero_add]; rfl
  | x :: t, r => by
    show _ + cntK k (t ++ r) = _ + cntK k t + _
    rw [cnt_app]; omega
theorem cnt_same {k j : Int} : ∀ {l : List Ln}, (∀ x ∈ l, x.kind = j) → cntK k l = if j = k then (l.length : Int) else 0
  | [], _ => by simp [cntK]
  | x :: r, h => by
    have h1 := h x (List.mem_cons_self ..)
    have h2 := cnt_same (k := k) (l := r) fun y hy => h y (List.mem_cons_of_mem _ hy)
    unfold cntK
    rw [h1, h2, List.length_cons]
    split <;> omega
theorem cnt_at {k : Int} {l : List Ln} {i : Nat} {x : Ln} (h : l[i]? = some x) : cntK k (l.take (i + 1)) = cntK k (l.take i) + if x.kind = k then 1 else 0 := by
  rw [List.take_add_one, h, Option.toList_some, cnt_app]
  show _ + (_ + 0) = _
  omega
theorem sum_at {l : List Ln} {i : Nat} {x : Ln} (h : l[i]? = some x) : sumBy centsOf (l.take (i + 1)) = sumBy centsOf (l.take i) + x.cents := by
  rw [List.take_add_one, h, Option.toList_some, sumBy_append]
  show _ + (x.cents + 0) = _
  omega
theorem scan_zero {α : Type} {f : Option α → α → Int} : ∀ {l : List α} {p : Option α}, (∀ x ∈ l, ∀ q, f q x = 0) → scanE f p l = 0
  | [], _, _ => rfl
  | x :: r, p, h => by
    unfold scanE
    rw [if_pos (h x (List.mem_cons_self ..) p)]
    exact scan_zero fun y hy => h y (List.mem_cons_of_mem _ hy)
section
variable {el : List Ex} {fr tt n : Int} {ks cks : List ByteArray} {fl : List Fe} {a b qc : ByteArray} {ps : List Pc} {x : ByteArray × Int} {cl : List Cd} {tl : List Tx}
theorem line1_kinds : (∀ y ∈ ps.map pcL, y.kind = 1) ∧ (∀ y ∈ codeL x, y.kind = 2) ∧ (codeL x).length ≤ 1 := by
  refine ⟨fun y hy => ?_, fun y hy => ?_, ?_⟩
  · obtain ⟨p, _, rfl⟩ := List.mem_map.1 hy; rfl
  · unfold codeL at hy
    split at hy
    · cases hy
    · rw [List.mem_singleton.1 hy]
  · unfold codeL; split <;> simp
theorem fee_kinds : (∀ y ∈ feeL fl a b, y.kind = 4) ∧ (feeL fl a b).length ≤ 1 := by
  refine ⟨fun y hy => ?_, ?_⟩
  · unfold feeL at hy
    split at hy
    · cases hy
    · rw [List.mem_singleton.1 hy]
  · unfold feeL; split <;> simp
theorem ask_kinds : ∀ y ∈ ks.map (askL el n), y.kind = 3 := fun y hy => by
  obtain ⟨p, _, rfl⟩ := List.mem_map.1 hy; rfl
theorem taxesV_app (ls : List Ln) : ∀ (l : List Tx) (out : List Ln), (∀ y ∈ out, y.kind = 5) → (∀ y ∈ taxesV ls out l, y.kind = 5) ∧ (taxesV ls out l).length = out.length + l.length
  | [], out, h => ⟨h, rfl⟩
  | t :: r, out, h => by
    have h1 := taxesV_app ls r (out ++ [taxL ls out t]) (fun y hy => by
      rcases List.mem_append.1 hy with hy | hy
      · exact h y hy
      · rw [List.mem_singleton.1 hy]; rfl)
    refine ⟨h1.1, ?_⟩
    show (taxesV ls (out ++ [taxL ls out t]) r).length = _
    simp only [h1.2, List.length_append, List.length_cons, List.length_nil]
    omega
theorem line3_kinds : ∀ y ∈ line3 el n ks fl a b ps x, 1 ≤ y.kind ∧ y.kind ≤ 4 := fun y hy => by
  obtain ⟨h1, h2, _⟩ := line1_kinds (ps := ps) (x := x)
  have h3 := ask_kinds (el := el) (n := n) (ks := ks)
  have h4 := (fee_kinds (fl := fl) (a := a) (b := b)).1
  unfold line3 line2 line1 at hy
  rcases List.mem_append.1 hy with hy | hy
  · rcases List.mem_append.1 hy with hy | hy
    · rcases List.mem_append.1 hy with hy | hy
      · rw [h1 y hy]; decide
      · rw [h2 y hy]; decide
    · rw [h3 y hy]; decide
  · rw [h4 y hy]; decide
theorem line3_sort : KSort (line3 el n ks fl a b ps x) := by
  obtain ⟨h1, h2, _⟩ := line1_kinds (ps := ps) (x := x)
  have h3 := ask_kinds (el := el) (n := n) (ks := ks)
  have h4 := (fee_kinds (fl := fl) (a := a) (b := b)).1
  unfold line3 line2 line1
  refine ks_app (k := 4) (ks_app (k := 3) (ks_app (k := 2) (ks_same h1) (ks_same h2) ?_ ?_) (ks_same h3) ?_ ?_) (ks_same h4) ?_ ?_
  · intro y hy; rw [h1 y hy]; decide
  · intro y hy; rw [h2 y hy]; decide
  · intro y hy
    rcases List.mem_append.1 hy with hy | hy
    · rw [h1 y hy]; decide
    · rw [h2 y hy]; decide
  · intro y hy; rw [h3 y hy]; decide
  · intro y hy
    rcases List.mem_append.1 hy with hy | hy
    · rcases List.mem_append.1 hy with hy | hy
      · rw [h1 y hy]; decide
      · rw [h2 y hy]; decide
    · rw [h3 y hy]; decide
  · intro y hy; rw [h4 y hy]; decide
theorem lineQ_sort {ls : List Ln} (hs : KSort ls) (hk : ∀ y ∈ ls, 1 ≤ y.kind ∧ y.kind ≤ 4) : KSort (lineQ tl ls) := by
  have h1 := (taxesV_app ls tl [] (fun _ h => by cases h)).1
  unfold lineQ
  refine ks_app (k := 5) hs (ks_same h1) (fun y hy => by have := hk y hy; omega) (fun y hy => by rw [h1 y hy]; decide)
theorem lineQ_ix {ls : List Ln} (hk : ∀ y ∈ ls, 1 ≤ y.kind ∧ y.kind ≤ 4) : (if ixP isTax (lineQ tl ls) 0 < 0 then ((lineQ tl ls).length : Int) else ixP isTax (lineQ tl ls) 0) = (ls.length : Int) := by
  obtain ⟨h1, h2⟩ := taxesV_app ls tl [] (fun _ h => by cases h)
  have hno : ∀ y ∈ ls, isTax y = false := fun y hy => by
    have := hk y hy
    unfold isTax; rw [decide_eq_false (by omega)]
  rcases ixP_spec (p := isTax) (lineQ tl ls) 0 with ⟨e, h⟩ | ⟨j, y, e, hj, hp, hf⟩
  · rw [e, if_pos (by decide)]
    unfold lineQ at h ⊢
    cases ht : taxesV ls [] tl with
    | nil => simp
    | cons z r =>
      have hz : z ∈ taxesV ls [] tl := by rw [ht]; exact List.mem_cons_self ..
      have := h z (List.mem_append.2 (.inr hz))
      unfold isTax at this
      rw [decide_eq_true (h1 z hz)] at this; cases this
  · rw [e, if_neg (by omega), Nat.zero_add]
    unfold lineQ at hj hf
    rcases Nat.lt_trichotomy j ls.length with h | h | h
    · rw [List.getElem?_append_left h] at hj
      rw [hno y (List.mem_of_getElem? hj)] at hp; cases hp
    · rw [h]
    · rw [List.getElem?_append_right (by omega)] at hj
      cases ht : (taxesV ls [] tl)[0]? with
      | none =>
        have := List.getElem?_eq_none_iff.1 ht
        have := (List.getElem?_eq_some_iff.1 hj).1
        omega
      | some z =>
        have := hf ls.length h z (by rw [List.getElem?_append_right (Nat.le_refl _), Nat.sub_self]; exact ht)
        unfold isTax at this
        rw [decide_eq_true (h1 z (List.mem_of_getElem? ht))] at this; cases this
theorem line3_cnt : cntK 1 (lineQ tl (line3 el n ks fl a b ps x)) = (ps.length : Int) ∧ cntK 2 (lineQ tl (line3 el n ks fl a b ps x)) ≤ 1 ∧ cntK 3 (lineQ tl (line3 el n ks fl a b ps x)) = (ks.length : Int) ∧ cntK 4 (lineQ tl (line3 el n ks fl a b ps x)) ≤ 1 := by
  obtain ⟨h1, h2, h2l⟩ := line1_kinds (ps := ps) (x := x)
  have h3 := ask_kinds (el := el) (n := n) (ks := ks)
  obtain ⟨h4, h4l⟩ := fee_kinds (fl := fl) (a := a) (b := b)
  obtain ⟨L3, hL3⟩ : ∃ z, z = line3 el n ks fl a b ps x := ⟨_, rfl⟩
  have h5 := (taxesV_app L3 tl [] (fun _ h => by cases h)).1
  have e : ∀ k, cntK k (lineQ tl L3) = cntK k (ps.map pcL) + cntK k (codeL x) + cntK k (ks.map (askL el n)) + cntK k (feeL fl a b) + cntK k (taxesV L3 [] tl) := fun k => by
    unfold lineQ
    rw [cnt_app, show cntK k L3 = cntK k (ps.map pcL) + cntK k (codeL x) + cntK k (ks.map (askL el n)) + cntK k (feeL fl a b) by rw [hL3]; unfold line3 line2 line1; rw [cnt_app, cnt_app, cnt_app]]
  rw [← hL3]
  refine ⟨?_, ?_, ?_, ?_⟩ <;> rw [e, cnt_same h1, cnt_same h2, cnt_same h3, cnt_same h4, cnt_same h5] <;> simp <;> omega
theorem line3_right (hp : PsOk ps) (h0 : codesE cl = 0) (hcl : ∀ k ∈ cks, cl.any (codeP k) = true) {cents : Int} (hx : x = bestK cl cks qc fr tt cents) (hxb : 0 ≤ x.2 ∧ x.2 ≤ 120000000) (he : extrasE el = 0) (hk : ∀ k ∈ ks, el.any (exP k) = true) (ht : timeE fr tt = 0) (hf : feesE fl = 0) (hlen : (line3 el (daysV fr tt) ks fl a b ps x).length ≤ 140) :
    linesE (line3 el (daysV fr tt) ks fl a b ps x) = 0 := by
  have hsm := line_sm (a := a) (b := b) hp hxb he hk ht hf
  have hkn := line3_kinds (el := el) (n := daysV fr tt) (ks := ks) (fl := fl) (a := a) (b := b) (ps := ps) (x := x)
  have hkey : ∀ y ∈ line3 el (daysV fr tt) ks fl a b ps x, keyB y.key = true := fun y hy => by
    unfold line3 line2 line1 at hy
    rcases List.mem_append.1 hy with hy | hy
    · rcases List.mem_append.1 hy with hy | hy
      · rcases List.mem_append.1 hy with hy | hy
        · obtain ⟨p, _, rfl⟩ := List.mem_map.1 hy
          exact kindK_key p.kind
        · unfold codeL at hy
          split at hy
          · cases hy
          · rename_i hne
            rw [List.mem_singleton.1 hy]
            rcases bestK_key (cls := qc) (fr := fr) (tt := tt) (cents := cents) h0 cks (⟨#[]⟩, 0) hcl (.inl (by decide +kernel)) with h | h
            · rw [hx] at hne; exact absurd h hne
            · rw [hx]; exact h
      · obtain ⟨k, hk', rfl⟩ := List.mem_map.1 hy
        obtain ⟨e, hee, hep⟩ := List.any_eq_true.1 (hk k hk')
        have e1 : e.key = k := qv_ext (by unfold exP at hep; simpa using hep)
        exact e1 ▸ ((extrasE_ok he).2 e hee).1
    · unfold feeL at hy
      split at hy
      · cases hy
      · rw [List.mem_singleton.1 hy]
        show keyB ⟨#[111, 110, 101, 119, 97, 121]⟩ = true
        decide +kernel
  unfold linesE
  rw [if_neg (by omega)]
  refine scan_zero fun y hy q => ?_
  have h1 := hkn y hy
  have h2 := hsm y hy
  unfold lineE inB
  rw [hkey y hy, decide_eq_true h1.1, decide_eq_true (show y.kind ≤ 6 by omega), decide_eq_true h2.1, decide_eq_true h2.2]; rfl
theorem line3_tlE {ls : List Ln} (ht : taxesE tl = 0) (hl : linesE ls = 0) (hk : ∀ y ∈ ls, 1 ≤ y.kind ∧ y.kind ≤ 4) : tlE tl ls = 0 := by
  have h : ls.any isTax = false := List.any_eq_false.2 fun y hy => by
    have := hk y hy
    unfold isTax; rw [decide_eq_false (by omega)]; decide
  unfold tlE
  rw [ht, hl, h]; rfl
end
/-- All that QuotesAdd asks of a quote that is given. -/
theorem quote_made {rl : List Rt} {el : List Ex} {fl : List Fe} {cl : List Cd} {tl : List Tx} {qc : ByteArray} {fr tt : Int} {qa qb : ByteArray} {ks cks : List ByteArray} {ls : List Ln} (h0 : tariffE rl el fl cl tl = 0) (hch : CheapR rl) (hask : askE (fun k => el.any (exP k)) ks = 0) (h : QIs rl el fl cl tl qc fr tt qa qb ks cks 0 ls) :
    ∃ ps L3, DivIs rl qc fr tt 0 ps ∧ ls = L3 ++ taxesV L3 [] tl ∧ tlE tl L3 = 0 ∧ KSort ls ∧ (if ixP isTax ls 0 < 0 then (ls.length : Int) else ixP isTax ls 0) = (L3.length : Int) ∧ cntK 1 ls = (ps.length : Int) ∧ cntK 2 ls ≤ 1 ∧ cntK 3 ls = (ks.length : Int) ∧ cntK 4 ls ≤ 1 ∧ keyB qc = true ∧ timeE fr tt = 0 ∧ (∀ x ∈ ls, 1 ≤ x.kind ∧ x.kind ≤ 5) := by
  obtain ⟨er, ps, hd, hE, hls⟩ := h
  rw [if_pos rfl] at hls
  have her := fe_all (show firstE [er, askE (fun k => cl.any (codeP k)) cks, feeOfE fl qa qb] = 0 from hE.symm)
  have er0 : er = 0 := her er (by simp)
  have hcks : askE (fun k => cl.any (codeP k)) cks = 0 := her _ (by simp)
  subst er0
  obtain ⟨hr0, hx0, hf0, hc0, ht0⟩ := tariffE_ok h0
  obtain ⟨hchk, hbest⟩ := div_right hd
  have hck := fe_all (show firstE [ratesE rl, whenE (!keyB qc) 5, timeE fr tt] = 0 from hchk)
  have htm : timeE fr tt = 0 := hck _ (by simp)
  have hqk : keyB qc = true := by
    have := hck (whenE (!keyB qc) 5) (by simp)
    cases hh : keyB qc with
    | true => rfl
    | false => rw [hh] at this; cases this
  have hps := best_ok hr0 hch htm hbest
  have hpc := pcSum_ok hps
  obtain ⟨X, hX⟩ : ∃ z, z = bestK cl cks qc fr tt (pcSum ps) := ⟨_, rfl⟩
  have hXb := bestK_bound (cls := qc) (fr := fr) (tt := tt) (cents := pcSum ps) hc0 hpc.1 cks
  rw [← hX] at hls hXb
  have hkn := line3_kinds (el := el) (n := daysV fr tt) (ks := ks) (fl := fl) (a := qa) (b := qb) (ps := ps) (x := X)
  have hlen := line_len (el := el) (n := daysV fr tt) (fl := fl) (a := qa) (b := qb) (x := X) hps (askE_ok hask).1
  have hle := line3_right (a := qa) (b := qb) hps hc0 (askE_ok hcks).2 hX ⟨hXb.1, by omega⟩ hx0 (askE_ok hask).2 htm hf0 hlen
  obtain ⟨c1, c2, c3, c4⟩ := line3_cnt (el := el) (n := daysV fr tt) (ks := ks) (fl := fl) (a := qa) (b := qb) (ps := ps) (x := X) (tl := tl)
  have hsr := lineQ_sort (tl := tl) (line3_sort (el := el) (n := daysV fr tt) (ks := ks) (fl := fl) (a := qa) (b := qb) (ps := ps) (x := X)) hkn
  have hix := lineQ_ix (tl := tl) hkn
  refine ⟨ps, _, hd, hls, line3_tlE ht0 hle hkn, ?_, ?_, ?_, ?_, ?_, ?_, hqk, htm, ?_⟩
  · rw [hls]; exact hsr
  · rw [hls]; exact hix
  · rw [hls]; exact c1
  · rw [hls]; exact c2
  · rw [hls]; exact c3
  · rw [hls]; exact c4
  · intro x hx
    rw [hls] at hx
    rcases List.mem_append.1 hx with hx | hx
    · have := hkn x hx; omega
    · rw [(taxesV_app _ tl [] (fun _ h => by cases h)).1 x hx]; decide
theorem qaTax_any (x0 : Int) (x1 : ByteArray) (x2 : Int) (w : World) :
  Calls Tryz.prog 34 #[.agg #[.int .i64 x0, .string x1, .int .i64 x2]] w (fun e w' => e = .returned (.bool (isTax ⟨x0, x1, x2⟩)) ∧ w.grownBy w' none) := by
 refine gw_enter ⟨6, w, none, []⟩ Tryz.func34 rfl Tryz.ntmps34 rfl (mem0 (X := []) allF_nil allL_nil) ?_
 refine sr_ ?_
 refine wl_box rfl rfl rfl fun g1 => ?_
 refine sg_ rfl (nn_ (sr_ (fd_ fo88_0 rfl rfl (lk_ sc3 0 rfl rfl rfl (wl_ov (ov_eql rfl rfl) rfl (sg_ rfl (nn_ ?_)))))))
 refine gw_ret ?_
 refine nx_ret1 rfl rfl fun wx hm => ?_
 exact ⟨rfl, hm.g⟩
theorem qaKind_any (x0 : Int) (x1 : ByteArray) (x2 : Int) (y0 : Int) (y1 : ByteArray) (y2 : Int) (w : World) (hx : 1 ≤ x0 ∧ x0 ≤ 5) (hy : 1 ≤ y0 ∧ y0 ≤ 5) :
  Calls Tryz.prog 39 #[.agg #[.int .i64 x0, .string x1, .int .i64 x2], .agg #[.int .i64 y0, .string y1, .int .i64 y2]] w (GotE w (x0 - y0)) := by
 refine gw_enter ⟨10, w, none, []⟩ Tryz.func39 rfl Tryz.ntmps39 rfl (mem0 (X := []) allF_nil allL_nil) ?_
 refine sr_ ?_
 refine wl_box rfl rfl rfl fun g1 => ?_
 refine wl_box rfl rfl rfl fun g2 => ?_
 refine sg_ rfl (nn_ (sr_ (fd_ fo88_0 rfl rfl (lk_ sc3 1 rfl rfl rfl (fd_ fo88_0 rfl rfl (lk_ sc3 0 rfl rfl rfl ?_))))))
 refine wl_ov (ov_sub rfl rfl (by omega) (by omega)) rfl ?_
 refine sg_ rfl (nn_ ?_)
 refine gw_ret ?_
 refine nx_ret1 rfl rfl fun wx hm => ?_
 exact ⟨rfl, hm.g⟩
theorem qaIndex_any (l : List Ln) (A : Option Addr) (n c0 : Nat) (w : World) (hl : SlT lnEnc 3 88 w A n l) (hn : n ≤ 1000000) :
  Calls Tryz.prog 33 #[.slice A n c0, .func (.func 34) #[] #[]] w (GotE w (ixP isTax l 0)) := by
 refine gw_enter ⟨19, w, none, []⟩ Tryz.func33 rfl Tryz.ntmps33 rfl (mem0 (X := [SlOld lnEnc 3 88 w.heap.size none A n l]) (allF_cons hl.old allF_nil) (allL_cons SlOld.lasts allL_nil)) ?_
 refine sr_ ?_
 have hlen := hl.len
 refine sg_ rfl (nn_ (gw_seq (sr_ (mv_ rfl (wl_ov (ov_len es83 rfl) rfl (mv_ rfl (nn_ (gw_block ?_))))))))
 refine gw_loop (γ := Nat) (fun (i : Nat) => i ≤ n ∧ ixP isTax l 0 = ixP isTax (l.drop i) i) (fun (i : Nat) => [(0, .slice A n c0), (1, .func (.func 34) #[] #[]), (7, .int .i64 ((n : Nat) : Int)), (8, .int .i64 ((i : Nat) : Int))]) (fun (i : Nat) => fun _ => True) (fun (i : Nat) => []) (fun (i : Nat) => []) (fun (i : Nat) => [SlOld lnEnc 3 88 w.heap.size none A n l]) (fun (i : Nat) => n - i) 0 ⟨Nat.zero_le _, rfl⟩ ⟨rfl, rfl, rfl, rfl, trivial⟩ (fun _ hm => hm.pick [] [] [0] rfl rfl) ?_
 intro i hinv
 replace hinv : i ≤ n ∧ ixP isTax l 0 = ixP isTax (l.drop i) i := hinv
 refine sr_ (wl_ov (ov_lss rfl rfl) rfl (nn_ (gw_seq ?_)))
 refine gw_cond rfl (fun hh => ?_) (fun hh => ?_)
 ·have hi : ((i : Nat) : Int) < ((n : Nat) : Int) := by simpa using hh
  clear hh
  refine gw_skip (nx_then (gw_seq (gw_block (sr_ ?_))))
  obtain ⟨b, off, hA, _, _⟩ := hl.get (by omega)
  subst hA
  obtain ⟨x, hx⟩ : ∃ x, l[i]? = some x := ⟨_, List.getElem?_eq_getElem (by omega)⟩
  obtain ⟨x0, x1, x2⟩ := x
  have hat := ixP_at (p := isTax) hx
  refine mv_ rfl (sg_ rfl (nn_ (sr_ (mv_ rfl (mv_ rfl (mv_ rfl ?_))))))
  refine wl_ov (ov_index (j := i) es83 rfl rfl (by omega)) rfl ?_
  refine wl_ov (ov_elem (vs := [.int .i64 x0, .string x1, .int .i64 x2]) rz88 rfl (fun _ hm => (hm.fact 0 rfl).1) hx rfl rfl) rfl ?_
  refine wl_callv rfl cb34 rfl rfl (fun wx hm => (qaTax_any x0 x1 x2 wx)) ?_
  refine nn_ ?_
  refine gw_cond rfl (fun hh => ?_) (fun hh => ?_)
  ·have hq : (isTax ⟨x0, x1, x2⟩) = true := by simpa using hh
   clear hh
   refine sr_ (mv_ rfl (sg_ rfl (nn_ ?_)))
   refine gw_ret ?_
   refine nx_blk_ret (nx_then_ret (nx_then_ret (nx_blk_ret (nx_then_ret ?_))))
   refine nx_ret1 rfl rfl fun wx hm => ?_
   exact ⟨ret_int (by rw [hinv.2, hat, if_pos hq]), hm.g⟩
  have hq : (isTax ⟨x0, x1, x2⟩) = false := by simpa using hh
  clear hh
  refine gw_skip (nx_blk_nrm (nx_then (gw_region (ad_ rfl rfl (mv_ rfl (wl_nil ?_))))))
  exact nx_round (i + 1) ⟨by omega, by rw [hinv.2, hat, if_neg (by rw [hq]; decide)]⟩ (by omega) ⟨rfl, rfl, rfl, (some_int (by omega)), trivial⟩ (fun _ hm => hm.pick [] [] [0] rfl rfl)
 have hi : ¬ (((i : Nat) : Int) < ((n : Nat) : Int)) := by simpa using hh
 clear hh
 refine gw_exit ?_
 refine nx_then_exit (nx_then_exit ?_)
 refine nx_blk_here ?_
 refine nx_then (sr_ (sg_ rfl ?_))
 refine wl_set 4 (v' := .int .i64 (-1)) rfl rfl ?_
 refine nn_ ?_
 refine gw_ret ?_
 refine nx_ret1 rfl rfl fun wx hm => ?_
 exact ⟨ret_int (by rw [hinv.2, List.drop_eq_nil_of_le (by omega)]; rfl), hm.g⟩
theorem ks_get {l : List Ln} {j : Nat} {x y : Ln} (h : KSort l) (hy : l[j]? = some y) (hx : l[j + 1]? = some x) : y.kind ≤ x.kind := by
  obtain ⟨h1, rfl⟩ := List.getElem?_eq_some_iff.1 hy
  obtain ⟨h2, rfl⟩ := List.getElem?_eq_some_iff.1 hx
  exact List.pairwise_iff_getElem.1 h j (j + 1) h1 h2 (Nat.lt_succ_self j)
theorem qaSorted_any (l : List Ln) (A : Option Addr) (n c0 : Nat) (w : World) (hl : SlT lnEnc 3 88 w A n l) (hn : n ≤ 1000000) (hs : KSort l) (hk : ∀ x ∈ l, 1 ≤ x.kind ∧ x.kind ≤ 5) :
  Calls Tryz.prog 38 #[.slice A n c0, .func (.func 39) #[] #[]] w (fun e w' => e = .returned (.bool true) ∧ w.grownBy w' none) := by
 refine gw_enter ⟨25, w, none, []⟩ Tryz.func38 rfl Tryz.ntmps38 rfl (mem0 (X := [SlOld lnEnc 3 88 w.heap.size none A n l]) (allF_cons hl.old allF_nil) (allL_cons SlOld.lasts allL_nil)) ?_
 refine sr_ ?_
 have hlen := hl.len
 refine sg_ rfl (nn_ (gw_seq (sr_ (mv_ rfl (wl_ov (ov_len es83 rfl) rfl ?_)))))
 refine wl_ov (ov_sub rfl rfl (by omega) (by omega)) rfl ?_
 refine sg_ rfl (nn_ (gw_block ?_))
 refine gw_loop (γ := Nat) (fun (i : Nat) => i ≤ n) (fun (i : Nat) => [(0, .slice A n c0), (1, .func (.func 39) #[] #[]), (5, .int .i64 (((i : Nat) : Int) - 1))]) (fun (i : Nat) => fun _ => True) (fun (i : Nat) => []) (fun (i : Nat) => []) (fun (i : Nat) => [SlOld lnEnc 3 88 w.heap.size none A n l]) (fun (i : Nat) => i) n (Nat.le_refl _) ⟨rfl, rfl, rfl, trivial⟩ (fun _ hm => hm.pick [] [] [0] rfl rfl) ?_
 intro i hinv
 replace hinv : i ≤ n := hinv
 refine gw_seq (sr_ (mv_ rfl ?_))
 refine wl_ov (ov_gtr rfl rfl) rfl ?_
 refine nn_ ?_
 refine gw_cond rfl (fun hh => ?_) (fun hh => ?_)
 ·have hi : 0 < ((i : Nat) : Int) - 1 := by simpa using hh
  clear hh
  refine gw_skip (nx_then (gw_seq (gw_block (gw_seq ?_))))
  obtain ⟨j, rfl⟩ : ∃ j, i = j + 2 := ⟨i - 2, by omega⟩
  have ej : (((j + 2 : Nat) : Int) - 1) = ((j + 1 : Nat) : Int) := by omega
  refine gw_set 5 (v' := .int .i64 ((j + 1 : Nat) : Int)) rfl (congrArg (Value.int .i64) ej) ?_
  obtain ⟨b, off, hA, _, _⟩ := hl.get (by omega)
  subst hA
  obtain ⟨x, hx⟩ : ∃ x, l[j + 1]? = some x := ⟨_, List.getElem?_eq_getElem (by omega)⟩
  obtain ⟨x0, x1, x2⟩ := x
  obtain ⟨y, hy⟩ : ∃ y, l[j]? = some y := ⟨_, List.getElem?_eq_getElem (by omega)⟩
  obtain ⟨y0, y1, y2⟩ := y
  have hkx := hk _ (List.mem_of_getElem? hx)
  have hky := hk _ (List.mem_of_getElem? hy)
  have hle := ks_get hs hy hx
  dsimp only at hkx hky hle
  refine gd (fun wz => (SlOld lnEnc 3 88 w.heap.size none (some ⟨b, off, none⟩) n l) wz ∧ True) mixed (fun _ hm => ⟨hm.fa 0, trivial⟩) fun z => ?_
  refine wt 0 12 1 rfl z (ov_move rfl) ?_
  refine wt 1 12 3 rfl z (ov_move rfl) ?_
  refine wt 2 12 7 rfl z (ov_move rfl) ?_
  refine wt 3 12 15 rfl z (ov_index (j := j + 1) es83 rfl rfl (by omega)) ?_
  refine wt 4 12 31 rfl z (ov_elem (vs := [.int .i64 x0, .string x1, .int .i64 x2]) rz88 rfl (fun _ hm => (hm.1).1) hx rfl rfl) ?_
  refine wt 5 12 63 rfl z (ov_move rfl) ?_
  refine wt 6 12 127 rfl z (ov_move rfl) ?_
  refine wt 7 12 255 rfl z (ov_sub rfl rfl (by omega) (by omega)) ?_
  refine wa_set 20 (v' := .int .i64 ((j : Nat) : Int)) rfl (congrArg (Value.int .i64) (by omega)) ?_
  refine wt 8 12 511 rfl z (ov_index (j := j) es83 rfl rfl (by omega)) ?_
  refine wt 9 12 1023 rfl z (ov_elem (vs := [.int .i64 y0, .string y1, .int .i64 y2]) rz88 rfl (fun _ hm => (hm.1).1) hy rfl rfl) ?_
  refine wa1 10 rfl ?_
  refine wl_callv rfl cb39 rfl rfl (fun wx hm => (qaKind_any x0 x1 x2 y0 y1 y2 wx hkx hky)) ?_
  refine wl_nil ?_
  refine nw 12 2047 (fun _ hm => ⟨hm.fa 0, trivial⟩) fun z => ?_
  refine wt 11 12 4095 rfl z (ov_lss rfl rfl) ?_
  refine wa_set 24 (v' := .bool false) rfl (congrArg Value.bool (decide_eq_false (by omega))) ?_
  refine wa_done (by kernel_rfl) ?_
  refine nx_then (cf_ rfl (gw_skip (nx_blk_nrm (nx_then (gw_region (mv_ rfl ?_))))))
  refine wl_ov (ov_sub rfl rfl (by omega) (by omega)) rfl ?_
  refine sg_ rfl (wl_nil ?_)
  exact nx_round (j + 1) (by omega) (by omega) ⟨rfl, rfl, (some_int (by omega)), trivial⟩ (fun _ hm => hm.pick [] [] [0] rfl rfl)
 have hi : ¬ (0 < ((i : Nat) : Int) - 1) := by simpa using hh
 clear hh
 refine gw_exit ?_
 refine nx_then_exit (nx_then_exit ?_)
 refine nx_blk_here ?_
 refine nx_then (sr_ (sg_ rfl (nn_ ?_)))
 refine gw_ret ?_
 refine nx_ret1 rfl rfl fun wx hm => ?_
 exact ⟨rfl, hm.g⟩
theorem grightTariff_any (w : World) (B sb m : Nat) (hS : Strm 25 w B sb m) (hm : m ≤ 1000000000) :
  Calls Tryz.prog 30 #[.pointer (some ⟨sb, 0, none⟩)] w (fun e w' => ∃ (rA : Option Addr) (rn rc : Nat) (rl : List Rt) (eA : Option Addr) (en ec : Nat) (el : List Ex) (fA : Option Addr) (fn fc : Nat) (fl : List Fe) (cA : Option Addr) (cn cc : Nat) (cl : List Cd) (tA : Option Addr) (tn tc : Nat) (tl : List Tx), e = .returned (.agg #[.slice rA rn rc, .slice eA en ec, .slice fA fn fc, .slice cA cn cc, .slice tA tn tc]) ∧ (((∀ x ∈ rl, RtG x) ∧ rn ≤ 10 ∧ rn ≤ rc) ∧ ((∀ x ∈ el, ExOk x) ∧ en ≤ 2 ∧ en ≤ ec) ∧ ((∀ x ∈ fl, FeOk x) ∧ fn ≤ 5 ∧ fn ≤ fc) ∧ ((∀ x ∈ cl, CdOk x) ∧ cn ≤ 3 ∧ cn ≤ cc) ∧ ((∀ x ∈ tl, TxOk x) ∧ tn ≤ 3 ∧ tn ≤ tc)) ∧ (SlT rtEnc 7 288 w' rA rn rl ∧ SlT exEnc 4 295 w' eA en el ∧ SlT feEnc 3 352 w' fA fn fl ∧ SlT cdEnc 6 354 w' cA cn cl ∧ SlT txEnc 4 298 w' tA tn tl ∧ Ons tl w') ∧ Strm 25 w' B sb (m + 6000) ∧ w.grownBy w' (some sb)) := by
 refine gw_enter ⟨16, w, (some sb), [288, 295, 352, 354, 298, 3]⟩ Tryz.func30 rfl Tryz.ntmps30 rfl (memS (X := []) hS allF_nil allL_nil) ?_
 refine sr_ ?_
 refine wl_alloc zc77 rfl fun g1 => ?_
 refine nn_ (gw_seq (sr_ (mv_ rfl (nn_ (gw_block ?_)))))
 refine gw_loop (γ := Nat) (fun (i : Nat) => i ≤ 8) (fun (i : Nat) => [(0, .pointer (some ⟨sb, 0, none⟩)), (2, .pointer (some ⟨g1, 0, none⟩)), (4, .int .i64 ((i : Nat) : Int))]) (fun (i : Nat) => fun w => Strm 25 w B sb (m + 710 * i)) (fun (i : Nat) => [(g1, 77, [.slice none 0 0, .slice none 0 0, .slice none 0 0, .slice none 0 0, .slice none 0 0])]) (fun (i : Nat) => []) (fun (i : Nat) => []) (fun (i : Nat) => 8 - i) 0 (Nat.zero_le _) ⟨rfl, rfl, rfl, trivial⟩ (fun _ hm => (hm.more rfl (by first | omega | (dsimp only; omega))).pick [0] [] [] rfl rfl) ?_
 intro i hinv
 replace hinv : i ≤ 8 := hinv
 refine sr_ (wl_ov (ov_lss rfl rfl) rfl (nn_ (gw_seq ?_)))
 refine gw_cond rfl (fun hh => ?_) (fun hh => ?_)
 ·have hi : ((i : Nat) : Int) < 8 := by simpa using hh
  clear hh
  refine gw_skip (nx_then (gw_seq (gw_block (sr_ (mv_ rfl ?_)))))
  refine wl_calls (γ := List Rt × Option Addr × Nat × Nat × List Ex × Option Addr × Nat × Nat × List Fe × Option Addr × Nat × Nat × List Cd × Option Addr × Nat × Nat × List Tx × Option Addr × Nat × Nat) (val := (fun g => .agg #[.slice g.2.1 g.2.2.1 g.2.2.2.1, .slice g.2.2.2.2.2.1 g.2.2.2.2.2.2.1 g.2.2.2.2.2.2.2.1, .slice g.2.2.2.2.2.2.2.2.2.1 g.2.2.2.2.2.2.2.2.2.2.1 g.2.2.2.2.2.2.2.2.2.2.2.1, .slice g.2.2.2.2.2.2.2.2.2.2.2.2.2.1 g.2.2.2.2.2.2.2.2.2.2.2.2.2.2.1 g.2.2.2.2.2.2.2.2.2.2.2.2.2.2.2.1, .slice g.2.2.2.2.2.2.2.2.2.2.2.2.2.2.2.2.2.1 g.2.2.2.2.2.2.2.2.2.2.2.2.2.2.2.2.2.2.1 g.2.2.2.2.2.2.2.2.2.2.2.2.2.2.2.2.2.2.2])) (φ := (fun g => ((∀ x ∈ g.1, RtG x) ∧ g.2.2.1 ≤ 10 ∧ g.2.2.1 ≤ g.2.2.2.1) ∧ ((∀ x ∈ g.2.2.2.2.1, ExOk x) ∧ g.2.2.2.2.2.2.1 ≤ 2 ∧ g.2.2.2.2.2.2.1 ≤ g.2.2.2.2.2.2.2.1) ∧ ((∀ x ∈ g.2.2.2.2.2.2.2.2.1, FeOk x) ∧ g.2.2.2.2.2.2.2.2.2.2.1 ≤ 5 ∧ g.2.2.2.2.2.2.2.2.2.2.1 ≤ g.2.2.2.2.2.2.2.2.2.2.2.1) ∧ ((∀ x ∈ g.2.2.2.2.2.2.2.2.2.2.2.2.1, CdOk x) ∧ g.2.2.2.2.2.2.2.2.2.2.2.2.2.2.1 ≤ 3 ∧ g.2.2.2.2.2.2.2.2.2.2.2.2.2.2.1 ≤ g.2.2.2.2.2.2.2.2.2.2.2.2.2.2.2.1) ∧ ((∀ x ∈ g.2.2.2.2.2.2.2.2.2.2.2.2.2.2.2.2.1, TxOk x) ∧ g.2.2.2.2.2.2.2.2.2.2.2.2.2.2.2.2.2.2.1 ≤ 3 ∧ g.2.2.2.2.2.2.2.2.2.2.2.2.2.2.2.2.2.2.1 ≤ g.2.2.2.2.2.2.2.2.2.2.2.2.2.2.2.2.2.2.2))) (Y := (fun g => fun wy => SlT rtEnc 7 288 wy g.2.1 g.2.2.1 g.1 ∧ SlT exEnc 4 295 wy g.2.2.2.2.2.1 g.2.2.2.2.2.2.1 g.2.2.2.2.1 ∧ SlT feEnc 3 352 wy g.2.2.2.2.2.2.2.2.2.1 g.2.2.2.2.2.2.2.2.2.2.1 g.2.2.2.2.2.2.2.2.1 ∧ SlT cdEnc 6 354 wy g.2.2.2.2.2.2.2.2.2.2.2.2.2.1 g.2.2.2.2.2.2.2.2.2.2.2.2.2.2.1 g.2.2.2.2.2.2.2.2.2.2.2.2.1 ∧ SlT txEnc 4 298 wy g.2.2.2.2.2.2.2.2.2.2.2.2.2.2.2.2.2.1 g.2.2.2.2.2.2.2.2.2.2.2.2.2.2.2.2.2.2.1 g.2.2.2.2.2.2.2.2.2.2.2.2.2.2.2.2.1 ∧ Ons g.2.2.2.2.2.2.2.2.2.2.2.2.2.2.2.2.1 wy)) (m' := m + 710 * i + 710) rfl cb96 rfl rfl rfl rfl (fun wx hm => (gtariff_any wx B sb _ hm.k (by omega)).mono fun _ _ ⟨rA, rn, rc, rl, eA, en, ec, el, fA, fn, fc, fl, cA, cn, cc, cl, tA, tn, tc, tl, he, hq, hs, hS, hg⟩ => ⟨(rl, rA, rn, rc, el, eA, en, ec, fl, fA, fn, fc, cl, cA, cn, cc, tl, tA, tn, tc), he, hq, hS, hg, hs⟩) (fun _ => (SlT.lasts2 rfl).and_ ((SlT.lasts2 rfl).and_ ((SlT.lasts2 rfl).and_ ((SlT.lasts2 rfl).and_ ((SlT.lasts2 rfl).and_ (Ons.lasts rfl)))))) ?_
  rintro ⟨rl, rA, rn, rc, el, eA, en, ec, fl, fA, fn, fc, cl, cA, cn, cc, tl, tA, tn, tc⟩ hT
  dsimp only at hT ⊢
  have hT0 := hT
  obtain ⟨⟨hrg, hrn0, hrc⟩, ⟨heo, hen0, hec⟩, ⟨hfo, hfn0, hfc⟩, ⟨hco, hcn0, hcc⟩, ⟨hto, htn, htc⟩⟩ := hT
  have hro : ∀ x ∈ rl, RtOk x := rt_g hrg
  obtain ⟨TE, hTE⟩ : ∃ E, E = tariffE rl el fl cl tl := ⟨_, rfl⟩
  refine wl_alloc zc77 rfl fun g2 => ?_
  refine wl_stores (cs' := [.slice rA rn rc, .slice eA en ec, .slice fA fn fc, .slice cA cn cc, .slice tA tn tc]) 0 rz77 rfl rfl rfl rfl rfl rfl rfl rfl ?_
  refine nn_ (sr_ ?_)
  refine wl_ov (ov_loads rz77 rfl (fun _ hm => hm.blkI 0 rfl) rfl rfl) rfl ?_
  refine wl_callv (v := .int .i64 TE) rfl cb97 rfl rfl (fun wx hm => (by rw [hTE]; exact tariffFault_any rl rA rn rc el eA en ec fl fA fn fc cl cA cn cc tl tA tn tc wx (hm.fact 0 rfl).1 (hm.fact 0 rfl).2.1 (hm.fact 0 rfl).2.2.1 (hm.fact 0 rfl).2.2.2.1 (hm.fact 0 rfl).2.2.2.2.1 (hm.fact 0 rfl).2.2.2.2.2 hro heo hfo hco hto (by omega) (by omega) (by omega) (by omega) htn htc)) ?_
  refine wl_ov (ov_eql rfl rfl) rfl (nn_ ?_)
  refine gw_cond rfl (fun hh => ?_) (fun hh => ?_)
  ·have h0 : TE = 0 := by simpa using hh
   clear hh
   refine sr_ ?_
   refine wl_ov (ov_loads rz77 rfl (fun _ hm => hm.blkI 0 rfl) rfl rfl) rfl ?_
   refine wl_stores (cs' := [.slice rA rn rc, .slice eA en ec, .slice fA fn fc, .slice cA cn cc, .slice tA tn tc]) 1 rz77 rfl rfl rfl rfl rfl rfl rfl rfl ?_
   refine nn_ ?_
   refine gw_ret ?_
   refine nx_blk_ret (nx_then_ret (nx_then_ret (nx_blk_ret (nx_then_ret ?_))))
   refine nx_retc 1 rfl rz77 rfl rfl rfl fun wx hm => ?_
   exact ⟨rA, rn, rc, rl, eA, en, ec, el, fA, fn, fc, fl, cA, cn, cc, cl, tA, tn, tc, tl, rfl, hT0, (hm.fact 0 rfl), hm.k.more (by omega), hm.g⟩
  have h0 : ¬ (TE = 0) := by simpa using hh
  clear hh
  refine gw_skip (nx_blk_nrm (nx_then (gw_region (ad_ rfl rfl (mv_ rfl (wl_nil ?_))))))
  exact nx_round (i + 1) (by omega) (by omega) ⟨rfl, rfl, (some_int (by omega)), trivial⟩ (fun _ hm => (hm.more rfl (by first | omega | (dsimp only; omega))).pick [1] [] [] rfl rfl)
 have hi : ¬ (((i : Nat) : Int) < 8) := by simpa using hh
 clear hh
 refine gw_exit ?_
 refine nx_then_exit (nx_then_exit ?_)
 refine nx_blk_here ?_
 refine nx_then (sr_ (mv_ rfl ?_))
 refine wl_calls (γ := Option Addr × Nat × Nat × List Rt) (val := (fun g => .slice g.1 g.2.1 g.2.2.1)) (φ := (fun g => (∀ x ∈ g.2.2.2, RtG x) ∧ g.2.1 ≤ 9 ∧ g.2.1 ≤ g.2.2.1)) (Y := (fun g => fun wy => SlT rtEnc 7 288 wy g.1 g.2.1 g.2.2.2)) (m' := m + 710 * i + 120) rfl cb98 rfl rfl rfl rfl (fun wx hm => (grightRates_g wx B sb _ hm.k (by omega)).mono fun _ _ ⟨A, n, c0, l, he, ho, hok, hl, hn, hS, hg⟩ => ⟨(A, n, c0, l), he, ⟨hok, hn, own_cap ho⟩, hS, hg, SlT.ofOwn rt_len ho hl⟩) (fun _ => SlT.lasts2 rfl) ?_
 rintro ⟨rA, rn, rc, rl⟩ hR
 dsimp only at hR ⊢
 obtain ⟨hrg, hrn, hrc⟩ := hR
 refine wl_ov (ov_build (cs := [.slice rA rn rc, .slice none 0 0, .slice none 0 0, .slice none 0 0, .slice none 0 0]) rfl (by kernel_rfl)) rfl ?_
 refine wl_stores (cs' := [.slice rA rn rc, .slice none 0 0, .slice none 0 0, .slice none 0 0, .slice none 0 0]) 0 rz77 rfl rfl rfl rfl rfl rfl rfl rfl ?_
 refine nn_ ?_
 refine gw_ret ?_
 refine nx_retc 0 rfl rz77 rfl rfl rfl fun wx hm => ?_
 exact ⟨rA, rn, rc, rl, none, 0, 0, [], none, 0, 0, [], none, 0, 0, [], none, 0, 0, [], rfl, ⟨⟨hrg, by omega, hrc⟩, ⟨(fun _ h => by cases h), Nat.zero_le _, Nat.zero_le _⟩, ⟨(fun _ h => by cases h), Nat.zero_le _, Nat.zero_le _⟩, ⟨(fun _ h => by cases h), Nat.zero_le _, Nat.zero_le _⟩, ⟨(fun _ h => by cases h), Nat.zero_le _, Nat.zero_le _⟩⟩, ⟨(hm.fact 0 rfl), SlT.nil_ _ _, SlT.nil_ _ _, SlT.nil_ _ _, SlT.nil_ _ _, (fun _ h => by cases h)⟩, hm.k.more (by omega), hm.g⟩
end Go.Proofs.YtdoooppeiphefaaGreatDoor
namespace Go.Proofs.YtdoooppeiphefaaGreatDoor
open Go.RowKit
set_option maxHeartbeats 400000 in
theorem formed_nil (w : World) : Calls Tryz.prog 148 #[.slice none 0 0] w (GotE w 0) := by
  go_enter Tryz.func148, Tryz.ntmps148
  go_wp2_with fail
  go_loopw [10] (fun i wr => i = .int .i64 0 ∧ wr = w) (fun _ _ => 0)
  case atStart => exact ⟨rfl, rfl⟩
  case round =>
    obtain ⟨rfl, rfl⟩ := hrel
    go_wp2_with fail
    go_ret
    exact ⟨rfl, World.grownBy.refl _ _⟩
set_option maxHeartbeats 400000 in
theorem checkOdds_nil (w : World) : Calls Tryz.prog 191 #[.slice none 0 0] w (GotE w 0) := by
  go_enter Tryz.func191, Tryz.ntmps191
  go_wp2_with fail
  refine (formed_nil _).mono ?_
  rintro e w1 ⟨rfl, hg1⟩
  go_wp2_with fail
  refine (when_any _ _ _).mono ?_
  rintro e w2 ⟨rfl, rfl⟩
  go_wp2_with fail
  refine (first_any [0, whenE false 2] _ _ _ _ (Blk.at_ _ rfl _ _) (by simp)).mono ?_
  rintro e w6 ⟨rfl, rfl⟩
  go_wp2_with fail
  go_ret
  exact ⟨rfl, grow_alloc hg1 _⟩
set_option maxHeartbeats 400000 in
theorem spread_nil (w : World) : Calls Tryz.prog 192 #[.slice none 0 0] w (fun e w' => ∃ g c, e = .returned (.tuple #[.slice (some ⟨g, 0, none⟩) 1 c, .int .i64 1]) ∧ g < w'.heap.size ∧ w'.cell? ⟨g, 0, none⟩ = some (.int .i64 1) ∧ w.grownBy w' none) := by
  go_enter Tryz.func192, Tryz.ntmps192
  go_wp2_with fail
  go_loopw [4, 5, 14] (fun s n i wr => s = .slice (some ⟨w.heap.size, 0, none⟩) 1 1 ∧ n = .int .i64 1 ∧ i = .int .i64 0 ∧ wr = w.alloc (.cells #[.int .i64 1] 3)) (fun _ _ _ _ => 0)
  case atStart => exact ⟨rfl, rfl, rfl, rfl⟩
  case round =>
    obtain ⟨rfl, rfl, rfl, rfl⟩ := hrel
    go_wp2_with fail
    go_ret2
    exact ⟨_, _, rfl, by simp, (Blk.at_ w rfl 3 [.int .i64 1]).cell_of rfl, grow_alloc (World.grownBy.refl _ _) _⟩
theorem info_fr : (Tryz.prog.info? 46).map (·.size) = some 2 := by kernel_rfl
set_option maxRecDepth 100000 in
set_option maxHeartbeats 400000 in
theorem lowest_one (w : World) : Calls Tryz.prog 71 #[.int .i64 1, .int .i64 1] w (fun e w' => e = .returned (.agg #[.int .i64 1, .int .i64 1]) ∧ w.grownBy w' none) := by
  go_enter Tryz.func71, Tryz.ntmps71
  go_wp2_with fail
  go_loopw [5, 6] (fun a b wr => a = .int .i64 1 ∧ (b = .int .i64 0 ∨ b = .int .i64 1) ∧ w.grownBy wr none ∧ Blk wr w.heap.size 46 [.int .i64 0, .int .i64 0]) (fun _ b _ => (intOf b).toNat)
  case atStart => exact ⟨rfl, .inr rfl, grow_alloc (World.grownBy.refl _ _) _, Blk.at_ w rfl _ _⟩
  case round =>
    obtain ⟨rfl, hk, hgr, hb⟩ := hrel
    rcases hk with rfl | rfl
    · go_wp2_with fail
      refine wp_region_still_tail 7 (by kernel_rfl) (by kernel_rfl) ?_
      change wpStill _ _ (World.drew _) _ _ _
      simp only [List.take_succ_cons, List.take_zero, List.drop_succ_cons, List.drop_zero]
      repeat still_step
      refine wpStill_nil ?_
      change wpList _ _ _ _ _ (World.drew _)
      go_wp2_with (with_reducible refine wpList_store_all rfl 46 (.tmp 4) (.tmp 24) rfl w.heap.size _ _ [.int .i64 1, .int .i64 1] hb.drew rfl rfl 2 info_fr rfl rfl (by simp [Value.oneCell']) ?_
                   intro w2 hb2 hg2)
      refine ret_blk (p := 4) (ty := 46) rfl w.heap.size _ _ _ hb2 rfl Tryz.underlying46 rfl 2 info_fr rfl rfl ?_
      exact ⟨rfl, grow_own (grow_drew hgr) hg2 (fun k h => by cases h; exact Nat.le_refl _)⟩
    · go_wp2_with fail
      go_quiet (fail)
      go_wp2_with fail
      go_roundw
      case rel => exact ⟨rfl, .inl rfl, grow_drewN hgr _, hb.drewN _⟩
      case measure => simp [intOf]
set_option maxRecDepth 100000 in
set_option maxHeartbeats 1000000 in
theorem bspread_nil (w : World) : Calls Tryz.prog 93 #[.slice none 0 0] w (fun e w' => ∃ A c, e = .returned (.tuple #[.slice A 1 c, .int .i64 0]) ∧ w.grownBy w' none) := by
  go_enter Tryz.func93, Tryz.ntmps93
  go_wp2_with fail
  refine (checkOdds_nil _).mono ?_
  rintro e w1 ⟨rfl, hg1⟩
  go_wp2_with fail
  refine (spread_nil _).mono ?_
  rintro e w2 ⟨g, c, rfl, hlt, hc, hg2⟩
  have hgw : w.grownBy w2 none := grow_trans hg1 hg2
  clear hg1 hg2
  go_wp2_with fail
  go_loopw [7, 22] (fun s i wr => w2.grownBy wr none ∧ ((i = .int .i64 0 ∧ s = .slice none 0 0) ∨ (i = .int .i64 1 ∧ ∃ A c, s = .slice A 1 c))) (fun _ i _ => 1 - (intOf i).toNat)
  case atStart => exact ⟨World.grownBy.refl _ _, .inl ⟨rfl, rfl⟩⟩
  case round =>
    obtain ⟨hgr, hs⟩ := hrel
    rcases hs with ⟨rfl, rfl⟩ | ⟨rfl, A, c', rfl⟩
    · have hc1 : wr.cell? ⟨g, 0, none⟩ = some (.int .i64 1) := (World.cell?_of_block (hgr.block g hlt (by simp))).trans hc
      go_wp2_with fail
      refine (lowest_one _).mono ?_
      rintro e w3 ⟨rfl, hg3⟩
      go_wp2_with fail
      go_roundw
      case rel => exact ⟨grow_drew (grow_alloc (grow_alloc (grow_trans hgr hg3) _) _), .inr ⟨rfl, _, _, rfl⟩⟩
      case measure => simp [intOf]
    · go_wp2_with fail
      go_ret2
      exact ⟨_, _, rfl, grow_trans hgw hgr⟩
end Go.Proofs.YtdoooppeiphefaaGreatDoor
namespace Go.Proofs.YtdoooppeiphefaaGreatDoor
open Go.RowKit
/-- A station as cells: a key and fourteen numbers. -/
def stCells (key : ByteArray) (hs : List Int) : List Value := .string key :: hs.map (Value.int .i64)
theorem st_one (key : ByteArray) (hs : List Int) : ∀ v ∈ stCells key hs, v.oneCell' = true := by
  intro v hv
  simp only [stCells, List.mem_cons] at hv
  rcases hv with rfl | hv
  · rfl
  · exact ints_one _ v hv
theorem info_st : (Tryz.prog.info? 156).map (·.size) = some 15 := by kernel_rfl
theorem info_win : (Tryz.prog.info? 39).map (·.size) = some 2 := by kernel_rfl
theorem st_len (key : ByteArray) (hs : List Int) (h : hs.length = 14) : (stCells key hs).length = 15 := by simp [stCells, h]
theorem info_hours : (Tryz.prog.info? 154).map (·.size) = some 14 := by kernel_rfl
end Go.Proofs.YtdoooppeiphefaaGreatDoor
namespace Go.Proofs.YtdoooppeiphefaaGreatDoor
open Go.RowKit
def stEnc (s : St) : List Value := stCells s.key s.hs
def StOk (s : St) : Prop := s.hs.length = 14 ∧ s.key.size ≤ 1000000 ∧ ∀ h ∈ s.hs, -9223372036854775808 ≤ h ∧ h ≤ 9223372036854775807
theorem hrs_pair (hs : List Int) (j : Nat) (h : j * 2 + 1 < hs.length) : ((hs.map (Value.int .i64)).drop (j * 2)).take 2 = [.int .i64 (frAt hs j), .int .i64 (toAt hs j)] := by
  have h0 : j * 2 < (hs.map (Value.int .i64)).length := by simp; omega
  have h1 : j * 2 + 1 < (hs.map (Value.int .i64)).length := by simp; omega
  rw [List.drop_eq_getElem_cons h0, List.drop_eq_getElem_cons h1]
  simp [frAt, toAt, List.getD_eq_getElem?_getD, List.getElem?_eq_getElem (show j * 2 < hs.length by omega), List.getElem?_eq_getElem h]
set_option maxRecDepth 100000 in
set_option maxHeartbeats 1000000 in
theorem checkStations_any (l : List St) (A : Option Addr) (n c : Nat) (w : World) (hl : SlT stEnc 15 156 w A n l) (hok : ∀ s ∈ l, StOk s) (hn : n ≤ 1000000) :
    Calls Tryz.prog 225 #[.slice A n c] w fun e w' => e = .returned (.int .i64 (stationsE l)) ∧ w.grownBy w' none := by
  by_cases h50 : 50 < n
  · have hsp : stationsE l = 2 := by simp [stationsE, hl.len, h50]
    have Hsp := Lib.hid hsp; clear hsp
    go_enter Tryz.func225, Tryz.ntmps225
    go_wp2_with fail
    go_ret
    exact ⟨by rw [Hsp.out]; rfl, World.grownBy.refl _ _⟩
  · have hsp : stationsE l = scanE stationE (prevOf l 0) (l.drop 0) := by simp [stationsE, hl.len, h50, prevOf]
    have Hsp := Lib.hid hsp; clear hsp
    have hd : decide ((50 : Int) < (n : Int)) = false := by simp; omega
    go_enter Tryz.func225, Tryz.ntmps225
    go_wp2_with fail
    go_loopw [12] (fun i wr => ∃ k : Nat, k ≤ n ∧ i = .int .i64 k ∧ stationsE l = scanE stationE (prevOf l k) (l.drop k) ∧ w.grownBy wr none) (fun i _ => n - (intOf i).toNat)
    case atStart => exact ⟨0, Nat.zero_le _, rfl, Hsp.out, World.grownBy.refl _ _⟩
    case round =>
      obtain ⟨k, hk, rfl, hE, hgr⟩ := hrel
      have HE := Lib.hid hE; clear hE
      by_cases hlt : k < n
      · have hlr := hl.grow0 hgr
        obtain ⟨b, off, rfl, hbl, hrg⟩ := hlr.get (by omega)
        obtain ⟨x, hx⟩ : ∃ x, l[k]? = some x := ⟨_, List.getElem?_eq_getElem (by have := hl.len; omega)⟩
        have hxo := hok x (List.mem_of_getElem? hx)
        have hrx := hrg k x hx
        have hat := scanE_at stationE l k x hx
        have Hat := Lib.hid hat; clear hat
        have Hrg := Lib.hid hrg; clear hrg
        obtain ⟨key, hs⟩ := x
        have hrx : wr.rangeAt b (off + k * 15) (stCells key hs) := hrx
        have hl14 := Lib.hid (show hs.length = 14 from hxo.1)
        have hks : key.size ≤ 1000000 := hxo.2.1
        have hhb : ∀ h ∈ hs, -9223372036854775808 ≤ h ∧ h ≤ 9223372036854775807 := hxo.2.2
        have hln := fun (_ : True) => (st_len key hs hl14.out)
        have hst : (Tryz.prog.info? 156).map (·.size) = some (stCells key hs).length := by rw [hln trivial]; exact info_st
        have Hst := Lib.hid hst; clear hst hxo hln
        have hnew : Blk (wr.alloc (.cells #[.string ⟨#[]⟩, .int .i64 0, .int .i64 0, .int .i64 0, .int .i64 0, .int .i64 0, .int .i64 0, .int .i64 0, .int .i64 0, .int .i64 0, .int .i64 0, .int .i64 0, .int .i64 0, .int .i64 0, .int .i64 0] 156)) wr.heap.size 156 (stCells (⟨#[]⟩ : ByteArray) (List.replicate 14 0)) := Blk.at_ wr rfl _ _
        go_wp2_with (first
          | (with_reducible refine wpList_load_mid rfl 156 (.tmp 15) rfl b (off + k * 15) rfl (stCells key hs) _ hrx Tryz.underlying156 rfl Hst.out ?_)
          | (with_reducible refine wpList_store_all rfl 156 (.tmp 4) (.tmp 16) rfl wr.heap.size _ _ (stCells key hs) hnew rfl rfl 15 info_st (st_len _ _ hl14.out) (st_len _ _ (by simp)) (st_one _ _) ?_
             intro w1 hb1 hg1
             have hk1 : w1.cell? ⟨wr.heap.size, 0, none⟩ = some (.string key) := hb1.cell_of rfl))
        refine (isKey_any key _ (by omega)).mono ?_
        rintro e w2 ⟨rfl, rfl⟩
        have hgr1 : w.grownBy w1 none := grow_own (grow_alloc hgr _) hg1 (by simpa using hgr.size)
        have hgw : wr.grownBy w1 none := grow_own (grow_alloc (World.grownBy.refl _ _) _) hg1 (by simp)
        clear hrx hnew hg1
        by_cases hkey : keyB key = false
        · have h5 : stationE (prevOf l k) ⟨key, hs⟩ = 5 := by simp [stationE, hkey]
          have H5 := Lib.hid h5; clear h5
          go_wp2_with fail
          go_ret
          exact ⟨by rw [HE.out, Hat.out, if_neg (by rw [H5.out]; decide), H5.out]; rfl, hgr1⟩
        · have hkey : keyB key = true := by simpa using hkey
          obtain ⟨o8, ho8⟩ : ∃ o, o = prevB (prevOf l k) (fun q => leB key q.key) := ⟨_, rfl⟩
          have Ho8 := Lib.hid ho8; clear ho8
          go_upto_region 8 with fail
          go_cut [22] (fun v wx => v = .bool o8 ∧ ∃ nq, wx = w1.drewN nq)
          case first =>
            by_cases hk0 : k = 0
            · have hz : decide ((0 : Int) < (k : Int)) = false := by simp; omega
              have hz2 : decide (0 < k) = false := by simp; omega
              have ho : o8 = false := by rw [Ho8.out]; simp [prevB, prevOf, hk0]
              have Ho := Lib.hid ho
              clear ho hk0
              go_quiet (fail)
              go_wp2_with fail
              go_meet
              exact ⟨by rw [Ho.out], _, rfl⟩
            · have hz : (0 : Int) < (k : Int) := by omega
              have hz2 : decide (0 < k) = true := decide_eq_true (by omega)
              obtain ⟨q, hq⟩ : ∃ q, l[k - 1]? = some q := ⟨_, List.getElem?_eq_getElem (by have := hl.len; omega)⟩
              have hrq := Hrg.out (k - 1) q hq
              have ho : o8 = leB key q.key := by rw [Ho8.out]; simp [prevB, prevOf, hk0, hq]
              have Ho := Lib.hid ho
              have hqk : wr.cell? ⟨b, off + (k - 1) * 15, none⟩ = some (.string q.key) := hrq 0 _ rfl
              have hki : (k : Int) - 1 = ((k - 1 : Nat) : Int) := by omega
              have hk1n : (k : Int) - 1 < (n : Int) := by omega
              have hqk1 : w1.cell? ⟨b, off + (k - 1) * 15, none⟩ = some (.string q.key) := (World.cell?_of_block (hgw.block b hbl (by simp))).trans hqk
              clear ho hk0 hq hrq
              go_quiet (fail)
              go_wp2_with fail
              go_meet
              exact ⟨by rw [Ho.out]; rfl, _, rfl⟩
          case rest =>
            obtain ⟨rfl, nq, rfl⟩ := hcut
            have hb2 : Blk (w1.drewN nq) wr.heap.size 156 (stCells key hs) := hb1.drewN nq
            have hgr2 : w.grownBy (w1.drewN nq) none := grow_drewN hgr1 nq
            clear hb1 hgr1 hgw
            obtain ⟨w2, hw2⟩ : ∃ w2, w2 = w1.drewN nq := ⟨_, rfl⟩
            rw [← hw2] at hb2 hgr2 ⊢
            clear hw2
            cases o8
            · have hE1 : stationE (prevOf l k) ⟨key, hs⟩ = if hoursBad hs then 1 else 0 := by
                have ho := Ho8.out
                unfold stationE
                rw [if_neg (by simp [hkey]), show prevB (prevOf l k) (fun q => leB (⟨key, hs⟩ : St).key q.key) = _ from ho.symm]
                rfl
              have HE1 := Lib.hid hE1; clear hE1
              have hvv : ∀ j v, (hs.map (Value.int .i64))[j]? = some v → (stCells key hs)[1 + j]? = some v := fun j v hv => by rw [Nat.add_comm]; exact hv
              have Hvv := Lib.hid hvv; clear hvv
              go_wp2_with (with_reducible refine wpList_load_blk rfl 154 (.tmp 36) rfl wr.heap.size 1 _ (stCells key hs) (hs.map (Value.int .i64)) _ hb2 rfl Tryz.underlying154 rfl 14 info_hours (by simpa using hl14.out) Hvv.out ?_)
              obtain ⟨wo, hwo⟩ : ∃ wo : World, wo = wr := ⟨_, rfl⟩
              rw [← hwo] at hb2 ⊢
              clear hwo
              go_loopw [38] (fun i wr => ∃ j : Nat, j ≤ 7 ∧ i = .int .i64 j ∧ (∀ t, t < j → winBad (frAt hs t) (toAt hs t) = false) ∧ w.grownBy wr none) (fun i _ => 7 - (intOf i).toNat)
              case atStart => exact ⟨0, by omega, rfl, fun t ht => absurd ht (by omega), hgr2⟩
              case round =>
                obtain ⟨j, hj, rfl, hJ, hgj⟩ := hrel
                have HJ := Lib.hid hJ; clear hJ
                by_cases hj7 : j < 7
                · have hvs : ((hs.map (Value.int .i64)).drop (j * 2)).take 2 = [.int .i64 (frAt hs j), .int .i64 (toAt hs j)] := hrs_pair hs j (by have := hl14.out; omega)
                  have Hvs := Lib.hid hvs; clear hvs
                  obtain ⟨f, hf⟩ : ∃ f, f = frAt hs j := ⟨_, rfl⟩
                  obtain ⟨t, ht⟩ : ∃ t, t = toAt hs j := ⟨_, rfl⟩
                  rw [← hf, ← ht] at Hvs
                  have Hf := Lib.hid hf
                  have Ht := Lib.hid ht
                  clear hf ht
                  go_wp2_with (with_reducible refine wpList_index_row rfl 154 (.tmp 37) (.tmp 38) rfl (hs.map (Value.int .i64)) j rfl rfl 7 _ Tryz.underlying154 _ Tryz.underlying39 rfl 2 info_win hj7 [.int .i64 f, .int .i64 t] Hvs.out ?_)
                  refine (in_any _ _ _ _).mono ?_
                  rintro e w3 ⟨rfl, rfl⟩
                  obtain ⟨x, hx⟩ : ∃ x, inB f 0 t = x := ⟨_, rfl⟩
                  rw [hx]
                  have Hx := Lib.hid hx; clear hx
                  by_cases hbad : winBad f t = true
                  · have hany : hoursBad hs = true := by
                      simp only [hoursBad, List.any_eq_true, List.mem_range]
                      exact ⟨j, hj7, by rw [← Hf.out, ← Ht.out]; exact hbad⟩
                    have Hfin := Lib.hid (show stationE (prevOf l k) ⟨key, hs⟩ = 1 by rw [HE1.out, if_pos hany])
                    have Hb := Lib.hid hbad
                    clear hany hbad
                    cases x
                    · go_wp2_with fail
                      go_ret
                      exact ⟨by rw [HE.out, Hat.out, if_neg (by rw [Hfin.out]; decide), Hfin.out]; rfl, grow_alloc hgj _⟩
                    · have h14 : (1440 : Int) < t := by have := Hb.out; simp [winBad, Hx.out] at this; exact this
                      go_wp2_with fail
                      go_ret
                      exact ⟨by rw [HE.out, Hat.out, if_neg (by rw [Hfin.out]; decide), Hfin.out]; rfl, grow_alloc hgj _⟩
                  · have hx1 : x = true := by have := Hx.out; simp only [winBad, this] at hbad; cases x <;> simp_all
                    have h14 : ¬ (1440 : Int) < t := by intro h; apply hbad; simp [winBad, h]
                    have Hb := Lib.hid (show winBad f t = false by simpa using hbad)
                    subst hx1
                    clear hbad
                    go_wp2_with fail
                    go_roundw
                    case rel => exact ⟨j + 1, by omega, by go_num, fun i hi => by
                      rcases Nat.lt_or_ge i j with h | h
                      · exact HJ.out i h
                      · obtain rfl : i = j := by omega
                        rw [← Hf.out, ← Ht.out]; exact Hb.out, grow_alloc hgj _⟩
                    case measure => simp [intOf]; omega
                · have hno : hoursBad hs = false := by
                    simp only [hoursBad, List.any_eq_false, List.mem_range]
                    intro i hi
                    rw [HJ.out i (by omega)]
                    decide
                  have Hfin := Lib.hid (show stationE (prevOf l k) ⟨key, hs⟩ = 0 by rw [HE1.out, if_neg (by simp [hno])])
                  clear hno
                  go_wp2_with fail
                  go_roundw
                  case rel => exact ⟨k + 1, by omega, by go_num, by rw [HE.out, Hat.out, if_pos Hfin.out], hgj⟩
                  case measure => simp [intOf]; omega
            · have hE1 : stationE (prevOf l k) ⟨key, hs⟩ = 7 := by
                have ho := Ho8.out
                unfold stationE
                rw [if_neg (by simp [hkey]), show prevB (prevOf l k) (fun q => leB (⟨key, hs⟩ : St).key q.key) = _ from ho.symm]
                rfl
              have Hfin := Lib.hid hE1; clear hE1
              go_wp2_with fail
              go_ret
              exact ⟨by rw [HE.out, Hat.out, if_neg (by rw [Hfin.out]; decide), Hfin.out]; rfl, hgr2⟩
      · go_wp2_with fail
        go_ret
        exact ⟨by rw [HE.out, scanE_end _ _ _ _ (by have := hl.len; omega)]; rfl, hgr⟩
end Go.Proofs.YtdoooppeiphefaaGreatDoor
namespace Go.Proofs.YtdoooppeiphefaaGreatDoor
open Go.RowKit
theorem list14 (hs : List Int) (h : hs.length = 14) : ∃ a0 a1 a2 a3 a4 a5 a6 a7 a8 a9 a10 a11 a12 a13, hs = [a0, a1, a2, a3, a4, a5, a6, a7, a8, a9, a10, a11, a12, a13] := by
  match hs, h with
  | [a0, a1, a2, a3, a4, a5, a6, a7, a8, a9, a10, a11, a12, a13], _ => exact ⟨a0, a1, a2, a3, a4, a5, a6, a7, a8, a9, a10, a11, a12, a13, rfl⟩
def hourFr (hs : List Int) (d : Int) : Int := d * 1440 + frAt hs (d % 7).toNat
def hourTo (hs : List Int) (d : Int) : Int := d * 1440 + toAt hs (d % 7).toNat
def GotWin (w : World) (a b : Int) (e : Ending) (w' : World) : Prop := e = .returned (.agg #[.int .i64 a, .int .i64 b]) ∧ w.grownBy w' none
set_option maxRecDepth 100000 in
set_option maxHeartbeats 1000000 in
theorem hours_any (key : ByteArray) (hs : List Int) (d : Int) (w : World) (hl : hs.length = 14) (hd0 : 0 ≤ d) (hd1 : d ≤ 1000000000) (hb : ∀ h ∈ hs, -1000000000000000000 ≤ h ∧ h ≤ 1000000000000000000) :
    Calls Tryz.prog 190 #[.agg (stCells key hs).toArray, .int .i64 d] w (GotWin w (hourFr hs d) (hourTo hs d)) := by
  obtain ⟨j, hj⟩ : ∃ j : Nat, (j : Int) = d % 7 := ⟨(d % 7).toNat, by omega⟩
  have hj7 : j < 7 := by omega
  have hF : hourFr hs d = d * 1440 + frAt hs j := by unfold hourFr; rw [← hj]; simp
  have hT : hourTo hs d = d * 1440 + toAt hs j := by unfold hourTo; rw [← hj]; simp
  have hf : -1000000000000000000 ≤ frAt hs j ∧ frAt hs j ≤ 1000000000000000000 := by
    unfold frAt; rw [List.getD_eq_getElem?_getD, List.getElem?_eq_getElem (by omega)]; exact hb _ (List.getElem_mem _)
  have ht : -1000000000000000000 ≤ toAt hs j ∧ toAt hs j ≤ 1000000000000000000 := by
    unfold toAt; rw [List.getD_eq_getElem?_getD, List.getElem?_eq_getElem (by omega)]; exact hb _ (List.getElem_mem _)
  rw [hF, hT]
  have hvs : ((hs.map (Value.int .i64)).drop (j * 2)).take 2 = [.int .i64 (frAt hs j), .int .i64 (toAt hs j)] := hrs_pair hs j (by omega)
  generalize frAt hs j = f at *
  generalize toAt hs j = t at *
  have hvv : ∀ i v, [Value.int .i64 f, Value.int .i64 t][i]? = some v → (stCells key hs)[1 + j * 2 + i]? = some v := fun i v hv => by
    rw [← hvs, List.getElem?_take] at hv
    split at hv
    · rw [List.getElem?_drop] at hv
      rw [show 1 + j * 2 + i = (j * 2 + i) + 1 by omega]
      exact hv
    · cases hv
  have Hvv := Lib.hid hvv
  have hj' : d % 7 = (j : Int) := hj.symm
  have hbox : Blk ((w.alloc (.cells (stCells key hs).toArray 156)).alloc (.cells #[.int .i64 0, .int .i64 0] 39)) w.heap.size 156 (stCells key hs) := (Blk.at_ w rfl _ _).alloc _
  clear hvv hvs hF hT hj
  go_enter Tryz.func190, Tryz.ntmps190
  go_wp2_with (with_reducible refine wpList_load_blk rfl 39 (.tmp 9) rfl w.heap.size (1 + j * 2) _ (stCells key hs) [.int .i64 f, .int .i64 t] _ hbox rfl Tryz.underlying39 rfl 2 info_win (by simp) Hvv.out ?_)
  refine bodyPost_ret (v := .agg #[.int .i64 (d * 1440 + f), .int .i64 (d * 1440 + t)]) (by simp [results, Tryz.results190, go_sem]) rfl ⟨rfl, ?_⟩
  exact grow_alloc (grow_alloc (grow_alloc (World.grownBy.refl _ _) _) _) _
theorem sl_one {key : ByteArray} {hs : List Int} {w : World} {g : Nat} (h : Blk w g 156 (stCells key hs)) : SlT stEnc 15 156 w (some ⟨g, 0, none⟩) 1 [⟨key, hs⟩] :=
  ⟨rfl, fun _ => ⟨g, 0, _, _, rfl, h, fun i x hx j v hv => by
    match i, hx with
    | 0, hx =>
      simp at hx; subst hx
      simpa [stEnc] using hv⟩⟩
set_option maxRecDepth 100000 in
set_option maxHeartbeats 1000000 in
theorem checkStation_any (key : ByteArray) (hs : List Int) (f : Int) (w : World) (hok : StOk ⟨key, hs⟩) :
    Calls Tryz.prog 189 #[.agg (stCells key hs).toArray, .int .i64 f] w fun e w' => e = .returned (.int .i64 (firstE [stationsE [⟨key, hs⟩], f])) ∧ w.grownBy w' none := by
  have hsl := fun (wz : World) (hz : wz.heap.size = w.heap.size + 1) => sl_one (Blk.at_ wz hz 156 (stCells key hs))
  have Hsl := Lib.hid hsl
  have Hok := Lib.hid hok
  clear hsl
  obtain ⟨a0, a1, a2, a3, a4, a5, a6, a7, a8, a9, a10, a11, a12, a13, rfl⟩ := list14 hs hok.1
  clear hok
  show Calls Tryz.prog 189 #[.agg #[.string key, .int .i64 a0, .int .i64 a1, .int .i64 a2, .int .i64 a3, .int .i64 a4, .int .i64 a5, .int .i64 a6, .int .i64 a7, .int .i64 a8, .int .i64 a9, .int .i64 a10, .int .i64 a11, .int .i64 a12, .int .i64 a13], .int .i64 f] w _
  go_enter Tryz.func189, Tryz.ntmps189
  go_wp2_with fail
  refine (checkStations_any [⟨key, [a0, a1, a2, a3, a4, a5, a6, a7, a8, a9, a10, a11, a12, a13]⟩] _ _ _ _ (Hsl.out (w.alloc (.cells #[.string key, .int .i64 a0, .int .i64 a1, .int .i64 a2, .int .i64 a3, .int .i64 a4, .int .i64 a5, .int .i64 a6, .int .i64 a7, .int .i64 a8, .int .i64 a9, .int .i64 a10, .int .i64 a11, .int .i64 a12, .int .i64 a13] 156)) (by simp)) (by intro s hs; simp at hs; subst hs; exact Hok.out) (by omega)).mono ?_
  rintro e w1 ⟨rfl, hg1⟩
  have hg1' : w.grownBy w1 none := grow_trans (grow_alloc (grow_alloc (World.grownBy.refl _ _) _) _) hg1
  obtain ⟨E, hE⟩ : ∃ E, E = stationsE [⟨key, [a0, a1, a2, a3, a4, a5, a6, a7, a8, a9, a10, a11, a12, a13]⟩] := ⟨_, rfl⟩
  rw [← hE]
  have HE := Lib.hid hE; clear hE
  go_wp2_with fail
  refine (first_any [E, f] _ _ _ _ (Blk.at_ _ rfl _ _) (by simp)).mono ?_
  rintro e w2 ⟨rfl, rfl⟩
  go_wp2_with fail
  go_ret
  exact ⟨by rw [← HE.out]; rfl, grow_alloc hg1' _⟩
def isOpenE (s : St) (at_ : Int) : Int := firstE [stationsE [s], momentE at_]
def isOpenV (s : St) (at_ : Int) : Bool := isOpenE s at_ == 0 && decide (hourFr s.hs (at_ / 1440) ≤ at_) && decide (at_ < hourTo s.hs (at_ / 1440))
end Go.Proofs.YtdoooppeiphefaaGreatDoor
namespace Go.Proofs.YtdoooppeiphefaaGreatDoor
open Go.RowKit
set_option maxRecDepth 100000 in
set_option maxHeartbeats 2000000 in
theorem lotOpen_any (key : ByteArray) (hs : List Int) (at_ : Int) (w : World) (hok : StOk ⟨key, hs⟩) (hb : ∀ h ∈ hs, -1000000000000000000 ≤ h ∧ h ≤ 1000000000000000000) :
    Calls Tryz.prog 92 #[.agg (stCells key hs).toArray, .int .i64 at_] w (RetBE w (isOpenV ⟨key, hs⟩ at_) (isOpenE ⟨key, hs⟩ at_)) := by
  have Hok := Lib.hid hok
  have Hb := Lib.hid hb
  clear hb
  obtain ⟨a0, a1, a2, a3, a4, a5, a6, a7, a8, a9, a10, a11, a12, a13, rfl⟩ := list14 hs hok.1
  clear hok
  show Calls Tryz.prog 92 #[.agg #[.string key, .int .i64 a0, .int .i64 a1, .int .i64 a2, .int .i64 a3, .int .i64 a4, .int .i64 a5, .int .i64 a6, .int .i64 a7, .int .i64 a8, .int .i64 a9, .int .i64 a10, .int .i64 a11, .int .i64 a12, .int .i64 a13], .int .i64 at_] w _
  go_enter Tryz.func92, Tryz.ntmps92
  go_wp2_with fail
  refine wp_region_still_tail 3 (by kernel_rfl) (by kernel_rfl) ?_
  change wpStill _ _ (World.drew _) _ _ _
  simp only [List.take_succ_cons, List.take_zero, List.drop_succ_cons, List.drop_zero]
  still_step
  still_step
  still_call ((moment_any at_ _).mono fun _ _ h => ⟨h.1, h.2.symm⟩)
  refine wpStill_nil ?_
  change wpList _ _ _ _ _ (World.drew _)
  go_wp2_with fail
  refine (checkStation_any key [a0, a1, a2, a3, a4, a5, a6, a7, a8, a9, a10, a11, a12, a13] _ _ Hok.out).mono ?_
  rintro e w1 ⟨rfl, hg1⟩
  obtain ⟨E, hE⟩ : ∃ E, E = isOpenE ⟨key, [a0, a1, a2, a3, a4, a5, a6, a7, a8, a9, a10, a11, a12, a13]⟩ at_ := ⟨_, rfl⟩
  rw [show firstE [stationsE [⟨key, [a0, a1, a2, a3, a4, a5, a6, a7, a8, a9, a10, a11, a12, a13]⟩], momentE at_] = E from hE.symm]
  have HE := Lib.hid hE; clear hE
  have hbox : Blk w1 w.heap.size 156 (stCells key [a0, a1, a2, a3, a4, a5, a6, a7, a8, a9, a10, a11, a12, a13]) := ((Blk.at_ w rfl _ _).drewN 1).grown hg1 (by simp)
  have hgw : w.grownBy w1 none := grow_trans (grow_drew (grow_alloc (World.grownBy.refl _ _) _)) hg1
  clear hg1
  by_cases h0 : E = 0
  · have hm := momentE_ok (firstE_two (HE.out.symm.trans h0)).2
    have hdv : at_.tdiv 1440 = at_ / 1440 := Int.tdiv_eq_ediv_of_nonneg hm.1
    have hd0 : 0 ≤ at_ / 1440 := by omega
    have hd1 : at_ / 1440 ≤ 1000000000 := by omega
    obtain ⟨d, hd⟩ : ∃ d, d = at_ / 1440 := ⟨_, rfl⟩
    have hV : isOpenV ⟨key, [a0, a1, a2, a3, a4, a5, a6, a7, a8, a9, a10, a11, a12, a13]⟩ at_ = (decide (hourFr [a0, a1, a2, a3, a4, a5, a6, a7, a8, a9, a10, a11, a12, a13] d ≤ at_) && decide (at_ < hourTo [a0, a1, a2, a3, a4, a5, a6, a7, a8, a9, a10, a11, a12, a13] d)) := by
      unfold isOpenV
      rw [← HE.out, h0, ← hd]; rfl
    rw [← hd] at hdv hd0 hd1
    have hd' : at_ / 1440 = d := hd.symm
    have HV := Lib.hid hV
    subst h0
    clear hV hd
    go_wp2_with (with_reducible refine wpList_load_all rfl 156 (.tmp 2) rfl w.heap.size _ (stCells key [a0, a1, a2, a3, a4, a5, a6, a7, a8, a9, a10, a11, a12, a13]) _ hbox rfl Tryz.underlying156 rfl 15 info_st rfl ?_)
    refine (hours_any key [a0, a1, a2, a3, a4, a5, a6, a7, a8, a9, a10, a11, a12, a13] _ _ rfl hd0 hd1 Hb.out).mono ?_
    rintro e w2 ⟨rfl, hg2⟩
    have hgw2 := grow_trans hgw hg2
    obtain ⟨F, hF⟩ : ∃ F, F = hourFr [a0, a1, a2, a3, a4, a5, a6, a7, a8, a9, a10, a11, a12, a13] d := ⟨_, rfl⟩
    obtain ⟨T, hT⟩ : ∃ T, T = hourTo [a0, a1, a2, a3, a4, a5, a6, a7, a8, a9, a10, a11, a12, a13] d := ⟨_, rfl⟩
    rw [← hF, ← hT] at HV ⊢
    clear hF hT hbox hgw hg2
    go_wp2_with fail
    all_goals
      go_ret2
      exact ⟨ret_be (by rw [HV.out]; simp [*] <;> (intros; omega)) HE.out, grow_alloc hgw2 _⟩
  · have hne : (E != 0) = true := by simpa using h0
    have hV : isOpenV ⟨key, [a0, a1, a2, a3, a4, a5, a6, a7, a8, a9, a10, a11, a12, a13]⟩ at_ = false := by
      unfold isOpenV
      rw [← HE.out]; simp [h0]
    have HV := Lib.hid hV
    clear hV h0
    go_wp2_with fail
    go_ret2
    exact ⟨ret_be HV.out.symm HE.out, hgw⟩
end Go.Proofs.YtdoooppeiphefaaGreatDoor
namespace Go.Proofs.YtdoooppeiphefaaGreatDoor
open Go.RowKit
theorem ready_open : isOpenV ⟨⟨#[115]⟩, [0, 9, 0, 0, 0, 0, 0, 0, 0, 0, 0, 0, 0, 0]⟩ 8 = true ∧ isOpenE ⟨⟨#[115]⟩, [0, 9, 0, 0, 0, 0, 0, 0, 0, 0, 0, 0, 0, 0]⟩ 8 = 0 := ⟨by kernel_rfl, by kernel_rfl⟩
theorem ready_days : (if timeE 0 1441 = 0 then daysV 0 1441 else 0) = 2 ∧ timeE 0 1441 = 0 := ⟨by decide +kernel, by decide +kernel⟩
theorem ready_hire : hireE ⟨⟨#[104]⟩, ⟨#[100]⟩, 5, 9, [startLeg ⟨#[118]⟩ ⟨5, ⟨#[115]⟩, 0, 0⟩]⟩ = 0 := by kernel_rfl
set_option maxRecDepth 100000 in
set_option maxHeartbeats 1000000 in
theorem ready_any (w : World) : Calls Tryz.prog 28 #[] w (fun e w' => e = .returned (.bool true) ∧ w.grownBy w' none) := by
  have cD : ∀ w, Calls Tryz.prog 91 #[.agg #[.int .i64 0, .int .i64 1441]] w (fun e w' => e = .returned (.tuple #[.int .i64 2, .int .i64 0]) ∧ w.grownBy w' none) := fun w => by
    have h := tdays_any 0 1441 w
    rw [ready_days.1, ready_days.2] at h
    exact h
  have cO : ∀ w, Calls Tryz.prog 92 #[.agg #[.string ⟨#[115]⟩, .int .i64 0, .int .i64 9, .int .i64 0, .int .i64 0, .int .i64 0, .int .i64 0, .int .i64 0, .int .i64 0, .int .i64 0, .int .i64 0, .int .i64 0, .int .i64 0, .int .i64 0, .int .i64 0], .int .i64 8] w (RetBE w true 0) := fun w => by
    have hs : ∀ h ∈ [0, 9, 0, 0, 0, 0, 0, 0, 0, 0, 0, 0, 0, (0 : Int)], 0 ≤ h ∧ h ≤ 9 := by decide
    have h := lotOpen_any ⟨#[115]⟩ [0, 9, 0, 0, 0, 0, 0, 0, 0, 0, 0, 0, 0, 0] 8 w ⟨rfl, (by decide : (⟨#[115]⟩ : ByteArray).size ≤ 1000000), fun h hh => by have := hs h hh; omega⟩ (fun h hh => by have := hs h hh; omega)
    rw [ready_open.1, ready_open.2] at h
    exact h
  have cH : ∀ w, Calls Tryz.prog 94 #[.string ⟨#[104]⟩, .string ⟨#[100]⟩, .agg #[.int .i64 5, .int .i64 9], .string ⟨#[118]⟩, .agg #[.int .i64 5, .string ⟨#[115]⟩, .int .i64 0, .int .i64 0]] w (fun e w' => ∃ A, e = .returned (.tuple #[.agg #[.string ⟨#[104]⟩, .string ⟨#[100]⟩, .int .i64 5, .int .i64 9, .slice A 1 1], .int .i64 0]) ∧ w.grownBy w' none) := fun w => by
    have h := start_any ⟨#[104]⟩ ⟨#[100]⟩ 5 9 ⟨#[118]⟩ ⟨5, ⟨#[115]⟩, 0, 0⟩ w (by decide) (by decide) (by decide) (by decide : (⟨#[115]⟩ : ByteArray).size ≤ 1000000)
    rw [ready_hire] at h
    exact h.mono fun e w' ⟨A, h1, _, h3⟩ => ⟨A, h1, h3⟩
  have CD := Lib.hid cD
  have CO := Lib.hid cO
  have CH := Lib.hid cH
  clear cD cO cH
  go_enter Tryz.func28, Tryz.ntmps28
  go_wp2_with fail
  refine (CD.out _).mono ?_
  rintro e w1 ⟨rfl, hg1⟩
  go_wp2_with fail
  refine (CO.out _).mono ?_
  rintro e w2 ⟨rfl, hg2⟩
  go_wp2_with fail
  refine (bspread_nil _).mono ?_
  rintro e w3 ⟨A3, c3, rfl, hg3⟩
  go_wp2_with fail
  refine (CH.out _).mono ?_
  rintro e w4 ⟨A4, rfl, hg4⟩
  go_wp2_with fail
  go_ret
  exact ⟨rfl, grow_alloc (grow_trans (grow_trans (grow_trans hg1 hg2) hg3) hg4) _⟩
end Go.Proofs.YtdoooppeiphefaaGreatDoor
