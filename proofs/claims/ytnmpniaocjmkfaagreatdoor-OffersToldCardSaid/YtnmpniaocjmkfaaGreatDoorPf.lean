/- Several texts as one: Vb Qe Ofs -/
import Derived.Test.YtnmpniaocjmkfaaGreatDoorPd
import Derived.Test.YtnmpniaocjmkfaaGreatDoorPb
import Derived.Test.YtnmpniaocjmkfaaGreatDoorPa
import Derived.Test.YtnmpniaocjmkfaaGreatDoorPe
import Derived.Test.YtnmpniaocjmkfaaGreatDoorPc
set_option maxRecDepth 100000
set_option maxHeartbeats 4000000
namespace Go.Proofs.YtnmpniaocjmkfaaGreatDoor
open Go.RowKit
/-- A tax that may be there. -/
def ap (l : List Tx) (b : Bool) (x : Tx) : List Tx := bif b then l ++ [x] else l
theorem ap_at {b1 b2 b3 : Bool} {x1 x2 x3 y : Tx} {j : Nat} (h : (ap (ap (ap [] b1 x1) b2 x2) b3 x3)[j]? = some y) :
    (y = x1 ∧ ∀ z, ∀ x ∈ (ap (ap (ap [] b1 x1) b2 x2) b3 x3).set j z, x = z ∨ x = x2 ∨ x = x3) ∨ (y = x2 ∧ ∀ z, ∀ x ∈ (ap (ap (ap [] b1 x1) b2 x2) b3 x3).set j z, x = x1 ∨ x = z ∨ x = x3) ∨ (y = x3 ∧ ∀ z, ∀ x ∈ (ap (ap (ap [] b1 x1) b2 x2) b3 x3).set j z, x = x1 ∨ x = x2 ∨ x = z) := by
  match j with
  | 0 => cases b1 <;> cases b2 <;> cases b3 <;> simp only [ap, cond_true, cond_false, List.nil_append, List.cons_append, List.getElem?_cons_zero, List.getElem?_nil, Option.some.injEq, reduceCtorEq] at h <;> subst h <;> first
    | exact .inl ⟨rfl, fun z x hx => by simp [ap] at hx; first | exact hx | (rcases hx with hx | hx <;> simp [hx]) | simp [hx]⟩
    | exact .inr (.inl ⟨rfl, fun z x hx => by simp [ap] at hx; first | exact hx | (rcases hx with hx | hx <;> simp [hx]) | simp [hx]⟩)
    | exact .inr (.inr ⟨rfl, fun z x hx => by simp [ap] at hx; first | exact hx | (rcases hx with hx | hx <;> simp [hx]) | simp [hx]⟩)
  | 1 => cases b1 <;> cases b2 <;> cases b3 <;> simp only [ap, cond_true, cond_false, List.nil_append, List.cons_append, List.getElem?_cons_succ, List.getElem?_cons_zero, List.getElem?_nil, Option.some.injEq, reduceCtorEq] at h <;> subst h <;> first
    | exact .inr (.inl ⟨rfl, fun z x hx => by simp [ap] at hx; first | exact hx | (rcases hx with hx | hx <;> simp [hx]) | simp [hx]⟩)
    | exact .inr (.inr ⟨rfl, fun z x hx => by simp [ap] at hx; first | exact hx | (rcases hx with hx | hx <;> simp [hx]) | simp [hx]⟩)
  | 2 => cases b1 <;> cases b2 <;> cases b3 <;> simp only [ap, cond_true, cond_false, List.nil_append, List.cons_append, List.getElem?_cons_succ, List.getElem?_cons_zero, List.getElem?_nil, Option.some.injEq, reduceCtorEq] at h <;> subst h <;> exact .inr (.inr ⟨rfl, fun z x hx => by simp [ap] at hx; exact hx⟩)
  | n + 3 => cases b1 <;> cases b2 <;> cases b3 <;> simp [ap] at h
theorem ap_mem {b1 b2 b3 : Bool} {x1 x2 x3 : Tx} : ∀ x ∈ ap (ap (ap [] b1 x1) b2 x2) b3 x3, x = x1 ∨ x = x2 ∨ x = x3 := by
  intro x h
  cases b1 <;> cases b2 <;> cases b3 <;> simp [ap] at h <;> first | exact h | exact .inl h | exact .inr (.inl h) | exact .inr (.inr h) | exact h.imp id .inl | exact h.imp id .inr | exact .inr h
theorem ap_yes {l : List Tx} {n : Nat} {x : Tx} (h : n = l.length) : n + 1 = (ap l true x).length := by simp [ap, h]
theorem ap_flat (l : List Tx) (ke : ByteArray) (mi : Int) (A : Option Addr) (n c : Nat) (on : List Int) (ov : Bool) : l.flatMap txEnc ++ ([.string ke, .int .i64 mi, .slice A n c, .bool ov] : List Value) = (ap l true ⟨ke, mi, A, n, c, on, ov⟩).flatMap txEnc := by simp [ap, txEnc]
theorem ons_of {l : List Tx} {x1 x2 x3 : Tx} {w : World} (h : ∀ x ∈ l, x = x1 ∨ x = x2 ∨ x = x3) (h1 : SlT itEnc 1 3 w x1.A x1.n x1.on) (h2 : SlT itEnc 1 3 w x2.A x2.n x2.on) (h3 : SlT itEnc 1 3 w x3.A x3.n x3.on) : Ons l w := fun x hx => by
  rcases h x hx with rfl | rfl | rfl
  · exact h1
  · exact h2
  · exact h3
theorem ok_of {l : List Tx} {x1 x2 x3 : Tx} (h : ∀ x ∈ l, x = x1 ∨ x = x2 ∨ x = x3) (h1 : TxOk x1) (h2 : TxOk x2) (h3 : TxOk x3) : ∀ x ∈ l, TxOk x := fun x hx => by
  rcases h x hx with rfl | rfl | rfl
  · exact h1
  · exact h2
  · exact h3
theorem own_snoc {w : World} {N n c : Nat} {A : Option Addr} {l : List Int} {v : Int} (h : w.ownsRow N 3 1 (.slice A (n + 1) c) (n + 1) (l.flatMap itEnc ++ ([.int .i64 v] : List Value))) (hl : l.length = n) : SlT itEnc 1 3 w A (n + 1) (l ++ [v]) :=
  SlT.ofOwn it_len (by rw [show (l ++ [v]).flatMap itEnc = l.flatMap itEnc ++ ([.int .i64 v] : List Value) by simp [itEnc]]; exact h) (by simp [hl])
theorem gtaxes_any (w : World) (B sb m : Nat) (hS : Strm 25 w B sb m) (hm : m ≤ 100000000000) :
  Calls Tryz.prog 92 #[.pointer (some ⟨sb, 0, none⟩)] w (fun e w' => ∃ (A : Option Addr) (n c : Nat) (l : List Tx), e = .returned (.slice A n c) ∧ SlT txEnc 4 265 w' A n l ∧ Ons l w' ∧ (∀ x ∈ l, TxOk x) ∧ n ≤ 3 ∧ n ≤ c ∧ Strm 25 w' B sb (m + 400) ∧ w.grownBy w' (some sb)) := by
 refine gw_enter ⟨88, w, (some sb), []⟩ Tryz.func92 rfl Tryz.ntmps92 rfl (memS (X := []) hS allF_nil allL_nil) ?_
 refine sr_ (sg_ rfl (nn_ (sr_ (sg_ rfl (nn_ (gw_seq (sr_ ?_)))))))
 refine wl_buildSlice (e := 9) (cs := [.string ⟨#[99, 105, 116, 121]⟩, .string ⟨#[115, 116, 97, 116, 101]⟩, .string ⟨#[118, 97, 116]⟩]) rfl (by kernel_rfl) rfl fun g1 => ?_
 refine wl_ov (ov_len es36 rfl) rfl ?_
 refine wl_set 11 (v' := .int .i64 3) rfl rfl ?_
 refine mv_ rfl (nn_ (gw_block ?_))
 refine gw_nilOwn 265 4 ?_
 refine gw_rounds 4 ?_
 refine gr_next ?_
 refine sr_ (wl_ov (ov_lss rfl rfl) rfl ?_)
 refine wl_set 13 (v' := .bool true) rfl (congrArg Value.bool (by decide)) ?_
 refine nn_ (gw_seq (ct_ rfl (gw_skip (nx_then ?_))))
 refine gw_cut (γ := Bool × Value × Nat × List Value × ByteArray × Int × Option Addr × Nat × Nat × List Int × Bool) (I := (fun g => g.2.2.1 = (ap [] g.1 ⟨g.2.2.2.2.1, g.2.2.2.2.2.1, g.2.2.2.2.2.2.1, g.2.2.2.2.2.2.2.1, g.2.2.2.2.2.2.2.2.1, g.2.2.2.2.2.2.2.2.2.1, g.2.2.2.2.2.2.2.2.2.2⟩).length ∧ g.2.2.2.1 = (ap [] g.1 ⟨g.2.2.2.2.1, g.2.2.2.2.2.1, g.2.2.2.2.2.2.1, g.2.2.2.2.2.2.2.1, g.2.2.2.2.2.2.2.2.1, g.2.2.2.2.2.2.2.2.2.1, g.2.2.2.2.2.2.2.2.2.2⟩).flatMap txEnc ∧ g.2.2.2.2.1.size ≤ 100 ∧ g.2.2.2.2.2.2.2.2.2.1.length = g.2.2.2.2.2.2.2.1 ∧ g.2.2.2.2.2.2.2.1 ≤ 5 ∧ g.2.2.1 ≤ 1)) (S' := (fun g => [(0, .pointer (some ⟨sb, 0, none⟩)), (2, .slice none 0 0), (3, g.2.1), (10, .slice (some ⟨g1, 0, none⟩) 3 3), (11, .int .i64 3), (12, .int .i64 0)])) (K' := (fun g => fun w => Strm 25 w B sb (m + 100))) (L' := (fun g => [(g1, 9, [.string ⟨#[99, 105, 116, 121]⟩, .string ⟨#[115, 116, 97, 116, 101]⟩, .string ⟨#[118, 97, 116]⟩])])) (O' := (fun g => [⟨g.2.1, 265, 4, g.2.2.1, g.2.2.2.1⟩, ⟨.slice g.2.2.2.2.2.2.1 g.2.2.2.2.2.2.2.1 g.2.2.2.2.2.2.2.2.1, 3, 1, g.2.2.2.2.2.2.2.1, g.2.2.2.2.2.2.2.2.2.1.flatMap itEnc⟩])) (X' := (fun g => [])) ?_ ?_
 ·refine gw_block (sr_ ?_)
  refine wl_ov (ov_index (j := 0) es36 rfl rfl (by decide)) rfl ?_
  refine lk_ sc9 0 rfl rfl rfl (sg_ rfl (nn_ (gw_seq (sr_ (mv_ rfl ?_)))))
  refine wl_got (γ := Bool) (val := fun v => .bool v) (φ := fun v => True) rfl cb70 rfl rfl rfl rfl (fun wx hm => ((flip_any _ wx B sb _ hm.k (by omega) (by omega) (by omega)).mono fun _ _ ⟨v, he, hS, hg⟩ => ⟨v, trivial, he, hS, hg⟩)) fun f2 _ => ?_
  refine nn_ ?_
  refine gw_nilOwn 3 1 ?_
  refine gw_cond rfl (fun hh => ?_) (fun hh => ?_)
  ·have hz : f2 = true := by simpa using hh
   clear hh
   refine gw_exit ?_
   refine nx_then_exit ?_
   refine nx_blk_here ?_
   exact nx_meet (false, .slice none 0 0, 0, [], ⟨#[]⟩, 0, none, 0, 0, [], false) ⟨rfl, rfl, by dsimp only; decide, rfl, by dsimp only; omega, by dsimp only; omega⟩ ⟨rfl, rfl, rfl, rfl, rfl, rfl, trivial⟩ (fun _ hm => (hm.more rfl (by first | omega | (dsimp only; omega))).pick [0] [1, 0] [] rfl rfl)
  have hz : f2 = false := by simpa using hh
  clear hh
  refine gw_skip (nx_then (sr_ (mv_ rfl (mv_ rfl ?_))))
  refine wl_buildSlice (e := 3) (cs := [.int .i64 0, .int .i64 50, .int .i64 75, .int .i64 200, .int .i64 1000]) rfl (by kernel_rfl) rfl fun g3 => ?_
  refine wl_got (γ := Int) (val := fun v => .int .i64 v) (φ := fun v => v ∈ ([0, 50, 75, 200, 1000] : List Int)) rfl cb24 rfl rfl rfl rfl (fun wx hm => (pick_any [0, 50, 75, 200, 1000] _ _ _ wx B sb _ hm.k (by omega) (by simp) (by simp) (hm.blkI 0 rfl) (hm.neRow 0 rfl rfl))) fun v4 hv4 => ?_
  have bv4 : 0 ≤ v4 ∧ v4 ≤ 1000 := mem_rng hv4 (by decide)
  have bv40 := bv4.1
  have bv41 := bv4.2
  clear bv4
  refine mv_ rfl ?_
  refine wl_got (γ := Bool) (val := fun v => .bool v) (φ := fun v => True) rfl cb70 rfl rfl rfl rfl (fun wx hm => ((flip_any _ wx B sb _ hm.k (by omega) (by omega) (by omega)).mono fun _ _ ⟨v, he, hS, hg⟩ => ⟨v, trivial, he, hS, hg⟩)) fun f5 _ => ?_
  refine wl_ov (ov_build (cs := [.string ⟨#[99, 105, 116, 121]⟩, .int .i64 v4, .slice none 0 0, .bool f5]) rfl (by kernel_rfl)) rfl ?_
  refine wl_alloc zc265 rfl fun g6 => ?_
  refine wl_stores (cs' := [.string ⟨#[99, 105, 116, 121]⟩, .int .i64 v4, .slice none 0 0, .bool f5]) 0 rz265 rfl rfl rfl rfl rfl rfl rfl rfl ?_
  refine nn_ (gw_seq (sr_ ?_))
  refine wl_buildSlice (e := 3) (cs := [.int .i64 1, .int .i64 2, .int .i64 3, .int .i64 4, .int .i64 6]) rfl (by kernel_rfl) rfl fun g7 => ?_
  refine wl_ov (ov_len es22 rfl) rfl ?_
  refine wl_set 26 (v' := .int .i64 5) rfl rfl ?_
  refine mv_ rfl (nn_ (gw_block ?_))
  refine gw_loop (γ := Nat × Nat × Value × List Int × List Value) (fun g => g.1 ≤ 5 ∧ g.2.1 ≤ g.1 ∧ g.2.2.2.1.length = g.2.1 ∧ g.2.2.2.2 = g.2.2.2.1.flatMap itEnc) (fun g => [(0, .pointer (some ⟨sb, 0, none⟩)), (2, .slice none 0 0), (3, .slice none 0 0), (6, .pointer (some ⟨g6, 0, none⟩)), (10, .slice (some ⟨g1, 0, none⟩) 3 3), (11, .int .i64 3), (12, .int .i64 0), (25, .slice (some ⟨g7, 0, none⟩) 5 5), (26, .int .i64 5), (27, .int .i64 ((g.1 : Nat) : Int))]) (fun g => fun w => Strm 25 w B sb (m + 1 + 1 + 1 + 5 * g.1)) (fun g => [(g7, 3, [.int .i64 1, .int .i64 2, .int .i64 3, .int .i64 4, .int .i64 6]), (g6, 265, [.string ⟨#[99, 105, 116, 121]⟩, .int .i64 v4, g.2.2.1, .bool f5]), (g3, 3, [.int .i64 0, .int .i64 50, .int .i64 75, .int .i64 200, .int .i64 1000]), (g1, 9, [.string ⟨#[99, 105, 116, 121]⟩, .string ⟨#[115, 116, 97, 116, 101]⟩, .string ⟨#[118, 97, 116]⟩])]) (fun g => [⟨g.2.2.1, 3, 1, g.2.1, g.2.2.2.2⟩, ⟨.slice none 0 0, 265, 4, 0, []⟩]) (fun g => []) (fun g => 5 - g.1) (0, 0, .slice none 0 0, [], []) ⟨Nat.zero_le _, Nat.zero_le _, rfl, rfl⟩ ⟨rfl, rfl, rfl, rfl, rfl, rfl, rfl, rfl, rfl, rfl, trivial⟩ (fun _ hm => (hm.more rfl (by first | omega | (dsimp only; omega))).pick [0, 1, 2, 3] [0, 1] [] rfl rfl) ?_
  rintro ⟨k, n, v, l, xs⟩ hinv
  replace hinv : k ≤ 5 ∧ n ≤ k ∧ l.length = n ∧ xs = l.flatMap itEnc := hinv
  dsimp only
  refine sr_ ?_
  obtain ⟨hi0, hi1, hi2, rfl⟩ := hinv
  refine wl_ov (ov_lss rfl rfl) rfl (nn_ (gw_seq ?_))
  refine gw_cond rfl (fun hh => ?_) (fun hh => ?_)
  ·have hk : ((k : Nat) : Int) < 5 := by simpa using hh
   clear hh
   refine gw_skip (nx_then (gw_seq (gw_block (sr_ ?_))))
   obtain ⟨kd, hx⟩ : ∃ x, ([1, 2, 3, 4, 6] : List Int)[k]? = some x := ⟨_, List.getElem?_eq_getElem (by simp; omega)⟩
   refine wl_ov (ov_index (j := k) es22 rfl rfl (by omega)) rfl ?_
   refine wl_ov (ov_elem1 (k := 0) (v := .int .i64 kd) sc3 rfl (fun _ hm => (SlT.ofBlk (l := [1, 2, 3, 4, 6]) it_len (hm.blkI 0 rfl))) hx rfl rfl) rfl ?_
   refine sg_ rfl (nn_ (sr_ (mv_ rfl ?_)))
   refine wl_got (γ := Bool) (val := fun v => .bool v) (φ := fun v => True) rfl cb70 rfl rfl rfl rfl (fun wx hm => ((flip_any _ wx B sb _ hm.k (by omega) (by omega) (by omega)).mono fun _ _ ⟨v, he, hS, hg⟩ => ⟨v, trivial, he, hS, hg⟩)) fun f8 _ => ?_
   refine nn_ ?_
   refine gw_cond rfl (fun hh => ?_) (fun hh => ?_)
   ·have hf : f8 = true := by simpa using hh
    clear hh
    refine gw_region (fd_ fo265_2 rfl rfl (lk_ sc22 1 rfl rfl rfl (mv_ rfl ?_)))
    refine wl_buildSlice (e := 3) (cs := [.int .i64 kd]) rfl (by kernel_rfl) rfl fun g9 => ?_
    refine wl_append (news := [.int .i64 kd]) 0 0 ap22 rfl rfl rfl rfl rfl rfl rfl (by omega) (by unfold maxLen; omega) rfl rfl fun vb hvb => ?_
    refine wl_look (R := ∃ A cc, vb = .slice A (n + 1) cc) (fun wx hm => own_slice (hm.ownI 0 rfl)) ?_
    rintro ⟨Ab, cb, rfl⟩
    refine fd_ fo265_2 rfl rfl ?_
    refine wl_store 2 sc22 rfl rfl rfl rfl rfl rfl ?_
    refine wl_nil (nx_blk_nrm (nx_then (gw_region (ad_ rfl rfl (mv_ rfl (wl_nil ?_))))))
    exact nx_round (k + 1, n + 1, .slice Ab (n + 1) cb, l ++ [kd], l.flatMap itEnc ++ ([.int .i64 kd] : List Value)) ⟨by dsimp only; omega, by dsimp only; omega, by simp [hi2], by simp [itEnc]⟩ (by dsimp only; omega) ⟨rfl, rfl, rfl, rfl, rfl, rfl, rfl, rfl, rfl, (some_int (by omega)), trivial⟩ (fun _ hm => (hm.more rfl (by first | omega | (dsimp only; omega))).pick [1, 2, 3, 4] [0, 1] [] rfl rfl)
   have hf : f8 = false := by simpa using hh
   clear hh
   refine gw_skip (nx_blk_nrm (nx_then (gw_region (ad_ rfl rfl (mv_ rfl (wl_nil ?_))))))
   exact nx_round (k + 1, n, v, l, l.flatMap itEnc) ⟨by dsimp only; omega, by dsimp only; omega, hi2, rfl⟩ (by dsimp only; omega) ⟨rfl, rfl, rfl, rfl, rfl, rfl, rfl, rfl, rfl, (some_int (by omega)), trivial⟩ (fun _ hm => (hm.more rfl (by first | omega | (dsimp only; omega))).pick [0, 1, 2, 3] [0, 1] [] rfl rfl)
  have hk : ¬ (((k : Nat) : Int) < 5) := by simpa using hh
  clear hh
  refine gw_exit ?_
  refine nx_then_exit (nx_then_exit ?_)
  refine nx_blk_here ?_
  refine nx_then (gw_region ?_)
  refine wl_look (R := ∃ A cc, v = .slice A n cc) (fun wx hm => own_slice (hm.ownI 0 rfl)) ?_
  rintro ⟨Ad, cd, rfl⟩
  refine mv_ rfl ?_
  refine wl_ov (ov_loads rz265 rfl (fun _ hm => hm.blkI 1 rfl) rfl rfl) rfl ?_
  refine wl_buildSlice (e := 265) (cs := [.string ⟨#[99, 105, 116, 121]⟩, .int .i64 v4, .slice Ad n cd, .bool f5]) rfl (by kernel_rfl) rfl fun g10 => ?_
  refine wl_append (news := [.string ⟨#[99, 105, 116, 121]⟩, .int .i64 v4, .slice Ad n cd, .bool f5]) 1 0 ap30 rfl rfl rfl rfl rfl rfl rfl (by omega) (by unfold maxLen; omega) rfl rfl fun vc hvc => ?_
  refine sg_ rfl (wl_nil (nx_blk_nrm ?_))
  exact nx_meet (true, vc, 0 + 1, [] ++ ([.string ⟨#[99, 105, 116, 121]⟩, .int .i64 v4, .slice Ad n cd, .bool f5] : List Value), ⟨#[99, 105, 116, 121]⟩, v4, Ad, n, cd, l, f5) ⟨rfl, rfl, by dsimp only; decide, hi2, by dsimp only; omega, by dsimp only; omega⟩ ⟨rfl, rfl, rfl, rfl, rfl, rfl, trivial⟩ (fun _ hm => (hm.more rfl (by first | omega | (dsimp only; omega))).pick [4] [1, 0] [] rfl rfl)
 rintro ⟨b1, v1, nn1, xs1, ke1, mi1, A1, n1, c1, on1, ov1⟩ hinv
 replace hinv : nn1 = (ap [] b1 ⟨ke1, mi1, A1, n1, c1, on1, ov1⟩).length ∧ xs1 = (ap [] b1 ⟨ke1, mi1, A1, n1, c1, on1, ov1⟩).flatMap txEnc ∧ ke1.size ≤ 100 ∧ on1.length = n1 ∧ n1 ≤ 5 ∧ nn1 ≤ 1 := hinv
 dsimp only
 refine gw_region ?_
 obtain ⟨hT1, rfl, hk1, ho1, hm1, hb1⟩ := hinv
 refine ad_ rfl rfl ?_
 refine wl_set 44 (v' := .int .i64 1) rfl rfl ?_
 refine mv_ rfl (wl_nil ?_)
 refine nx_next ?_
 refine gr_next ?_
 refine sr_ (wl_ov (ov_lss rfl rfl) rfl ?_)
 refine wl_set 13 (v' := .bool true) rfl (congrArg Value.bool (by decide)) ?_
 refine nn_ (gw_seq (ct_ rfl (gw_skip (nx_then ?_))))
 refine gw_cut (γ := Bool × Value × Nat × List Value × ByteArray × Int × Option Addr × Nat × Nat × List Int × Bool) (I := (fun g => g.2.2.1 = (ap (ap [] b1 ⟨ke1, mi1, A1, n1, c1, on1, ov1⟩) g.1 ⟨g.2.2.2.2.1, g.2.2.2.2.2.1, g.2.2.2.2.2.2.1, g.2.2.2.2.2.2.2.1, g.2.2.2.2.2.2.2.2.1, g.2.2.2.2.2.2.2.2.2.1, g.2.2.2.2.2.2.2.2.2.2⟩).length ∧ g.2.2.2.1 = (ap (ap [] b1 ⟨ke1, mi1, A1, n1, c1, on1, ov1⟩) g.1 ⟨g.2.2.2.2.1, g.2.2.2.2.2.1, g.2.2.2.2.2.2.1, g.2.2.2.2.2.2.2.1, g.2.2.2.2.2.2.2.2.1, g.2.2.2.2.2.2.2.2.2.1, g.2.2.2.2.2.2.2.2.2.2⟩).flatMap txEnc ∧ g.2.2.2.2.1.size ≤ 100 ∧ g.2.2.2.2.2.2.2.2.2.1.length = g.2.2.2.2.2.2.2.1 ∧ g.2.2.2.2.2.2.2.1 ≤ 5 ∧ g.2.2.1 ≤ 2)) (S' := (fun g => [(0, .pointer (some ⟨sb, 0, none⟩)), (2, .slice none 0 0), (3, g.2.1), (10, .slice (some ⟨g1, 0, none⟩) 3 3), (11, .int .i64 3), (12, .int .i64 1)])) (K' := (fun g => fun w => Strm 25 w B sb (m + 200))) (L' := (fun g => [(g1, 9, [.string ⟨#[99, 105, 116, 121]⟩, .string ⟨#[115, 116, 97, 116, 101]⟩, .string ⟨#[118, 97, 116]⟩])])) (O' := (fun g => [⟨g.2.1, 265, 4, g.2.2.1, g.2.2.2.1⟩, ⟨.slice g.2.2.2.2.2.2.1 g.2.2.2.2.2.2.2.1 g.2.2.2.2.2.2.2.2.1, 3, 1, g.2.2.2.2.2.2.2.1, g.2.2.2.2.2.2.2.2.2.1.flatMap itEnc⟩, ⟨.slice A1 n1 c1, 3, 1, n1, on1.flatMap itEnc⟩])) (X' := (fun g => [])) ?_ ?_
 ·refine gw_block (sr_ ?_)
  refine wl_ov (ov_index (j := 1) es36 rfl rfl (by decide)) rfl ?_
  refine lk_ sc9 0 rfl rfl rfl (sg_ rfl (nn_ (gw_seq (sr_ (mv_ rfl ?_)))))
  refine wl_got (γ := Bool) (val := fun v => .bool v) (φ := fun v => True) rfl cb70 rfl rfl rfl rfl (fun wx hm => ((flip_any _ wx B sb _ hm.k (by omega) (by omega) (by omega)).mono fun _ _ ⟨v, he, hS, hg⟩ => ⟨v, trivial, he, hS, hg⟩)) fun f11 _ => ?_
  refine nn_ ?_
  refine gw_nilOwn 3 1 ?_
  refine gw_cond rfl (fun hh => ?_) (fun hh => ?_)
  ·have hz : f11 = true := by simpa using hh
   clear hh
   refine gw_exit ?_
   refine nx_then_exit ?_
   refine nx_blk_here ?_
   exact nx_meet (false, v1, nn1, (ap [] b1 ⟨ke1, mi1, A1, n1, c1, on1, ov1⟩).flatMap txEnc, ⟨#[]⟩, 0, none, 0, 0, [], false) ⟨hT1, rfl, by dsimp only; decide, rfl, by dsimp only; omega, by dsimp only; omega⟩ ⟨rfl, rfl, rfl, rfl, rfl, rfl, trivial⟩ (fun _ hm => (hm.more rfl (by first | omega | (dsimp only; omega))).pick [0] [1, 0, 2] [] rfl rfl)
  have hz : f11 = false := by simpa using hh
  clear hh
  refine gw_skip (nx_then (sr_ (mv_ rfl (mv_ rfl ?_))))
  refine wl_buildSlice (e := 3) (cs := [.int .i64 0, .int .i64 50, .int .i64 75, .int .i64 200, .int .i64 1000]) rfl (by kernel_rfl) rfl fun g12 => ?_
  refine wl_got (γ := Int) (val := fun v => .int .i64 v) (φ := fun v => v ∈ ([0, 50, 75, 200, 1000] : List Int)) rfl cb24 rfl rfl rfl rfl (fun wx hm => (pick_any [0, 50, 75, 200, 1000] _ _ _ wx B sb _ hm.k (by omega) (by simp) (by simp) (hm.blkI 0 rfl) (hm.neRow 0 rfl rfl))) fun v13 hv13 => ?_
  have bv13 : 0 ≤ v13 ∧ v13 ≤ 1000 := mem_rng hv13 (by decide)
  have bv130 := bv13.1
  have bv131 := bv13.2
  clear bv13
  refine mv_ rfl ?_
  refine wl_got (γ := Bool) (val := fun v => .bool v) (φ := fun v => True) rfl cb70 rfl rfl rfl rfl (fun wx hm => ((flip_any _ wx B sb _ hm.k (by omega) (by omega) (by omega)).mono fun _ _ ⟨v, he, hS, hg⟩ => ⟨v, trivial, he, hS, hg⟩)) fun f14 _ => ?_
  refine wl_ov (ov_build (cs := [.string ⟨#[115, 116, 97, 116, 101]⟩, .int .i64 v13, .slice none 0 0, .bool f14]) rfl (by kernel_rfl)) rfl ?_
  refine wl_alloc zc265 rfl fun g15 => ?_
  refine wl_stores (cs' := [.string ⟨#[115, 116, 97, 116, 101]⟩, .int .i64 v13, .slice none 0 0, .bool f14]) 0 rz265 rfl rfl rfl rfl rfl rfl rfl rfl ?_
  refine nn_ (gw_seq (sr_ ?_))
  refine wl_buildSlice (e := 3) (cs := [.int .i64 1, .int .i64 2, .int .i64 3, .int .i64 4, .int .i64 6]) rfl (by kernel_rfl) rfl fun g16 => ?_
  refine wl_ov (ov_len es22 rfl) rfl ?_
  refine wl_set 26 (v' := .int .i64 5) rfl rfl ?_
  refine mv_ rfl (nn_ (gw_block ?_))
  refine gw_loop (γ := Nat × Nat × Value × List Int × List Value) (fun g => g.1 ≤ 5 ∧ g.2.1 ≤ g.1 ∧ g.2.2.2.1.length = g.2.1 ∧ g.2.2.2.2 = g.2.2.2.1.flatMap itEnc) (fun g => [(0, .pointer (some ⟨sb, 0, none⟩)), (2, .slice none 0 0), (3, v1), (6, .pointer (some ⟨g15, 0, none⟩)), (10, .slice (some ⟨g1, 0, none⟩) 3 3), (11, .int .i64 3), (12, .int .i64 1), (25, .slice (some ⟨g16, 0, none⟩) 5 5), (26, .int .i64 5), (27, .int .i64 ((g.1 : Nat) : Int))]) (fun g => fun w => Strm 25 w B sb (m + 100 + 1 + 1 + 1 + 5 * g.1)) (fun g => [(g16, 3, [.int .i64 1, .int .i64 2, .int .i64 3, .int .i64 4, .int .i64 6]), (g15, 265, [.string ⟨#[115, 116, 97, 116, 101]⟩, .int .i64 v13, g.2.2.1, .bool f14]), (g12, 3, [.int .i64 0, .int .i64 50, .int .i64 75, .int .i64 200, .int .i64 1000]), (g1, 9, [.string ⟨#[99, 105, 116, 121]⟩, .string ⟨#[115, 116, 97, 116, 101]⟩, .string ⟨#[118, 97, 116]⟩])]) (fun g => [⟨g.2.2.1, 3, 1, g.2.1, g.2.2.2.2⟩, ⟨v1, 265, 4, nn1, (ap [] b1 ⟨ke1, mi1, A1, n1, c1, on1, ov1⟩).flatMap txEnc⟩, ⟨.slice A1 n1 c1, 3, 1, n1, on1.flatMap itEnc⟩]) (fun g => []) (fun g => 5 - g.1) (0, 0, .slice none 0 0, [], []) ⟨Nat.zero_le _, Nat.zero_le _, rfl, rfl⟩ ⟨rfl, rfl, rfl, rfl, rfl, rfl, rfl, rfl, rfl, rfl, trivial⟩ (fun _ hm => (hm.more rfl (by first | omega | (dsimp only; omega))).pick [0, 1, 2, 3] [0, 1, 2] [] rfl rfl) ?_
  rintro ⟨k, n, v, l, xs⟩ hinv
  replace hinv : k ≤ 5 ∧ n ≤ k ∧ l.length = n ∧ xs = l.flatMap itEnc := hinv
  dsimp only
  refine sr_ ?_
  obtain ⟨hi0, hi1, hi2, rfl⟩ := hinv
  refine wl_ov (ov_lss rfl rfl) rfl (nn_ (gw_seq ?_))
  refine gw_cond rfl (fun hh => ?_) (fun hh => ?_)
  ·have hk : ((k : Nat) : Int) < 5 := by simpa using hh
   clear hh
   refine gw_skip (nx_then (gw_seq (gw_block (sr_ ?_))))
   obtain ⟨kd, hx⟩ : ∃ x, ([1, 2, 3, 4, 6] : List Int)[k]? = some x := ⟨_, List.getElem?_eq_getElem (by simp; omega)⟩
   refine wl_ov (ov_index (j := k) es22 rfl rfl (by omega)) rfl ?_
   refine wl_ov (ov_elem1 (k := 0) (v := .int .i64 kd) sc3 rfl (fun _ hm => (SlT.ofBlk (l := [1, 2, 3, 4, 6]) it_len (hm.blkI 0 rfl))) hx rfl rfl) rfl ?_
   refine sg_ rfl (nn_ (sr_ (mv_ rfl ?_)))
   refine wl_got (γ := Bool) (val := fun v => .bool v) (φ := fun v => True) rfl cb70 rfl rfl rfl rfl (fun wx hm => ((flip_any _ wx B sb _ hm.k (by omega) (by omega) (by omega)).mono fun _ _ ⟨v, he, hS, hg⟩ => ⟨v, trivial, he, hS, hg⟩)) fun f17 _ => ?_
   refine nn_ ?_
   refine gw_cond rfl (fun hh => ?_) (fun hh => ?_)
   ·have hf : f17 = true := by simpa using hh
    clear hh
    refine gw_region (fd_ fo265_2 rfl rfl (lk_ sc22 1 rfl rfl rfl (mv_ rfl ?_)))
    refine wl_buildSlice (e := 3) (cs := [.int .i64 kd]) rfl (by kernel_rfl) rfl fun g18 => ?_
    refine wl_append (news := [.int .i64 kd]) 0 0 ap22 rfl rfl rfl rfl rfl rfl rfl (by omega) (by unfold maxLen; omega) rfl rfl fun vb hvb => ?_
    refine wl_look (R := ∃ A cc, vb = .slice A (n + 1) cc) (fun wx hm => own_slice (hm.ownI 0 rfl)) ?_
    rintro ⟨Ab, cb, rfl⟩
    refine fd_ fo265_2 rfl rfl ?_
    refine wl_store 2 sc22 rfl rfl rfl rfl rfl rfl ?_
    refine wl_nil (nx_blk_nrm (nx_then (gw_region (ad_ rfl rfl (mv_ rfl (wl_nil ?_))))))
    exact nx_round (k + 1, n + 1, .slice Ab (n + 1) cb, l ++ [kd], l.flatMap itEnc ++ ([.int .i64 kd] : List Value)) ⟨by dsimp only; omega, by dsimp only; omega, by simp [hi2], by simp [itEnc]⟩ (by dsimp only; omega) ⟨rfl, rfl, rfl, rfl, rfl, rfl, rfl, rfl, rfl, (some_int (by omega)), trivial⟩ (fun _ hm => (hm.more rfl (by first | omega | (dsimp only; omega))).pick [1, 2, 3, 4] [0, 1, 2] [] rfl rfl)
   have hf : f17 = false := by simpa using hh
   clear hh
   refine gw_skip (nx_blk_nrm (nx_then (gw_region (ad_ rfl rfl (mv_ rfl (wl_nil ?_))))))
   exact nx_round (k + 1, n, v, l, l.flatMap itEnc) ⟨by dsimp only; omega, by dsimp only; omega, hi2, rfl⟩ (by dsimp only; omega) ⟨rfl, rfl, rfl, rfl, rfl, rfl, rfl, rfl, rfl, (some_int (by omega)), trivial⟩ (fun _ hm => (hm.more rfl (by first | omega | (dsimp only; omega))).pick [0, 1, 2, 3] [0, 1, 2] [] rfl rfl)
  have hk : ¬ (((k : Nat) : Int) < 5) := by simpa using hh
  clear hh
  refine gw_exit ?_
  refine nx_then_exit (nx_then_exit ?_)
  refine nx_blk_here ?_
  refine nx_then (gw_region ?_)
  refine wl_look (R := ∃ A cc, v = .slice A n cc) (fun wx hm => own_slice (hm.ownI 0 rfl)) ?_
  rintro ⟨Ad, cd, rfl⟩
  refine mv_ rfl ?_
  refine wl_ov (ov_loads rz265 rfl (fun _ hm => hm.blkI 1 rfl) rfl rfl) rfl ?_
  refine wl_buildSlice (e := 265) (cs := [.string ⟨#[115, 116, 97, 116, 101]⟩, .int .i64 v13, .slice Ad n cd, .bool f14]) rfl (by kernel_rfl) rfl fun g19 => ?_
  refine wl_append (news := [.string ⟨#[115, 116, 97, 116, 101]⟩, .int .i64 v13, .slice Ad n cd, .bool f14]) 1 0 ap30 rfl rfl rfl rfl rfl rfl rfl (by omega) (by unfold maxLen; omega) rfl rfl fun vc hvc => ?_
  refine sg_ rfl (wl_nil (nx_blk_nrm ?_))
  exact nx_meet (true, vc, nn1 + 1, (ap [] b1 ⟨ke1, mi1, A1, n1, c1, on1, ov1⟩).flatMap txEnc ++ ([.string ⟨#[115, 116, 97, 116, 101]⟩, .int .i64 v13, .slice Ad n cd, .bool f14] : List Value), ⟨#[115, 116, 97, 116, 101]⟩, v13, Ad, n, cd, l, f14) ⟨ap_yes hT1, ap_flat _ _ _ _ _ _ _ _, by dsimp only; decide, hi2, by dsimp only; omega, by dsimp only; omega⟩ ⟨rfl, rfl, rfl, rfl, rfl, rfl, trivial⟩ (fun _ hm => (hm.more rfl (by first | omega | (dsimp only; omega))).pick [4] [1, 0, 2] [] rfl rfl)
 rintro ⟨b2, v2, nn2, xs2, ke2, mi2, A2, n2, c2, on2, ov2⟩ hinv
 replace hinv : nn2 = (ap (ap [] b1 ⟨ke1, mi1, A1, n1, c1, on1, ov1⟩) b2 ⟨ke2, mi2, A2, n2, c2, on2, ov2⟩).length ∧ xs2 = (ap (ap [] b1 ⟨ke1, mi1, A1, n1, c1, on1, ov1⟩) b2 ⟨ke2, mi2, A2, n2, c2, on2, ov2⟩).flatMap txEnc ∧ ke2.size ≤ 100 ∧ on2.length = n2 ∧ n2 ≤ 5 ∧ nn2 ≤ 2 := hinv
 dsimp only
 refine gw_region ?_
 obtain ⟨hT2, rfl, hk2, ho2, hm2, hb2⟩ := hinv
 refine ad_ rfl rfl ?_
 refine wl_set 44 (v' := .int .i64 2) rfl rfl ?_
 refine mv_ rfl (wl_nil ?_)
 refine nx_next ?_
 refine gr_next ?_
 refine sr_ (wl_ov (ov_lss rfl rfl) rfl ?_)
 refine wl_set 13 (v' := .bool true) rfl (congrArg Value.bool (by decide)) ?_
 refine nn_ (gw_seq (ct_ rfl (gw_skip (nx_then ?_))))
 refine gw_cut (γ := Bool × Value × Nat × List Value × ByteArray × Int × Option Addr × Nat × Nat × List Int × Bool) (I := (fun g => g.2.2.1 = (ap (ap (ap [] b1 ⟨ke1, mi1, A1, n1, c1, on1, ov1⟩) b2 ⟨ke2, mi2, A2, n2, c2, on2, ov2⟩) g.1 ⟨g.2.2.2.2.1, g.2.2.2.2.2.1, g.2.2.2.2.2.2.1, g.2.2.2.2.2.2.2.1, g.2.2.2.2.2.2.2.2.1, g.2.2.2.2.2.2.2.2.2.1, g.2.2.2.2.2.2.2.2.2.2⟩).length ∧ g.2.2.2.1 = (ap (ap (ap [] b1 ⟨ke1, mi1, A1, n1, c1, on1, ov1⟩) b2 ⟨ke2, mi2, A2, n2, c2, on2, ov2⟩) g.1 ⟨g.2.2.2.2.1, g.2.2.2.2.2.1, g.2.2.2.2.2.2.1, g.2.2.2.2.2.2.2.1, g.2.2.2.2.2.2.2.2.1, g.2.2.2.2.2.2.2.2.2.1, g.2.2.2.2.2.2.2.2.2.2⟩).flatMap txEnc ∧ g.2.2.2.2.1.size ≤ 100 ∧ g.2.2.2.2.2.2.2.2.2.1.length = g.2.2.2.2.2.2.2.1 ∧ g.2.2.2.2.2.2.2.1 ≤ 5 ∧ g.2.2.1 ≤ 3)) (S' := (fun g => [(0, .pointer (some ⟨sb, 0, none⟩)), (2, .slice none 0 0), (3, g.2.1), (10, .slice (some ⟨g1, 0, none⟩) 3 3), (11, .int .i64 3), (12, .int .i64 2)])) (K' := (fun g => fun w => Strm 25 w B sb (m + 300))) (L' := (fun g => [(g1, 9, [.string ⟨#[99, 105, 116, 121]⟩, .string ⟨#[115, 116, 97, 116, 101]⟩, .string ⟨#[118, 97, 116]⟩])])) (O' := (fun g => [⟨g.2.1, 265, 4, g.2.2.1, g.2.2.2.1⟩, ⟨.slice g.2.2.2.2.2.2.1 g.2.2.2.2.2.2.2.1 g.2.2.2.2.2.2.2.2.1, 3, 1, g.2.2.2.2.2.2.2.1, g.2.2.2.2.2.2.2.2.2.1.flatMap itEnc⟩, ⟨.slice A2 n2 c2, 3, 1, n2, on2.flatMap itEnc⟩, ⟨.slice A1 n1 c1, 3, 1, n1, on1.flatMap itEnc⟩])) (X' := (fun g => [])) ?_ ?_
 ·refine gw_block (sr_ ?_)
  refine wl_ov (ov_index (j := 2) es36 rfl rfl (by decide)) rfl ?_
  refine lk_ sc9 0 rfl rfl rfl (sg_ rfl (nn_ (gw_seq (sr_ (mv_ rfl ?_)))))
  refine wl_got (γ := Bool) (val := fun v => .bool v) (φ := fun v => True) rfl cb70 rfl rfl rfl rfl (fun wx hm => ((flip_any _ wx B sb _ hm.k (by omega) (by omega) (by omega)).mono fun _ _ ⟨v, he, hS, hg⟩ => ⟨v, trivial, he, hS, hg⟩)) fun f20 _ => ?_
  refine nn_ ?_
  refine gw_nilOwn 3 1 ?_
  refine gw_cond rfl (fun hh => ?_) (fun hh => ?_)
  ·have hz : f20 = true := by simpa using hh
   clear hh
   refine gw_exit ?_
   refine nx_then_exit ?_
   refine nx_blk_here ?_
   exact nx_meet (false, v2, nn2, (ap (ap [] b1 ⟨ke1, mi1, A1, n1, c1, on1, ov1⟩) b2 ⟨ke2, mi2, A2, n2, c2, on2, ov2⟩).flatMap txEnc, ⟨#[]⟩, 0, none, 0, 0, [], false) ⟨hT2, rfl, by dsimp only; decide, rfl, by dsimp only; omega, by dsimp only; omega⟩ ⟨rfl, rfl, rfl, rfl, rfl, rfl, trivial⟩ (fun _ hm => (hm.more rfl (by first | omega | (dsimp only; omega))).pick [0] [1, 0, 2, 3] [] rfl rfl)
  have hz : f20 = false := by simpa using hh
  clear hh
  refine gw_skip (nx_then (sr_ (mv_ rfl (mv_ rfl ?_))))
  refine wl_buildSlice (e := 3) (cs := [.int .i64 0, .int .i64 50, .int .i64 75, .int .i64 200, .int .i64 1000]) rfl (by kernel_rfl) rfl fun g21 => ?_
  refine wl_got (γ := Int) (val := fun v => .int .i64 v) (φ := fun v => v ∈ ([0, 50, 75, 200, 1000] : List Int)) rfl cb24 rfl rfl rfl rfl (fun wx hm => (pick_any [0, 50, 75, 200, 1000] _ _ _ wx B sb _ hm.k (by omega) (by simp) (by simp) (hm.blkI 0 rfl) (hm.neRow 0 rfl rfl))) fun v22 hv22 => ?_
  have bv22 : 0 ≤ v22 ∧ v22 ≤ 1000 := mem_rng hv22 (by decide)
  have bv220 := bv22.1
  have bv221 := bv22.2
  clear bv22
  refine mv_ rfl ?_
  refine wl_got (γ := Bool) (val := fun v => .bool v) (φ := fun v => True) rfl cb70 rfl rfl rfl rfl (fun wx hm => ((flip_any _ wx B sb _ hm.k (by omega) (by omega) (by omega)).mono fun _ _ ⟨v, he, hS, hg⟩ => ⟨v, trivial, he, hS, hg⟩)) fun f23 _ => ?_
  refine wl_ov (ov_build (cs := [.string ⟨#[118, 97, 116]⟩, .int .i64 v22, .slice none 0 0, .bool f23]) rfl (by kernel_rfl)) rfl ?_
  refine wl_alloc zc265 rfl fun g24 => ?_
  refine wl_stores (cs' := [.string ⟨#[118, 97, 116]⟩, .int .i64 v22, .slice none 0 0, .bool f23]) 0 rz265 rfl rfl rfl rfl rfl rfl rfl rfl ?_
  refine nn_ (gw_seq (sr_ ?_))
  refine wl_buildSlice (e := 3) (cs := [.int .i64 1, .int .i64 2, .int .i64 3, .int .i64 4, .int .i64 6]) rfl (by kernel_rfl) rfl fun g25 => ?_
  refine wl_ov (ov_len es22 rfl) rfl ?_
  refine wl_set 26 (v' := .int .i64 5) rfl rfl ?_
  refine mv_ rfl (nn_ (gw_block ?_))
  refine gw_loop (γ := Nat × Nat × Value × List Int × List Value) (fun g => g.1 ≤ 5 ∧ g.2.1 ≤ g.1 ∧ g.2.2.2.1.length = g.2.1 ∧ g.2.2.2.2 = g.2.2.2.1.flatMap itEnc) (fun g => [(0, .pointer (some ⟨sb, 0, none⟩)), (2, .slice none 0 0), (3, v2), (6, .pointer (some ⟨g24, 0, none⟩)), (10, .slice (some ⟨g1, 0, none⟩) 3 3), (11, .int .i64 3), (12, .int .i64 2), (25, .slice (some ⟨g25, 0, none⟩) 5 5), (26, .int .i64 5), (27, .int .i64 ((g.1 : Nat) : Int))]) (fun g => fun w => Strm 25 w B sb (m + 200 + 1 + 1 + 1 + 5 * g.1)) (fun g => [(g25, 3, [.int .i64 1, .int .i64 2, .int .i64 3, .int .i64 4, .int .i64 6]), (g24, 265, [.string ⟨#[118, 97, 116]⟩, .int .i64 v22, g.2.2.1, .bool f23]), (g21, 3, [.int .i64 0, .int .i64 50, .int .i64 75, .int .i64 200, .int .i64 1000]), (g1, 9, [.string ⟨#[99, 105, 116, 121]⟩, .string ⟨#[115, 116, 97, 116, 101]⟩, .string ⟨#[118, 97, 116]⟩])]) (fun g => [⟨g.2.2.1, 3, 1, g.2.1, g.2.2.2.2⟩, ⟨v2, 265, 4, nn2, (ap (ap [] b1 ⟨ke1, mi1, A1, n1, c1, on1, ov1⟩) b2 ⟨ke2, mi2, A2, n2, c2, on2, ov2⟩).flatMap txEnc⟩, ⟨.slice A2 n2 c2, 3, 1, n2, on2.flatMap itEnc⟩, ⟨.slice A1 n1 c1, 3, 1, n1, on1.flatMap itEnc⟩]) (fun g => []) (fun g => 5 - g.1) (0, 0, .slice none 0 0, [], []) ⟨Nat.zero_le _, Nat.zero_le _, rfl, rfl⟩ ⟨rfl, rfl, rfl, rfl, rfl, rfl, rfl, rfl, rfl, rfl, trivial⟩ (fun _ hm => (hm.more rfl (by first | omega | (dsimp only; omega))).pick [0, 1, 2, 3] [0, 1, 2, 3] [] rfl rfl) ?_
  rintro ⟨k, n, v, l, xs⟩ hinv
  replace hinv : k ≤ 5 ∧ n ≤ k ∧ l.length = n ∧ xs = l.flatMap itEnc := hinv
  dsimp only
  refine sr_ ?_
  obtain ⟨hi0, hi1, hi2, rfl⟩ := hinv
  refine wl_ov (ov_lss rfl rfl) rfl (nn_ (gw_seq ?_))
  refine gw_cond rfl (fun hh => ?_) (fun hh => ?_)
  ·have hk : ((k : Nat) : Int) < 5 := by simpa using hh
   clear hh
   refine gw_skip (nx_then (gw_seq (gw_block (sr_ ?_))))
   obtain ⟨kd, hx⟩ : ∃ x, ([1, 2, 3, 4, 6] : List Int)[k]? = some x := ⟨_, List.getElem?_eq_getElem (by simp; omega)⟩
   refine wl_ov (ov_index (j := k) es22 rfl rfl (by omega)) rfl ?_
   refine wl_ov (ov_elem1 (k := 0) (v := .int .i64 kd) sc3 rfl (fun _ hm => (SlT.ofBlk (l := [1, 2, 3, 4, 6]) it_len (hm.blkI 0 rfl))) hx rfl rfl) rfl ?_
   refine sg_ rfl (nn_ (sr_ (mv_ rfl ?_)))
   refine wl_got (γ := Bool) (val := fun v => .bool v) (φ := fun v => True) rfl cb70 rfl rfl rfl rfl (fun wx hm => ((flip_any _ wx B sb _ hm.k (by omega) (by omega) (by omega)).mono fun _ _ ⟨v, he, hS, hg⟩ => ⟨v, trivial, he, hS, hg⟩)) fun f26 _ => ?_
   refine nn_ ?_
   refine gw_cond rfl (fun hh => ?_) (fun hh => ?_)
   ·have hf : f26 = true := by simpa using hh
    clear hh
    refine gw_region (fd_ fo265_2 rfl rfl (lk_ sc22 1 rfl rfl rfl (mv_ rfl ?_)))
    refine wl_buildSlice (e := 3) (cs := [.int .i64 kd]) rfl (by kernel_rfl) rfl fun g27 => ?_
    refine wl_append (news := [.int .i64 kd]) 0 0 ap22 rfl rfl rfl rfl rfl rfl rfl (by omega) (by unfold maxLen; omega) rfl rfl fun vb hvb => ?_
    refine wl_look (R := ∃ A cc, vb = .slice A (n + 1) cc) (fun wx hm => own_slice (hm.ownI 0 rfl)) ?_
    rintro ⟨Ab, cb, rfl⟩
    refine fd_ fo265_2 rfl rfl ?_
    refine wl_store 2 sc22 rfl rfl rfl rfl rfl rfl ?_
    refine wl_nil (nx_blk_nrm (nx_then (gw_region (ad_ rfl rfl (mv_ rfl (wl_nil ?_))))))
    exact nx_round (k + 1, n + 1, .slice Ab (n + 1) cb, l ++ [kd], l.flatMap itEnc ++ ([.int .i64 kd] : List Value)) ⟨by dsimp only; omega, by dsimp only; omega, by simp [hi2], by simp [itEnc]⟩ (by dsimp only; omega) ⟨rfl, rfl, rfl, rfl, rfl, rfl, rfl, rfl, rfl, (some_int (by omega)), trivial⟩ (fun _ hm => (hm.more rfl (by first | omega | (dsimp only; omega))).pick [1, 2, 3, 4] [0, 1, 2, 3] [] rfl rfl)
   have hf : f26 = false := by simpa using hh
   clear hh
   refine gw_skip (nx_blk_nrm (nx_then (gw_region (ad_ rfl rfl (mv_ rfl (wl_nil ?_))))))
   exact nx_round (k + 1, n, v, l, l.flatMap itEnc) ⟨by dsimp only; omega, by dsimp only; omega, hi2, rfl⟩ (by dsimp only; omega) ⟨rfl, rfl, rfl, rfl, rfl, rfl, rfl, rfl, rfl, (some_int (by omega)), trivial⟩ (fun _ hm => (hm.more rfl (by first | omega | (dsimp only; omega))).pick [0, 1, 2, 3] [0, 1, 2, 3] [] rfl rfl)
  have hk : ¬ (((k : Nat) : Int) < 5) := by simpa using hh
  clear hh
  refine gw_exit ?_
  refine nx_then_exit (nx_then_exit ?_)
  refine nx_blk_here ?_
  refine nx_then (gw_region ?_)
  refine wl_look (R := ∃ A cc, v = .slice A n cc) (fun wx hm => own_slice (hm.ownI 0 rfl)) ?_
  rintro ⟨Ad, cd, rfl⟩
  refine mv_ rfl ?_
  refine wl_ov (ov_loads rz265 rfl (fun _ hm => hm.blkI 1 rfl) rfl rfl) rfl ?_
  refine wl_buildSlice (e := 265) (cs := [.string ⟨#[118, 97, 116]⟩, .int .i64 v22, .slice Ad n cd, .bool f23]) rfl (by kernel_rfl) rfl fun g28 => ?_
  refine wl_append (news := [.string ⟨#[118, 97, 116]⟩, .int .i64 v22, .slice Ad n cd, .bool f23]) 1 0 ap30 rfl rfl rfl rfl rfl rfl rfl (by omega) (by unfold maxLen; omega) rfl rfl fun vc hvc => ?_
  refine sg_ rfl (wl_nil (nx_blk_nrm ?_))
  exact nx_meet (true, vc, nn2 + 1, (ap (ap [] b1 ⟨ke1, mi1, A1, n1, c1, on1, ov1⟩) b2 ⟨ke2, mi2, A2, n2, c2, on2, ov2⟩).flatMap txEnc ++ ([.string ⟨#[118, 97, 116]⟩, .int .i64 v22, .slice Ad n cd, .bool f23] : List Value), ⟨#[118, 97, 116]⟩, v22, Ad, n, cd, l, f23) ⟨ap_yes hT2, ap_flat _ _ _ _ _ _ _ _, by dsimp only; decide, hi2, by dsimp only; omega, by dsimp only; omega⟩ ⟨rfl, rfl, rfl, rfl, rfl, rfl, trivial⟩ (fun _ hm => (hm.more rfl (by first | omega | (dsimp only; omega))).pick [4] [1, 0, 2, 3] [] rfl rfl)
 rintro ⟨b3, v3, nn3, xs3, ke3, mi3, A3, n3, c3, on3, ov3⟩ hinv
 replace hinv : nn3 = (ap (ap (ap [] b1 ⟨ke1, mi1, A1, n1, c1, on1, ov1⟩) b2 ⟨ke2, mi2, A2, n2, c2, on2, ov2⟩) b3 ⟨ke3, mi3, A3, n3, c3, on3, ov3⟩).length ∧ xs3 = (ap (ap (ap [] b1 ⟨ke1, mi1, A1, n1, c1, on1, ov1⟩) b2 ⟨ke2, mi2, A2, n2, c2, on2, ov2⟩) b3 ⟨ke3, mi3, A3, n3, c3, on3, ov3⟩).flatMap txEnc ∧ ke3.size ≤ 100 ∧ on3.length = n3 ∧ n3 ≤ 5 ∧ nn3 ≤ 3 := hinv
 dsimp only
 refine gw_region ?_
 obtain ⟨hT3, rfl, hk3, ho3, hm3, hb3⟩ := hinv
 refine wl_look (R := ∃ A cc, v3 = .slice A nn3 cc) (fun wx hm => own_slice (hm.ownI 0 rfl)) ?_
 rintro ⟨A, c, rfl⟩
 refine ad_ rfl rfl ?_
 refine wl_set 44 (v' := .int .i64 3) rfl rfl ?_
 refine mv_ rfl (wl_nil ?_)
 refine nx_next ?_
 refine gr_next ?_
 refine sr_ (wl_ov (ov_lss rfl rfl) rfl ?_)
 refine wl_set 13 (v' := .bool false) rfl (congrArg Value.bool (by decide)) ?_
 refine nn_ (gw_seq (cf_ rfl ?_))
 refine gw_exit ?_
 refine nx_then_exit (nx_then_exit ?_)
 refine nx_blk_here ?_
 refine nx_then (gw_seq (sr_ (mv_ rfl (wl_ov (ov_len es30 rfl) rfl ?_))))
 refine wl_ov (ov_gtr rfl rfl) rfl ?_
 refine mv_ rfl ?_
 rcases Bool.eq_false_or_eq_true (decide (0 < ((nn3 : Nat) : Int))) with hb | hb
 ·refine wl_set 48 rfl (congrArg Value.bool hb) ?_
  have hk0 : 0 < nn3 := by simpa using hb
  refine wl_guard_on rfl rfl rfl (mv_ rfl (wl_guard_on rfl rfl rfl ?_))
  refine wl_got (γ := Bool) (val := fun v => .bool v) (φ := fun v => True) rfl cb70 rfl rfl rfl rfl (fun wx hm => ((flip_any _ wx B sb _ hm.k (by omega) (by omega) (by omega)).mono fun _ _ ⟨v, he, hS, hg⟩ => ⟨v, trivial, he, hS, hg⟩)) fun f29 _ => ?_
  refine pt_ rfl rfl (nn_ ?_)
  refine gw_cond rfl (fun hh => ?_) (fun hh => ?_)
  ·have hf : f29 = true := by simpa using hh
   clear hh
   refine sr_ ?_
   refine wl_look (R := ∃ g, A = some ⟨g, 0, none⟩) (fun wx hm => own_addr (hm.ownI 0 rfl) hk0) ?_
   rintro ⟨bo, rfl⟩
   refine mv_ rfl (mv_ rfl (mv_ rfl (wl_ov (ov_len es30 rfl) rfl ?_)))
   refine wl_got (γ := Int) (val := fun v => .int .i64 v) (φ := fun v => IsBelow ((nn3 : Nat) : Int) v) rfl cb59 rfl rfl rfl rfl (fun wx hm => (next_any _ wx B sb _ hm.k (by omega) (by omega) (by omega))) fun vj hvj => ?_
   have hj := isBelow_lt hvj (by omega)
   obtain ⟨j, rfl⟩ := Int.eq_ofNat_of_zero_le hj.1
   have hjn : j < nn3 := by omega
   obtain ⟨y, hy⟩ : ∃ y, (ap (ap (ap [] b1 ⟨ke1, mi1, A1, n1, c1, on1, ov1⟩) b2 ⟨ke2, mi2, A2, n2, c2, on2, ov2⟩) b3 ⟨ke3, mi3, A3, n3, c3, on3, ov3⟩)[j]? = some y := ⟨_, List.getElem?_eq_getElem (by omega)⟩
   rcases ap_at hy with ⟨rfl, hz⟩ | ⟨rfl, hz⟩ | ⟨rfl, hz⟩
   ·refine wl_ov (ov_index (j := j) es30 rfl rfl (by omega)) rfl ?_
    refine sg_ rfl (nn_ (sr_ (mv_ rfl ?_)))
    refine wl_got (γ := Int) (val := fun v => .int .i64 v) (φ := fun v => IsBelow 3 v) rfl cb59 rfl rfl rfl rfl (fun wx hm => (next_any _ wx B sb _ hm.k (by omega) (by omega) (by omega))) fun vs hvs => ?_
    refine nn_ (gw_block (sr_ (wl_ov (ov_eql rfl rfl) rfl (sg_ rfl (nn_ ?_)))))
    refine gw_cond rfl (fun hh => ?_) (fun hh => ?_)
    ·have h0 : vs = 0 := by simpa using hh
     clear hh
     refine gw_region (mv_ rfl (mv_ rfl ?_))
     refine wl_buildSlice (e := 9) (cs := [.string ⟨#[]⟩, .string ⟨#[99, 105, 116, 121]⟩, .string ⟨#[65]⟩]) rfl (by kernel_rfl) rfl fun g30 => ?_
     refine wl_got (γ := ByteArray) (val := fun v => .string v) (φ := fun v => v ∈ ([⟨#[]⟩, ⟨#[99, 105, 116, 121]⟩, ⟨#[65]⟩] : List ByteArray)) rfl cb60 rfl rfl rfl rfl (fun wx hm => (some_any [⟨#[]⟩, ⟨#[99, 105, 116, 121]⟩, ⟨#[65]⟩] _ _ _ wx B sb _ hm.k (by omega) (by simp) (by simp) (hm.blkI 0 rfl) (hm.neRow 0 rfl rfl))) fun sn hsn => ?_
     have zsn : sn.size ≤ 100 := mem_sz hsn (by decide)
     refine wl_ov (ov_nilcheck rfl) rfl (fd_ fo265_0 rfl rfl ?_)
     refine wl_storeE (l := (ap (ap (ap [] b1 ⟨ke1, mi1, A1, n1, c1, on1, ov1⟩) b2 ⟨ke2, mi2, A2, n2, c2, on2, ov2⟩) b3 ⟨ke3, mi3, A3, n3, c3, on3, ov3⟩)) (j := j) (r := 0) (el := ⟨ke1, mi1, A1, n1, c1, on1, ov1⟩) (el' := ⟨sn, mi1, A1, n1, c1, on1, ov1⟩) 0 sc9 rfl rfl rfl rfl tx_len rfl hy hT3.symm (by decide) rfl rfl ?_
     refine wl_nil (nx_blk_nrm (nx_then (sr_ (mv_ rfl (sg_ rfl (nn_ ?_))))))
     refine gw_ret ?_
     refine nx_ret1 rfl rfl fun wx hm => ?_
     exact ⟨some ⟨bo, 0, none⟩, nn3, c, ((ap (ap (ap [] b1 ⟨ke1, mi1, A1, n1, c1, on1, ov1⟩) b2 ⟨ke2, mi2, A2, n2, c2, on2, ov2⟩) b3 ⟨ke3, mi3, A3, n3, c3, on3, ov3⟩).set j ⟨sn, mi1, A1, n1, c1, on1, ov1⟩), rfl, SlT.ofOwn tx_len (hm.ownI 0 rfl) (by simpa using hT3.symm), ons_of (hz _) (SlT.ofOwn it_len (hm.ownI 3 rfl) ho1) (SlT.ofOwn it_len (hm.ownI 2 rfl) ho2) (SlT.ofOwn it_len (hm.ownI 1 rfl) ho3), ok_of (hz _) (show TxOk _ from ⟨(by omega : (sn : ByteArray).size ≤ 1000000), (by omega : n1 ≤ 1000)⟩) (show TxOk _ from ⟨(by omega : (ke2 : ByteArray).size ≤ 1000000), (by omega : n2 ≤ 1000)⟩) (show TxOk _ from ⟨(by omega : (ke3 : ByteArray).size ≤ 1000000), (by omega : n3 ≤ 1000)⟩), by omega, own_cap (hm.ownI 0 rfl), hm.k.more (by omega), hm.g⟩
    have h0 : ¬ (vs = 0) := by simpa using hh
    clear hh
    refine sr_ (wl_ov (ov_eql rfl rfl) rfl (sg_ rfl (nn_ ?_)))
    refine gw_cond rfl (fun hh => ?_) (fun hh => ?_)
    ·have h1 : vs = 1 := by simpa using hh
     clear hh
     refine gw_region (mv_ rfl (mv_ rfl ?_))
     refine wl_got (γ := Int) (val := fun v => .int .i64 v) (φ := fun v => -2000000000000000 ≤ v ∧ v ≤ 2000000000000000) rfl cb119 rfl rfl rfl rfl (fun wx hm => (odd_any _ _ wx B sb _ hm.k (by omega) (by omega) (by omega) (by omega))) fun v31 hv31 => ?_
     refine wl_ov (ov_nilcheck rfl) rfl (fd_ fo265_1 rfl rfl ?_)
     refine wl_storeE (l := (ap (ap (ap [] b1 ⟨ke1, mi1, A1, n1, c1, on1, ov1⟩) b2 ⟨ke2, mi2, A2, n2, c2, on2, ov2⟩) b3 ⟨ke3, mi3, A3, n3, c3, on3, ov3⟩)) (j := j) (r := 1) (el := ⟨ke1, mi1, A1, n1, c1, on1, ov1⟩) (el' := ⟨ke1, v31, A1, n1, c1, on1, ov1⟩) 0 sc3 rfl rfl rfl rfl tx_len rfl hy hT3.symm (by decide) rfl rfl ?_
     refine wl_nil (nx_blk_nrm (nx_then (sr_ (mv_ rfl (sg_ rfl (nn_ ?_))))))
     refine gw_ret ?_
     refine nx_ret1 rfl rfl fun wx hm => ?_
     exact ⟨some ⟨bo, 0, none⟩, nn3, c, ((ap (ap (ap [] b1 ⟨ke1, mi1, A1, n1, c1, on1, ov1⟩) b2 ⟨ke2, mi2, A2, n2, c2, on2, ov2⟩) b3 ⟨ke3, mi3, A3, n3, c3, on3, ov3⟩).set j ⟨ke1, v31, A1, n1, c1, on1, ov1⟩), rfl, SlT.ofOwn tx_len (hm.ownI 0 rfl) (by simpa using hT3.symm), ons_of (hz _) (SlT.ofOwn it_len (hm.ownI 3 rfl) ho1) (SlT.ofOwn it_len (hm.ownI 2 rfl) ho2) (SlT.ofOwn it_len (hm.ownI 1 rfl) ho3), ok_of (hz _) (show TxOk _ from ⟨(by omega : (ke1 : ByteArray).size ≤ 1000000), (by omega : n1 ≤ 1000)⟩) (show TxOk _ from ⟨(by omega : (ke2 : ByteArray).size ≤ 1000000), (by omega : n2 ≤ 1000)⟩) (show TxOk _ from ⟨(by omega : (ke3 : ByteArray).size ≤ 1000000), (by omega : n3 ≤ 1000)⟩), by omega, own_cap (hm.ownI 0 rfl), hm.k.more (by omega), hm.g⟩
    have h1 : ¬ (vs = 1) := by simpa using hh
    clear hh
    refine gd (fun wz => Blk wz g1 9 [.string ⟨#[99, 105, 116, 121]⟩, .string ⟨#[115, 116, 97, 116, 101]⟩, .string ⟨#[118, 97, 116]⟩] ∧ True) mixed (fun _ hm => ⟨hm.bl 0, trivial⟩) fun z => ?_
    refine wt 0 13 1 rfl z (ov_move rfl) ?_
    refine wt 1 13 3 rfl z (ov_move rfl) ?_
    refine wt 2 13 7 rfl z (ov_nilcheck rfl) ?_
    refine wt 3 13 15 rfl z (ov_field fo265_2 rfl rfl) ?_
    refine wt 5 13 47 rfl z (ov_move rfl) ?_
    refine wa_all [4, 6] (by kernel_rfl) rfl ⟨⟨_, rfl, ?_⟩, ⟨_, rfl, ?_⟩, trivial⟩
    ·refine wl_ov (ov_elem1 (k := 2) (v := .slice A1 n1 c1) sc22 rfl (fun _ hm => (SlT.ofOwn tx_len (hm.ownI 0 rfl) hT3.symm)) hy rfl rfl) rfl ?_
     refine wl_nil ?_
     refine nw 13 63 (fun _ hm => ⟨hm.bl 0, trivial⟩) fun z => ?_
     refine wa1 6 rfl ?_
     refine wl_buildSlice (e := 3) (cs := [.int .i64 0, .int .i64 5, .int .i64 6, .int .i64 7, .int .i64 1]) rfl (by kernel_rfl) rfl fun g32 => ?_
     refine wl_nil ?_
     refine nw 13 127 (fun _ hm => ⟨hm.bl 1, trivial⟩) fun z => ?_
     refine wa1 7 rfl ?_
     refine wl_got (γ := Int) (val := fun v => .int .i64 v) (φ := fun v => v ∈ ([0, 5, 6, 7, 1] : List Int)) rfl cb24 rfl rfl rfl rfl (fun wx hm => (pick_any [0, 5, 6, 7, 1] _ _ _ wx B sb _ hm.k (by omega) (by simp) (by simp) (hm.blkI 0 rfl) (hm.neRow 0 rfl rfl))) fun v33 hv33 => ?_
     have bv33 : 0 ≤ v33 ∧ v33 ≤ 7 := mem_rng hv33 (by decide)
     have bv330 := bv33.1
     have bv331 := bv33.2
     clear bv33
     refine wl_nil ?_
     refine nw 13 255 (fun _ hm => ⟨hm.bl 1, trivial⟩) fun z => ?_
     refine wa1 8 rfl ?_
     refine wl_buildSlice (e := 3) (cs := [.int .i64 v33]) rfl (by kernel_rfl) rfl fun g34 => ?_
     refine wl_nil ?_
     refine nw 13 511 (fun _ hm => ⟨hm.bl 2, trivial⟩) fun z => ?_
     refine wa1 9 rfl ?_
     refine wl_append (news := [.int .i64 v33]) 3 0 ap22 rfl rfl rfl rfl rfl rfl rfl (by omega) (by unfold maxLen; omega) rfl rfl fun va hva => ?_
     refine wl_look (R := ∃ A cc, va = .slice A (n1 + 1) cc) (fun wx hm => own_slice (hm.ownI 3 rfl)) ?_
     rintro ⟨Aa, ca, rfl⟩
     refine wl_nil ?_
     refine nw 13 1023 (fun _ hm => ⟨hm.bl 2, trivial⟩) fun z => ?_
     refine wt 10 13 2047 rfl z (ov_nilcheck rfl) ?_
     refine wt 11 13 4095 rfl z (ov_field fo265_2 rfl rfl) ?_
     refine wa1 12 rfl ?_
     refine wl_storeE (l := (ap (ap (ap [] b1 ⟨ke1, mi1, A1, n1, c1, on1, ov1⟩) b2 ⟨ke2, mi2, A2, n2, c2, on2, ov2⟩) b3 ⟨ke3, mi3, A3, n3, c3, on3, ov3⟩)) (j := j) (r := 2) (el := ⟨ke1, mi1, A1, n1, c1, on1, ov1⟩) (el' := ⟨ke1, mi1, Aa, n1 + 1, ca, on1 ++ [v33], ov1⟩) 0 sc22 rfl rfl rfl rfl tx_len rfl hy hT3.symm (by decide) rfl rfl ?_
     refine wl_nil ?_
     refine nw 13 8191 (fun _ hm => ⟨hm.bl 2, trivial⟩) fun z => ?_
     refine wa_done (by kernel_rfl) ?_
     refine nx_blk_nrm (nx_then (sr_ (mv_ rfl (sg_ rfl (nn_ ?_)))))
     refine gw_ret ?_
     refine nx_ret1 rfl rfl fun wx hm => ?_
     exact ⟨some ⟨bo, 0, none⟩, nn3, c, ((ap (ap (ap [] b1 ⟨ke1, mi1, A1, n1, c1, on1, ov1⟩) b2 ⟨ke2, mi2, A2, n2, c2, on2, ov2⟩) b3 ⟨ke3, mi3, A3, n3, c3, on3, ov3⟩).set j ⟨ke1, mi1, Aa, n1 + 1, ca, on1 ++ [v33], ov1⟩), rfl, SlT.ofOwn tx_len (hm.ownI 0 rfl) (by simpa using hT3.symm), ons_of (hz _) (own_snoc (hm.ownI 3 rfl) ho1) (SlT.ofOwn it_len (hm.ownI 2 rfl) ho2) (SlT.ofOwn it_len (hm.ownI 1 rfl) ho3), ok_of (hz _) (show TxOk _ from ⟨(by omega : (ke1 : ByteArray).size ≤ 1000000), (by omega : n1 + 1 ≤ 1000)⟩) (show TxOk _ from ⟨(by omega : (ke2 : ByteArray).size ≤ 1000000), (by omega : n2 ≤ 1000)⟩) (show TxOk _ from ⟨(by omega : (ke3 : ByteArray).size ≤ 1000000), (by omega : n3 ≤ 1000)⟩), by omega, own_cap (hm.ownI 0 rfl), hm.k.more (by omega), hm.g⟩
    refine wl_buildSlice (e := 3) (cs := [.int .i64 0, .int .i64 5, .int .i64 6, .int .i64 7, .int .i64 1]) rfl (by kernel_rfl) rfl fun g35 => ?_
    refine wl_nil ?_
    refine nw 13 111 (fun _ hm => ⟨hm.bl 1, trivial⟩) fun z => ?_
    refine wa_all [4, 7] (by kernel_rfl) rfl ⟨⟨_, rfl, ?_⟩, ⟨_, rfl, ?_⟩, trivial⟩
    ·refine wl_ov (ov_elem1 (k := 2) (v := .slice A1 n1 c1) sc22 rfl (fun _ hm => (SlT.ofOwn tx_len (hm.ownI 0 rfl) hT3.symm)) hy rfl rfl) rfl ?_
     refine wl_nil ?_
     refine nw 13 127 (fun _ hm => ⟨hm.bl 1, trivial⟩) fun z => ?_
     refine wa1 7 rfl ?_
     refine wl_got (γ := Int) (val := fun v => .int .i64 v) (φ := fun v => v ∈ ([0, 5, 6, 7, 1] : List Int)) rfl cb24 rfl rfl rfl rfl (fun wx hm => (pick_any [0, 5, 6, 7, 1] _ _ _ wx B sb _ hm.k (by omega) (by simp) (by simp) (hm.blkI 0 rfl) (hm.neRow 0 rfl rfl))) fun v36 hv36 => ?_
     have bv36 : 0 ≤ v36 ∧ v36 ≤ 7 := mem_rng hv36 (by decide)
     have bv360 := bv36.1
     have bv361 := bv36.2
     clear bv36
     refine wl_nil ?_
     refine nw 13 255 (fun _ hm => ⟨hm.bl 1, trivial⟩) fun z => ?_
     refine wa1 8 rfl ?_
     refine wl_buildSlice (e := 3) (cs := [.int .i64 v36]) rfl (by kernel_rfl) rfl fun g37 => ?_
     refine wl_nil ?_
     refine nw 13 511 (fun _ hm => ⟨hm.bl 2, trivial⟩) fun z => ?_
     refine wa1 9 rfl ?_
     refine wl_append (news := [.int .i64 v36]) 3 0 ap22 rfl rfl rfl rfl rfl rfl rfl (by omega) (by unfold maxLen; omega) rfl rfl fun va hva => ?_
     refine wl_look (R := ∃ A cc, va = .slice A (n1 + 1) cc) (fun wx hm => own_slice (hm.ownI 3 rfl)) ?_
     rintro ⟨Aa, ca, rfl⟩
     refine wl_nil ?_
     refine nw 13 1023 (fun _ hm => ⟨hm.bl 2, trivial⟩) fun z => ?_
     refine wt 10 13 2047 rfl z (ov_nilcheck rfl) ?_
     refine wt 11 13 4095 rfl z (ov_field fo265_2 rfl rfl) ?_
     refine wa1 12 rfl ?_
     refine wl_storeE (l := (ap (ap (ap [] b1 ⟨ke1, mi1, A1, n1, c1, on1, ov1⟩) b2 ⟨ke2, mi2, A2, n2, c2, on2, ov2⟩) b3 ⟨ke3, mi3, A3, n3, c3, on3, ov3⟩)) (j := j) (r := 2) (el := ⟨ke1, mi1, A1, n1, c1, on1, ov1⟩) (el' := ⟨ke1, mi1, Aa, n1 + 1, ca, on1 ++ [v36], ov1⟩) 0 sc22 rfl rfl rfl rfl tx_len rfl hy hT3.symm (by decide) rfl rfl ?_
     refine wl_nil ?_
     refine nw 13 8191 (fun _ hm => ⟨hm.bl 2, trivial⟩) fun z => ?_
     refine wa_done (by kernel_rfl) ?_
     refine nx_blk_nrm (nx_then (sr_ (mv_ rfl (sg_ rfl (nn_ ?_)))))
     refine gw_ret ?_
     refine nx_ret1 rfl rfl fun wx hm => ?_
     exact ⟨some ⟨bo, 0, none⟩, nn3, c, ((ap (ap (ap [] b1 ⟨ke1, mi1, A1, n1, c1, on1, ov1⟩) b2 ⟨ke2, mi2, A2, n2, c2, on2, ov2⟩) b3 ⟨ke3, mi3, A3, n3, c3, on3, ov3⟩).set j ⟨ke1, mi1, Aa, n1 + 1, ca, on1 ++ [v36], ov1⟩), rfl, SlT.ofOwn tx_len (hm.ownI 0 rfl) (by simpa using hT3.symm), ons_of (hz _) (own_snoc (hm.ownI 3 rfl) ho1) (SlT.ofOwn it_len (hm.ownI 2 rfl) ho2) (SlT.ofOwn it_len (hm.ownI 1 rfl) ho3), ok_of (hz _) (show TxOk _ from ⟨(by omega : (ke1 : ByteArray).size ≤ 1000000), (by omega : n1 + 1 ≤ 1000)⟩) (show TxOk _ from ⟨(by omega : (ke2 : ByteArray).size ≤ 1000000), (by omega : n2 ≤ 1000)⟩) (show TxOk _ from ⟨(by omega : (ke3 : ByteArray).size ≤ 1000000), (by omega : n3 ≤ 1000)⟩), by omega, own_cap (hm.ownI 0 rfl), hm.k.more (by omega), hm.g⟩
    refine wl_got (γ := Int) (val := fun v => .int .i64 v) (φ := fun v => v ∈ ([0, 5, 6, 7, 1] : List Int)) rfl cb24 rfl rfl rfl rfl (fun wx hm => (pick_any [0, 5, 6, 7, 1] _ _ _ wx B sb _ hm.k (by omega) (by simp) (by simp) (hm.blkI 0 rfl) (hm.neRow 0 rfl rfl))) fun v38 hv38 => ?_
    have bv38 : 0 ≤ v38 ∧ v38 ≤ 7 := mem_rng hv38 (by decide)
    have bv380 := bv38.1
    have bv381 := bv38.2
    clear bv38
    refine wl_nil ?_
    refine nw 13 239 (fun _ hm => ⟨hm.bl 1, trivial⟩) fun z => ?_
    refine wa_all [4, 8] (by kernel_rfl) rfl ⟨⟨_, rfl, ?_⟩, ⟨_, rfl, ?_⟩, trivial⟩
    ·refine wl_ov (ov_elem1 (k := 2) (v := .slice A1 n1 c1) sc22 rfl (fun _ hm => (SlT.ofOwn tx_len (hm.ownI 0 rfl) hT3.symm)) hy rfl rfl) rfl ?_
     refine wl_nil ?_
     refine nw 13 255 (fun _ hm => ⟨hm.bl 1, trivial⟩) fun z => ?_
     refine wa1 8 rfl ?_
     refine wl_buildSlice (e := 3) (cs := [.int .i64 v38]) rfl (by kernel_rfl) rfl fun g39 => ?_
     refine wl_nil ?_
     refine nw 13 511 (fun _ hm => ⟨hm.bl 2, trivial⟩) fun z => ?_
     refine wa1 9 rfl ?_
     refine wl_append (news := [.int .i64 v38]) 3 0 ap22 rfl rfl rfl rfl rfl rfl rfl (by omega) (by unfold maxLen; omega) rfl rfl fun va hva => ?_
     refine wl_look (R := ∃ A cc, va = .slice A (n1 + 1) cc) (fun wx hm => own_slice (hm.ownI 3 rfl)) ?_
     rintro ⟨Aa, ca, rfl⟩
     refine wl_nil ?_
     refine nw 13 1023 (fun _ hm => ⟨hm.bl 2, trivial⟩) fun z => ?_
     refine wt 10 13 2047 rfl z (ov_nilcheck rfl) ?_
     refine wt 11 13 4095 rfl z (ov_field fo265_2 rfl rfl) ?_
     refine wa1 12 rfl ?_
     refine wl_storeE (l := (ap (ap (ap [] b1 ⟨ke1, mi1, A1, n1, c1, on1, ov1⟩) b2 ⟨ke2, mi2, A2, n2, c2, on2, ov2⟩) b3 ⟨ke3, mi3, A3, n3, c3, on3, ov3⟩)) (j := j) (r := 2) (el := ⟨ke1, mi1, A1, n1, c1, on1, ov1⟩) (el' := ⟨ke1, mi1, Aa, n1 + 1, ca, on1 ++ [v38], ov1⟩) 0 sc22 rfl rfl rfl rfl tx_len rfl hy hT3.symm (by decide) rfl rfl ?_
     refine wl_nil ?_
     refine nw 13 8191 (fun _ hm => ⟨hm.bl 2, trivial⟩) fun z => ?_
     refine wa_done (by kernel_rfl) ?_
     refine nx_blk_nrm (nx_then (sr_ (mv_ rfl (sg_ rfl (nn_ ?_)))))
     refine gw_ret ?_
     refine nx_ret1 rfl rfl fun wx hm => ?_
     exact ⟨some ⟨bo, 0, none⟩, nn3, c, ((ap (ap (ap [] b1 ⟨ke1, mi1, A1, n1, c1, on1, ov1⟩) b2 ⟨ke2, mi2, A2, n2, c2, on2, ov2⟩) b3 ⟨ke3, mi3, A3, n3, c3, on3, ov3⟩).set j ⟨ke1, mi1, Aa, n1 + 1, ca, on1 ++ [v38], ov1⟩), rfl, SlT.ofOwn tx_len (hm.ownI 0 rfl) (by simpa using hT3.symm), ons_of (hz _) (own_snoc (hm.ownI 3 rfl) ho1) (SlT.ofOwn it_len (hm.ownI 2 rfl) ho2) (SlT.ofOwn it_len (hm.ownI 1 rfl) ho3), ok_of (hz _) (show TxOk _ from ⟨(by omega : (ke1 : ByteArray).size ≤ 1000000), (by omega : n1 + 1 ≤ 1000)⟩) (show TxOk _ from ⟨(by omega : (ke2 : ByteArray).size ≤ 1000000), (by omega : n2 ≤ 1000)⟩) (show TxOk _ from ⟨(by omega : (ke3 : ByteArray).size ≤ 1000000), (by omega : n3 ≤ 1000)⟩), by omega, own_cap (hm.ownI 0 rfl), hm.k.more (by omega), hm.g⟩
    refine wl_buildSlice (e := 3) (cs := [.int .i64 v38]) rfl (by kernel_rfl) rfl fun g40 => ?_
    refine wl_nil ?_
    refine nw 13 495 (fun _ hm => ⟨hm.bl 2, trivial⟩) fun z => ?_
    refine wa1 4 rfl ?_
    refine wl_ov (ov_elem1 (k := 2) (v := .slice A1 n1 c1) sc22 rfl (fun _ hm => (SlT.ofOwn tx_len (hm.ownI 0 rfl) hT3.symm)) hy rfl rfl) rfl ?_
    refine wl_nil ?_
    refine nw 13 511 (fun _ hm => ⟨hm.bl 2, trivial⟩) fun z => ?_
    refine wa1 9 rfl ?_
    refine wl_append (news := [.int .i64 v38]) 3 0 ap22 rfl rfl rfl rfl rfl rfl rfl (by omega) (by unfold maxLen; omega) rfl rfl fun va hva => ?_
    refine wl_look (R := ∃ A cc, va = .slice A (n1 + 1) cc) (fun wx hm => own_slice (hm.ownI 3 rfl)) ?_
    rintro ⟨Aa, ca, rfl⟩
    refine wl_nil ?_
    refine nw 13 1023 (fun _ hm => ⟨hm.bl 2, trivial⟩) fun z => ?_
    refine wt 10 13 2047 rfl z (ov_nilcheck rfl) ?_
    refine wt 11 13 4095 rfl z (ov_field fo265_2 rfl rfl) ?_
    refine wa1 12 rfl ?_
    refine wl_storeE (l := (ap (ap (ap [] b1 ⟨ke1, mi1, A1, n1, c1, on1, ov1⟩) b2 ⟨ke2, mi2, A2, n2, c2, on2, ov2⟩) b3 ⟨ke3, mi3, A3, n3, c3, on3, ov3⟩)) (j := j) (r := 2) (el := ⟨ke1, mi1, A1, n1, c1, on1, ov1⟩) (el' := ⟨ke1, mi1, Aa, n1 + 1, ca, on1 ++ [v38], ov1⟩) 0 sc22 rfl rfl rfl rfl tx_len rfl hy hT3.symm (by decide) rfl rfl ?_
    refine wl_nil ?_
    refine nw 13 8191 (fun _ hm => ⟨hm.bl 2, trivial⟩) fun z => ?_
    refine wa_done (by kernel_rfl) ?_
    refine nx_blk_nrm (nx_then (sr_ (mv_ rfl (sg_ rfl (nn_ ?_)))))
    refine gw_ret ?_
    refine nx_ret1 rfl rfl fun wx hm => ?_
    exact ⟨some ⟨bo, 0, none⟩, nn3, c, ((ap (ap (ap [] b1 ⟨ke1, mi1, A1, n1, c1, on1, ov1⟩) b2 ⟨ke2, mi2, A2, n2, c2, on2, ov2⟩) b3 ⟨ke3, mi3, A3, n3, c3, on3, ov3⟩).set j ⟨ke1, mi1, Aa, n1 + 1, ca, on1 ++ [v38], ov1⟩), rfl, SlT.ofOwn tx_len (hm.ownI 0 rfl) (by simpa using hT3.symm), ons_of (hz _) (own_snoc (hm.ownI 3 rfl) ho1) (SlT.ofOwn it_len (hm.ownI 2 rfl) ho2) (SlT.ofOwn it_len (hm.ownI 1 rfl) ho3), ok_of (hz _) (show TxOk _ from ⟨(by omega : (ke1 : ByteArray).size ≤ 1000000), (by omega : n1 + 1 ≤ 1000)⟩) (show TxOk _ from ⟨(by omega : (ke2 : ByteArray).size ≤ 1000000), (by omega : n2 ≤ 1000)⟩) (show TxOk _ from ⟨(by omega : (ke3 : ByteArray).size ≤ 1000000), (by omega : n3 ≤ 1000)⟩), by omega, own_cap (hm.ownI 0 rfl), hm.k.more (by omega), hm.g⟩
   ·refine wl_ov (ov_index (j := j) es30 rfl rfl (by omega)) rfl ?_
    refine sg_ rfl (nn_ (sr_ (mv_ rfl ?_)))
    refine wl_got (γ := Int) (val := fun v => .int .i64 v) (φ := fun v => IsBelow 3 v) rfl cb59 rfl rfl rfl rfl (fun wx hm => (next_any _ wx B sb _ hm.k (by omega) (by omega) (by omega))) fun vs hvs => ?_
    refine nn_ (gw_block (sr_ (wl_ov (ov_eql rfl rfl) rfl (sg_ rfl (nn_ ?_)))))
    refine gw_cond rfl (fun hh => ?_) (fun hh => ?_)
    ·have h0 : vs = 0 := by simpa using hh
     clear hh
     refine gw_region (mv_ rfl (mv_ rfl ?_))
     refine wl_buildSlice (e := 9) (cs := [.string ⟨#[]⟩, .string ⟨#[99, 105, 116, 121]⟩, .string ⟨#[65]⟩]) rfl (by kernel_rfl) rfl fun g41 => ?_
     refine wl_got (γ := ByteArray) (val := fun v => .string v) (φ := fun v => v ∈ ([⟨#[]⟩, ⟨#[99, 105, 116, 121]⟩, ⟨#[65]⟩] : List ByteArray)) rfl cb60 rfl rfl rfl rfl (fun wx hm => (some_any [⟨#[]⟩, ⟨#[99, 105, 116, 121]⟩, ⟨#[65]⟩] _ _ _ wx B sb _ hm.k (by omega) (by simp) (by simp) (hm.blkI 0 rfl) (hm.neRow 0 rfl rfl))) fun sn hsn => ?_
     have zsn : sn.size ≤ 100 := mem_sz hsn (by decide)
     refine wl_ov (ov_nilcheck rfl) rfl (fd_ fo265_0 rfl rfl ?_)
     refine wl_storeE (l := (ap (ap (ap [] b1 ⟨ke1, mi1, A1, n1, c1, on1, ov1⟩) b2 ⟨ke2, mi2, A2, n2, c2, on2, ov2⟩) b3 ⟨ke3, mi3, A3, n3, c3, on3, ov3⟩)) (j := j) (r := 0) (el := ⟨ke2, mi2, A2, n2, c2, on2, ov2⟩) (el' := ⟨sn, mi2, A2, n2, c2, on2, ov2⟩) 0 sc9 rfl rfl rfl rfl tx_len rfl hy hT3.symm (by decide) rfl rfl ?_
     refine wl_nil (nx_blk_nrm (nx_then (sr_ (mv_ rfl (sg_ rfl (nn_ ?_))))))
     refine gw_ret ?_
     refine nx_ret1 rfl rfl fun wx hm => ?_
     exact ⟨some ⟨bo, 0, none⟩, nn3, c, ((ap (ap (ap [] b1 ⟨ke1, mi1, A1, n1, c1, on1, ov1⟩) b2 ⟨ke2, mi2, A2, n2, c2, on2, ov2⟩) b3 ⟨ke3, mi3, A3, n3, c3, on3, ov3⟩).set j ⟨sn, mi2, A2, n2, c2, on2, ov2⟩), rfl, SlT.ofOwn tx_len (hm.ownI 0 rfl) (by simpa using hT3.symm), ons_of (hz _) (SlT.ofOwn it_len (hm.ownI 3 rfl) ho1) (SlT.ofOwn it_len (hm.ownI 2 rfl) ho2) (SlT.ofOwn it_len (hm.ownI 1 rfl) ho3), ok_of (hz _) (show TxOk _ from ⟨(by omega : (ke1 : ByteArray).size ≤ 1000000), (by omega : n1 ≤ 1000)⟩) (show TxOk _ from ⟨(by omega : (sn : ByteArray).size ≤ 1000000), (by omega : n2 ≤ 1000)⟩) (show TxOk _ from ⟨(by omega : (ke3 : ByteArray).size ≤ 1000000), (by omega : n3 ≤ 1000)⟩), by omega, own_cap (hm.ownI 0 rfl), hm.k.more (by omega), hm.g⟩
    have h0 : ¬ (vs = 0) := by simpa using hh
    clear hh
    refine sr_ (wl_ov (ov_eql rfl rfl) rfl (sg_ rfl (nn_ ?_)))
    refine gw_cond rfl (fun hh => ?_) (fun hh => ?_)
    ·have h1 : vs = 1 := by simpa using hh
     clear hh
     refine gw_region (mv_ rfl (mv_ rfl ?_))
     refine wl_got (γ := Int) (val := fun v => .int .i64 v) (φ := fun v => -2000000000000000 ≤ v ∧ v ≤ 2000000000000000) rfl cb119 rfl rfl rfl rfl (fun wx hm => (odd_any _ _ wx B sb _ hm.k (by omega) (by omega) (by omega) (by omega))) fun v42 hv42 => ?_
     refine wl_ov (ov_nilcheck rfl) rfl (fd_ fo265_1 rfl rfl ?_)
     refine wl_storeE (l := (ap (ap (ap [] b1 ⟨ke1, mi1, A1, n1, c1, on1, ov1⟩) b2 ⟨ke2, mi2, A2, n2, c2, on2, ov2⟩) b3 ⟨ke3, mi3, A3, n3, c3, on3, ov3⟩)) (j := j) (r := 1) (el := ⟨ke2, mi2, A2, n2, c2, on2, ov2⟩) (el' := ⟨ke2, v42, A2, n2, c2, on2, ov2⟩) 0 sc3 rfl rfl rfl rfl tx_len rfl hy hT3.symm (by decide) rfl rfl ?_
     refine wl_nil (nx_blk_nrm (nx_then (sr_ (mv_ rfl (sg_ rfl (nn_ ?_))))))
     refine gw_ret ?_
     refine nx_ret1 rfl rfl fun wx hm => ?_
     exact ⟨some ⟨bo, 0, none⟩, nn3, c, ((ap (ap (ap [] b1 ⟨ke1, mi1, A1, n1, c1, on1, ov1⟩) b2 ⟨ke2, mi2, A2, n2, c2, on2, ov2⟩) b3 ⟨ke3, mi3, A3, n3, c3, on3, ov3⟩).set j ⟨ke2, v42, A2, n2, c2, on2, ov2⟩), rfl, SlT.ofOwn tx_len (hm.ownI 0 rfl) (by simpa using hT3.symm), ons_of (hz _) (SlT.ofOwn it_len (hm.ownI 3 rfl) ho1) (SlT.ofOwn it_len (hm.ownI 2 rfl) ho2) (SlT.ofOwn it_len (hm.ownI 1 rfl) ho3), ok_of (hz _) (show TxOk _ from ⟨(by omega : (ke1 : ByteArray).size ≤ 1000000), (by omega : n1 ≤ 1000)⟩) (show TxOk _ from ⟨(by omega : (ke2 : ByteArray).size ≤ 1000000), (by omega : n2 ≤ 1000)⟩) (show TxOk _ from ⟨(by omega : (ke3 : ByteArray).size ≤ 1000000), (by omega : n3 ≤ 1000)⟩), by omega, own_cap (hm.ownI 0 rfl), hm.k.more (by omega), hm.g⟩
    have h1 : ¬ (vs = 1) := by simpa using hh
    clear hh
    refine gd (fun wz => Blk wz g1 9 [.string ⟨#[99, 105, 116, 121]⟩, .string ⟨#[115, 116, 97, 116, 101]⟩, .string ⟨#[118, 97, 116]⟩] ∧ True) mixed (fun _ hm => ⟨hm.bl 0, trivial⟩) fun z => ?_
    refine wt 0 13 1 rfl z (ov_move rfl) ?_
    refine wt 1 13 3 rfl z (ov_move rfl) ?_
    refine wt 2 13 7 rfl z (ov_nilcheck rfl) ?_
    refine wt 3 13 15 rfl z (ov_field fo265_2 rfl rfl) ?_
    refine wt 5 13 47 rfl z (ov_move rfl) ?_
    refine wa_all [4, 6] (by kernel_rfl) rfl ⟨⟨_, rfl, ?_⟩, ⟨_, rfl, ?_⟩, trivial⟩
    ·refine wl_ov (ov_elem1 (k := 2) (v := .slice A2 n2 c2) sc22 rfl (fun _ hm => (SlT.ofOwn tx_len (hm.ownI 0 rfl) hT3.symm)) hy rfl rfl) rfl ?_
     refine wl_nil ?_
     refine nw 13 63 (fun _ hm => ⟨hm.bl 0, trivial⟩) fun z => ?_
     refine wa1 6 rfl ?_
     refine wl_buildSlice (e := 3) (cs := [.int .i64 0, .int .i64 5, .int .i64 6, .int .i64 7, .int .i64 1]) rfl (by kernel_rfl) rfl fun g43 => ?_
     refine wl_nil ?_
     refine nw 13 127 (fun _ hm => ⟨hm.bl 1, trivial⟩) fun z => ?_
     refine wa1 7 rfl ?_
     refine wl_got (γ := Int) (val := fun v => .int .i64 v) (φ := fun v => v ∈ ([0, 5, 6, 7, 1] : List Int)) rfl cb24 rfl rfl rfl rfl (fun wx hm => (pick_any [0, 5, 6, 7, 1] _ _ _ wx B sb _ hm.k (by omega) (by simp) (by simp) (hm.blkI 0 rfl) (hm.neRow 0 rfl rfl))) fun v44 hv44 => ?_
     have bv44 : 0 ≤ v44 ∧ v44 ≤ 7 := mem_rng hv44 (by decide)
     have bv440 := bv44.1
     have bv441 := bv44.2
     clear bv44
     refine wl_nil ?_
     refine nw 13 255 (fun _ hm => ⟨hm.bl 1, trivial⟩) fun z => ?_
     refine wa1 8 rfl ?_
     refine wl_buildSlice (e := 3) (cs := [.int .i64 v44]) rfl (by kernel_rfl) rfl fun g45 => ?_
     refine wl_nil ?_
     refine nw 13 511 (fun _ hm => ⟨hm.bl 2, trivial⟩) fun z => ?_
     refine wa1 9 rfl ?_
     refine wl_append (news := [.int .i64 v44]) 2 0 ap22 rfl rfl rfl rfl rfl rfl rfl (by omega) (by unfold maxLen; omega) rfl rfl fun va hva => ?_
     refine wl_look (R := ∃ A cc, va = .slice A (n2 + 1) cc) (fun wx hm => own_slice (hm.ownI 2 rfl)) ?_
     rintro ⟨Aa, ca, rfl⟩
     refine wl_nil ?_
     refine nw 13 1023 (fun _ hm => ⟨hm.bl 2, trivial⟩) fun z => ?_
     refine wt 10 13 2047 rfl z (ov_nilcheck rfl) ?_
     refine wt 11 13 4095 rfl z (ov_field fo265_2 rfl rfl) ?_
     refine wa1 12 rfl ?_
     refine wl_storeE (l := (ap (ap (ap [] b1 ⟨ke1, mi1, A1, n1, c1, on1, ov1⟩) b2 ⟨ke2, mi2, A2, n2, c2, on2, ov2⟩) b3 ⟨ke3, mi3, A3, n3, c3, on3, ov3⟩)) (j := j) (r := 2) (el := ⟨ke2, mi2, A2, n2, c2, on2, ov2⟩) (el' := ⟨ke2, mi2, Aa, n2 + 1, ca, on2 ++ [v44], ov2⟩) 0 sc22 rfl rfl rfl rfl tx_len rfl hy hT3.symm (by decide) rfl rfl ?_
     refine wl_nil ?_
     refine nw 13 8191 (fun _ hm => ⟨hm.bl 2, trivial⟩) fun z => ?_
     refine wa_done (by kernel_rfl) ?_
     refine nx_blk_nrm (nx_then (sr_ (mv_ rfl (sg_ rfl (nn_ ?_)))))
     refine gw_ret ?_
     refine nx_ret1 rfl rfl fun wx hm => ?_
     exact ⟨some ⟨bo, 0, none⟩, nn3, c, ((ap (ap (ap [] b1 ⟨ke1, mi1, A1, n1, c1, on1, ov1⟩) b2 ⟨ke2, mi2, A2, n2, c2, on2, ov2⟩) b3 ⟨ke3, mi3, A3, n3, c3, on3, ov3⟩).set j ⟨ke2, mi2, Aa, n2 + 1, ca, on2 ++ [v44], ov2⟩), rfl, SlT.ofOwn tx_len (hm.ownI 0 rfl) (by simpa using hT3.symm), ons_of (hz _) (SlT.ofOwn it_len (hm.ownI 3 rfl) ho1) (own_snoc (hm.ownI 2 rfl) ho2) (SlT.ofOwn it_len (hm.ownI 1 rfl) ho3), ok_of (hz _) (show TxOk _ from ⟨(by omega : (ke1 : ByteArray).size ≤ 1000000), (by omega : n1 ≤ 1000)⟩) (show TxOk _ from ⟨(by omega : (ke2 : ByteArray).size ≤ 1000000), (by omega : n2 + 1 ≤ 1000)⟩) (show TxOk _ from ⟨(by omega : (ke3 : ByteArray).size ≤ 1000000), (by omega : n3 ≤ 1000)⟩), by omega, own_cap (hm.ownI 0 rfl), hm.k.more (by omega), hm.g⟩
    refine wl_buildSlice (e := 3) (cs := [.int .i64 0, .int .i64 5, .int .i64 6, .int .i64 7, .int .i64 1]) rfl (by kernel_rfl) rfl fun g46 => ?_
    refine wl_nil ?_
    refine nw 13 111 (fun _ hm => ⟨hm.bl 1, trivial⟩) fun z => ?_
    refine wa_all [4, 7] (by kernel_rfl) rfl ⟨⟨_, rfl, ?_⟩, ⟨_, rfl, ?_⟩, trivial⟩
    ·refine wl_ov (ov_elem1 (k := 2) (v := .slice A2 n2 c2) sc22 rfl (fun _ hm => (SlT.ofOwn tx_len (hm.ownI 0 rfl) hT3.symm)) hy rfl rfl) rfl ?_
     refine wl_nil ?_
     refine nw 13 127 (fun _ hm => ⟨hm.bl 1, trivial⟩) fun z => ?_
     refine wa1 7 rfl ?_
     refine wl_got (γ := Int) (val := fun v => .int .i64 v) (φ := fun v => v ∈ ([0, 5, 6, 7, 1] : List Int)) rfl cb24 rfl rfl rfl rfl (fun wx hm => (pick_any [0, 5, 6, 7, 1] _ _ _ wx B sb _ hm.k (by omega) (by simp) (by simp) (hm.blkI 0 rfl) (hm.neRow 0 rfl rfl))) fun v47 hv47 => ?_
     have bv47 : 0 ≤ v47 ∧ v47 ≤ 7 := mem_rng hv47 (by decide)
     have bv470 := bv47.1
     have bv471 := bv47.2
     clear bv47
     refine wl_nil ?_
     refine nw 13 255 (fun _ hm => ⟨hm.bl 1, trivial⟩) fun z => ?_
     refine wa1 8 rfl ?_
     refine wl_buildSlice (e := 3) (cs := [.int .i64 v47]) rfl (by kernel_rfl) rfl fun g48 => ?_
     refine wl_nil ?_
     refine nw 13 511 (fun _ hm => ⟨hm.bl 2, trivial⟩) fun z => ?_
     refine wa1 9 rfl ?_
     refine wl_append (news := [.int .i64 v47]) 2 0 ap22 rfl rfl rfl rfl rfl rfl rfl (by omega) (by unfold maxLen; omega) rfl rfl fun va hva => ?_
     refine wl_look (R := ∃ A cc, va = .slice A (n2 + 1) cc) (fun wx hm => own_slice (hm.ownI 2 rfl)) ?_
     rintro ⟨Aa, ca, rfl⟩
     refine wl_nil ?_
     refine nw 13 1023 (fun _ hm => ⟨hm.bl 2, trivial⟩) fun z => ?_
     refine wt 10 13 2047 rfl z (ov_nilcheck rfl) ?_
     refine wt 11 13 4095 rfl z (ov_field fo265_2 rfl rfl) ?_
     refine wa1 12 rfl ?_
     refine wl_storeE (l := (ap (ap (ap [] b1 ⟨ke1, mi1, A1, n1, c1, on1, ov1⟩) b2 ⟨ke2, mi2, A2, n2, c2, on2, ov2⟩) b3 ⟨ke3, mi3, A3, n3, c3, on3, ov3⟩)) (j := j) (r := 2) (el := ⟨ke2, mi2, A2, n2, c2, on2, ov2⟩) (el' := ⟨ke2, mi2, Aa, n2 + 1, ca, on2 ++ [v47], ov2⟩) 0 sc22 rfl rfl rfl rfl tx_len rfl hy hT3.symm (by decide) rfl rfl ?_
     refine wl_nil ?_
     refine nw 13 8191 (fun _ hm => ⟨hm.bl 2, trivial⟩) fun z => ?_
     refine wa_done (by kernel_rfl) ?_
     refine nx_blk_nrm (nx_then (sr_ (mv_ rfl (sg_ rfl (nn_ ?_)))))
     refine gw_ret ?_
     refine nx_ret1 rfl rfl fun wx hm => ?_
     exact ⟨some ⟨bo, 0, none⟩, nn3, c, ((ap (ap (ap [] b1 ⟨ke1, mi1, A1, n1, c1, on1, ov1⟩) b2 ⟨ke2, mi2, A2, n2, c2, on2, ov2⟩) b3 ⟨ke3, mi3, A3, n3, c3, on3, ov3⟩).set j ⟨ke2, mi2, Aa, n2 + 1, ca, on2 ++ [v47], ov2⟩), rfl, SlT.ofOwn tx_len (hm.ownI 0 rfl) (by simpa using hT3.symm), ons_of (hz _) (SlT.ofOwn it_len (hm.ownI 3 rfl) ho1) (own_snoc (hm.ownI 2 rfl) ho2) (SlT.ofOwn it_len (hm.ownI 1 rfl) ho3), ok_of (hz _) (show TxOk _ from ⟨(by omega : (ke1 : ByteArray).size ≤ 1000000), (by omega : n1 ≤ 1000)⟩) (show TxOk _ from ⟨(by omega : (ke2 : ByteArray).size ≤ 1000000), (by omega : n2 + 1 ≤ 1000)⟩) (show TxOk _ from ⟨(by omega : (ke3 : ByteArray).size ≤ 1000000), (by omega : n3 ≤ 1000)⟩), by omega, own_cap (hm.ownI 0 rfl), hm.k.more (by omega), hm.g⟩
    refine wl_got (γ := Int) (val := fun v => .int .i64 v) (φ := fun v => v ∈ ([0, 5, 6, 7, 1] : List Int)) rfl cb24 rfl rfl rfl rfl (fun wx hm => (pick_any [0, 5, 6, 7, 1] _ _ _ wx B sb _ hm.k (by omega) (by simp) (by simp) (hm.blkI 0 rfl) (hm.neRow 0 rfl rfl))) fun v49 hv49 => ?_
    have bv49 : 0 ≤ v49 ∧ v49 ≤ 7 := mem_rng hv49 (by decide)
    have bv490 := bv49.1
    have bv491 := bv49.2
    clear bv49
    refine wl_nil ?_
    refine nw 13 239 (fun _ hm => ⟨hm.bl 1, trivial⟩) fun z => ?_
    refine wa_all [4, 8] (by kernel_rfl) rfl ⟨⟨_, rfl, ?_⟩, ⟨_, rfl, ?_⟩, trivial⟩
    ·refine wl_ov (ov_elem1 (k := 2) (v := .slice A2 n2 c2) sc22 rfl (fun _ hm => (SlT.ofOwn tx_len (hm.ownI 0 rfl) hT3.symm)) hy rfl rfl) rfl ?_
     refine wl_nil ?_
     refine nw 13 255 (fun _ hm => ⟨hm.bl 1, trivial⟩) fun z => ?_
     refine wa1 8 rfl ?_
     refine wl_buildSlice (e := 3) (cs := [.int .i64 v49]) rfl (by kernel_rfl) rfl fun g50 => ?_
     refine wl_nil ?_
     refine nw 13 511 (fun _ hm => ⟨hm.bl 2, trivial⟩) fun z => ?_
     refine wa1 9 rfl ?_
     refine wl_append (news := [.int .i64 v49]) 2 0 ap22 rfl rfl rfl rfl rfl rfl rfl (by omega) (by unfold maxLen; omega) rfl rfl fun va hva => ?_
     refine wl_look (R := ∃ A cc, va = .slice A (n2 + 1) cc) (fun wx hm => own_slice (hm.ownI 2 rfl)) ?_
     rintro ⟨Aa, ca, rfl⟩
     refine wl_nil ?_
     refine nw 13 1023 (fun _ hm => ⟨hm.bl 2, trivial⟩) fun z => ?_
     refine wt 10 13 2047 rfl z (ov_nilcheck rfl) ?_
     refine wt 11 13 4095 rfl z (ov_field fo265_2 rfl rfl) ?_
     refine wa1 12 rfl ?_
     refine wl_storeE (l := (ap (ap (ap [] b1 ⟨ke1, mi1, A1, n1, c1, on1, ov1⟩) b2 ⟨ke2, mi2, A2, n2, c2, on2, ov2⟩) b3 ⟨ke3, mi3, A3, n3, c3, on3, ov3⟩)) (j := j) (r := 2) (el := ⟨ke2, mi2, A2, n2, c2, on2, ov2⟩) (el' := ⟨ke2, mi2, Aa, n2 + 1, ca, on2 ++ [v49], ov2⟩) 0 sc22 rfl rfl rfl rfl tx_len rfl hy hT3.symm (by decide) rfl rfl ?_
     refine wl_nil ?_
     refine nw 13 8191 (fun _ hm => ⟨hm.bl 2, trivial⟩) fun z => ?_
     refine wa_done (by kernel_rfl) ?_
     refine nx_blk_nrm (nx_then (sr_ (mv_ rfl (sg_ rfl (nn_ ?_)))))
     refine gw_ret ?_
     refine nx_ret1 rfl rfl fun wx hm => ?_
     exact ⟨some ⟨bo, 0, none⟩, nn3, c, ((ap (ap (ap [] b1 ⟨ke1, mi1, A1, n1, c1, on1, ov1⟩) b2 ⟨ke2, mi2, A2, n2, c2, on2, ov2⟩) b3 ⟨ke3, mi3, A3, n3, c3, on3, ov3⟩).set j ⟨ke2, mi2, Aa, n2 + 1, ca, on2 ++ [v49], ov2⟩), rfl, SlT.ofOwn tx_len (hm.ownI 0 rfl) (by simpa using hT3.symm), ons_of (hz _) (SlT.ofOwn it_len (hm.ownI 3 rfl) ho1) (own_snoc (hm.ownI 2 rfl) ho2) (SlT.ofOwn it_len (hm.ownI 1 rfl) ho3), ok_of (hz _) (show TxOk _ from ⟨(by omega : (ke1 : ByteArray).size ≤ 1000000), (by omega : n1 ≤ 1000)⟩) (show TxOk _ from ⟨(by omega : (ke2 : ByteArray).size ≤ 1000000), (by omega : n2 + 1 ≤ 1000)⟩) (show TxOk _ from ⟨(by omega : (ke3 : ByteArray).size ≤ 1000000), (by omega : n3 ≤ 1000)⟩), by omega, own_cap (hm.ownI 0 rfl), hm.k.more (by omega), hm.g⟩
    refine wl_buildSlice (e := 3) (cs := [.int .i64 v49]) rfl (by kernel_rfl) rfl fun g51 => ?_
    refine wl_nil ?_
    refine nw 13 495 (fun _ hm => ⟨hm.bl 2, trivial⟩) fun z => ?_
    refine wa1 4 rfl ?_
    refine wl_ov (ov_elem1 (k := 2) (v := .slice A2 n2 c2) sc22 rfl (fun _ hm => (SlT.ofOwn tx_len (hm.ownI 0 rfl) hT3.symm)) hy rfl rfl) rfl ?_
    refine wl_nil ?_
    refine nw 13 511 (fun _ hm => ⟨hm.bl 2, trivial⟩) fun z => ?_
    refine wa1 9 rfl ?_
    refine wl_append (news := [.int .i64 v49]) 2 0 ap22 rfl rfl rfl rfl rfl rfl rfl (by omega) (by unfold maxLen; omega) rfl rfl fun va hva => ?_
    refine wl_look (R := ∃ A cc, va = .slice A (n2 + 1) cc) (fun wx hm => own_slice (hm.ownI 2 rfl)) ?_
    rintro ⟨Aa, ca, rfl⟩
    refine wl_nil ?_
    refine nw 13 1023 (fun _ hm => ⟨hm.bl 2, trivial⟩) fun z => ?_
    refine wt 10 13 2047 rfl z (ov_nilcheck rfl) ?_
    refine wt 11 13 4095 rfl z (ov_field fo265_2 rfl rfl) ?_
    refine wa1 12 rfl ?_
    refine wl_storeE (l := (ap (ap (ap [] b1 ⟨ke1, mi1, A1, n1, c1, on1, ov1⟩) b2 ⟨ke2, mi2, A2, n2, c2, on2, ov2⟩) b3 ⟨ke3, mi3, A3, n3, c3, on3, ov3⟩)) (j := j) (r := 2) (el := ⟨ke2, mi2, A2, n2, c2, on2, ov2⟩) (el' := ⟨ke2, mi2, Aa, n2 + 1, ca, on2 ++ [v49], ov2⟩) 0 sc22 rfl rfl rfl rfl tx_len rfl hy hT3.symm (by decide) rfl rfl ?_
    refine wl_nil ?_
    refine nw 13 8191 (fun _ hm => ⟨hm.bl 2, trivial⟩) fun z => ?_
    refine wa_done (by kernel_rfl) ?_
    refine nx_blk_nrm (nx_then (sr_ (mv_ rfl (sg_ rfl (nn_ ?_)))))
    refine gw_ret ?_
    refine nx_ret1 rfl rfl fun wx hm => ?_
    exact ⟨some ⟨bo, 0, none⟩, nn3, c, ((ap (ap (ap [] b1 ⟨ke1, mi1, A1, n1, c1, on1, ov1⟩) b2 ⟨ke2, mi2, A2, n2, c2, on2, ov2⟩) b3 ⟨ke3, mi3, A3, n3, c3, on3, ov3⟩).set j ⟨ke2, mi2, Aa, n2 + 1, ca, on2 ++ [v49], ov2⟩), rfl, SlT.ofOwn tx_len (hm.ownI 0 rfl) (by simpa using hT3.symm), ons_of (hz _) (SlT.ofOwn it_len (hm.ownI 3 rfl) ho1) (own_snoc (hm.ownI 2 rfl) ho2) (SlT.ofOwn it_len (hm.ownI 1 rfl) ho3), ok_of (hz _) (show TxOk _ from ⟨(by omega : (ke1 : ByteArray).size ≤ 1000000), (by omega : n1 ≤ 1000)⟩) (show TxOk _ from ⟨(by omega : (ke2 : ByteArray).size ≤ 1000000), (by omega : n2 + 1 ≤ 1000)⟩) (show TxOk _ from ⟨(by omega : (ke3 : ByteArray).size ≤ 1000000), (by omega : n3 ≤ 1000)⟩), by omega, own_cap (hm.ownI 0 rfl), hm.k.more (by omega), hm.g⟩
   refine wl_ov (ov_index (j := j) es30 rfl rfl (by omega)) rfl ?_
   refine sg_ rfl (nn_ (sr_ (mv_ rfl ?_)))
   refine wl_got (γ := Int) (val := fun v => .int .i64 v) (φ := fun v => IsBelow 3 v) rfl cb59 rfl rfl rfl rfl (fun wx hm => (next_any _ wx B sb _ hm.k (by omega) (by omega) (by omega))) fun vs hvs => ?_
   refine nn_ (gw_block (sr_ (wl_ov (ov_eql rfl rfl) rfl (sg_ rfl (nn_ ?_)))))
   refine gw_cond rfl (fun hh => ?_) (fun hh => ?_)
   ·have h0 : vs = 0 := by simpa using hh
    clear hh
    refine gw_region (mv_ rfl (mv_ rfl ?_))
    refine wl_buildSlice (e := 9) (cs := [.string ⟨#[]⟩, .string ⟨#[99, 105, 116, 121]⟩, .string ⟨#[65]⟩]) rfl (by kernel_rfl) rfl fun g52 => ?_
    refine wl_got (γ := ByteArray) (val := fun v => .string v) (φ := fun v => v ∈ ([⟨#[]⟩, ⟨#[99, 105, 116, 121]⟩, ⟨#[65]⟩] : List ByteArray)) rfl cb60 rfl rfl rfl rfl (fun wx hm => (some_any [⟨#[]⟩, ⟨#[99, 105, 116, 121]⟩, ⟨#[65]⟩] _ _ _ wx B sb _ hm.k (by omega) (by simp) (by simp) (hm.blkI 0 rfl) (hm.neRow 0 rfl rfl))) fun sn hsn => ?_
    have zsn : sn.size ≤ 100 := mem_sz hsn (by decide)
    refine wl_ov (ov_nilcheck rfl) rfl (fd_ fo265_0 rfl rfl ?_)
    refine wl_storeE (l := (ap (ap (ap [] b1 ⟨ke1, mi1, A1, n1, c1, on1, ov1⟩) b2 ⟨ke2, mi2, A2, n2, c2, on2, ov2⟩) b3 ⟨ke3, mi3, A3, n3, c3, on3, ov3⟩)) (j := j) (r := 0) (el := ⟨ke3, mi3, A3, n3, c3, on3, ov3⟩) (el' := ⟨sn, mi3, A3, n3, c3, on3, ov3⟩) 0 sc9 rfl rfl rfl rfl tx_len rfl hy hT3.symm (by decide) rfl rfl ?_
    refine wl_nil (nx_blk_nrm (nx_then (sr_ (mv_ rfl (sg_ rfl (nn_ ?_))))))
    refine gw_ret ?_
    refine nx_ret1 rfl rfl fun wx hm => ?_
    exact ⟨some ⟨bo, 0, none⟩, nn3, c, ((ap (ap (ap [] b1 ⟨ke1, mi1, A1, n1, c1, on1, ov1⟩) b2 ⟨ke2, mi2, A2, n2, c2, on2, ov2⟩) b3 ⟨ke3, mi3, A3, n3, c3, on3, ov3⟩).set j ⟨sn, mi3, A3, n3, c3, on3, ov3⟩), rfl, SlT.ofOwn tx_len (hm.ownI 0 rfl) (by simpa using hT3.symm), ons_of (hz _) (SlT.ofOwn it_len (hm.ownI 3 rfl) ho1) (SlT.ofOwn it_len (hm.ownI 2 rfl) ho2) (SlT.ofOwn it_len (hm.ownI 1 rfl) ho3), ok_of (hz _) (show TxOk _ from ⟨(by omega : (ke1 : ByteArray).size ≤ 1000000), (by omega : n1 ≤ 1000)⟩) (show TxOk _ from ⟨(by omega : (ke2 : ByteArray).size ≤ 1000000), (by omega : n2 ≤ 1000)⟩) (show TxOk _ from ⟨(by omega : (sn : ByteArray).size ≤ 1000000), (by omega : n3 ≤ 1000)⟩), by omega, own_cap (hm.ownI 0 rfl), hm.k.more (by omega), hm.g⟩
   have h0 : ¬ (vs = 0) := by simpa using hh
   clear hh
   refine sr_ (wl_ov (ov_eql rfl rfl) rfl (sg_ rfl (nn_ ?_)))
   refine gw_cond rfl (fun hh => ?_) (fun hh => ?_)
   ·have h1 : vs = 1 := by simpa using hh
    clear hh
    refine gw_region (mv_ rfl (mv_ rfl ?_))
    refine wl_got (γ := Int) (val := fun v => .int .i64 v) (φ := fun v => -2000000000000000 ≤ v ∧ v ≤ 2000000000000000) rfl cb119 rfl rfl rfl rfl (fun wx hm => (odd_any _ _ wx B sb _ hm.k (by omega) (by omega) (by omega) (by omega))) fun v53 hv53 => ?_
    refine wl_ov (ov_nilcheck rfl) rfl (fd_ fo265_1 rfl rfl ?_)
    refine wl_storeE (l := (ap (ap (ap [] b1 ⟨ke1, mi1, A1, n1, c1, on1, ov1⟩) b2 ⟨ke2, mi2, A2, n2, c2, on2, ov2⟩) b3 ⟨ke3, mi3, A3, n3, c3, on3, ov3⟩)) (j := j) (r := 1) (el := ⟨ke3, mi3, A3, n3, c3, on3, ov3⟩) (el' := ⟨ke3, v53, A3, n3, c3, on3, ov3⟩) 0 sc3 rfl rfl rfl rfl tx_len rfl hy hT3.symm (by decide) rfl rfl ?_
    refine wl_nil (nx_blk_nrm (nx_then (sr_ (mv_ rfl (sg_ rfl (nn_ ?_))))))
    refine gw_ret ?_
    refine nx_ret1 rfl rfl fun wx hm => ?_
    exact ⟨some ⟨bo, 0, none⟩, nn3, c, ((ap (ap (ap [] b1 ⟨ke1, mi1, A1, n1, c1, on1, ov1⟩) b2 ⟨ke2, mi2, A2, n2, c2, on2, ov2⟩) b3 ⟨ke3, mi3, A3, n3, c3, on3, ov3⟩).set j ⟨ke3, v53, A3, n3, c3, on3, ov3⟩), rfl, SlT.ofOwn tx_len (hm.ownI 0 rfl) (by simpa using hT3.symm), ons_of (hz _) (SlT.ofOwn it_len (hm.ownI 3 rfl) ho1) (SlT.ofOwn it_len (hm.ownI 2 rfl) ho2) (SlT.ofOwn it_len (hm.ownI 1 rfl) ho3), ok_of (hz _) (show TxOk _ from ⟨(by omega : (ke1 : ByteArray).size ≤ 1000000), (by omega : n1 ≤ 1000)⟩) (show TxOk _ from ⟨(by omega : (ke2 : ByteArray).size ≤ 1000000), (by omega : n2 ≤ 1000)⟩) (show TxOk _ from ⟨(by omega : (ke3 : ByteArray).size ≤ 1000000), (by omega : n3 ≤ 1000)⟩), by omega, own_cap (hm.ownI 0 rfl), hm.k.more (by omega), hm.g⟩
   have h1 : ¬ (vs = 1) := by simpa using hh
   clear hh
   refine gd (fun wz => Blk wz g1 9 [.string ⟨#[99, 105, 116, 121]⟩, .string ⟨#[115, 116, 97, 116, 101]⟩, .string ⟨#[118, 97, 116]⟩] ∧ True) mixed (fun _ hm => ⟨hm.bl 0, trivial⟩) fun z => ?_
   refine wt 0 13 1 rfl z (ov_move rfl) ?_
   refine wt 1 13 3 rfl z (ov_move rfl) ?_
   refine wt 2 13 7 rfl z (ov_nilcheck rfl) ?_
   refine wt 3 13 15 rfl z (ov_field fo265_2 rfl rfl) ?_
   refine wt 5 13 47 rfl z (ov_move rfl) ?_
   refine wa_all [4, 6] (by kernel_rfl) rfl ⟨⟨_, rfl, ?_⟩, ⟨_, rfl, ?_⟩, trivial⟩
   ·refine wl_ov (ov_elem1 (k := 2) (v := .slice A3 n3 c3) sc22 rfl (fun _ hm => (SlT.ofOwn tx_len (hm.ownI 0 rfl) hT3.symm)) hy rfl rfl) rfl ?_
    refine wl_nil ?_
    refine nw 13 63 (fun _ hm => ⟨hm.bl 0, trivial⟩) fun z => ?_
    refine wa1 6 rfl ?_
    refine wl_buildSlice (e := 3) (cs := [.int .i64 0, .int .i64 5, .int .i64 6, .int .i64 7, .int .i64 1]) rfl (by kernel_rfl) rfl fun g54 => ?_
    refine wl_nil ?_
    refine nw 13 127 (fun _ hm => ⟨hm.bl 1, trivial⟩) fun z => ?_
    refine wa1 7 rfl ?_
    refine wl_got (γ := Int) (val := fun v => .int .i64 v) (φ := fun v => v ∈ ([0, 5, 6, 7, 1] : List Int)) rfl cb24 rfl rfl rfl rfl (fun wx hm => (pick_any [0, 5, 6, 7, 1] _ _ _ wx B sb _ hm.k (by omega) (by simp) (by simp) (hm.blkI 0 rfl) (hm.neRow 0 rfl rfl))) fun v55 hv55 => ?_
    have bv55 : 0 ≤ v55 ∧ v55 ≤ 7 := mem_rng hv55 (by decide)
    have bv550 := bv55.1
    have bv551 := bv55.2
    clear bv55
    refine wl_nil ?_
    refine nw 13 255 (fun _ hm => ⟨hm.bl 1, trivial⟩) fun z => ?_
    refine wa1 8 rfl ?_
    refine wl_buildSlice (e := 3) (cs := [.int .i64 v55]) rfl (by kernel_rfl) rfl fun g56 => ?_
    refine wl_nil ?_
    refine nw 13 511 (fun _ hm => ⟨hm.bl 2, trivial⟩) fun z => ?_
    refine wa1 9 rfl ?_
    refine wl_append (news := [.int .i64 v55]) 1 0 ap22 rfl rfl rfl rfl rfl rfl rfl (by omega) (by unfold maxLen; omega) rfl rfl fun va hva => ?_
    refine wl_look (R := ∃ A cc, va = .slice A (n3 + 1) cc) (fun wx hm => own_slice (hm.ownI 1 rfl)) ?_
    rintro ⟨Aa, ca, rfl⟩
    refine wl_nil ?_
    refine nw 13 1023 (fun _ hm => ⟨hm.bl 2, trivial⟩) fun z => ?_
    refine wt 10 13 2047 rfl z (ov_nilcheck rfl) ?_
    refine wt 11 13 4095 rfl z (ov_field fo265_2 rfl rfl) ?_
    refine wa1 12 rfl ?_
    refine wl_storeE (l := (ap (ap (ap [] b1 ⟨ke1, mi1, A1, n1, c1, on1, ov1⟩) b2 ⟨ke2, mi2, A2, n2, c2, on2, ov2⟩) b3 ⟨ke3, mi3, A3, n3, c3, on3, ov3⟩)) (j := j) (r := 2) (el := ⟨ke3, mi3, A3, n3, c3, on3, ov3⟩) (el' := ⟨ke3, mi3, Aa, n3 + 1, ca, on3 ++ [v55], ov3⟩) 0 sc22 rfl rfl rfl rfl tx_len rfl hy hT3.symm (by decide) rfl rfl ?_
    refine wl_nil ?_
    refine nw 13 8191 (fun _ hm => ⟨hm.bl 2, trivial⟩) fun z => ?_
    refine wa_done (by kernel_rfl) ?_
    refine nx_blk_nrm (nx_then (sr_ (mv_ rfl (sg_ rfl (nn_ ?_)))))
    refine gw_ret ?_
    refine nx_ret1 rfl rfl fun wx hm => ?_
    exact ⟨some ⟨bo, 0, none⟩, nn3, c, ((ap (ap (ap [] b1 ⟨ke1, mi1, A1, n1, c1, on1, ov1⟩) b2 ⟨ke2, mi2, A2, n2, c2, on2, ov2⟩) b3 ⟨ke3, mi3, A3, n3, c3, on3, ov3⟩).set j ⟨ke3, mi3, Aa, n3 + 1, ca, on3 ++ [v55], ov3⟩), rfl, SlT.ofOwn tx_len (hm.ownI 0 rfl) (by simpa using hT3.symm), ons_of (hz _) (SlT.ofOwn it_len (hm.ownI 3 rfl) ho1) (SlT.ofOwn it_len (hm.ownI 2 rfl) ho2) (own_snoc (hm.ownI 1 rfl) ho3), ok_of (hz _) (show TxOk _ from ⟨(by omega : (ke1 : ByteArray).size ≤ 1000000), (by omega : n1 ≤ 1000)⟩) (show TxOk _ from ⟨(by omega : (ke2 : ByteArray).size ≤ 1000000), (by omega : n2 ≤ 1000)⟩) (show TxOk _ from ⟨(by omega : (ke3 : ByteArray).size ≤ 1000000), (by omega : n3 + 1 ≤ 1000)⟩), by omega, own_cap (hm.ownI 0 rfl), hm.k.more (by omega), hm.g⟩
   refine wl_buildSlice (e := 3) (cs := [.int .i64 0, .int .i64 5, .int .i64 6, .int .i64 7, .int .i64 1]) rfl (by kernel_rfl) rfl fun g57 => ?_
   refine wl_nil ?_
   refine nw 13 111 (fun _ hm => ⟨hm.bl 1, trivial⟩) fun z => ?_
   refine wa_all [4, 7] (by kernel_rfl) rfl ⟨⟨_, rfl, ?_⟩, ⟨_, rfl, ?_⟩, trivial⟩
   ·refine wl_ov (ov_elem1 (k := 2) (v := .slice A3 n3 c3) sc22 rfl (fun _ hm => (SlT.ofOwn tx_len (hm.ownI 0 rfl) hT3.symm)) hy rfl rfl) rfl ?_
    refine wl_nil ?_
    refine nw 13 127 (fun _ hm => ⟨hm.bl 1, trivial⟩) fun z => ?_
    refine wa1 7 rfl ?_
    refine wl_got (γ := Int) (val := fun v => .int .i64 v) (φ := fun v => v ∈ ([0, 5, 6, 7, 1] : List Int)) rfl cb24 rfl rfl rfl rfl (fun wx hm => (pick_any [0, 5, 6, 7, 1] _ _ _ wx B sb _ hm.k (by omega) (by simp) (by simp) (hm.blkI 0 rfl) (hm.neRow 0 rfl rfl))) fun v58 hv58 => ?_
    have bv58 : 0 ≤ v58 ∧ v58 ≤ 7 := mem_rng hv58 (by decide)
    have bv580 := bv58.1
    have bv581 := bv58.2
    clear bv58
    refine wl_nil ?_
    refine nw 13 255 (fun _ hm => ⟨hm.bl 1, trivial⟩) fun z => ?_
    refine wa1 8 rfl ?_
    refine wl_buildSlice (e := 3) (cs := [.int .i64 v58]) rfl (by kernel_rfl) rfl fun g59 => ?_
    refine wl_nil ?_
    refine nw 13 511 (fun _ hm => ⟨hm.bl 2, trivial⟩) fun z => ?_
    refine wa1 9 rfl ?_
    refine wl_append (news := [.int .i64 v58]) 1 0 ap22 rfl rfl rfl rfl rfl rfl rfl (by omega) (by unfold maxLen; omega) rfl rfl fun va hva => ?_
    refine wl_look (R := ∃ A cc, va = .slice A (n3 + 1) cc) (fun wx hm => own_slice (hm.ownI 1 rfl)) ?_
    rintro ⟨Aa, ca, rfl⟩
    refine wl_nil ?_
    refine nw 13 1023 (fun _ hm => ⟨hm.bl 2, trivial⟩) fun z => ?_
    refine wt 10 13 2047 rfl z (ov_nilcheck rfl) ?_
    refine wt 11 13 4095 rfl z (ov_field fo265_2 rfl rfl) ?_
    refine wa1 12 rfl ?_
    refine wl_storeE (l := (ap (ap (ap [] b1 ⟨ke1, mi1, A1, n1, c1, on1, ov1⟩) b2 ⟨ke2, mi2, A2, n2, c2, on2, ov2⟩) b3 ⟨ke3, mi3, A3, n3, c3, on3, ov3⟩)) (j := j) (r := 2) (el := ⟨ke3, mi3, A3, n3, c3, on3, ov3⟩) (el' := ⟨ke3, mi3, Aa, n3 + 1, ca, on3 ++ [v58], ov3⟩) 0 sc22 rfl rfl rfl rfl tx_len rfl hy hT3.symm (by decide) rfl rfl ?_
    refine wl_nil ?_
    refine nw 13 8191 (fun _ hm => ⟨hm.bl 2, trivial⟩) fun z => ?_
    refine wa_done (by kernel_rfl) ?_
    refine nx_blk_nrm (nx_then (sr_ (mv_ rfl (sg_ rfl (nn_ ?_)))))
    refine gw_ret ?_
    refine nx_ret1 rfl rfl fun wx hm => ?_
    exact ⟨some ⟨bo, 0, none⟩, nn3, c, ((ap (ap (ap [] b1 ⟨ke1, mi1, A1, n1, c1, on1, ov1⟩) b2 ⟨ke2, mi2, A2, n2, c2, on2, ov2⟩) b3 ⟨ke3, mi3, A3, n3, c3, on3, ov3⟩).set j ⟨ke3, mi3, Aa, n3 + 1, ca, on3 ++ [v58], ov3⟩), rfl, SlT.ofOwn tx_len (hm.ownI 0 rfl) (by simpa using hT3.symm), ons_of (hz _) (SlT.ofOwn it_len (hm.ownI 3 rfl) ho1) (SlT.ofOwn it_len (hm.ownI 2 rfl) ho2) (own_snoc (hm.ownI 1 rfl) ho3), ok_of (hz _) (show TxOk _ from ⟨(by omega : (ke1 : ByteArray).size ≤ 1000000), (by omega : n1 ≤ 1000)⟩) (show TxOk _ from ⟨(by omega : (ke2 : ByteArray).size ≤ 1000000), (by omega : n2 ≤ 1000)⟩) (show TxOk _ from ⟨(by omega : (ke3 : ByteArray).size ≤ 1000000), (by omega : n3 + 1 ≤ 1000)⟩), by omega, own_cap (hm.ownI 0 rfl), hm.k.more (by omega), hm.g⟩
   refine wl_got (γ := Int) (val := fun v => .int .i64 v) (φ := fun v => v ∈ ([0, 5, 6, 7, 1] : List Int)) rfl cb24 rfl rfl rfl rfl (fun wx hm => (pick_any [0, 5, 6, 7, 1] _ _ _ wx B sb _ hm.k (by omega) (by simp) (by simp) (hm.blkI 0 rfl) (hm.neRow 0 rfl rfl))) fun v60 hv60 => ?_
   have bv60 : 0 ≤ v60 ∧ v60 ≤ 7 := mem_rng hv60 (by decide)
   have bv600 := bv60.1
   have bv601 := bv60.2
   clear bv60
   refine wl_nil ?_
   refine nw 13 239 (fun _ hm => ⟨hm.bl 1, trivial⟩) fun z => ?_
   refine wa_all [4, 8] (by kernel_rfl) rfl ⟨⟨_, rfl, ?_⟩, ⟨_, rfl, ?_⟩, trivial⟩
   ·refine wl_ov (ov_elem1 (k := 2) (v := .slice A3 n3 c3) sc22 rfl (fun _ hm => (SlT.ofOwn tx_len (hm.ownI 0 rfl) hT3.symm)) hy rfl rfl) rfl ?_
    refine wl_nil ?_
    refine nw 13 255 (fun _ hm => ⟨hm.bl 1, trivial⟩) fun z => ?_
    refine wa1 8 rfl ?_
    refine wl_buildSlice (e := 3) (cs := [.int .i64 v60]) rfl (by kernel_rfl) rfl fun g61 => ?_
    refine wl_nil ?_
    refine nw 13 511 (fun _ hm => ⟨hm.bl 2, trivial⟩) fun z => ?_
    refine wa1 9 rfl ?_
    refine wl_append (news := [.int .i64 v60]) 1 0 ap22 rfl rfl rfl rfl rfl rfl rfl (by omega) (by unfold maxLen; omega) rfl rfl fun va hva => ?_
    refine wl_look (R := ∃ A cc, va = .slice A (n3 + 1) cc) (fun wx hm => own_slice (hm.ownI 1 rfl)) ?_
    rintro ⟨Aa, ca, rfl⟩
    refine wl_nil ?_
    refine nw 13 1023 (fun _ hm => ⟨hm.bl 2, trivial⟩) fun z => ?_
    refine wt 10 13 2047 rfl z (ov_nilcheck rfl) ?_
    refine wt 11 13 4095 rfl z (ov_field fo265_2 rfl rfl) ?_
    refine wa1 12 rfl ?_
    refine wl_storeE (l := (ap (ap (ap [] b1 ⟨ke1, mi1, A1, n1, c1, on1, ov1⟩) b2 ⟨ke2, mi2, A2, n2, c2, on2, ov2⟩) b3 ⟨ke3, mi3, A3, n3, c3, on3, ov3⟩)) (j := j) (r := 2) (el := ⟨ke3, mi3, A3, n3, c3, on3, ov3⟩) (el' := ⟨ke3, mi3, Aa, n3 + 1, ca, on3 ++ [v60], ov3⟩) 0 sc22 rfl rfl rfl rfl tx_len rfl hy hT3.symm (by decide) rfl rfl ?_
    refine wl_nil ?_
    refine nw 13 8191 (fun _ hm => ⟨hm.bl 2, trivial⟩) fun z => ?_
    refine wa_done (by kernel_rfl) ?_
    refine nx_blk_nrm (nx_then (sr_ (mv_ rfl (sg_ rfl (nn_ ?_)))))
    refine gw_ret ?_
    refine nx_ret1 rfl rfl fun wx hm => ?_
    exact ⟨some ⟨bo, 0, none⟩, nn3, c, ((ap (ap (ap [] b1 ⟨ke1, mi1, A1, n1, c1, on1, ov1⟩) b2 ⟨ke2, mi2, A2, n2, c2, on2, ov2⟩) b3 ⟨ke3, mi3, A3, n3, c3, on3, ov3⟩).set j ⟨ke3, mi3, Aa, n3 + 1, ca, on3 ++ [v60], ov3⟩), rfl, SlT.ofOwn tx_len (hm.ownI 0 rfl) (by simpa using hT3.symm), ons_of (hz _) (SlT.ofOwn it_len (hm.ownI 3 rfl) ho1) (SlT.ofOwn it_len (hm.ownI 2 rfl) ho2) (own_snoc (hm.ownI 1 rfl) ho3), ok_of (hz _) (show TxOk _ from ⟨(by omega : (ke1 : ByteArray).size ≤ 1000000), (by omega : n1 ≤ 1000)⟩) (show TxOk _ from ⟨(by omega : (ke2 : ByteArray).size ≤ 1000000), (by omega : n2 ≤ 1000)⟩) (show TxOk _ from ⟨(by omega : (ke3 : ByteArray).size ≤ 1000000), (by omega : n3 + 1 ≤ 1000)⟩), by omega, own_cap (hm.ownI 0 rfl), hm.k.more (by omega), hm.g⟩
   refine wl_buildSlice (e := 3) (cs := [.int .i64 v60]) rfl (by kernel_rfl) rfl fun g62 => ?_
   refine wl_nil ?_
   refine nw 13 495 (fun _ hm => ⟨hm.bl 2, trivial⟩) fun z => ?_
   refine wa1 4 rfl ?_
   refine wl_ov (ov_elem1 (k := 2) (v := .slice A3 n3 c3) sc22 rfl (fun _ hm => (SlT.ofOwn tx_len (hm.ownI 0 rfl) hT3.symm)) hy rfl rfl) rfl ?_
   refine wl_nil ?_
   refine nw 13 511 (fun _ hm => ⟨hm.bl 2, trivial⟩) fun z => ?_
   refine wa1 9 rfl ?_
   refine wl_append (news := [.int .i64 v60]) 1 0 ap22 rfl rfl rfl rfl rfl rfl rfl (by omega) (by unfold maxLen; omega) rfl rfl fun va hva => ?_
   refine wl_look (R := ∃ A cc, va = .slice A (n3 + 1) cc) (fun wx hm => own_slice (hm.ownI 1 rfl)) ?_
   rintro ⟨Aa, ca, rfl⟩
   refine wl_nil ?_
   refine nw 13 1023 (fun _ hm => ⟨hm.bl 2, trivial⟩) fun z => ?_
   refine wt 10 13 2047 rfl z (ov_nilcheck rfl) ?_
   refine wt 11 13 4095 rfl z (ov_field fo265_2 rfl rfl) ?_
   refine wa1 12 rfl ?_
   refine wl_storeE (l := (ap (ap (ap [] b1 ⟨ke1, mi1, A1, n1, c1, on1, ov1⟩) b2 ⟨ke2, mi2, A2, n2, c2, on2, ov2⟩) b3 ⟨ke3, mi3, A3, n3, c3, on3, ov3⟩)) (j := j) (r := 2) (el := ⟨ke3, mi3, A3, n3, c3, on3, ov3⟩) (el' := ⟨ke3, mi3, Aa, n3 + 1, ca, on3 ++ [v60], ov3⟩) 0 sc22 rfl rfl rfl rfl tx_len rfl hy hT3.symm (by decide) rfl rfl ?_
   refine wl_nil ?_
   refine nw 13 8191 (fun _ hm => ⟨hm.bl 2, trivial⟩) fun z => ?_
   refine wa_done (by kernel_rfl) ?_
   refine nx_blk_nrm (nx_then (sr_ (mv_ rfl (sg_ rfl (nn_ ?_)))))
   refine gw_ret ?_
   refine nx_ret1 rfl rfl fun wx hm => ?_
   exact ⟨some ⟨bo, 0, none⟩, nn3, c, ((ap (ap (ap [] b1 ⟨ke1, mi1, A1, n1, c1, on1, ov1⟩) b2 ⟨ke2, mi2, A2, n2, c2, on2, ov2⟩) b3 ⟨ke3, mi3, A3, n3, c3, on3, ov3⟩).set j ⟨ke3, mi3, Aa, n3 + 1, ca, on3 ++ [v60], ov3⟩), rfl, SlT.ofOwn tx_len (hm.ownI 0 rfl) (by simpa using hT3.symm), ons_of (hz _) (SlT.ofOwn it_len (hm.ownI 3 rfl) ho1) (SlT.ofOwn it_len (hm.ownI 2 rfl) ho2) (own_snoc (hm.ownI 1 rfl) ho3), ok_of (hz _) (show TxOk _ from ⟨(by omega : (ke1 : ByteArray).size ≤ 1000000), (by omega : n1 ≤ 1000)⟩) (show TxOk _ from ⟨(by omega : (ke2 : ByteArray).size ≤ 1000000), (by omega : n2 ≤ 1000)⟩) (show TxOk _ from ⟨(by omega : (ke3 : ByteArray).size ≤ 1000000), (by omega : n3 + 1 ≤ 1000)⟩), by omega, own_cap (hm.ownI 0 rfl), hm.k.more (by omega), hm.g⟩
  have hf : f29 = false := by simpa using hh
  clear hh
  refine gw_skip (nx_then (sr_ (mv_ rfl (sg_ rfl (nn_ ?_)))))
  refine gw_ret ?_
  refine nx_ret1 rfl rfl fun wx hm => ?_
  exact ⟨A, nn3, c, (ap (ap (ap [] b1 ⟨ke1, mi1, A1, n1, c1, on1, ov1⟩) b2 ⟨ke2, mi2, A2, n2, c2, on2, ov2⟩) b3 ⟨ke3, mi3, A3, n3, c3, on3, ov3⟩), rfl, SlT.ofOwn tx_len (hm.ownI 0 rfl) hT3.symm, ons_of ap_mem (SlT.ofOwn it_len (hm.ownI 3 rfl) ho1) (SlT.ofOwn it_len (hm.ownI 2 rfl) ho2) (SlT.ofOwn it_len (hm.ownI 1 rfl) ho3), ok_of ap_mem (show TxOk _ from ⟨(by omega : (ke1 : ByteArray).size ≤ 1000000), (by omega : n1 ≤ 1000)⟩) (show TxOk _ from ⟨(by omega : (ke2 : ByteArray).size ≤ 1000000), (by omega : n2 ≤ 1000)⟩) (show TxOk _ from ⟨(by omega : (ke3 : ByteArray).size ≤ 1000000), (by omega : n3 ≤ 1000)⟩), by omega, own_cap (hm.ownI 0 rfl), hm.k.more (by omega), hm.g⟩
 refine wl_set 48 rfl (congrArg Value.bool hb) ?_
 refine goff rfl rfl rfl (goff rfl rfl rfl (pf_ rfl rfl (nn_ (cf_ rfl (gw_skip (nx_then (sr_ (mv_ rfl (sg_ rfl (nn_ ?_))))))))))
 refine gw_ret ?_
 refine nx_ret1 rfl rfl fun wx hm => ?_
 exact ⟨A, nn3, c, (ap (ap (ap [] b1 ⟨ke1, mi1, A1, n1, c1, on1, ov1⟩) b2 ⟨ke2, mi2, A2, n2, c2, on2, ov2⟩) b3 ⟨ke3, mi3, A3, n3, c3, on3, ov3⟩), rfl, SlT.ofOwn tx_len (hm.ownI 0 rfl) hT3.symm, ons_of ap_mem (SlT.ofOwn it_len (hm.ownI 3 rfl) ho1) (SlT.ofOwn it_len (hm.ownI 2 rfl) ho2) (SlT.ofOwn it_len (hm.ownI 1 rfl) ho3), ok_of ap_mem (show TxOk _ from ⟨(by omega : (ke1 : ByteArray).size ≤ 1000000), (by omega : n1 ≤ 1000)⟩) (show TxOk _ from ⟨(by omega : (ke2 : ByteArray).size ≤ 1000000), (by omega : n2 ≤ 1000)⟩) (show TxOk _ from ⟨(by omega : (ke3 : ByteArray).size ≤ 1000000), (by omega : n3 ≤ 1000)⟩), by omega, own_cap (hm.ownI 0 rfl), hm.k.more (by omega), hm.g⟩
end Go.Proofs.YtnmpniaocjmkfaaGreatDoor
namespace Go.Proofs.YtnmpniaocjmkfaaGreatDoor
open Go.RowKit
theorem cheap_g {l : List Rt} (h : ∀ x ∈ l, RtG x) : CheapR l := fun x hx => (h x hx).2
theorem gtariff_any (w : World) (B sb m : Nat) (hS : Strm 25 w B sb m) (hm : m ≤ 10000000000) :
  Calls Tryz.prog 13 #[.pointer (some ⟨sb, 0, none⟩)] w (fun e w' => ∃ (rA : Option Addr) (rn rc : Nat) (rl : List Rt) (eA : Option Addr) (en ec : Nat) (el : List Ex) (fA : Option Addr) (fn fc : Nat) (fl : List Fe) (cA : Option Addr) (cn cc : Nat) (cl : List Cd) (tA : Option Addr) (tn tc : Nat) (tl : List Tx), e = .returned (.agg #[.slice rA rn rc, .slice eA en ec, .slice fA fn fc, .slice cA cn cc, .slice tA tn tc]) ∧ (((∀ x ∈ rl, RtG x) ∧ rn ≤ 10 ∧ rn ≤ rc) ∧ ((∀ x ∈ el, ExOk x) ∧ en ≤ 2 ∧ en ≤ ec) ∧ ((∀ x ∈ fl, FeOk x) ∧ fn ≤ 5 ∧ fn ≤ fc) ∧ ((∀ x ∈ cl, CdOk x) ∧ cn ≤ 3 ∧ cn ≤ cc) ∧ ((∀ x ∈ tl, TxOk x) ∧ tn ≤ 3 ∧ tn ≤ tc)) ∧ (SlT rtEnc 7 170 w' rA rn rl ∧ SlT exEnc 4 256 w' eA en el ∧ SlT feEnc 3 260 w' fA fn fl ∧ SlT cdEnc 6 262 w' cA cn cl ∧ SlT txEnc 4 265 w' tA tn tl ∧ Ons tl w') ∧ Strm 25 w' B sb (m + 710) ∧ w.grownBy w' (some sb)) := by
 refine gw_enter ⟨14, w, (some sb), [170, 256, 260, 262, 265, 3]⟩ Tryz.func13 rfl Tryz.ntmps13 rfl (memS (X := []) hS allF_nil allL_nil) ?_
 refine sr_ ?_
 refine wl_alloc zc32 rfl fun g1 => ?_
 refine nn_ (sr_ (mv_ rfl ?_))
 refine wl_calls (γ := Option Addr × Nat × Nat × List Rt) (val := (fun g => .slice g.1 g.2.1 g.2.2.1)) (φ := (fun g => (∀ x ∈ g.2.2.2, RtG x) ∧ g.2.1 ≤ 10 ∧ g.2.1 ≤ g.2.2.1)) (Y := (fun g => fun wy => SlT rtEnc 7 170 wy g.1 g.2.1 g.2.2.2)) (m' := m + 200) rfl cb88 rfl rfl rfl rfl (fun wx hm => (grates_g wx B sb _ hm.k (by omega)).mono fun _ _ ⟨A, n, c, l, he, hs, hok, hn, hnc, hS, hg⟩ => ⟨(A, n, c, l), he, ⟨hok, hn, hnc⟩, hS, hg, hs⟩) (fun _ => SlT.lasts2 rfl) ?_
 rintro ⟨rA, rn, rc, rl⟩ hr
 dsimp only at hr ⊢
 refine mv_ rfl ?_
 refine wl_calls (γ := Option Addr × Nat × Nat × List Ex) (val := (fun g => .slice g.1 g.2.1 g.2.2.1)) (φ := (fun g => (∀ x ∈ g.2.2.2, ExOk x) ∧ g.2.1 ≤ 2 ∧ g.2.1 ≤ g.2.2.1)) (Y := (fun g => fun wy => SlT exEnc 4 256 wy g.1 g.2.1 g.2.2.2)) (m' := m + 200 + 30) rfl cb89 rfl rfl rfl rfl (fun wx hm => (gextras_any wx B sb _ hm.k (by omega)).mono fun _ _ ⟨A, n, c, l, he, hs, hok, hn, hnc, hS, hg⟩ => ⟨(A, n, c, l), he, ⟨hok, hn, hnc⟩, hS, hg, hs⟩) (fun _ => SlT.lasts2 rfl) ?_
 rintro ⟨eA, en, ec, el⟩ he
 dsimp only at he ⊢
 refine mv_ rfl ?_
 refine wl_calls (γ := Option Addr × Nat × Nat × List Fe) (val := (fun g => .slice g.1 g.2.1 g.2.2.1)) (φ := (fun g => (∀ x ∈ g.2.2.2, FeOk x) ∧ g.2.1 ≤ 5 ∧ g.2.1 ≤ g.2.2.1)) (Y := (fun g => fun wy => SlT feEnc 3 260 wy g.1 g.2.1 g.2.2.2)) (m' := m + 200 + 30 + 30) rfl cb90 rfl rfl rfl rfl (fun wx hm => (gfees_any wx B sb _ hm.k (by omega)).mono fun _ _ ⟨A, n, c, l, he, hs, hok, hn, hnc, hS, hg⟩ => ⟨(A, n, c, l), he, ⟨hok, hn, hnc⟩, hS, hg, hs⟩) (fun _ => SlT.lasts2 rfl) ?_
 rintro ⟨fA, fn, fc, fl⟩ hf
 dsimp only at hf ⊢
 refine mv_ rfl ?_
 refine wl_calls (γ := Option Addr × Nat × Nat × List Cd) (val := (fun g => .slice g.1 g.2.1 g.2.2.1)) (φ := (fun g => (∀ x ∈ g.2.2.2, CdOk x) ∧ g.2.1 ≤ 3 ∧ g.2.1 ≤ g.2.2.1)) (Y := (fun g => fun wy => SlT cdEnc 6 262 wy g.1 g.2.1 g.2.2.2)) (m' := m + 200 + 30 + 30 + 50) rfl cb91 rfl rfl rfl rfl (fun wx hm => (gcodes_any wx B sb _ hm.k (by omega)).mono fun _ _ ⟨A, n, c, l, he, hs, hok, hn, hnc, hS, hg⟩ => ⟨(A, n, c, l), he, ⟨hok, hn, hnc⟩, hS, hg, hs⟩) (fun _ => SlT.lasts2 rfl) ?_
 rintro ⟨cA, cn, cc, cl⟩ hc
 dsimp only at hc ⊢
 refine mv_ rfl ?_
 refine wl_calls (γ := Option Addr × Nat × Nat × List Tx) (val := (fun g => .slice g.1 g.2.1 g.2.2.1)) (φ := (fun g => (∀ x ∈ g.2.2.2, TxOk x) ∧ g.2.1 ≤ 3 ∧ g.2.1 ≤ g.2.2.1)) (Y := (fun g => fun wy => SlT txEnc 4 265 wy g.1 g.2.1 g.2.2.2 ∧ Ons g.2.2.2 wy)) (m' := m + 200 + 30 + 30 + 50 + 400) rfl cb92 rfl rfl rfl rfl (fun wx hm => (gtaxes_any wx B sb _ hm.k (by omega)).mono fun _ _ ⟨A, n, c, l, he, hs, hons, hok, hn, hnc, hS, hg⟩ => ⟨(A, n, c, l), he, ⟨hok, hn, hnc⟩, hS, hg, ⟨hs, hons⟩⟩) (fun _ => (SlT.lasts2 rfl).and_ (Ons.lasts rfl)) ?_
 rintro ⟨tA, tn, tc, tl⟩ ht
 dsimp only at ht ⊢
 refine wl_ov (ov_build (cs := [.slice rA rn rc, .slice eA en ec, .slice fA fn fc, .slice cA cn cc, .slice tA tn tc]) rfl (by kernel_rfl)) rfl ?_
 refine wl_stores (cs' := [.slice rA rn rc, .slice eA en ec, .slice fA fn fc, .slice cA cn cc, .slice tA tn tc]) 0 rz32 rfl rfl rfl rfl rfl rfl rfl rfl ?_
 refine nn_ ?_
 refine gw_ret ?_
 refine nx_retc 0 rfl rz32 rfl rfl rfl fun wx hm => ?_
 exact ⟨rA, rn, rc, rl, eA, en, ec, el, fA, fn, fc, fl, cA, cn, cc, cl, tA, tn, tc, tl, rfl, ⟨hr, he, hf, hc, ht⟩, ⟨(hm.fact 4 rfl), (hm.fact 3 rfl), (hm.fact 2 rfl), (hm.fact 1 rfl), (hm.fact 0 rfl).1, (hm.fact 0 rfl).2⟩, hm.k.more (by omega), hm.g⟩
end Go.Proofs.YtnmpniaocjmkfaaGreatDoor
namespace Go.Proofs.YtnmpniaocjmkfaaGreatDoor
open Go.RowKit
theorem clsG_snoc {c : ByteArray} : ∀ (l pre : List ByteArray), clsG pre (l ++ [c]) = if clsG pre l ≠ 0 then clsG pre l else if (!keyB c) = true then 5 else if (pre ++ l).any (fun y => c.toList == y.toList) = true then 6 else 0
  | [], pre => by simp [clsG]
  | d :: r, pre => by
    have ih := clsG_snoc (c := c) r (pre ++ [d])
    simp only [List.cons_append, clsG]
    split
    · simp
    · split
      · simp
      · rw [ih, List.append_assoc]; rfl
theorem cls_step {TE F : Int} {ds : List ByteArray} {i : Nat} {c : ByteArray} (hx : ds[i]? = some c) (hF : F = firstE [TE, clsG [] (ds.take i)]) : firstE [F, whenE (!keyB c) 5, whenE ((ds.take i).any fun y => c.toList == y.toList) 6] = firstE [TE, clsG [] (ds.take (i + 1))] := by
  have h := clsG_snoc (c := c) (ds.take i) []
  rw [List.nil_append] at h
  rw [hF, List.take_add_one, hx, Option.toList_some, h]
  by_cases h1 : TE = 0
  · subst h1
    by_cases h2 : clsG [] (ds.take i) = 0
    · rw [h2]
      cases hk : (!keyB c) <;> cases ha : ((ds.take i).any fun y => c.toList == y.toList) <;> simp [firstE, whenE]
    · simp [firstE, h2]
  · simp [firstE, h1]
theorem offE_done {rl : List Rt} {el : List Ex} {fl : List Fe} {cl : List Cd} {tl : List Tx} {ds : List ByteArray} {fr tt : Int} {ks : List ByteArray} {F : Int} (hF : F = firstE [tariffE rl el fl cl tl, clsG [] ds]) (h : F ≠ 0) : offE rl el fl cl tl ds fr tt ks = F := by
  subst hF
  unfold offE
  by_cases h1 : tariffE rl el fl cl tl = 0
  · by_cases h2 : clsG [] ds = 0
    · rw [h1, h2] at h; exact absurd rfl h
    · simp [firstE, h1, h2]
  · simp [firstE, h1]
theorem offE_more {rl : List Rt} {el : List Ex} {fl : List Fe} {cl : List Cd} {tl : List Tx} {ds : List ByteArray} {fr tt : Int} {ks : List ByteArray} {F : Int} (hF : F = firstE [tariffE rl el fl cl tl, clsG [] ds]) (h : F = 0) : tariffE rl el fl cl tl = 0 ∧ offE rl el fl cl tl ds fr tt ks = firstE [askE (fun k => el.any (exP k)) ks, timeE fr tt] := by
  have hz := fe_all (hF.symm.trans h)
  have h1 := hz (tariffE rl el fl cl tl) (by simp)
  have h2 := hz (clsG [] ds) (by simp)
  exact ⟨h1, by unfold offE; rw [h1, h2]; rfl⟩
theorem offers_walk (a0 : Option Addr) (len0 cap0 : Nat) (z0 : List Int) (w : World) (hR : RowIn w a0 len0 cap0 z0) :
  Calls Tryz.prog 6 #[.slice a0 len0 cap0] w fun e w' => e = .returned (.bool true) ∧ Below w.heap.size w w' := by
 refine gw_enter ⟨95, w, none, []⟩ Tryz.func6 rfl Tryz.ntmps6 rfl (mem0 (X := []) allF_nil allL_nil) ?_
 refine sr_ (sg_ rfl (nn_ (sr_ (mv_ rfl ?_))))
 refine wl_ov (ov_build (cs := [.slice a0 len0 cap0, .int .i64 0]) rfl (by kernel_rfl)) rfl ?_
 refine wl_box rfl rfl rfl fun sb => ?_
 refine sg_ rfl (nn_ (sr_ (mv_ rfl ?_)))
 refine wl_law [170, 256, 260, 262, 265, 3, 9] hR 0 rfl fun w1 B hg1 hsb => ?_
 refine wl_calls (γ := List Rt × Option Addr × Nat × Nat × List Ex × Option Addr × Nat × Nat × List Fe × Option Addr × Nat × Nat × List Cd × Option Addr × Nat × Nat × List Tx × Option Addr × Nat × Nat) (val := (fun g => .agg #[.slice g.2.1 g.2.2.1 g.2.2.2.1, .slice g.2.2.2.2.2.1 g.2.2.2.2.2.2.1 g.2.2.2.2.2.2.2.1, .slice g.2.2.2.2.2.2.2.2.2.1 g.2.2.2.2.2.2.2.2.2.2.1 g.2.2.2.2.2.2.2.2.2.2.2.1, .slice g.2.2.2.2.2.2.2.2.2.2.2.2.2.1 g.2.2.2.2.2.2.2.2.2.2.2.2.2.2.1 g.2.2.2.2.2.2.2.2.2.2.2.2.2.2.2.1, .slice g.2.2.2.2.2.2.2.2.2.2.2.2.2.2.2.2.2.1 g.2.2.2.2.2.2.2.2.2.2.2.2.2.2.2.2.2.2.1 g.2.2.2.2.2.2.2.2.2.2.2.2.2.2.2.2.2.2.2])) (φ := (fun g => ((∀ x ∈ g.1, RtG x) ∧ g.2.2.1 ≤ 10 ∧ g.2.2.1 ≤ g.2.2.2.1) ∧ ((∀ x ∈ g.2.2.2.2.1, ExOk x) ∧ g.2.2.2.2.2.2.1 ≤ 2 ∧ g.2.2.2.2.2.2.1 ≤ g.2.2.2.2.2.2.2.1) ∧ ((∀ x ∈ g.2.2.2.2.2.2.2.2.1, FeOk x) ∧ g.2.2.2.2.2.2.2.2.2.2.1 ≤ 5 ∧ g.2.2.2.2.2.2.2.2.2.2.1 ≤ g.2.2.2.2.2.2.2.2.2.2.2.1) ∧ ((∀ x ∈ g.2.2.2.2.2.2.2.2.2.2.2.2.1, CdOk x) ∧ g.2.2.2.2.2.2.2.2.2.2.2.2.2.2.1 ≤ 3 ∧ g.2.2.2.2.2.2.2.2.2.2.2.2.2.2.1 ≤ g.2.2.2.2.2.2.2.2.2.2.2.2.2.2.2.1) ∧ ((∀ x ∈ g.2.2.2.2.2.2.2.2.2.2.2.2.2.2.2.2.1, TxOk x) ∧ g.2.2.2.2.2.2.2.2.2.2.2.2.2.2.2.2.2.2.1 ≤ 3 ∧ g.2.2.2.2.2.2.2.2.2.2.2.2.2.2.2.2.2.2.1 ≤ g.2.2.2.2.2.2.2.2.2.2.2.2.2.2.2.2.2.2.2))) (Y := (fun g => fun wy => SlT rtEnc 7 170 wy g.2.1 g.2.2.1 g.1 ∧ SlT exEnc 4 256 wy g.2.2.2.2.2.1 g.2.2.2.2.2.2.1 g.2.2.2.2.1 ∧ SlT feEnc 3 260 wy g.2.2.2.2.2.2.2.2.2.1 g.2.2.2.2.2.2.2.2.2.2.1 g.2.2.2.2.2.2.2.2.1 ∧ SlT cdEnc 6 262 wy g.2.2.2.2.2.2.2.2.2.2.2.2.2.1 g.2.2.2.2.2.2.2.2.2.2.2.2.2.2.1 g.2.2.2.2.2.2.2.2.2.2.2.2.1 ∧ SlT txEnc 4 265 wy g.2.2.2.2.2.2.2.2.2.2.2.2.2.2.2.2.2.1 g.2.2.2.2.2.2.2.2.2.2.2.2.2.2.2.2.2.2.1 g.2.2.2.2.2.2.2.2.2.2.2.2.2.2.2.2.1 ∧ Ons g.2.2.2.2.2.2.2.2.2.2.2.2.2.2.2.2.1 wy)) (m' := 0 + 710) rfl cb13 rfl rfl rfl rfl (fun wx hm => (gtariff_any wx B sb _ hm.k (by omega)).mono fun _ _ ⟨rA, rn, rc, rl, eA, en, ec, el, fA, fn, fc, fl, cA, cn, cc, cl, tA, tn, tc, tl, he, hq, hs, hS, hg⟩ => ⟨(rl, rA, rn, rc, el, eA, en, ec, fl, fA, fn, fc, cl, cA, cn, cc, tl, tA, tn, tc), he, hq, hS, hg, hs⟩) (fun _ => (SlT.lasts2 rfl).and_ ((SlT.lasts2 rfl).and_ ((SlT.lasts2 rfl).and_ ((SlT.lasts2 rfl).and_ ((SlT.lasts2 rfl).and_ (Ons.lasts rfl)))))) ?_
 rintro ⟨rl, rA, rn, rc, el, eA, en, ec, fl, fA, fn, fc, cl, cA, cn, cc, tl, tA, tn, tc⟩ hT
 dsimp only at hT ⊢
 obtain ⟨⟨hrg, hrn0, hrc⟩, ⟨heo, hen0, hec⟩, ⟨hfo, hfn0, hfc⟩, ⟨hco, hcn0, hcc⟩, ⟨hto, htn, htc⟩⟩ := hT
 have hro : ∀ x ∈ rl, RtOk x := rt_g hrg
 have hch : CheapR rl := cheap_g hrg
 have hrn : rn ≤ 1000 := by omega
 have hen : en ≤ 1000 := by omega
 have hfn : fn ≤ 1000 := by omega
 have hcn : cn ≤ 1000 := by omega
 refine mv_ rfl ?_
 refine wl_calls (γ := ByteArray × Int × Int × ByteArray × ByteArray × Option Addr × Nat × Nat × List ByteArray × Option Addr × Nat × Nat × List ByteArray) (val := (fun g => .agg #[.string g.1, .int .i64 g.2.1, .int .i64 g.2.2.1, .string g.2.2.2.1, .string g.2.2.2.2.1, .slice g.2.2.2.2.2.1 g.2.2.2.2.2.2.1 g.2.2.2.2.2.2.2.1, .slice g.2.2.2.2.2.2.2.2.2.1 g.2.2.2.2.2.2.2.2.2.2.1 g.2.2.2.2.2.2.2.2.2.2.2.1])) (φ := (fun g => (g.1.size ≤ 100 ∧ g.2.2.2.1.size ≤ 100 ∧ g.2.2.2.2.1.size ≤ 100) ∧ (Far g.2.1 ∧ Far g.2.2.1) ∧ ((∀ x ∈ g.2.2.2.2.2.2.2.2.1, x.size ≤ 100) ∧ g.2.2.2.2.2.2.1 ≤ 2 ∧ g.2.2.2.2.2.2.1 ≤ g.2.2.2.2.2.2.2.1) ∧ ((∀ x ∈ g.2.2.2.2.2.2.2.2.2.2.2.2, x.size ≤ 100) ∧ g.2.2.2.2.2.2.2.2.2.2.1 ≤ 3 ∧ g.2.2.2.2.2.2.2.2.2.2.1 ≤ g.2.2.2.2.2.2.2.2.2.2.2.1))) (Y := (fun g => fun wy => SlT sgEnc 1 9 wy g.2.2.2.2.2.1 g.2.2.2.2.2.2.1 g.2.2.2.2.2.2.2.2.1 ∧ SlT sgEnc 1 9 wy g.2.2.2.2.2.2.2.2.2.1 g.2.2.2.2.2.2.2.2.2.2.1 g.2.2.2.2.2.2.2.2.2.2.2.2)) (m' := 0 + 710 + 1000) rfl cb14 rfl rfl rfl rfl (fun wx hm => (gask_any wx B sb _ hm.k (by omega)).mono fun _ _ ⟨qc, fr, tt, qa, qb, A1, n1, c1, ks, A2, n2, c2, cks, he, hq, h1, h2, hS, hg⟩ => ⟨(qc, fr, tt, qa, qb, A1, n1, c1, ks, A2, n2, c2, cks), he, hq, hS, hg, h1, h2⟩) (fun _ => (SlT.lasts2 rfl).and_ (SlT.lasts2 rfl)) ?_
 rintro ⟨qc, fr, tt, qa, qb, A1, n1, c1, ks, A2, n2, c2, cks⟩ hA
 dsimp only at hA ⊢
 obtain ⟨⟨hz1, hz2, hz3⟩, ⟨hfr, htt⟩, ⟨_, hn1b, hn1⟩, ⟨_, hn2b, hn2⟩⟩ := hA
 have hz : qc.size ≤ 1000000 ∧ qa.size ≤ 1000000 ∧ qb.size ≤ 1000000 := by omega
 have hn10 : n1 ≤ 1000000 := by omega
 have hn20 : n2 ≤ 1000000 := by omega
 refine wl_alloc zc32 rfl fun g1 => ?_
 refine wl_alloc zc38 rfl fun g2 => ?_
 refine wl_stores (cs' := [.slice rA rn rc, .slice eA en ec, .slice fA fn fc, .slice cA cn cc, .slice tA tn tc]) 1 rz32 rfl rfl rfl rfl rfl rfl rfl rfl ?_
 refine wl_stores (cs' := [.string qc, .int .i64 fr, .int .i64 tt, .string qa, .string qb, .slice A1 n1 c1, .slice A2 n2 c2]) 0 rz38 rfl rfl rfl rfl rfl rfl rfl rfl ?_
 refine nn_ ?_
 refine gw_cut (γ := Option Addr × Nat × Nat × List ByteArray) (I := (fun g => (g.2.1 ≤ 3 ∧ g.2.1 ≤ g.2.2.1) ∧ (∀ x ∈ g.2.2.2, x.size ≤ 100))) (S' := (fun g => [(2, .bool false), (4, .pointer (some ⟨g1, 0, none⟩)), (5, .pointer (some ⟨g2, 0, none⟩)), (6, .slice g.1 g.2.1 g.2.2.1)])) (K' := (fun g => fun w => Strm 25 w B sb (0 + 710 + 1000 + 1))) (L' := (fun g => [(g2, 38, [.string qc, .int .i64 fr, .int .i64 tt, .string qa, .string qb, .slice A1 n1 c1, .slice A2 n2 c2]), (g1, 32, [.slice rA rn rc, .slice eA en ec, .slice fA fn fc, .slice cA cn cc, .slice tA tn tc])])) (O' := (fun g => [])) (X' := (fun g => [fun wy => SlT sgEnc 1 9 wy g.1 g.2.1 g.2.2.2, fun wy => SlT sgEnc 1 9 wy A1 n1 ks ∧ SlT sgEnc 1 9 wy A2 n2 cks, fun wy => SlT rtEnc 7 170 wy rA rn rl ∧ SlT exEnc 4 256 wy eA en el ∧ SlT feEnc 3 260 wy fA fn fl ∧ SlT cdEnc 6 262 wy cA cn cl ∧ SlT txEnc 4 265 wy tA tn tl ∧ Ons tl wy])) ?_ ?_
 ·refine gw_region ?_
  refine wl_buildSlice (e := 9) (cs := [.string ⟨#[109, 105, 110, 105]⟩, .string ⟨#[109, 105, 100, 105]⟩, .string ⟨#[109, 97, 120, 105]⟩]) rfl (by kernel_rfl) rfl fun g3 => ?_
  refine wl_buildSlice (e := 9) (cs := [.string ⟨#[109, 97, 120, 105]⟩, .string ⟨#[109, 105, 110, 105]⟩]) rfl (by kernel_rfl) rfl fun g4 => ?_
  refine wl_buildSlice (e := 9) (cs := [.string ⟨#[110, 111, 110, 101]⟩, .string ⟨#[109, 105, 110, 105]⟩]) rfl (by kernel_rfl) rfl fun g5 => ?_
  refine wl_buildSlice (e := 9) (cs := [.string ⟨#[109, 105, 110, 105]⟩, .string ⟨#[109, 105, 110, 105]⟩]) rfl (by kernel_rfl) rfl fun g6 => ?_
  refine wl_buildSlice (e := 9) (cs := [.string ⟨#[65]⟩]) rfl (by kernel_rfl) rfl fun g7 => ?_
  refine wl_buildSlice (e := 36) (cs := [.slice (some ⟨g3, 0, none⟩) 3 3, .slice (some ⟨g4, 0, none⟩) 2 2, .slice (some ⟨g5, 0, none⟩) 2 2, .slice none 0 0, .slice (some ⟨g6, 0, none⟩) 2 2, .slice (some ⟨g7, 0, none⟩) 1 1]) rfl (by kernel_rfl) rfl fun g8 => ?_
  refine mv_ rfl ?_
  refine wl_buildSlice (e := 3) (cs := [.int .i64 0, .int .i64 0, .int .i64 1, .int .i64 2, .int .i64 3, .int .i64 4, .int .i64 5]) rfl (by kernel_rfl) rfl fun g9 => ?_
  refine wl_got (γ := Int) (val := fun v => .int .i64 v) (φ := fun v => v ∈ ([0, 0, 1, 2, 3, 4, 5] : List Int)) rfl cb24 rfl rfl rfl rfl (fun wx hm => (pick_any [0, 0, 1, 2, 3, 4, 5] _ _ _ wx B sb _ hm.k (by omega) (by simp) (by simp) (hm.blkI 0 rfl) (hm.neRow 0 rfl rfl))) fun v10 hv10 => ?_
  have bv10 : 0 ≤ v10 ∧ v10 ≤ 5 := mem_rng hv10 (by decide)
  have bv100 := bv10.1
  have bv101 := bv10.2
  clear bv10
  obtain hv11 | hv11 | hv11 | hv11 | hv11 | hv11 : v10 = 0 ∨ v10 = 1 ∨ v10 = 2 ∨ v10 = 3 ∨ v10 = 4 ∨ v10 = 5 := (by have h1 := hv10; simp at h1; omega)
  ·subst hv11
   refine wl_ov (ov_index (j := 0) es93 rfl rfl (by decide)) rfl ?_
   refine lk_ sc36 1 rfl rfl rfl (sg_ rfl (wl_nil ?_))
   refine nx_also (Y := fun wy => SlT sgEnc 1 9 wy (some ⟨g3, 0, none⟩) 3 [⟨#[109, 105, 110, 105]⟩, ⟨#[109, 105, 100, 105]⟩, ⟨#[109, 97, 120, 105]⟩]) (SlT.lasts2 rfl) (fun wx hm => SlT.ofBlk (l := [⟨#[109, 105, 110, 105]⟩, ⟨#[109, 105, 100, 105]⟩, ⟨#[109, 97, 120, 105]⟩]) sg_len (hm.blkI 6 rfl)) ?_
   exact nx_meet ((some ⟨g3, 0, none⟩), 3, 3, [⟨#[109, 105, 110, 105]⟩, ⟨#[109, 105, 100, 105]⟩, ⟨#[109, 97, 120, 105]⟩]) (show (3 ≤ 3 ∧ 3 ≤ 3) ∧ (∀ x ∈ ([⟨#[109, 105, 110, 105]⟩, ⟨#[109, 105, 100, 105]⟩, ⟨#[109, 97, 120, 105]⟩] : List ByteArray), x.size ≤ 100) from ⟨by omega, by decide⟩) ⟨rfl, rfl, rfl, rfl, trivial⟩ (fun _ hm => hm.pick [7, 8] [] [0, 1, 2] rfl rfl)
  ·subst hv11
   refine wl_ov (ov_index (j := 1) es93 rfl rfl (by decide)) rfl ?_
   refine lk_ sc36 1 rfl rfl rfl (sg_ rfl (wl_nil ?_))
   refine nx_also (Y := fun wy => SlT sgEnc 1 9 wy (some ⟨g4, 0, none⟩) 2 [⟨#[109, 97, 120, 105]⟩, ⟨#[109, 105, 110, 105]⟩]) (SlT.lasts2 rfl) (fun wx hm => SlT.ofBlk (l := [⟨#[109, 97, 120, 105]⟩, ⟨#[109, 105, 110, 105]⟩]) sg_len (hm.blkI 5 rfl)) ?_
   exact nx_meet ((some ⟨g4, 0, none⟩), 2, 2, [⟨#[109, 97, 120, 105]⟩, ⟨#[109, 105, 110, 105]⟩]) (show (2 ≤ 3 ∧ 2 ≤ 2) ∧ (∀ x ∈ ([⟨#[109, 97, 120, 105]⟩, ⟨#[109, 105, 110, 105]⟩] : List ByteArray), x.size ≤ 100) from ⟨by omega, by decide⟩) ⟨rfl, rfl, rfl, rfl, trivial⟩ (fun _ hm => hm.pick [7, 8] [] [0, 1, 2] rfl rfl)
  ·subst hv11
   refine wl_ov (ov_index (j := 2) es93 rfl rfl (by decide)) rfl ?_
   refine lk_ sc36 1 rfl rfl rfl (sg_ rfl (wl_nil ?_))
   refine nx_also (Y := fun wy => SlT sgEnc 1 9 wy (some ⟨g5, 0, none⟩) 2 [⟨#[110, 111, 110, 101]⟩, ⟨#[109, 105, 110, 105]⟩]) (SlT.lasts2 rfl) (fun wx hm => SlT.ofBlk (l := [⟨#[110, 111, 110, 101]⟩, ⟨#[109, 105, 110, 105]⟩]) sg_len (hm.blkI 4 rfl)) ?_
   exact nx_meet ((some ⟨g5, 0, none⟩), 2, 2, [⟨#[110, 111, 110, 101]⟩, ⟨#[109, 105, 110, 105]⟩]) (show (2 ≤ 3 ∧ 2 ≤ 2) ∧ (∀ x ∈ ([⟨#[110, 111, 110, 101]⟩, ⟨#[109, 105, 110, 105]⟩] : List ByteArray), x.size ≤ 100) from ⟨by omega, by decide⟩) ⟨rfl, rfl, rfl, rfl, trivial⟩ (fun _ hm => hm.pick [7, 8] [] [0, 1, 2] rfl rfl)
  ·subst hv11
   refine wl_ov (ov_index (j := 3) es93 rfl rfl (by decide)) rfl ?_
   refine lk_ sc36 1 rfl rfl rfl (sg_ rfl (wl_nil ?_))
   refine nx_also (Y := fun wy => SlT sgEnc 1 9 wy none 0 []) (SlT.lasts2 rfl) (fun wx hm => SlT.nil_ _ _) ?_
   exact nx_meet (none, 0, 0, []) (show (0 ≤ 3 ∧ 0 ≤ 0) ∧ (∀ x ∈ ([] : List ByteArray), x.size ≤ 100) from ⟨by omega, fun _ h => by cases h⟩) ⟨rfl, rfl, rfl, rfl, trivial⟩ (fun _ hm => hm.pick [7, 8] [] [0, 1, 2] rfl rfl)
  ·subst hv11
   refine wl_ov (ov_index (j := 4) es93 rfl rfl (by decide)) rfl ?_
   refine lk_ sc36 1 rfl rfl rfl (sg_ rfl (wl_nil ?_))
   refine nx_also (Y := fun wy => SlT sgEnc 1 9 wy (some ⟨g6, 0, none⟩) 2 [⟨#[109, 105, 110, 105]⟩, ⟨#[109, 105, 110, 105]⟩]) (SlT.lasts2 rfl) (fun wx hm => SlT.ofBlk (l := [⟨#[109, 105, 110, 105]⟩, ⟨#[109, 105, 110, 105]⟩]) sg_len (hm.blkI 3 rfl)) ?_
   exact nx_meet ((some ⟨g6, 0, none⟩), 2, 2, [⟨#[109, 105, 110, 105]⟩, ⟨#[109, 105, 110, 105]⟩]) (show (2 ≤ 3 ∧ 2 ≤ 2) ∧ (∀ x ∈ ([⟨#[109, 105, 110, 105]⟩, ⟨#[109, 105, 110, 105]⟩] : List ByteArray), x.size ≤ 100) from ⟨by omega, by decide⟩) ⟨rfl, rfl, rfl, rfl, trivial⟩ (fun _ hm => hm.pick [7, 8] [] [0, 1, 2] rfl rfl)
  subst hv11
  refine wl_ov (ov_index (j := 5) es93 rfl rfl (by decide)) rfl ?_
  refine lk_ sc36 1 rfl rfl rfl (sg_ rfl (wl_nil ?_))
  refine nx_also (Y := fun wy => SlT sgEnc 1 9 wy (some ⟨g7, 0, none⟩) 1 [⟨#[65]⟩]) (SlT.lasts2 rfl) (fun wx hm => SlT.ofBlk (l := [⟨#[65]⟩]) sg_len (hm.blkI 2 rfl)) ?_
  exact nx_meet ((some ⟨g7, 0, none⟩), 1, 1, [⟨#[65]⟩]) (show (1 ≤ 3 ∧ 1 ≤ 1) ∧ (∀ x ∈ ([⟨#[65]⟩] : List ByteArray), x.size ≤ 100) from ⟨by omega, by decide⟩) ⟨rfl, rfl, rfl, rfl, trivial⟩ (fun _ hm => hm.pick [7, 8] [] [0, 1, 2] rfl rfl)
 rintro ⟨A0, n0, c0, ds⟩ hinv
 replace hinv : (n0 ≤ 3 ∧ n0 ≤ c0) ∧ (∀ x ∈ ds, x.size ≤ 100) := hinv
 dsimp only
 refine sr_ ?_
 obtain ⟨⟨hn03, hnc0⟩, hdz0⟩ := hinv
 have hn0 : n0 ≤ 12 := by omega
 have hdz : ∀ x ∈ ds, x.size ≤ 1000000 := fun x hx => by have := hdz0 x hx; omega
 refine wl_ov (ov_loads rz32 rfl (fun _ hm => hm.blkI 1 rfl) rfl rfl) rfl ?_
 refine mv_ rfl ?_
 refine wl_ov (ov_loads rz38 rfl (fun _ hm => hm.blkI 0 rfl) rfl rfl) rfl ?_
 refine wl_nest none [102] fun w2 hm_w2 => ⟨_, _, _, _, mem0 (X := [BlkOld w2.heap.size none g2 38 [.string qc, .int .i64 fr, .int .i64 tt, .string qa, .string qb, .slice A1 n1 c1, .slice A2 n2 c2], BlkOld w2.heap.size none g1 32 [.slice rA rn rc, .slice eA en ec, .slice fA fn fc, .slice cA cn cc, .slice tA tn tc], SlOld rtEnc 7 170 w2.heap.size none rA rn rl, SlOld exEnc 4 256 w2.heap.size none eA en el, SlOld feEnc 3 260 w2.heap.size none fA fn fl, SlOld cdEnc 6 262 w2.heap.size none cA cn cl, SlOld txEnc 4 265 w2.heap.size none tA tn tl, OnsOld w2.heap.size none tl, SlOld sgEnc 1 9 w2.heap.size none A1 n1 ks, SlOld sgEnc 1 9 w2.heap.size none A2 n2 cks, SlOld sgEnc 1 9 w2.heap.size none A0 n0 ds]) (allF_cons (hm_w2.blkI 0 rfl).old (allF_cons (hm_w2.blkI 1 rfl).old (allF_cons (SlT.old (hm_w2.fact 2 rfl).1) (allF_cons (SlT.old (hm_w2.fact 2 rfl).2.1) (allF_cons (SlT.old (hm_w2.fact 2 rfl).2.2.1) (allF_cons (SlT.old (hm_w2.fact 2 rfl).2.2.2.1) (allF_cons (SlT.old (hm_w2.fact 2 rfl).2.2.2.2.1) (allF_cons (Ons.old (hm_w2.fact 2 rfl).2.2.2.2.2) (allF_cons (SlT.old (hm_w2.fact 1 rfl).1) (allF_cons (SlT.old (hm_w2.fact 1 rfl).2) (allF_cons (SlT.old (hm_w2.fact 0 rfl)) allF_nil))))))))))) (allL_cons BlkOld.lasts (allL_cons BlkOld.lasts (allL_cons SlOld.lasts (allL_cons SlOld.lasts (allL_cons SlOld.lasts (allL_cons SlOld.lasts (allL_cons SlOld.lasts (allL_cons OnsOld.lasts (allL_cons SlOld.lasts (allL_cons SlOld.lasts (allL_cons SlOld.lasts allL_nil))))))))))), ?_⟩
 obtain ⟨TE, hTE⟩ : ∃ E, E = tariffE rl el fl cl tl := ⟨_, rfl⟩
 obtain ⟨AE, hAE⟩ : ∃ E, E = askE (fun k => el.any (exP k)) ks := ⟨_, rfl⟩
 obtain ⟨OE, hOE⟩ : ∃ E, E = offE rl el fl cl tl ds fr tt ks := ⟨_, rfl⟩
 refine wl_callx (γ := Option Addr × Nat × Nat × List Ofr) (val := (fun g => .tuple #[.slice g.1 g.2.1 g.2.2.1, .int .i64 OE])) (φ := (fun g => g.2.1 ≤ 12 ∧ (OE = 0 → ∃ us, OfsIs rl el fl cl tl fr tt qa qb ks cks ds us ∧ g.2.2.2 = isort ltO us) ∧ (OE ≠ 0 → g.2.2.2 = []))) (Y := (fun g => fun wy => SlT ofEnc 2 102 wy g.1 g.2.1 g.2.2.2)) rfl cb48 rfl rfl (fun wx hm => (by have h := offers_any rl rA rn rc el eA en ec fl fA fn fc cl cA cn cc tl tA tn tc ds A0 n0 c0 qc fr tt qa qb ks A1 n1 c1 cks A2 n2 c2 wx (hm.fact 2 rfl).1 (hm.fact 3 rfl).1 (hm.fact 4 rfl).1 (hm.fact 5 rfl).1 (hm.fact 6 rfl).1 (OnsOld.ons (hm.fact 7 rfl)) hro heo hfo hco hto hrn hen hfn hcn htn htc (hm.fact 10 rfl).1 hn0 hnc0 hdz (hm.fact 8 rfl).1 (hm.fact 9 rfl).1 hn1 hn2 hz hn10 hn20 hch; rw [← hOE] at h; exact h.mono fun _ _ ⟨A, n, c, os, he, hs, hn, h1, h2, hg⟩ => ⟨(A, n, c, os), he, ⟨hn, h1, h2⟩, hg, hs⟩)) (fun _ => SlT.lasts2 rfl) ?_
 rintro ⟨A9, n9, c9, os⟩ hq9
 dsimp only at hq9 ⊢
 obtain ⟨hn9, hok9, hno9⟩ := hq9
 refine mv_ rfl (wl_ov (ov_extract rfl rfl) rfl (wl_ov (ov_extract rfl rfl) rfl (sg_ rfl (sg_ rfl (nn_ (sr_ ?_))))))
 refine wl_ov (ov_loads (vs := [.slice rA rn rc, .slice eA en ec, .slice fA fn fc, .slice cA cn cc, .slice tA tn tc]) rz32 rfl (fun _ hm => (hm.fact 2 rfl).2) rfl rfl) rfl ?_
 refine wl_callv (v := .int .i64 TE) rfl cb16 rfl rfl (fun wx hm => (by rw [hTE]; exact tariffFault_any rl rA rn rc el eA en ec fl fA fn fc cl cA cn cc tl tA tn tc wx (hm.fact 3 rfl).1 (hm.fact 4 rfl).1 (hm.fact 5 rfl).1 (hm.fact 6 rfl).1 (hm.fact 7 rfl).1 (OnsOld.ons (hm.fact 8 rfl)) hro heo hfo hco hto hrn hen hfn hcn htn htc)) ?_
 refine sg_ rfl (nn_ (gw_seq (sr_ (mv_ rfl (wl_ov (ov_len es36 rfl) rfl (mv_ rfl (nn_ (gw_block ?_))))))))
 refine gw_look (R := ds.length = n0) (fun wx hm => (hm.fact 11 rfl).1.len) ?_
 intro hdl
 refine gw_loop (γ := Nat × Int) (fun g => g.1 ≤ n0 ∧ g.2 = firstE [TE, clsG [] (ds.take g.1)]) (fun g => [(2, .bool false), (4, .pointer (some ⟨g1, 0, none⟩)), (5, .pointer (some ⟨g2, 0, none⟩)), (6, .slice A0 n0 c0), (7, .slice A9 n9 c9), (8, .int .i64 OE), (9, .int .i64 g.2), (39, .slice A0 n0 c0), (40, .int .i64 ((n0 : Nat) : Int)), (41, .int .i64 ((g.1 : Nat) : Int))]) (fun g => fun _ => True) (fun g => []) (fun g => []) (fun g => [fun wy => SlT ofEnc 2 102 wy A9 n9 os, BlkOld w2.heap.size none g2 38 [.string qc, .int .i64 fr, .int .i64 tt, .string qa, .string qb, .slice A1 n1 c1, .slice A2 n2 c2], BlkOld w2.heap.size none g1 32 [.slice rA rn rc, .slice eA en ec, .slice fA fn fc, .slice cA cn cc, .slice tA tn tc], SlOld rtEnc 7 170 w2.heap.size none rA rn rl, SlOld exEnc 4 256 w2.heap.size none eA en el, SlOld feEnc 3 260 w2.heap.size none fA fn fl, SlOld cdEnc 6 262 w2.heap.size none cA cn cl, SlOld txEnc 4 265 w2.heap.size none tA tn tl, OnsOld w2.heap.size none tl, SlOld sgEnc 1 9 w2.heap.size none A1 n1 ks, SlOld sgEnc 1 9 w2.heap.size none A2 n2 cks, SlOld sgEnc 1 9 w2.heap.size none A0 n0 ds]) (fun g => n0 - g.1) (0, TE) ⟨Nat.zero_le _, by simp [firstE, clsG]⟩ ⟨rfl, rfl, rfl, rfl, rfl, rfl, rfl, rfl, rfl, rfl, trivial⟩ (fun _ hm => hm.pick [] [] [0, 1, 2, 3, 4, 5, 6, 7, 8, 9, 10, 11] rfl rfl) ?_
 rintro ⟨i, F⟩ hinv
 replace hinv : i ≤ n0 ∧ F = firstE [TE, clsG [] (ds.take i)] := hinv
 dsimp only
 refine sr_ ?_
 obtain ⟨hi0, hF⟩ := hinv
 refine wl_ov (ov_lss rfl rfl) rfl (nn_ (gw_seq ?_))
 refine gw_cond rfl (fun hh => ?_) (fun hh => ?_)
 ·have hi : ((i : Nat) : Int) < ((n0 : Nat) : Int) := by simpa using hh
  clear hh
  refine gw_skip (nx_then (gw_seq (gw_block (sr_ ?_))))
  obtain ⟨kc, hx⟩ : ∃ x, ds[i]? = some x := ⟨_, List.getElem?_eq_getElem (by omega)⟩
  have hkc : kc.size ≤ 1000000 := hdz _ (List.mem_of_getElem? hx)
  have hst := cls_step hx hF
  refine wl_look (R := ∃ b o, A0 = some ⟨b, o, none⟩) (fun wx hm => ((hm.fact 11 rfl).1.get (by omega)).imp fun _ h => h.imp fun _ h => h.1) ?_
  rintro ⟨b0, o0, rfl⟩
  refine mv_ rfl ?_
  refine wl_ov (ov_index (j := i) es36 rfl rfl (by omega)) rfl ?_
  refine wl_ov (ov_elem1 (k := 0) (v := .string kc) sc9 rfl (fun _ hm => (hm.fact 11 rfl).1) hx rfl rfl) rfl ?_
  refine sg_ rfl (sg_ rfl (nn_ ?_))
  refine gd (fun wz => (fun wy => SlT ofEnc 2 102 wy A9 n9 os) wz ∧ (BlkOld w2.heap.size none g2 38 [.string qc, .int .i64 fr, .int .i64 tt, .string qa, .string qb, .slice A1 n1 c1, .slice A2 n2 c2]) wz ∧ (BlkOld w2.heap.size none g1 32 [.slice rA rn rc, .slice eA en ec, .slice fA fn fc, .slice cA cn cc, .slice tA tn tc]) wz ∧ (SlOld rtEnc 7 170 w2.heap.size none rA rn rl) wz ∧ (SlOld exEnc 4 256 w2.heap.size none eA en el) wz ∧ (SlOld feEnc 3 260 w2.heap.size none fA fn fl) wz ∧ (SlOld cdEnc 6 262 w2.heap.size none cA cn cl) wz ∧ (SlOld txEnc 4 265 w2.heap.size none tA tn tl) wz ∧ (OnsOld w2.heap.size none tl) wz ∧ (SlOld sgEnc 1 9 w2.heap.size none A1 n1 ks) wz ∧ (SlOld sgEnc 1 9 w2.heap.size none A2 n2 cks) wz ∧ (SlOld sgEnc 1 9 w2.heap.size none (some ⟨b0, o0, none⟩) n0 ds) wz ∧ True) mixed (fun _ hm => ⟨hm.fa 0, hm.fa 1, hm.fa 2, hm.fa 3, hm.fa 4, hm.fa 5, hm.fa 6, hm.fa 7, hm.fa 8, hm.fa 9, hm.fa 10, hm.fa 11, trivial⟩) fun z => ?_
  refine wt 0 12 1 rfl z (ov_move rfl) ?_
  refine wt 1 12 3 rfl z (ov_move rfl) ?_
  refine wt 3 12 11 rfl z (ov_move rfl) ?_
  refine wt 4 12 27 rfl z (ov_move rfl) ?_
  refine wt 5 12 59 rfl z (ov_sliceHi (hi := i) es36 rfl rfl rfl (by omega)) ?_
  refine wt 6 12 123 rfl z (ov_move rfl) ?_
  refine wa1 2 rfl ?_
  refine wl_callv rfl cb49 rfl rfl (fun wx hm => (keyFault_any kc wx hkc)) ?_
  refine wl_nil ?_
  refine nw 12 127 (fun _ hm => ⟨hm.fa 0, hm.fa 1, hm.fa 2, hm.fa 3, hm.fa 4, hm.fa 5, hm.fa 6, hm.fa 7, hm.fa 8, hm.fa 9, hm.fa 10, hm.fa 11, trivial⟩) fun z => ?_
  refine wa1 7 rfl ?_
  refine wl_callv rfl cb50 rfl rfl (fun wx hm => (contains_str (ds.take i) _ i c0 kc wx (SlT.takeT (hm.fact 11 rfl).1 (by omega)) (by omega))) ?_
  refine wl_nil ?_
  refine nw 12 255 (fun _ hm => ⟨hm.fa 0, hm.fa 1, hm.fa 2, hm.fa 3, hm.fa 4, hm.fa 5, hm.fa 6, hm.fa 7, hm.fa 8, hm.fa 9, hm.fa 10, hm.fa 11, trivial⟩) fun z => ?_
  refine wa1 8 rfl ?_
  refine wl_callw rfl cb29 rfl rfl (fun wx hm => (rwhen_any _ _ wx)) ?_
  refine wl_nil ?_
  refine nw 12 511 (fun _ hm => ⟨hm.fa 0, hm.fa 1, hm.fa 2, hm.fa 3, hm.fa 4, hm.fa 5, hm.fa 6, hm.fa 7, hm.fa 8, hm.fa 9, hm.fa 10, hm.fa 11, trivial⟩) fun z => ?_
  refine wa1 9 rfl ?_
  refine wl_buildSlice (e := 41) (cs := [.int .i64 F, .int .i64 (whenE (!keyB kc) 5), .int .i64 (whenE ((ds.take i).any (fun y => kc.toList == y.toList)) 6)]) rfl (by kernel_rfl) rfl fun g12 => ?_
  refine wl_nil ?_
  refine nw 12 1023 (fun _ hm => ⟨hm.fa 0, hm.fa 1, hm.fa 2, hm.fa 3, hm.fa 4, hm.fa 5, hm.fa 6, hm.fa 7, hm.fa 8, hm.fa 9, hm.fa 10, hm.fa 11, trivial⟩) fun z => ?_
  refine wa1 10 rfl ?_
  refine wl_callw rfl cb28 rfl rfl (fun wx hm => (errs_any [F, whenE (!keyB kc) 5, whenE ((ds.take i).any (fun y => kc.toList == y.toList)) 6] _ _ _ wx (hm.blkI 0 rfl) (by simp))) ?_
  refine wl_nil ?_
  refine nw 12 2047 (fun _ hm => ⟨hm.fa 0, hm.fa 1, hm.fa 2, hm.fa 3, hm.fa 4, hm.fa 5, hm.fa 6, hm.fa 7, hm.fa 8, hm.fa 9, hm.fa 10, hm.fa 11, trivial⟩) fun z => ?_
  refine wt 11 12 4095 rfl z (ov_assign rfl) ?_
  refine wa_done (by kernel_rfl) ?_
  refine nx_blk_nrm (nx_then (gw_region (ad_ rfl rfl (mv_ rfl (wl_nil ?_)))))
  exact nx_round (i + 1, (firstE [F, whenE (!keyB kc) 5, whenE ((ds.take i).any (fun y => kc.toList == y.toList)) 6])) ⟨by dsimp only; omega, hst⟩ (by dsimp only; omega) ⟨rfl, rfl, rfl, rfl, rfl, rfl, rfl, rfl, rfl, (some_int (by omega)), trivial⟩ (fun _ hm => hm.pick [] [] [0, 1, 2, 3, 4, 5, 6, 7, 8, 9, 10, 11] rfl rfl)
 have hi : ¬ (((i : Nat) : Int) < ((n0 : Nat) : Int)) := by simpa using hh
 clear hh
 refine gw_exit ?_
 refine nx_then_exit (nx_then_exit ?_)
 refine nx_blk_here ?_
 refine nx_then ?_
 have hall : ds.take i = ds := List.take_of_length_le (by omega)
 rw [hall, hTE] at hF
 clear hi hi0 hall
 refine gw_cut (γ := Unit) (I := (fun (uu : Unit) => True)) (S' := (fun (uu : Unit) => [(2, .bool false), (4, .pointer (some ⟨g1, 0, none⟩)), (5, .pointer (some ⟨g2, 0, none⟩)), (6, .slice A0 n0 c0), (7, .slice A9 n9 c9), (8, .int .i64 OE), (9, .int .i64 OE)])) (K' := (fun (uu : Unit) => fun _ => True)) (L' := (fun (uu : Unit) => [])) (O' := (fun (uu : Unit) => [])) (X' := (fun (uu : Unit) => [fun wy => SlT ofEnc 2 102 wy A9 n9 os, BlkOld w2.heap.size none g2 38 [.string qc, .int .i64 fr, .int .i64 tt, .string qa, .string qb, .slice A1 n1 c1, .slice A2 n2 c2], BlkOld w2.heap.size none g1 32 [.slice rA rn rc, .slice eA en ec, .slice fA fn fc, .slice cA cn cc, .slice tA tn tc], SlOld rtEnc 7 170 w2.heap.size none rA rn rl, SlOld exEnc 4 256 w2.heap.size none eA en el, SlOld feEnc 3 260 w2.heap.size none fA fn fl, SlOld cdEnc 6 262 w2.heap.size none cA cn cl, SlOld txEnc 4 265 w2.heap.size none tA tn tl, OnsOld w2.heap.size none tl, SlOld sgEnc 1 9 w2.heap.size none A1 n1 ks, SlOld sgEnc 1 9 w2.heap.size none A2 n2 cks, SlOld sgEnc 1 9 w2.heap.size none A0 n0 ds])) ?_ ?_
 ·refine sr_ (mv_ rfl (wl_ov (ov_eql rfl rfl) rfl (nn_ ?_)))
  refine gw_cond rfl (fun hh => ?_) (fun hh => ?_)
  ·have hF0 : F = 0 := by simpa using hh
   clear hh
   have hF1 : F = 0 := by simpa using hF0
   obtain ⟨h0, hO1⟩ := offE_more (ds := ds) (fr := fr) (tt := tt) (ks := ks) hF hF1
   rw [← hOE, ← hAE] at hO1
   obtain ⟨_, he0, _, _, _⟩ := tariffE_ok h0
   refine gd (fun wz => (fun wy => SlT ofEnc 2 102 wy A9 n9 os) wz ∧ (BlkOld w2.heap.size none g2 38 [.string qc, .int .i64 fr, .int .i64 tt, .string qa, .string qb, .slice A1 n1 c1, .slice A2 n2 c2]) wz ∧ (BlkOld w2.heap.size none g1 32 [.slice rA rn rc, .slice eA en ec, .slice fA fn fc, .slice cA cn cc, .slice tA tn tc]) wz ∧ (SlOld rtEnc 7 170 w2.heap.size none rA rn rl) wz ∧ (SlOld exEnc 4 256 w2.heap.size none eA en el) wz ∧ (SlOld feEnc 3 260 w2.heap.size none fA fn fl) wz ∧ (SlOld cdEnc 6 262 w2.heap.size none cA cn cl) wz ∧ (SlOld txEnc 4 265 w2.heap.size none tA tn tl) wz ∧ (OnsOld w2.heap.size none tl) wz ∧ (SlOld sgEnc 1 9 w2.heap.size none A1 n1 ks) wz ∧ (SlOld sgEnc 1 9 w2.heap.size none A2 n2 cks) wz ∧ (SlOld sgEnc 1 9 w2.heap.size none A0 n0 ds) wz ∧ True) mixed (fun _ hm => ⟨hm.fa 0, hm.fa 1, hm.fa 2, hm.fa 3, hm.fa 4, hm.fa 5, hm.fa 6, hm.fa 7, hm.fa 8, hm.fa 9, hm.fa 10, hm.fa 11, trivial⟩) fun z => ?_
   refine wt 0 10 1 rfl z (ov_loads (vs := [.slice rA rn rc, .slice eA en ec, .slice fA fn fc, .slice cA cn cc, .slice tA tn tc]) rz32 rfl (fun _ hm => (hm.2.2.1).2) rfl rfl) ?_
   refine wt 1 10 3 rfl z (ov_field fo38_4 rfl rfl) ?_
   refine wt 2 10 7 rfl z (ov_load (v := .slice A1 n1 c1) sc36 rfl (fun _ hm => (hm.2.1).2) rfl) ?_
   refine wt 4 10 23 rfl z (ov_field fo38_1 rfl rfl) ?_
   refine wt 5 10 55 rfl z (ov_loads (vs := [.int .i64 fr, .int .i64 tt]) rz35 rfl (fun _ hm => (hm.2.1).2) rfl rfl) ?_
   refine wa1 3 rfl ?_
   refine wl_callv (v := .int .i64 AE) rfl cb51 rfl rfl (fun wx hm => (by rw [hAE]; exact rAskedExtras_any el eA en ec rA fA cA tA rn rc fn fc cn cc tn tc ks A1 n1 c1 wx (hm.fact 4 rfl).1 hen (hm.fact 9 rfl).1 hn10 hn1 he0)) ?_
   refine wl_nil ?_
   refine nw 10 63 (fun _ hm => ⟨hm.fa 0, hm.fa 1, hm.fa 2, hm.fa 3, hm.fa 4, hm.fa 5, hm.fa 6, hm.fa 7, hm.fa 8, hm.fa 9, hm.fa 10, hm.fa 11, trivial⟩) fun z => ?_
   refine wa1 6 rfl ?_
   refine wl_callv rfl cb52 rfl rfl (fun wx hm => (timeFault_any _ _ wx)) ?_
   refine wl_nil ?_
   refine nw 10 127 (fun _ hm => ⟨hm.fa 0, hm.fa 1, hm.fa 2, hm.fa 3, hm.fa 4, hm.fa 5, hm.fa 6, hm.fa 7, hm.fa 8, hm.fa 9, hm.fa 10, hm.fa 11, trivial⟩) fun z => ?_
   refine wa1 7 rfl ?_
   refine wl_buildSlice (e := 41) (cs := [.int .i64 AE, .int .i64 (timeE fr tt)]) rfl (by kernel_rfl) rfl fun g13 => ?_
   refine wl_nil ?_
   refine nw 10 255 (fun _ hm => ⟨hm.fa 0, hm.fa 1, hm.fa 2, hm.fa 3, hm.fa 4, hm.fa 5, hm.fa 6, hm.fa 7, hm.fa 8, hm.fa 9, hm.fa 10, hm.fa 11, trivial⟩) fun z => ?_
   refine wa1 8 rfl ?_
   refine wl_callw rfl cb28 rfl rfl (fun wx hm => (errs_any [AE, timeE fr tt] _ _ _ wx (hm.blkI 0 rfl) (by simp))) ?_
   refine wl_nil ?_
   refine nw 10 511 (fun _ hm => ⟨hm.fa 0, hm.fa 1, hm.fa 2, hm.fa 3, hm.fa 4, hm.fa 5, hm.fa 6, hm.fa 7, hm.fa 8, hm.fa 9, hm.fa 10, hm.fa 11, trivial⟩) fun z => ?_
   refine wt 9 10 1023 rfl z (ov_assign rfl) ?_
   refine wa_done (by kernel_rfl) ?_
   exact nx_meet () trivial ⟨rfl, rfl, rfl, rfl, rfl, rfl, (some_int hO1.symm), trivial⟩ (fun _ hm => hm.pick [] [] [0, 1, 2, 3, 4, 5, 6, 7, 8, 9, 10, 11] rfl rfl)
  have hF0 : ¬ (F = 0) := by simpa using hh
  clear hh
  refine gw_skip ?_
  have hF1 : F ≠ 0 := by simpa using hF0
  have hO1 := offE_done (ds := ds) (fr := fr) (tt := tt) (ks := ks) hF hF1
  rw [← hOE] at hO1
  exact nx_meet () trivial ⟨rfl, rfl, rfl, rfl, rfl, rfl, (some_int hO1.symm), trivial⟩ (fun _ hm => hm.pick [] [] [0, 1, 2, 3, 4, 5, 6, 7, 8, 9, 10, 11] rfl rfl)
 intro uu hinv
 replace hinv : True := hinv
 refine gw_seq (sr_ ?_)
 clear hF hinv
 refine mv_ rfl (wl_ov (ov_neq rfl rfl) rfl (nn_ ?_))
 refine gw_cond rfl (fun hh => ?_) (fun hh => ?_)
 ·have hO : ¬ (OE = 0) := by simpa using hh
  clear hh
  refine sr_ ?_
  have hO2 : OE ≠ 0 := by simpa using hO
  obtain rfl : os = [] := hno9 hO2
  refine wl_look (R := n9 = 0) (fun wx hm => ((hm.fact 0 rfl)).len.symm) ?_
  intro hn90
  subst hn90
  refine mv_ rfl (mv_ rfl (wl_ov (ov_eql rfl rfl) rfl ?_))
  refine wl_set 73 (v' := .bool true) rfl (congrArg Value.bool (by simp)) ?_
  refine mv_ rfl (wl_guard_on rfl rfl rfl (mv_ rfl (wl_guard_on rfl rfl rfl (wl_ov (ov_len es94 rfl) rfl ?_))))
  refine wl_set 76 (v' := .int .i64 0) rfl rfl ?_
  refine wl_guard_on rfl rfl rfl (wl_ov (ov_eql rfl rfl) rfl ?_)
  refine wl_set 77 (v' := .bool true) rfl (congrArg Value.bool (by decide)) ?_
  refine pt_ rfl rfl (mv_ rfl (wl_guard_on rfl rfl rfl ?_))
  refine wl_callv rfl cb20 rfl rfl (fun wx hm => (priced_any wx)) ?_
  refine pt_ rfl rfl (sg_ rfl (nn_ ?_))
  refine gw_ret ?_
  refine nx_then_ret ?_
  refine nx_ret1 rfl rfl fun wx hm => ?_
  exact ⟨rfl, law_end hg1 hsb (grow_trans hm_w2.g (grow_weak hm.g))⟩
 have hO : OE = 0 := by simpa using hh
 clear hh
 refine gw_skip (nx_then (sr_ ?_))
 obtain rfl : OE = 0 := by simpa using hO
 obtain ⟨us, hus, hos⟩ := hok9 rfl
 have h0 : tariffE rl el fl cl tl = 0 := by have h := hOE.symm; unfold offE at h; exact fe_all h _ (by simp)
 have hask : askE (fun k => el.any (exP k)) ks = 0 := by have h := hOE.symm; unfold offE at h; exact fe_all h _ (by simp)
 refine mv_ rfl (wl_ov (ov_eql rfl rfl) rfl ?_)
 refine wl_set 83 (v' := .bool true) rfl (congrArg Value.bool (by decide)) ?_
 refine mv_ rfl (wl_guard_on rfl rfl rfl (mv_ rfl (wl_guard_on rfl rfl rfl ?_)))
 refine wl_ov (ov_loads (vs := [.slice rA rn rc, .slice eA en ec, .slice fA fn fc, .slice cA cn cc, .slice tA tn tc]) rz32 rfl (fun _ hm => (hm.fact 2 rfl).2) rfl rfl) rfl ?_
 refine wl_guard_on rfl rfl rfl (mv_ rfl (wl_guard_on rfl rfl rfl ?_))
 refine wl_ov (ov_loads (vs := [.string qc, .int .i64 fr, .int .i64 tt, .string qa, .string qb, .slice A1 n1 c1, .slice A2 n2 c2]) rz38 rfl (fun _ hm => (hm.fact 1 rfl).2) rfl rfl) rfl ?_
 refine wl_guard_on rfl rfl rfl ?_
 refine wl_callx (γ := Option Addr × Nat × Nat × List Ofr) (val := (fun g => .slice g.1 g.2.1 g.2.2.1)) (φ := (fun g => OfsIs rl el fl cl tl fr tt qa qb ks cks ds g.2.2.2)) (Y := (fun g => fun wy => SlT ofEnc 2 102 wy g.1 g.2.1 (isort ltO g.2.2.2))) rfl cb54 rfl rfl (fun wx hm => (offersOf_any rl rA rn rc el eA en ec fl fA fn fc cl cA cn cc tl tA tn tc ds A0 n0 c0 qc fr tt qa qb ks A1 n1 c1 cks A2 n2 c2 wx (hm.fact 3 rfl).1 (hm.fact 4 rfl).1 (hm.fact 5 rfl).1 (hm.fact 6 rfl).1 (hm.fact 7 rfl).1 (OnsOld.ons (hm.fact 8 rfl)) hro heo hfo hco hto hrn hen hfn hcn htn htc (hm.fact 11 rfl).1 hn0 hnc0 hdz (hm.fact 9 rfl).1 (hm.fact 10 rfl).1 hn1 hn2 hz hn10 hn20 hch h0 hask).mono fun _ _ ⟨A, n, c, vs, he, hs, ho, hg⟩ => ⟨(A, n, c, vs), he, ho, hg, hs⟩) (fun _ => SlT.lasts2 rfl) ?_
 rintro ⟨A8, n8, c8, vs⟩ hq8
 dsimp only at hq8 ⊢
 obtain rfl := ofs_one hus hq8
 rw [← hos]
 refine wl_look (R := n8 = n9) (fun wx hm => ((hm.fact 0 rfl)).len.symm.trans ((hm.fact 1 rfl)).len) ?_
 intro hn43
 subst hn43
 refine wl_guard_on rfl rfl rfl ?_
 refine wl_callv rfl cb53 rfl rfl (fun wx hm => (equal_offer_any os A9 A8 n8 c9 c8 wx (hm.fact 1 rfl) (hm.fact 0 rfl) (by omega))) ?_
 refine pt_ rfl rfl (mv_ rfl (wl_guard_on rfl rfl rfl ?_))
 refine wl_callv rfl cb20 rfl rfl (fun wx hm => (priced_any wx)) ?_
 refine pt_ rfl rfl (sg_ rfl (nn_ ?_))
 refine gw_ret ?_
 refine nx_ret1 rfl rfl fun wx hm => ?_
 exact ⟨rfl, law_end hg1 hsb (grow_trans hm_w2.g (grow_weak hm.g))⟩
end Go.Proofs.YtnmpniaocjmkfaaGreatDoor
