/- Several texts as one: Ci -/
import Derived.Test.YtjecbkgjabnmoaaGreatDoorPb
import Derived.Test.YtjecbkgjabnmoaaGreatDoorPa
import Derived.Test.YtjecbkgjabnmoaaGreatDoorPc
set_option maxRecDepth 100000
set_option maxHeartbeats 4000000
namespace Go.Proofs.YtjecbkgjabnmoaaGreatDoor
open Go.RowKit
theorem ixP_shift {α : Type} {p : α → Bool} : ∀ (l : List α) (k : Nat), ixP p l (k + 1) = if ixP p l k < 0 then -1 else ixP p l k + 1
  | [], k => rfl
  | x :: r, k => by
    unfold ixP
    by_cases h : p x = true
    · rw [if_pos h, if_pos h, if_neg (by omega)]; rfl
    · rw [if_neg h, if_neg h, ixP_shift r (k + 1)]
theorem stepsV_eq {l : List Cs} {a b : ByteArray} (hc : Closed l) (hl : loopB l l.length = false) : ixP (fun y => b.toList == y.toList) (a :: pathN l (l.length + 1) a) 0 = stepsV l a b := by
  rw [path_same hc hl]
  show (if (b.toList == a.toList) = true then ((0 : Nat) : Int) else ixP (fun y => b.toList == y.toList) (pathN l l.length a) 1) = _
  unfold stepsV
  by_cases h : a.toList = b.toList
  · rw [if_pos (by rw [h]; exact beq_self_eq_true _), if_pos h]; rfl
  · rw [if_neg (by simp; exact fun e => h e.symm), if_neg h, ixP_shift]
theorem stepsV_bound (l : List Cs) (a b : ByteArray) : -1 ≤ stepsV l a b ∧ stepsV l a b ≤ (l.length : Int) := by
  have h1 := ixP_bound (p := fun y => b.toList == y.toList) (pathN l l.length a)
  have h2 := pathN_len l l.length a
  unfold stepsV
  split
  · omega
  · split <;> omega
theorem cs_mem {l : List Cs} {x : Cs} {j : Nat} (h : ∀ y ∈ l, CsOk y) (hx : CsOk x) : ∀ y ∈ l.set j x, CsOk y := fun y hy => by
  rcases List.mem_or_eq_of_mem_set hy with hy | rfl
  · exact h y hy
  · exact hx
theorem equal_strs (l : List ByteArray) (A1 A2 : Option Addr) (n c1 c2 : Nat) (w : World) (h1 : SlT sgEnc 1 9 w A1 n l) (h2 : SlT sgEnc 1 9 w A2 n l) (hn : n ≤ 1000000) :
  Calls Tryz.prog 50 #[.slice A1 n c1, .slice A2 n c2] w (fun e w' => e = .returned (.bool true) ∧ w.grownBy w' none) := by
 refine gw_enter ⟨26, w, none, []⟩ Tryz.func50 rfl Tryz.ntmps50 rfl (mem0 (X := [SlOld sgEnc 1 9 w.heap.size none A1 n l, SlOld sgEnc 1 9 w.heap.size none A2 n l]) (allF_cons h1.old (allF_cons h2.old allF_nil)) (allL_cons SlOld.lasts (allL_cons SlOld.lasts allL_nil))) ?_
 refine sr_ ?_
 have hlen := h1.len
 refine sg_ rfl (nn_ (gw_seq (sr_ (mv_ rfl (wl_ov (ov_len es81 rfl) rfl (mv_ rfl (wl_ov (ov_len es81 rfl) rfl (wl_ov (ov_neq rfl rfl) rfl ?_))))))))
 refine wl_set 10 (v' := .bool false) rfl (congrArg Value.bool (by simp)) ?_
 refine nn_ (cf_ rfl (gw_skip (nx_then (gw_seq (sr_ (mv_ rfl (wl_ov (ov_len es81 rfl) rfl (mv_ rfl (nn_ (gw_block ?_))))))))))
 refine gw_loop (γ := Nat) (fun (k : Nat) => k ≤ n) (fun (k : Nat) => [(0, .slice A1 n c1), (1, .slice A2 n c2), (12, .int .i64 ((n : Nat) : Int)), (13, .int .i64 ((k : Nat) : Int))]) (fun (k : Nat) => fun _ => True) (fun (k : Nat) => []) (fun (k : Nat) => []) (fun (k : Nat) => [SlOld sgEnc 1 9 w.heap.size none A1 n l, SlOld sgEnc 1 9 w.heap.size none A2 n l]) (fun (k : Nat) => n - k) 0 (Nat.zero_le _) ⟨rfl, rfl, rfl, rfl, trivial⟩ (fun _ hm => hm.pick [] [] [0, 1] rfl rfl) ?_
 intro k hinv
 replace hinv : k ≤ n := hinv
 refine sr_ (wl_ov (ov_lss rfl rfl) rfl (nn_ (gw_seq ?_)))
 refine gw_cond rfl (fun hh => ?_) (fun hh => ?_)
 ·have hk : ((k : Nat) : Int) < ((n : Nat) : Int) := by simpa using hh
  clear hh
  refine gw_skip (nx_then (gw_seq (gw_block (sr_ ?_))))
  obtain ⟨b1, o1, hA, _, _⟩ := h1.get (by omega)
  subst hA
  obtain ⟨b2, o2, hA, _, _⟩ := h2.get (by omega)
  subst hA
  obtain ⟨x, hx⟩ : ∃ x, l[k]? = some x := ⟨_, List.getElem?_eq_getElem (by omega)⟩
  refine mv_ rfl (sg_ rfl (nn_ (gw_seq ?_)))
  refine gd (fun wz => (SlOld sgEnc 1 9 w.heap.size none (some ⟨b1, o1, none⟩) n l) wz ∧ (SlOld sgEnc 1 9 w.heap.size none (some ⟨b2, o2, none⟩) n l) wz ∧ True) mixed (fun _ hm => ⟨hm.fa 0, hm.fa 1, trivial⟩) fun z => ?_
  refine wt 0 9 1 rfl z (ov_move rfl) ?_
  refine wt 1 9 3 rfl z (ov_move rfl) ?_
  refine wt 2 9 7 rfl z (ov_index (j := k) es81 rfl rfl (by omega)) ?_
  refine wt 3 9 15 rfl z (ov_elem1 (k := 0) (v := .string x) sc9 rfl (fun _ hm => (hm.1).1) hx rfl rfl) ?_
  refine wt 4 9 31 rfl z (ov_move rfl) ?_
  refine wt 5 9 63 rfl z (ov_move rfl) ?_
  refine wt 6 9 127 rfl z (ov_index (j := k) es81 rfl rfl (by omega)) ?_
  refine wt 7 9 255 rfl z (ov_elem1 (k := 0) (v := .string x) sc9 rfl (fun _ hm => (hm.2.1).1) hx rfl rfl) ?_
  refine wt 8 9 511 rfl z (ov_sneq rfl rfl) ?_
  refine wa_set 24 (v' := .bool false) rfl (congrArg Value.bool (by simp)) ?_
  refine wa_done (by kernel_rfl) ?_
  refine nx_then (cf_ rfl (gw_skip (nx_blk_nrm (nx_then (gw_region (ad_ rfl rfl (mv_ rfl (wl_nil ?_))))))))
  exact nx_round (k + 1) (by omega) (by omega) ⟨rfl, rfl, rfl, (some_int (by omega)), trivial⟩ (fun _ hm => hm.pick [] [] [0, 1] rfl rfl)
 have hk : ¬ (((k : Nat) : Int) < ((n : Nat) : Int)) := by simpa using hh
 clear hh
 refine gw_exit ?_
 refine nx_then_exit (nx_then_exit ?_)
 refine nx_blk_here ?_
 refine nx_then (sr_ (sg_ rfl (nn_ ?_)))
 refine gw_ret ?_
 refine nx_ret1 rfl rfl fun wx hm => ?_
 exact ⟨rfl, hm.g⟩
theorem stepsOf_any (l : List Cs) (A : Option Addr) (n c : Nat) (ka kb : ByteArray) (w : World) (hl : SlT csEnc 2 159 w A n l) (hok : ∀ x ∈ l, CsOk x) (hn : n ≤ 1000) (hcl : Closed l) (hlo : loopB l l.length = false) :
  Calls Tryz.prog 131 #[.slice A n c, .string ka, .string kb] w (fun e w' => e = .returned (.tuple #[.int .i64 (max (stepsV l ka kb) 0), .bool (decide (0 ≤ stepsV l ka kb))]) ∧ w.grownBy w' none) := by
 refine gw_enter ⟨21, w, none, []⟩ Tryz.func131 rfl Tryz.ntmps131 rfl (mem0 (X := [SlOld csEnc 2 159 w.heap.size none A n l]) (allF_cons hl.old allF_nil) (allL_cons SlOld.lasts allL_nil)) ?_
 refine sr_ ?_
 have hlen := hl.len
 refine sg_ rfl (sg_ rfl (nn_ (sr_ (mv_ rfl ?_))))
 refine wl_buildSlice (e := 9) (cs := [.string ka]) rfl (by kernel_rfl) rfl fun g1 => ?_
 refine mv_ rfl (mv_ rfl ?_)
 refine wl_toOwn (sz := 1) (n := 1) 0 [] rfl rfl rfl (by unfold maxLen; omega) ?_
 refine wl_callgo (γ := Option Addr × Nat × Nat) (val := (fun g => .slice g.1 g.2.1 g.2.2)) (φ := (fun g => (pathN l (n + 1) ka).length = g.2.1)) (fun g => ⟨.slice g.1 g.2.1 g.2.2, 9, 1, g.2.1, (pathN l (n + 1) ka).flatMap sgEnc⟩) rfl cb167 rfl rfl (fun wx hm => (ups_any l A n c ka wx (hm.fact 0 rfl).1 hok (by omega)).mono fun _ _ ⟨A2, n2, c2, he, ho, hl2, hg⟩ => ⟨(A2, n2, c2), he, hl2, ho, hg⟩) ?_
 rintro ⟨A2, n2, c2⟩ hpl
 dsimp only at hpl ⊢
 have hpb := pathN_len l (n + 1) ka
 refine wl_appendO 1 0 ap81 rfl rfl rfl rfl (flat_one sgEnc sg_one _) (by omega) (by unfold maxLen; omega) rfl rfl fun v2 hv => ?_
 refine wl_look (R := ∃ A cc, v2 = .slice A (1 + n2) cc) (fun wx hm => own_slice (hm.ownI 1 rfl)) ?_
 rintro ⟨A5, c5, rfl⟩
 have hst : ixP (fun y => kb.toList == y.toList) (ka :: pathN l (n + 1) ka) 0 = stepsV l ka kb := by rw [← stepsV_eq hcl hlo, hlen]
 have hsb := stepsV_bound l ka kb
 refine mv_ rfl ?_
 refine wl_callv (v := .int .i64 (stepsV l ka kb)) rfl cb192 rfl rfl (fun wx hm => (by rw [← hst]; exact index_str (ka :: pathN l (n + 1) ka) A5 _ c5 kb wx (SlT.ofOwn (l := ka :: pathN l (n + 1) ka) sg_len (hm.ownI 1 rfl) (by rw [List.length_cons, hpl]; omega)) (by omega))) ?_
 refine sg_ rfl (nn_ (sr_ (mv_ rfl ?_)))
 refine wl_ov (ov_max rfl rfl) rfl ?_
 refine mv_ rfl ?_
 refine wl_ov (ov_geq rfl rfl) rfl ?_
 refine sg_ rfl (sg_ rfl (nn_ ?_))
 refine gw_ret ?_
 refine nx_ret2 rfl rfl rfl fun wx hm => ?_
 exact ⟨by rw [Int.max_comm], hm.g⟩
theorem gclasses_any (w : World) (B sb m : Nat) (hS : Strm 25 w B sb m) (hm : m ≤ 100000000000) :
  Calls Tryz.prog 109 #[.pointer (some ⟨sb, 0, none⟩)] w (fun e w' => ∃ (A : Option Addr) (c : Nat) (l : List Cs), e = .returned (.slice A 4 c) ∧ w'.ownsRow w.heap.size 159 2 (.slice A 4 c) 4 (l.flatMap csEnc) ∧ l.length = 4 ∧ (∀ x ∈ l, CsOk x) ∧ Strm 25 w' B sb (m + 20) ∧ w.grownBy w' (some sb)) := by
 refine gw_enter ⟨35, w, (some sb), []⟩ Tryz.func109 rfl Tryz.ntmps109 rfl (memS (X := []) hS allF_nil allL_nil) ?_
 refine sr_ (sg_ rfl (nn_ (sr_ ?_)))
 refine wl_ov (ov_build (cs := [.string ⟨#[98, 105, 103]⟩, .string ⟨#[]⟩]) rfl (by kernel_rfl)) rfl ?_
 refine wl_ov (ov_build (cs := [.string ⟨#[109, 97, 120, 105]⟩, .string ⟨#[]⟩]) rfl (by kernel_rfl)) rfl ?_
 refine wl_ov (ov_build (cs := [.string ⟨#[109, 105, 100, 105]⟩, .string ⟨#[]⟩]) rfl (by kernel_rfl)) rfl ?_
 refine wl_ov (ov_build (cs := [.string ⟨#[109, 105, 110, 105]⟩, .string ⟨#[]⟩]) rfl (by kernel_rfl)) rfl ?_
 refine wl_buildSlice (e := 159) (cs := [.string ⟨#[98, 105, 103]⟩, .string ⟨#[]⟩, .string ⟨#[109, 97, 120, 105]⟩, .string ⟨#[]⟩, .string ⟨#[109, 105, 100, 105]⟩, .string ⟨#[]⟩, .string ⟨#[109, 105, 110, 105]⟩, .string ⟨#[]⟩]) rfl (by kernel_rfl) rfl fun g1 => ?_
 refine sg_ rfl (nn_ (gw_seq (sr_ (mv_ rfl (wl_ov (ov_len es27 rfl) rfl ?_)))))
 refine wl_set 11 (v' := .int .i64 4) rfl rfl ?_
 refine mv_ rfl (nn_ (gw_block ?_))
 refine gw_toOwn (sz := 2) (n := 4) 0 [] rfl rfl rfl (by unfold maxLen; omega) ?_
 refine gw_loop (γ := Nat × List Cs) (fun g => g.1 ≤ 4 ∧ g.2.length = 4 ∧ (∀ x ∈ g.2, CsOk x)) (fun g => [(0, .pointer (some ⟨sb, 0, none⟩)), (2, .slice none 0 0), (3, .slice (some ⟨g1, 0, none⟩) 4 4), (11, .int .i64 4), (12, .int .i64 ((g.1 : Nat) : Int))]) (fun g => fun w => Strm 25 w B sb (m + 2 * g.1)) (fun g => []) (fun g => [⟨.slice (some ⟨g1, 0, none⟩) 4 4, 159, 2, 4, g.2.flatMap csEnc⟩]) (fun g => []) (fun g => 4 - g.1) (0, [⟨⟨#[98, 105, 103]⟩, ⟨#[]⟩⟩, ⟨⟨#[109, 97, 120, 105]⟩, ⟨#[]⟩⟩, ⟨⟨#[109, 105, 100, 105]⟩, ⟨#[]⟩⟩, ⟨⟨#[109, 105, 110, 105]⟩, ⟨#[]⟩⟩]) ⟨Nat.zero_le _, rfl, by simp [CsOk] <;> decide⟩ ⟨rfl, rfl, rfl, rfl, rfl, trivial⟩ (fun _ hm => (hm.more rfl (by first | omega | (dsimp only; omega))).pick [] [0] [] rfl rfl) ?_
 rintro ⟨i, l⟩ hinv
 replace hinv : i ≤ 4 ∧ l.length = 4 ∧ (∀ x ∈ l, CsOk x) := hinv
 dsimp only
 refine sr_ ?_
 obtain ⟨hi0, hl4, hok⟩ := hinv
 refine wl_ov (ov_lss rfl rfl) rfl (nn_ (gw_seq ?_))
 refine gw_cond rfl (fun hh => ?_) (fun hh => ?_)
 ·have hi : ((i : Nat) : Int) < 4 := by simpa using hh
  clear hh
  refine gw_skip (nx_then (gw_seq (gw_block (sr_ (mv_ rfl (sg_ rfl (nn_ (sr_ (mv_ rfl ?_)))))))))
  refine wl_ov (ov_gtr rfl rfl) rfl ?_
  refine mv_ rfl ?_
  rcases Bool.eq_false_or_eq_true (decide (0 < ((i : Nat) : Int))) with h0 | h0
  ·refine wl_set 17 rfl (congrArg Value.bool h0) ?_
   have h0 := of_decide_eq_true h0
   refine wl_guard_on rfl rfl rfl (mv_ rfl (wl_guard_on rfl rfl rfl ?_))
   refine wl_got (γ := Bool) (val := fun v => .bool v) (φ := fun v => True) rfl cb53 rfl rfl rfl rfl (fun wx hm => ((flip_any _ wx B sb _ hm.k (by omega) (by omega) (by omega)).mono fun _ _ ⟨v, he, hS, hg⟩ => ⟨v, trivial, he, hS, hg⟩)) fun f2 _ => ?_
   refine wl_guard_on rfl rfl rfl (wl_ov (ov_un_not rfl) rfl (pt_ rfl rfl (nn_ ?_)))
   refine gw_cond rfl (fun hh => ?_) (fun hh => ?_)
   ·have hf : f2 = false := by simpa using hh
    clear hh
    refine gw_region (mv_ rfl (mv_ rfl (mv_ rfl (mv_ rfl (mv_ rfl ?_)))))
    refine wl_got (γ := Int) (val := fun v => .int .i64 v) (φ := fun v => IsBelow ((i : Nat) : Int) v) rfl cb42 rfl rfl rfl rfl (fun wx hm => (next_any _ wx B sb _ hm.k (by omega) (by omega) (by omega))) fun vj hvj => ?_
    have hj := isBelow_lt hvj (by omega)
    obtain ⟨j, rfl⟩ := Int.eq_ofNat_of_zero_le hj.1
    have hji : j < 4 := by omega
    obtain ⟨y, hy⟩ : ∃ y, l[j]? = some y := ⟨_, List.getElem?_eq_getElem (by omega)⟩
    obtain ⟨z, hz⟩ : ∃ z, l[i]? = some z := ⟨_, List.getElem?_eq_getElem (by omega)⟩
    obtain ⟨y0, y1⟩ := y
    obtain ⟨z0, z1⟩ := z
    obtain ⟨hy0, hy1⟩ := hok _ (List.mem_of_getElem? hy)
    obtain ⟨hz0, hz1⟩ := hok _ (List.mem_of_getElem? hz)
    refine wl_ov (ov_index (j := j) es27 rfl rfl (by omega)) rfl ?_
    refine fd_ fo159_0 rfl rfl ?_
    refine wl_ov (ov_elem1 (k := 0) (v := .string y0) sc9 rfl (fun _ hm => (SlT.ofOwn cs_len (hm.ownI 0 rfl) hl4)) hy rfl rfl) rfl ?_
    refine wl_ov (ov_index (j := i) es27 rfl rfl (by omega)) rfl ?_
    refine fd_ fo159_1 rfl rfl ?_
    refine wl_storeE (l := l) (j := i) (r := 1) (el := ⟨z0, z1⟩) (el' := ⟨z0, y0⟩) 0 sc9 rfl rfl rfl rfl cs_len rfl hz hl4 (by decide) rfl rfl ?_
    refine wl_nil (nx_blk_nrm (nx_then (gw_region (ad_ rfl rfl (mv_ rfl (wl_nil ?_))))))
    exact nx_round (i + 1, l.set i ⟨z0, y0⟩) ⟨by dsimp only; omega, by simp [hl4], cs_mem hok ⟨hz0, hy0⟩⟩ (by dsimp only; omega) ⟨rfl, rfl, rfl, rfl, (some_int (by omega)), trivial⟩ (fun _ hm => (hm.more rfl (by first | omega | (dsimp only; omega))).pick [] [0] [] rfl rfl)
   have hf : f2 = true := by simpa using hh
   clear hh
   refine gw_skip (nx_blk_nrm (nx_then (gw_region (ad_ rfl rfl (mv_ rfl (wl_nil ?_))))))
   exact nx_round (i + 1, l) ⟨by dsimp only; omega, hl4, hok⟩ (by dsimp only; omega) ⟨rfl, rfl, rfl, rfl, (some_int (by omega)), trivial⟩ (fun _ hm => (hm.more rfl (by first | omega | (dsimp only; omega))).pick [] [0] [] rfl rfl)
  refine wl_set 17 rfl (congrArg Value.bool h0) ?_
  refine goff rfl rfl rfl (goff rfl rfl rfl (goff rfl rfl rfl (pf_ rfl rfl (nn_ (cf_ rfl (gw_skip (nx_blk_nrm (nx_then (gw_region (ad_ rfl rfl (mv_ rfl (wl_nil ?_))))))))))))
  exact nx_round (i + 1, l) ⟨by dsimp only; omega, hl4, hok⟩ (by dsimp only; omega) ⟨rfl, rfl, rfl, rfl, (some_int (by omega)), trivial⟩ (fun _ hm => (hm.more rfl (by first | omega | (dsimp only; omega))).pick [] [0] [] rfl rfl)
 have hi : ¬ (((i : Nat) : Int) < 4) := by simpa using hh
 clear hh
 refine gw_exit ?_
 refine nx_then_exit (nx_then_exit ?_)
 refine nx_blk_here ?_
 refine nx_then (sr_ (mv_ rfl (sg_ rfl (nn_ ?_))))
 refine gw_ret ?_
 refine nx_ret1 rfl rfl fun wx hm => ?_
 exact ⟨_, 4, l, rfl, hm.ownI 0 rfl, hl4, hok, hm.k.more (by omega), hm.g⟩
theorem mem5 {x a b c d e : ByteArray} (h : x ∈ [a, b, c, d, e]) : x = a ∨ x = b ∨ x = c ∨ x = d ∨ x = e := by simpa using h
theorem ganyClasses_any (w : World) (B sb m : Nat) (hS : Strm 25 w B sb m) (hm : m ≤ 100000000000) :
  Calls Tryz.prog 76 #[.pointer (some ⟨sb, 0, none⟩)] w (fun e w' => ∃ (A : Option Addr) (c : Nat) (l : List Cs), e = .returned (.slice A 4 c) ∧ w'.ownsRow w.heap.size 159 2 (.slice A 4 c) 4 (l.flatMap csEnc) ∧ l.length = 4 ∧ (∀ x ∈ l, CsOk x) ∧ Strm 25 w' B sb (m + 40) ∧ w.grownBy w' (some sb)) := by
 refine gw_enter ⟨44, w, (some sb), []⟩ Tryz.func76 rfl Tryz.ntmps76 rfl (memS (X := []) hS allF_nil allL_nil) ?_
 refine sr_ (sg_ rfl (nn_ (sr_ (mv_ rfl ?_))))
 refine wl_callgs (γ := Option Addr × Nat × List Cs) (val := (fun g => .slice g.1 4 g.2.1)) (φ := (fun g => g.2.2.length = 4 ∧ (∀ x ∈ g.2.2, CsOk x))) (m' := m + 20) (fun g => ⟨.slice g.1 4 g.2.1, 159, 2, 4, g.2.2.flatMap csEnc⟩) rfl cb109 rfl rfl rfl rfl (fun wx hm => (gclasses_any wx B sb _ hm.k (by omega)).mono fun _ _ ⟨A, c, l, he, ho, hl, hok, hS, hg⟩ => ⟨(A, c, l), he, ⟨hl, hok⟩, hS, hg, ho⟩) ?_
 rintro ⟨A, c, l⟩ hphi
 dsimp only at hphi ⊢
 obtain ⟨hl4, hok⟩ := hphi
 refine sg_ rfl (nn_ (gw_seq (sr_ (mv_ rfl ?_))))
 refine wl_got (γ := Bool) (val := fun v => .bool v) (φ := fun v => True) rfl cb53 rfl rfl rfl rfl (fun wx hm => ((flip_any _ wx B sb _ hm.k (by omega) (by omega) (by omega)).mono fun _ _ ⟨v, he, hS, hg⟩ => ⟨v, trivial, he, hS, hg⟩)) fun f1 _ => ?_
 refine nn_ ?_
 refine gw_cond rfl (fun hh => ?_) (fun hh => ?_)
 ·have hf : f1 = true := by simpa using hh
  clear hh
  refine sr_ ?_
  refine wl_look (R := ∃ g, A = some ⟨g, 0, none⟩) (fun wx hm => own_addr (hm.ownI 0 rfl) (by omega)) ?_
  rintro ⟨bo, rfl⟩
  refine mv_ rfl (mv_ rfl (mv_ rfl (wl_ov (ov_len es27 rfl) rfl ?_)))
  refine wl_set 12 (v' := .int .i64 4) rfl rfl ?_
  refine wl_got (γ := Int) (val := fun v => .int .i64 v) (φ := fun v => IsBelow 4 v) rfl cb42 rfl rfl rfl rfl (fun wx hm => (next_any _ wx B sb _ hm.k (by omega) (by omega) (by omega))) fun vj hvj => ?_
  have hj := isBelow_lt hvj (by omega)
  obtain ⟨j, rfl⟩ := Int.eq_ofNat_of_zero_le hj.1
  have hji : j < 4 := by omega
  obtain ⟨y, hy⟩ : ∃ y, l[j]? = some y := ⟨_, List.getElem?_eq_getElem (by omega)⟩
  obtain ⟨y0, y1⟩ := y
  obtain ⟨hy0, hy1⟩ := hok _ (List.mem_of_getElem? hy)
  have hy0 : y0.size ≤ 1000000 := hy0
  have hy1 : y1.size ≤ 1000000 := hy1
  refine wl_ov (ov_index (j := j) es27 rfl rfl (by omega)) rfl ?_
  refine sg_ rfl (nn_ ?_)
  refine gd (fun wz => True) mixed (fun _ _ => trivial) fun z => ?_
  refine wt 0 30 1 rfl z (ov_move rfl) ?_
  refine wt 1 30 3 rfl z (ov_move rfl) ?_
  refine wt 2 30 7 rfl z (ov_move rfl) ?_
  refine wt 3 30 15 rfl z (ov_move rfl) ?_
  refine wt 4 30 31 rfl z (ov_nilcheck rfl) ?_
  refine wt 5 30 63 rfl z (ov_field fo159_0 rfl rfl) ?_
  refine wt 7 30 191 rfl z (ov_move rfl) ?_
  refine wt 8 30 447 rfl z (ov_nilcheck rfl) ?_
  refine wt 9 30 959 rfl z (ov_field fo159_0 rfl rfl) ?_
  refine wt 13 30 9151 rfl z (ov_move rfl) ?_
  refine wt 14 30 25535 rfl z (ov_move rfl) ?_
  refine wt 15 30 58303 rfl z (ov_nilcheck rfl) ?_
  refine wt 16 30 123839 rfl z (ov_field fo159_1 rfl rfl) ?_
  refine wt 18 30 385983 rfl z (ov_move rfl) ?_
  refine wt 19 30 910271 rfl z (ov_nilcheck rfl) ?_
  refine wt 20 30 1958847 rfl z (ov_field fo159_0 rfl rfl) ?_
  refine wa_open fun W hW => ?_
  have T2097151 : ∀ (q11 : Nat) (k12 : ByteArray) (hk12 : k12 ∈ ([y0, y0, ⟨#[]⟩, ⟨#[65]⟩, ⟨#[122, 101, 100]⟩] : List ByteArray)), W 9 (lb 30 2097151) [(0, .pointer (some ⟨sb, 0, none⟩)), (2, .slice none 0 0), (3, .slice (some ⟨bo, 0, none⟩) 4 c), (4, .pointer (some ⟨bo, 0 + j * 2, none⟩)), (5, .pointer (some ⟨sb, 0, none⟩)), (6, .slice (some ⟨bo, 0, none⟩) 4 c), (7, .pointer (some ⟨sb, 0, none⟩)), (8, .bool f1), (9, .slice (some ⟨bo, 0, none⟩) 4 c), (10, .pointer (some ⟨sb, 0, none⟩)), (11, .slice (some ⟨bo, 0, none⟩) 4 c), (12, .int .i64 4), (13, .int .i64 ((j : Nat) : Int)), (14, .pointer (some ⟨bo, 0 + j * 2, none⟩)), (15, .pointer (some ⟨bo, 0 + j * 2, none⟩)), (16, .pointer (some ⟨bo, 0 + j * 2, none⟩)), (17, .pointer (some ⟨sb, 0, none⟩)), (18, .pointer (some ⟨bo, 0 + j * 2, none⟩)), (19, .pointer (some ⟨bo, 0 + j * 2, none⟩)), (20, .pointer (some ⟨bo, 0 + j * 2 + 0, none⟩)), (21, .string y0), (22, .pointer (some ⟨bo, 0 + j * 2, none⟩)), (23, .pointer (some ⟨bo, 0 + j * 2, none⟩)), (24, .pointer (some ⟨bo, 0 + j * 2 + 0, none⟩)), (25, .string y0), (26, .slice (some ⟨q11, 0, none⟩) 5 5), (27, .string k12), (28, .pointer (some ⟨sb, 0, none⟩)), (29, .pointer (some ⟨bo, 0 + j * 2, none⟩)), (30, .pointer (some ⟨bo, 0 + j * 2, none⟩)), (31, .pointer (some ⟨bo, 0 + j * 2 + 1, none⟩)), (32, .string y1), (33, .pointer (some ⟨bo, 0 + j * 2, none⟩)), (34, .pointer (some ⟨bo, 0 + j * 2, none⟩)), (35, .pointer (some ⟨bo, 0 + j * 2 + 0, none⟩))] (fun w => Strm 25 w B sb (m + 20 + 1 + 1 + 1)) [(q11, 9, [.string y0, .string y0, .string ⟨#[]⟩, .string ⟨#[65]⟩, .string ⟨#[122, 101, 100]⟩])] [⟨.slice (some ⟨bo, 0, none⟩) 4 c, 159, 2, 4, l.flatMap csEnc⟩] [] := by
   intro q11 k12 hk12
   rw [hW]
   refine wa1 21 rfl ?_
   refine wl_ov (ov_elem1 (k := 0) (v := .string y0) sc9 rfl (fun _ hm => (SlT.ofOwn cs_len (hm.ownI 0 rfl) hl4)) hy rfl rfl) rfl ?_
   refine wl_nil ?_
   refine nw 30 4194303 (fun _ _ => trivial) fun z => ?_
   refine wa1 22 rfl ?_
   refine wl_buildSlice (e := 9) (cs := [.string y1, .string ⟨#[109, 105, 110, 105]⟩, .string ⟨#[110, 111, 110, 101]⟩, .string ⟨#[65]⟩, .string y0]) rfl (by kernel_rfl) rfl fun q22 => ?_
   refine wl_nil ?_
   refine nw 30 8388607 (fun _ _ => trivial) fun z => ?_
   refine wa1 23 rfl ?_
   refine wl_got (γ := ByteArray) (val := fun v => .string v) (φ := fun v => v ∈ ([y1, ⟨#[109, 105, 110, 105]⟩, ⟨#[110, 111, 110, 101]⟩, ⟨#[65]⟩, y0] : List ByteArray)) rfl cb43 rfl rfl rfl rfl (fun wx hm => (some_any [y1, ⟨#[109, 105, 110, 105]⟩, ⟨#[110, 111, 110, 101]⟩, ⟨#[65]⟩, y0] _ _ _ wx B sb _ hm.k (by omega) (by simp) (by simp) (hm.blkI 0 rfl) (hm.neRow 0 rfl rfl))) fun k23 hk23 => ?_
   refine wl_nil ?_
   refine nw 30 16777215 (fun _ _ => trivial) fun z => ?_
   refine wt 24 30 33554431 rfl z (ov_nilcheck rfl) ?_
   refine wt 25 30 67108863 rfl z (ov_field fo159_0 rfl rfl) ?_
   refine wa1 26 rfl ?_
   refine wl_storeE (l := l) (j := j) (r := 0) (el := ⟨y0, y1⟩) (el' := ⟨k12, y1⟩) 0 sc9 rfl rfl rfl rfl cs_len rfl hy hl4 (by decide) rfl rfl ?_
   refine wl_nil ?_
   refine nw 30 134217727 (fun _ _ => trivial) fun z => ?_
   refine wt 27 30 268435455 rfl z (ov_nilcheck rfl) ?_
   refine wt 28 30 536870911 rfl z (ov_field fo159_1 rfl rfl) ?_
   refine wa1 29 rfl ?_
   have hy2 : (l.set j ⟨k12, y1⟩)[j]? = some (⟨k12, y1⟩ : Cs) := by rw [List.getElem?_set_self (by omega)]
   have hl42 : (l.set j ⟨k12, y1⟩).length = 4 := by simp [hl4]
   refine wl_storeE (l := (l.set j ⟨k12, y1⟩)) (j := j) (r := 1) (el := ⟨k12, y1⟩) (el' := ⟨k12, k23⟩) 0 sc9 rfl rfl rfl rfl cs_len rfl hy2 hl42 (by decide) rfl rfl ?_
   refine wl_nil ?_
   refine nw 30 1073741823 (fun _ _ => trivial) fun z => ?_
   refine wa_done (by kernel_rfl) ?_
   refine nx_then (sr_ (mv_ rfl (sg_ rfl (nn_ ?_))))
   refine gw_ret ?_
   refine nx_ret1 rfl rfl fun wx hm => ?_
   exact ⟨some ⟨bo, 0, none⟩, c, _, rfl, hm.ownI 0 rfl, (by simp [hl4]), cs_mem (cs_mem hok ⟨(show k12.size ≤ 1000000 by rcases mem5 hk12 with h | h | h | h | h <;> rw [h] <;> first | assumption | decide), hy1⟩) ⟨(show k12.size ≤ 1000000 by rcases mem5 hk12 with h | h | h | h | h <;> rw [h] <;> first | assumption | decide), (show k23.size ≤ 1000000 by rcases mem5 hk23 with h | h | h | h | h <;> rw [h] <;> first | assumption | decide)⟩, hm.k.more (by omega), hm.g⟩
  have T4063231 : ∀ (q11 : Nat) (k12 : ByteArray) (hk12 : k12 ∈ ([y0, y0, ⟨#[]⟩, ⟨#[65]⟩, ⟨#[122, 101, 100]⟩] : List ByteArray)), W 9 (lb 30 4063231) [(0, .pointer (some ⟨sb, 0, none⟩)), (2, .slice none 0 0), (3, .slice (some ⟨bo, 0, none⟩) 4 c), (4, .pointer (some ⟨bo, 0 + j * 2, none⟩)), (5, .pointer (some ⟨sb, 0, none⟩)), (6, .slice (some ⟨bo, 0, none⟩) 4 c), (7, .pointer (some ⟨sb, 0, none⟩)), (8, .bool f1), (9, .slice (some ⟨bo, 0, none⟩) 4 c), (10, .pointer (some ⟨sb, 0, none⟩)), (11, .slice (some ⟨bo, 0, none⟩) 4 c), (12, .int .i64 4), (13, .int .i64 ((j : Nat) : Int)), (14, .pointer (some ⟨bo, 0 + j * 2, none⟩)), (15, .pointer (some ⟨bo, 0 + j * 2, none⟩)), (16, .pointer (some ⟨bo, 0 + j * 2, none⟩)), (17, .pointer (some ⟨sb, 0, none⟩)), (18, .pointer (some ⟨bo, 0 + j * 2, none⟩)), (19, .pointer (some ⟨bo, 0 + j * 2, none⟩)), (20, .pointer (some ⟨bo, 0 + j * 2 + 0, none⟩)), (21, .string y0), (22, .pointer (some ⟨bo, 0 + j * 2, none⟩)), (23, .pointer (some ⟨bo, 0 + j * 2, none⟩)), (24, .pointer (some ⟨bo, 0 + j * 2 + 0, none⟩)), (25, .string y0), (26, .slice (some ⟨q11, 0, none⟩) 5 5), (27, .string k12), (28, .pointer (some ⟨sb, 0, none⟩)), (29, .pointer (some ⟨bo, 0 + j * 2, none⟩)), (30, .pointer (some ⟨bo, 0 + j * 2, none⟩)), (31, .pointer (some ⟨bo, 0 + j * 2 + 1, none⟩)), (33, .pointer (some ⟨bo, 0 + j * 2, none⟩)), (34, .pointer (some ⟨bo, 0 + j * 2, none⟩)), (35, .pointer (some ⟨bo, 0 + j * 2 + 0, none⟩)), (36, .string y0)] (fun w => Strm 25 w B sb (m + 20 + 1 + 1 + 1)) [(q11, 9, [.string y0, .string y0, .string ⟨#[]⟩, .string ⟨#[65]⟩, .string ⟨#[122, 101, 100]⟩])] [⟨.slice (some ⟨bo, 0, none⟩) 4 c, 159, 2, 4, l.flatMap csEnc⟩] [] := by
   intro q11 k12 hk12
   rw [hW]
   refine wa1 17 rfl ?_
   refine wl_ov (ov_elem1 (k := 1) (v := .string y1) sc9 rfl (fun _ hm => (SlT.ofOwn cs_len (hm.ownI 0 rfl) hl4)) hy rfl rfl) rfl ?_
   refine wl_nil ?_
   refine nw 30 4194303 (fun _ _ => trivial) fun z => ?_
   refine wa1 22 rfl ?_
   refine wl_buildSlice (e := 9) (cs := [.string y1, .string ⟨#[109, 105, 110, 105]⟩, .string ⟨#[110, 111, 110, 101]⟩, .string ⟨#[65]⟩, .string y0]) rfl (by kernel_rfl) rfl fun q22 => ?_
   refine wl_nil ?_
   refine nw 30 8388607 (fun _ _ => trivial) fun z => ?_
   refine wa1 23 rfl ?_
   refine wl_got (γ := ByteArray) (val := fun v => .string v) (φ := fun v => v ∈ ([y1, ⟨#[109, 105, 110, 105]⟩, ⟨#[110, 111, 110, 101]⟩, ⟨#[65]⟩, y0] : List ByteArray)) rfl cb43 rfl rfl rfl rfl (fun wx hm => (some_any [y1, ⟨#[109, 105, 110, 105]⟩, ⟨#[110, 111, 110, 101]⟩, ⟨#[65]⟩, y0] _ _ _ wx B sb _ hm.k (by omega) (by simp) (by simp) (hm.blkI 0 rfl) (hm.neRow 0 rfl rfl))) fun k23 hk23 => ?_
   refine wl_nil ?_
   refine nw 30 16777215 (fun _ _ => trivial) fun z => ?_
   refine wt 24 30 33554431 rfl z (ov_nilcheck rfl) ?_
   refine wt 25 30 67108863 rfl z (ov_field fo159_0 rfl rfl) ?_
   refine wa1 26 rfl ?_
   refine wl_storeE (l := l) (j := j) (r := 0) (el := ⟨y0, y1⟩) (el' := ⟨k12, y1⟩) 0 sc9 rfl rfl rfl rfl cs_len rfl hy hl4 (by decide) rfl rfl ?_
   refine wl_nil ?_
   refine nw 30 134217727 (fun _ _ => trivial) fun z => ?_
   refine wt 27 30 268435455 rfl z (ov_nilcheck rfl) ?_
   refine wt 28 30 536870911 rfl z (ov_field fo159_1 rfl rfl) ?_
   refine wa1 29 rfl ?_
   have hy2 : (l.set j ⟨k12, y1⟩)[j]? = some (⟨k12, y1⟩ : Cs) := by rw [List.getElem?_set_self (by omega)]
   have hl42 : (l.set j ⟨k12, y1⟩).length = 4 := by simp [hl4]
   refine wl_storeE (l := (l.set j ⟨k12, y1⟩)) (j := j) (r := 1) (el := ⟨k12, y1⟩) (el' := ⟨k12, k23⟩) 0 sc9 rfl rfl rfl rfl cs_len rfl hy2 hl42 (by decide) rfl rfl ?_
   refine wl_nil ?_
   refine nw 30 1073741823 (fun _ _ => trivial) fun z => ?_
   refine wa_done (by kernel_rfl) ?_
   refine nx_then (sr_ (mv_ rfl (sg_ rfl (nn_ ?_))))
   refine gw_ret ?_
   refine nx_ret1 rfl rfl fun wx hm => ?_
   exact ⟨some ⟨bo, 0, none⟩, c, _, rfl, hm.ownI 0 rfl, (by simp [hl4]), cs_mem (cs_mem hok ⟨(show k12.size ≤ 1000000 by rcases mem5 hk12 with h | h | h | h | h <;> rw [h] <;> first | assumption | decide), hy1⟩) ⟨(show k12.size ≤ 1000000 by rcases mem5 hk12 with h | h | h | h | h <;> rw [h] <;> first | assumption | decide), (show k23.size ≤ 1000000 by rcases mem5 hk23 with h | h | h | h | h <;> rw [h] <;> first | assumption | decide)⟩, hm.k.more (by omega), hm.g⟩
  have J1966079 : ∀ (q11 : Nat) (k12 : ByteArray) (hk12 : k12 ∈ ([y0, y0, ⟨#[]⟩, ⟨#[65]⟩, ⟨#[122, 101, 100]⟩] : List ByteArray)), W 10 (lb 30 1966079) [(0, .pointer (some ⟨sb, 0, none⟩)), (2, .slice none 0 0), (3, .slice (some ⟨bo, 0, none⟩) 4 c), (4, .pointer (some ⟨bo, 0 + j * 2, none⟩)), (5, .pointer (some ⟨sb, 0, none⟩)), (6, .slice (some ⟨bo, 0, none⟩) 4 c), (7, .pointer (some ⟨sb, 0, none⟩)), (8, .bool f1), (9, .slice (some ⟨bo, 0, none⟩) 4 c), (10, .pointer (some ⟨sb, 0, none⟩)), (11, .slice (some ⟨bo, 0, none⟩) 4 c), (12, .int .i64 4), (13, .int .i64 ((j : Nat) : Int)), (14, .pointer (some ⟨bo, 0 + j * 2, none⟩)), (15, .pointer (some ⟨bo, 0 + j * 2, none⟩)), (16, .pointer (some ⟨bo, 0 + j * 2, none⟩)), (17, .pointer (some ⟨sb, 0, none⟩)), (18, .pointer (some ⟨bo, 0 + j * 2, none⟩)), (19, .pointer (some ⟨bo, 0 + j * 2, none⟩)), (20, .pointer (some ⟨bo, 0 + j * 2 + 0, none⟩)), (21, .string y0), (22, .pointer (some ⟨bo, 0 + j * 2, none⟩)), (23, .pointer (some ⟨bo, 0 + j * 2, none⟩)), (24, .pointer (some ⟨bo, 0 + j * 2 + 0, none⟩)), (25, .string y0), (26, .slice (some ⟨q11, 0, none⟩) 5 5), (27, .string k12), (28, .pointer (some ⟨sb, 0, none⟩)), (29, .pointer (some ⟨bo, 0 + j * 2, none⟩)), (30, .pointer (some ⟨bo, 0 + j * 2, none⟩)), (31, .pointer (some ⟨bo, 0 + j * 2 + 1, none⟩)), (33, .pointer (some ⟨bo, 0 + j * 2, none⟩)), (34, .pointer (some ⟨bo, 0 + j * 2, none⟩)), (35, .pointer (some ⟨bo, 0 + j * 2 + 0, none⟩))] (fun w => Strm 25 w B sb (m + 20 + 1 + 1 + 1)) [(q11, 9, [.string y0, .string y0, .string ⟨#[]⟩, .string ⟨#[65]⟩, .string ⟨#[122, 101, 100]⟩])] [⟨.slice (some ⟨bo, 0, none⟩) 4 c, 159, 2, 4, l.flatMap csEnc⟩] [] := by
   intro q11 k12 hk12
   rw [hW]
   refine wa_all [17, 21] (by kernel_rfl) rfl ⟨⟨_, rfl, ?_⟩, ⟨_, rfl, ?_⟩, trivial⟩
   ·refine wl_ov (ov_elem1 (k := 1) (v := .string y1) sc9 rfl (fun _ hm => (SlT.ofOwn cs_len (hm.ownI 0 rfl) hl4)) hy rfl rfl) rfl ?_
    refine wl_nil ?_
    refine nw 30 2097151 (fun _ _ => trivial) fun z => ?_
    have h := T2097151 q11 k12 hk12
    rw [hW] at h
    refine wa_weak ?_ ?_ h
    ·exact ⟨rfl, rfl, rfl, rfl, rfl, rfl, rfl, rfl, rfl, rfl, rfl, rfl, rfl, rfl, rfl, rfl, rfl, rfl, rfl, rfl, rfl, rfl, rfl, rfl, rfl, rfl, rfl, rfl, rfl, rfl, rfl, rfl, rfl, rfl, rfl, trivial⟩
    exact fun _ hm => hm.pick [0] [0] [] rfl rfl
   refine wl_ov (ov_elem1 (k := 0) (v := .string y0) sc9 rfl (fun _ hm => (SlT.ofOwn cs_len (hm.ownI 0 rfl) hl4)) hy rfl rfl) rfl ?_
   refine wl_nil ?_
   refine nw 30 4063231 (fun _ _ => trivial) fun z => ?_
   have h := T4063231 q11 k12 hk12
   rw [hW] at h
   refine wa_weak ?_ ?_ h
   ·exact ⟨rfl, rfl, rfl, rfl, rfl, rfl, rfl, rfl, rfl, rfl, rfl, rfl, rfl, rfl, rfl, rfl, rfl, rfl, rfl, rfl, rfl, rfl, rfl, rfl, rfl, rfl, rfl, rfl, rfl, rfl, rfl, rfl, rfl, rfl, rfl, trivial⟩
   exact fun _ hm => hm.pick [0] [0] [] rfl rfl
  have T4194303 : ∀ (q11 : Nat) (k12 : ByteArray) (hk12 : k12 ∈ ([y0, y0, ⟨#[]⟩, ⟨#[65]⟩, ⟨#[122, 101, 100]⟩] : List ByteArray)), W 8 (lb 30 4194303) [(0, .pointer (some ⟨sb, 0, none⟩)), (2, .slice none 0 0), (3, .slice (some ⟨bo, 0, none⟩) 4 c), (4, .pointer (some ⟨bo, 0 + j * 2, none⟩)), (5, .pointer (some ⟨sb, 0, none⟩)), (6, .slice (some ⟨bo, 0, none⟩) 4 c), (7, .pointer (some ⟨sb, 0, none⟩)), (8, .bool f1), (9, .slice (some ⟨bo, 0, none⟩) 4 c), (10, .pointer (some ⟨sb, 0, none⟩)), (11, .slice (some ⟨bo, 0, none⟩) 4 c), (12, .int .i64 4), (13, .int .i64 ((j : Nat) : Int)), (14, .pointer (some ⟨bo, 0 + j * 2, none⟩)), (15, .pointer (some ⟨bo, 0 + j * 2, none⟩)), (16, .pointer (some ⟨bo, 0 + j * 2, none⟩)), (17, .pointer (some ⟨sb, 0, none⟩)), (18, .pointer (some ⟨bo, 0 + j * 2, none⟩)), (19, .pointer (some ⟨bo, 0 + j * 2, none⟩)), (20, .pointer (some ⟨bo, 0 + j * 2 + 0, none⟩)), (21, .string y0), (22, .pointer (some ⟨bo, 0 + j * 2, none⟩)), (23, .pointer (some ⟨bo, 0 + j * 2, none⟩)), (24, .pointer (some ⟨bo, 0 + j * 2 + 0, none⟩)), (25, .string y0), (26, .slice (some ⟨q11, 0, none⟩) 5 5), (27, .string k12), (28, .pointer (some ⟨sb, 0, none⟩)), (29, .pointer (some ⟨bo, 0 + j * 2, none⟩)), (30, .pointer (some ⟨bo, 0 + j * 2, none⟩)), (31, .pointer (some ⟨bo, 0 + j * 2 + 1, none⟩)), (32, .string y1), (33, .pointer (some ⟨bo, 0 + j * 2, none⟩)), (34, .pointer (some ⟨bo, 0 + j * 2, none⟩)), (35, .pointer (some ⟨bo, 0 + j * 2 + 0, none⟩)), (36, .string y0)] (fun w => Strm 25 w B sb (m + 20 + 1 + 1 + 1)) [(q11, 9, [.string y0, .string y0, .string ⟨#[]⟩, .string ⟨#[65]⟩, .string ⟨#[122, 101, 100]⟩])] [⟨.slice (some ⟨bo, 0, none⟩) 4 c, 159, 2, 4, l.flatMap csEnc⟩] [] := by
   intro q11 k12 hk12
   rw [hW]
   refine wa1 22 rfl ?_
   refine wl_buildSlice (e := 9) (cs := [.string y1, .string ⟨#[109, 105, 110, 105]⟩, .string ⟨#[110, 111, 110, 101]⟩, .string ⟨#[65]⟩, .string y0]) rfl (by kernel_rfl) rfl fun q22 => ?_
   refine wl_nil ?_
   refine nw 30 8388607 (fun _ _ => trivial) fun z => ?_
   refine wa1 23 rfl ?_
   refine wl_got (γ := ByteArray) (val := fun v => .string v) (φ := fun v => v ∈ ([y1, ⟨#[109, 105, 110, 105]⟩, ⟨#[110, 111, 110, 101]⟩, ⟨#[65]⟩, y0] : List ByteArray)) rfl cb43 rfl rfl rfl rfl (fun wx hm => (some_any [y1, ⟨#[109, 105, 110, 105]⟩, ⟨#[110, 111, 110, 101]⟩, ⟨#[65]⟩, y0] _ _ _ wx B sb _ hm.k (by omega) (by simp) (by simp) (hm.blkI 0 rfl) (hm.neRow 0 rfl rfl))) fun k23 hk23 => ?_
   refine wl_nil ?_
   refine nw 30 16777215 (fun _ _ => trivial) fun z => ?_
   refine wt 24 30 33554431 rfl z (ov_nilcheck rfl) ?_
   refine wt 25 30 67108863 rfl z (ov_field fo159_0 rfl rfl) ?_
   refine wa1 26 rfl ?_
   refine wl_storeE (l := l) (j := j) (r := 0) (el := ⟨y0, y1⟩) (el' := ⟨k12, y1⟩) 0 sc9 rfl rfl rfl rfl cs_len rfl hy hl4 (by decide) rfl rfl ?_
   refine wl_nil ?_
   refine nw 30 134217727 (fun _ _ => trivial) fun z => ?_
   refine wt 27 30 268435455 rfl z (ov_nilcheck rfl) ?_
   refine wt 28 30 536870911 rfl z (ov_field fo159_1 rfl rfl) ?_
   refine wa1 29 rfl ?_
   have hy2 : (l.set j ⟨k12, y1⟩)[j]? = some (⟨k12, y1⟩ : Cs) := by rw [List.getElem?_set_self (by omega)]
   have hl42 : (l.set j ⟨k12, y1⟩).length = 4 := by simp [hl4]
   refine wl_storeE (l := (l.set j ⟨k12, y1⟩)) (j := j) (r := 1) (el := ⟨k12, y1⟩) (el' := ⟨k12, k23⟩) 0 sc9 rfl rfl rfl rfl cs_len rfl hy2 hl42 (by decide) rfl rfl ?_
   refine wl_nil ?_
   refine nw 30 1073741823 (fun _ _ => trivial) fun z => ?_
   refine wa_done (by kernel_rfl) ?_
   refine nx_then (sr_ (mv_ rfl (sg_ rfl (nn_ ?_))))
   refine gw_ret ?_
   refine nx_ret1 rfl rfl fun wx hm => ?_
   exact ⟨some ⟨bo, 0, none⟩, c, _, rfl, hm.ownI 0 rfl, (by simp [hl4]), cs_mem (cs_mem hok ⟨(show k12.size ≤ 1000000 by rcases mem5 hk12 with h | h | h | h | h <;> rw [h] <;> first | assumption | decide), hy1⟩) ⟨(show k12.size ≤ 1000000 by rcases mem5 hk12 with h | h | h | h | h <;> rw [h] <;> first | assumption | decide), (show k23.size ≤ 1000000 by rcases mem5 hk23 with h | h | h | h | h <;> rw [h] <;> first | assumption | decide)⟩, hm.k.more (by omega), hm.g⟩
  have T8384511 : ∀ (q11 : Nat) (q22 : Nat), W 8 (lb 30 8384511) [(0, .pointer (some ⟨sb, 0, none⟩)), (2, .slice none 0 0), (3, .slice (some ⟨bo, 0, none⟩) 4 c), (4, .pointer (some ⟨bo, 0 + j * 2, none⟩)), (5, .pointer (some ⟨sb, 0, none⟩)), (6, .slice (some ⟨bo, 0, none⟩) 4 c), (7, .pointer (some ⟨sb, 0, none⟩)), (8, .bool f1), (9, .slice (some ⟨bo, 0, none⟩) 4 c), (10, .pointer (some ⟨sb, 0, none⟩)), (11, .slice (some ⟨bo, 0, none⟩) 4 c), (12, .int .i64 4), (13, .int .i64 ((j : Nat) : Int)), (14, .pointer (some ⟨bo, 0 + j * 2, none⟩)), (15, .pointer (some ⟨bo, 0 + j * 2, none⟩)), (16, .pointer (some ⟨bo, 0 + j * 2, none⟩)), (17, .pointer (some ⟨sb, 0, none⟩)), (18, .pointer (some ⟨bo, 0 + j * 2, none⟩)), (19, .pointer (some ⟨bo, 0 + j * 2, none⟩)), (20, .pointer (some ⟨bo, 0 + j * 2 + 0, none⟩)), (21, .string y0), (22, .pointer (some ⟨bo, 0 + j * 2, none⟩)), (23, .pointer (some ⟨bo, 0 + j * 2, none⟩)), (24, .pointer (some ⟨bo, 0 + j * 2 + 0, none⟩)), (25, .string y0), (26, .slice (some ⟨q11, 0, none⟩) 5 5), (28, .pointer (some ⟨sb, 0, none⟩)), (29, .pointer (some ⟨bo, 0 + j * 2, none⟩)), (30, .pointer (some ⟨bo, 0 + j * 2, none⟩)), (31, .pointer (some ⟨bo, 0 + j * 2 + 1, none⟩)), (32, .string y1), (33, .pointer (some ⟨bo, 0 + j * 2, none⟩)), (34, .pointer (some ⟨bo, 0 + j * 2, none⟩)), (35, .pointer (some ⟨bo, 0 + j * 2 + 0, none⟩)), (36, .string y0), (37, .slice (some ⟨q22, 0, none⟩) 5 5)] (fun w => Strm 25 w B sb (m + 20 + 1 + 1)) [(q11, 9, [.string y0, .string y0, .string ⟨#[]⟩, .string ⟨#[65]⟩, .string ⟨#[122, 101, 100]⟩]), (q22, 9, [.string y1, .string ⟨#[109, 105, 110, 105]⟩, .string ⟨#[110, 111, 110, 101]⟩, .string ⟨#[65]⟩, .string y0])] [⟨.slice (some ⟨bo, 0, none⟩) 4 c, 159, 2, 4, l.flatMap csEnc⟩] [] := by
   intro q11 q22
   rw [hW]
   refine wa1 12 rfl ?_
   refine wl_got (γ := ByteArray) (val := fun v => .string v) (φ := fun v => v ∈ ([y0, y0, ⟨#[]⟩, ⟨#[65]⟩, ⟨#[122, 101, 100]⟩] : List ByteArray)) rfl cb43 rfl rfl rfl rfl (fun wx hm => (some_any [y0, y0, ⟨#[]⟩, ⟨#[65]⟩, ⟨#[122, 101, 100]⟩] _ _ _ wx B sb _ hm.k (by omega) (by simp) (by simp) (hm.blkI 0 rfl) (hm.neRow 0 rfl rfl))) fun k12 hk12 => ?_
   refine wl_nil ?_
   refine nw 30 8388607 (fun _ _ => trivial) fun z => ?_
   refine wa1 23 rfl ?_
   refine wl_got (γ := ByteArray) (val := fun v => .string v) (φ := fun v => v ∈ ([y1, ⟨#[109, 105, 110, 105]⟩, ⟨#[110, 111, 110, 101]⟩, ⟨#[65]⟩, y0] : List ByteArray)) rfl cb43 rfl rfl rfl rfl (fun wx hm => (some_any [y1, ⟨#[109, 105, 110, 105]⟩, ⟨#[110, 111, 110, 101]⟩, ⟨#[65]⟩, y0] _ _ _ wx B sb _ hm.k (by omega) (by simp) (by simp) (hm.blkI 1 rfl) (hm.neRow 1 rfl rfl))) fun k23 hk23 => ?_
   refine wl_nil ?_
   refine nw 30 16777215 (fun _ _ => trivial) fun z => ?_
   refine wt 24 30 33554431 rfl z (ov_nilcheck rfl) ?_
   refine wt 25 30 67108863 rfl z (ov_field fo159_0 rfl rfl) ?_
   refine wa1 26 rfl ?_
   refine wl_storeE (l := l) (j := j) (r := 0) (el := ⟨y0, y1⟩) (el' := ⟨k12, y1⟩) 0 sc9 rfl rfl rfl rfl cs_len rfl hy hl4 (by decide) rfl rfl ?_
   refine wl_nil ?_
   refine nw 30 134217727 (fun _ _ => trivial) fun z => ?_
   refine wt 27 30 268435455 rfl z (ov_nilcheck rfl) ?_
   refine wt 28 30 536870911 rfl z (ov_field fo159_1 rfl rfl) ?_
   refine wa1 29 rfl ?_
   have hy2 : (l.set j ⟨k12, y1⟩)[j]? = some (⟨k12, y1⟩ : Cs) := by rw [List.getElem?_set_self (by omega)]
   have hl42 : (l.set j ⟨k12, y1⟩).length = 4 := by simp [hl4]
   refine wl_storeE (l := (l.set j ⟨k12, y1⟩)) (j := j) (r := 1) (el := ⟨k12, y1⟩) (el' := ⟨k12, k23⟩) 0 sc9 rfl rfl rfl rfl cs_len rfl hy2 hl42 (by decide) rfl rfl ?_
   refine wl_nil ?_
   refine nw 30 1073741823 (fun _ _ => trivial) fun z => ?_
   refine wa_done (by kernel_rfl) ?_
   refine nx_then (sr_ (mv_ rfl (sg_ rfl (nn_ ?_))))
   refine gw_ret ?_
   refine nx_ret1 rfl rfl fun wx hm => ?_
   exact ⟨some ⟨bo, 0, none⟩, c, _, rfl, hm.ownI 0 rfl, (by simp [hl4]), cs_mem (cs_mem hok ⟨(show k12.size ≤ 1000000 by rcases mem5 hk12 with h | h | h | h | h <;> rw [h] <;> first | assumption | decide), hy1⟩) ⟨(show k12.size ≤ 1000000 by rcases mem5 hk12 with h | h | h | h | h <;> rw [h] <;> first | assumption | decide), (show k23.size ≤ 1000000 by rcases mem5 hk23 with h | h | h | h | h <;> rw [h] <;> first | assumption | decide)⟩, hm.k.more (by omega), hm.g⟩
  have J4190207 : ∀ (q11 : Nat), W 9 (lb 30 4190207) [(0, .pointer (some ⟨sb, 0, none⟩)), (2, .slice none 0 0), (3, .slice (some ⟨bo, 0, none⟩) 4 c), (4, .pointer (some ⟨bo, 0 + j * 2, none⟩)), (5, .pointer (some ⟨sb, 0, none⟩)), (6, .slice (some ⟨bo, 0, none⟩) 4 c), (7, .pointer (some ⟨sb, 0, none⟩)), (8, .bool f1), (9, .slice (some ⟨bo, 0, none⟩) 4 c), (10, .pointer (some ⟨sb, 0, none⟩)), (11, .slice (some ⟨bo, 0, none⟩) 4 c), (12, .int .i64 4), (13, .int .i64 ((j : Nat) : Int)), (14, .pointer (some ⟨bo, 0 + j * 2, none⟩)), (15, .pointer (some ⟨bo, 0 + j * 2, none⟩)), (16, .pointer (some ⟨bo, 0 + j * 2, none⟩)), (17, .pointer (some ⟨sb, 0, none⟩)), (18, .pointer (some ⟨bo, 0 + j * 2, none⟩)), (19, .pointer (some ⟨bo, 0 + j * 2, none⟩)), (20, .pointer (some ⟨bo, 0 + j * 2 + 0, none⟩)), (21, .string y0), (22, .pointer (some ⟨bo, 0 + j * 2, none⟩)), (23, .pointer (some ⟨bo, 0 + j * 2, none⟩)), (24, .pointer (some ⟨bo, 0 + j * 2 + 0, none⟩)), (25, .string y0), (26, .slice (some ⟨q11, 0, none⟩) 5 5), (28, .pointer (some ⟨sb, 0, none⟩)), (29, .pointer (some ⟨bo, 0 + j * 2, none⟩)), (30, .pointer (some ⟨bo, 0 + j * 2, none⟩)), (31, .pointer (some ⟨bo, 0 + j * 2 + 1, none⟩)), (32, .string y1), (33, .pointer (some ⟨bo, 0 + j * 2, none⟩)), (34, .pointer (some ⟨bo, 0 + j * 2, none⟩)), (35, .pointer (some ⟨bo, 0 + j * 2 + 0, none⟩)), (36, .string y0)] (fun w => Strm 25 w B sb (m + 20 + 1 + 1)) [(q11, 9, [.string y0, .string y0, .string ⟨#[]⟩, .string ⟨#[65]⟩, .string ⟨#[122, 101, 100]⟩])] [⟨.slice (some ⟨bo, 0, none⟩) 4 c, 159, 2, 4, l.flatMap csEnc⟩] [] := by
   intro q11
   rw [hW]
   refine wa_all [12, 22] (by kernel_rfl) rfl ⟨⟨_, rfl, ?_⟩, ⟨_, rfl, ?_⟩, trivial⟩
   ·refine wl_got (γ := ByteArray) (val := fun v => .string v) (φ := fun v => v ∈ ([y0, y0, ⟨#[]⟩, ⟨#[65]⟩, ⟨#[122, 101, 100]⟩] : List ByteArray)) rfl cb43 rfl rfl rfl rfl (fun wx hm => (some_any [y0, y0, ⟨#[]⟩, ⟨#[65]⟩, ⟨#[122, 101, 100]⟩] _ _ _ wx B sb _ hm.k (by omega) (by simp) (by simp) (hm.blkI 0 rfl) (hm.neRow 0 rfl rfl))) fun k12 hk12 => ?_
    refine wl_nil ?_
    refine nw 30 4194303 (fun _ _ => trivial) fun z => ?_
    have h := T4194303 q11 k12 hk12
    rw [hW] at h
    refine wa_weak ?_ ?_ h
    ·exact ⟨rfl, rfl, rfl, rfl, rfl, rfl, rfl, rfl, rfl, rfl, rfl, rfl, rfl, rfl, rfl, rfl, rfl, rfl, rfl, rfl, rfl, rfl, rfl, rfl, rfl, rfl, rfl, rfl, rfl, rfl, rfl, rfl, rfl, rfl, rfl, rfl, trivial⟩
    exact fun _ hm => hm.pick [0] [0] [] rfl rfl
   refine wl_buildSlice (e := 9) (cs := [.string y1, .string ⟨#[109, 105, 110, 105]⟩, .string ⟨#[110, 111, 110, 101]⟩, .string ⟨#[65]⟩, .string y0]) rfl (by kernel_rfl) rfl fun q22 => ?_
   refine wl_nil ?_
   refine nw 30 8384511 (fun _ _ => trivial) fun z => ?_
   have h := T8384511 q11 q22
   rw [hW] at h
   refine wa_weak ?_ ?_ h
   ·exact ⟨rfl, rfl, rfl, rfl, rfl, rfl, rfl, rfl, rfl, rfl, rfl, rfl, rfl, rfl, rfl, rfl, rfl, rfl, rfl, rfl, rfl, rfl, rfl, rfl, rfl, rfl, rfl, rfl, rfl, rfl, rfl, rfl, rfl, rfl, rfl, rfl, trivial⟩
   exact fun _ hm => hm.pick [1, 0] [0] [] rfl rfl
  have J2093055 : ∀ (q11 : Nat), W 10 (lb 30 2093055) [(0, .pointer (some ⟨sb, 0, none⟩)), (2, .slice none 0 0), (3, .slice (some ⟨bo, 0, none⟩) 4 c), (4, .pointer (some ⟨bo, 0 + j * 2, none⟩)), (5, .pointer (some ⟨sb, 0, none⟩)), (6, .slice (some ⟨bo, 0, none⟩) 4 c), (7, .pointer (some ⟨sb, 0, none⟩)), (8, .bool f1), (9, .slice (some ⟨bo, 0, none⟩) 4 c), (10, .pointer (some ⟨sb, 0, none⟩)), (11, .slice (some ⟨bo, 0, none⟩) 4 c), (12, .int .i64 4), (13, .int .i64 ((j : Nat) : Int)), (14, .pointer (some ⟨bo, 0 + j * 2, none⟩)), (15, .pointer (some ⟨bo, 0 + j * 2, none⟩)), (16, .pointer (some ⟨bo, 0 + j * 2, none⟩)), (17, .pointer (some ⟨sb, 0, none⟩)), (18, .pointer (some ⟨bo, 0 + j * 2, none⟩)), (19, .pointer (some ⟨bo, 0 + j * 2, none⟩)), (20, .pointer (some ⟨bo, 0 + j * 2 + 0, none⟩)), (21, .string y0), (22, .pointer (some ⟨bo, 0 + j * 2, none⟩)), (23, .pointer (some ⟨bo, 0 + j * 2, none⟩)), (24, .pointer (some ⟨bo, 0 + j * 2 + 0, none⟩)), (25, .string y0), (26, .slice (some ⟨q11, 0, none⟩) 5 5), (28, .pointer (some ⟨sb, 0, none⟩)), (29, .pointer (some ⟨bo, 0 + j * 2, none⟩)), (30, .pointer (some ⟨bo, 0 + j * 2, none⟩)), (31, .pointer (some ⟨bo, 0 + j * 2 + 1, none⟩)), (32, .string y1), (33, .pointer (some ⟨bo, 0 + j * 2, none⟩)), (34, .pointer (some ⟨bo, 0 + j * 2, none⟩)), (35, .pointer (some ⟨bo, 0 + j * 2 + 0, none⟩))] (fun w => Strm 25 w B sb (m + 20 + 1 + 1)) [(q11, 9, [.string y0, .string y0, .string ⟨#[]⟩, .string ⟨#[65]⟩, .string ⟨#[122, 101, 100]⟩])] [⟨.slice (some ⟨bo, 0, none⟩) 4 c, 159, 2, 4, l.flatMap csEnc⟩] [] := by
   intro q11
   rw [hW]
   refine wa_all [12, 21] (by kernel_rfl) rfl ⟨⟨_, rfl, ?_⟩, ⟨_, rfl, ?_⟩, trivial⟩
   ·refine wl_got (γ := ByteArray) (val := fun v => .string v) (φ := fun v => v ∈ ([y0, y0, ⟨#[]⟩, ⟨#[65]⟩, ⟨#[122, 101, 100]⟩] : List ByteArray)) rfl cb43 rfl rfl rfl rfl (fun wx hm => (some_any [y0, y0, ⟨#[]⟩, ⟨#[65]⟩, ⟨#[122, 101, 100]⟩] _ _ _ wx B sb _ hm.k (by omega) (by simp) (by simp) (hm.blkI 0 rfl) (hm.neRow 0 rfl rfl))) fun k12 hk12 => ?_
    refine wl_nil ?_
    refine nw 30 2097151 (fun _ _ => trivial) fun z => ?_
    have h := T2097151 q11 k12 hk12
    rw [hW] at h
    refine wa_weak ?_ ?_ h
    ·exact ⟨rfl, rfl, rfl, rfl, rfl, rfl, rfl, rfl, rfl, rfl, rfl, rfl, rfl, rfl, rfl, rfl, rfl, rfl, rfl, rfl, rfl, rfl, rfl, rfl, rfl, rfl, rfl, rfl, rfl, rfl, rfl, rfl, rfl, rfl, rfl, trivial⟩
    exact fun _ hm => hm.pick [0] [0] [] rfl rfl
   refine wl_ov (ov_elem1 (k := 0) (v := .string y0) sc9 rfl (fun _ hm => (SlT.ofOwn cs_len (hm.ownI 0 rfl) hl4)) hy rfl rfl) rfl ?_
   refine wl_nil ?_
   refine nw 30 4190207 (fun _ _ => trivial) fun z => ?_
   have h := J4190207 q11
   rw [hW] at h
   refine wa_weak ?_ ?_ h
   ·exact ⟨rfl, rfl, rfl, rfl, rfl, rfl, rfl, rfl, rfl, rfl, rfl, rfl, rfl, rfl, rfl, rfl, rfl, rfl, rfl, rfl, rfl, rfl, rfl, rfl, rfl, rfl, rfl, rfl, rfl, rfl, rfl, rfl, rfl, rfl, rfl, trivial⟩
   exact fun _ hm => hm.pick [0] [0] [] rfl rfl
  have J4059135 : ∀ (q11 : Nat), W 10 (lb 30 4059135) [(0, .pointer (some ⟨sb, 0, none⟩)), (2, .slice none 0 0), (3, .slice (some ⟨bo, 0, none⟩) 4 c), (4, .pointer (some ⟨bo, 0 + j * 2, none⟩)), (5, .pointer (some ⟨sb, 0, none⟩)), (6, .slice (some ⟨bo, 0, none⟩) 4 c), (7, .pointer (some ⟨sb, 0, none⟩)), (8, .bool f1), (9, .slice (some ⟨bo, 0, none⟩) 4 c), (10, .pointer (some ⟨sb, 0, none⟩)), (11, .slice (some ⟨bo, 0, none⟩) 4 c), (12, .int .i64 4), (13, .int .i64 ((j : Nat) : Int)), (14, .pointer (some ⟨bo, 0 + j * 2, none⟩)), (15, .pointer (some ⟨bo, 0 + j * 2, none⟩)), (16, .pointer (some ⟨bo, 0 + j * 2, none⟩)), (17, .pointer (some ⟨sb, 0, none⟩)), (18, .pointer (some ⟨bo, 0 + j * 2, none⟩)), (19, .pointer (some ⟨bo, 0 + j * 2, none⟩)), (20, .pointer (some ⟨bo, 0 + j * 2 + 0, none⟩)), (21, .string y0), (22, .pointer (some ⟨bo, 0 + j * 2, none⟩)), (23, .pointer (some ⟨bo, 0 + j * 2, none⟩)), (24, .pointer (some ⟨bo, 0 + j * 2 + 0, none⟩)), (25, .string y0), (26, .slice (some ⟨q11, 0, none⟩) 5 5), (28, .pointer (some ⟨sb, 0, none⟩)), (29, .pointer (some ⟨bo, 0 + j * 2, none⟩)), (30, .pointer (some ⟨bo, 0 + j * 2, none⟩)), (31, .pointer (some ⟨bo, 0 + j * 2 + 1, none⟩)), (33, .pointer (some ⟨bo, 0 + j * 2, none⟩)), (34, .pointer (some ⟨bo, 0 + j * 2, none⟩)), (35, .pointer (some ⟨bo, 0 + j * 2 + 0, none⟩)), (36, .string y0)] (fun w => Strm 25 w B sb (m + 20 + 1 + 1)) [(q11, 9, [.string y0, .string y0, .string ⟨#[]⟩, .string ⟨#[65]⟩, .string ⟨#[122, 101, 100]⟩])] [⟨.slice (some ⟨bo, 0, none⟩) 4 c, 159, 2, 4, l.flatMap csEnc⟩] [] := by
   intro q11
   rw [hW]
   refine wa_all [12, 17] (by kernel_rfl) rfl ⟨⟨_, rfl, ?_⟩, ⟨_, rfl, ?_⟩, trivial⟩
   ·refine wl_got (γ := ByteArray) (val := fun v => .string v) (φ := fun v => v ∈ ([y0, y0, ⟨#[]⟩, ⟨#[65]⟩, ⟨#[122, 101, 100]⟩] : List ByteArray)) rfl cb43 rfl rfl rfl rfl (fun wx hm => (some_any [y0, y0, ⟨#[]⟩, ⟨#[65]⟩, ⟨#[122, 101, 100]⟩] _ _ _ wx B sb _ hm.k (by omega) (by simp) (by simp) (hm.blkI 0 rfl) (hm.neRow 0 rfl rfl))) fun k12 hk12 => ?_
    refine wl_nil ?_
    refine nw 30 4063231 (fun _ _ => trivial) fun z => ?_
    have h := T4063231 q11 k12 hk12
    rw [hW] at h
    refine wa_weak ?_ ?_ h
    ·exact ⟨rfl, rfl, rfl, rfl, rfl, rfl, rfl, rfl, rfl, rfl, rfl, rfl, rfl, rfl, rfl, rfl, rfl, rfl, rfl, rfl, rfl, rfl, rfl, rfl, rfl, rfl, rfl, rfl, rfl, rfl, rfl, rfl, rfl, rfl, rfl, trivial⟩
    exact fun _ hm => hm.pick [0] [0] [] rfl rfl
   refine wl_ov (ov_elem1 (k := 1) (v := .string y1) sc9 rfl (fun _ hm => (SlT.ofOwn cs_len (hm.ownI 0 rfl) hl4)) hy rfl rfl) rfl ?_
   refine wl_nil ?_
   refine nw 30 4190207 (fun _ _ => trivial) fun z => ?_
   have h := J4190207 q11
   rw [hW] at h
   refine wa_weak ?_ ?_ h
   ·exact ⟨rfl, rfl, rfl, rfl, rfl, rfl, rfl, rfl, rfl, rfl, rfl, rfl, rfl, rfl, rfl, rfl, rfl, rfl, rfl, rfl, rfl, rfl, rfl, rfl, rfl, rfl, rfl, rfl, rfl, rfl, rfl, rfl, rfl, rfl, rfl, trivial⟩
   exact fun _ hm => hm.pick [0] [0] [] rfl rfl
  have J1961983 : ∀ (q11 : Nat), W 11 (lb 30 1961983) [(0, .pointer (some ⟨sb, 0, none⟩)), (2, .slice none 0 0), (3, .slice (some ⟨bo, 0, none⟩) 4 c), (4, .pointer (some ⟨bo, 0 + j * 2, none⟩)), (5, .pointer (some ⟨sb, 0, none⟩)), (6, .slice (some ⟨bo, 0, none⟩) 4 c), (7, .pointer (some ⟨sb, 0, none⟩)), (8, .bool f1), (9, .slice (some ⟨bo, 0, none⟩) 4 c), (10, .pointer (some ⟨sb, 0, none⟩)), (11, .slice (some ⟨bo, 0, none⟩) 4 c), (12, .int .i64 4), (13, .int .i64 ((j : Nat) : Int)), (14, .pointer (some ⟨bo, 0 + j * 2, none⟩)), (15, .pointer (some ⟨bo, 0 + j * 2, none⟩)), (16, .pointer (some ⟨bo, 0 + j * 2, none⟩)), (17, .pointer (some ⟨sb, 0, none⟩)), (18, .pointer (some ⟨bo, 0 + j * 2, none⟩)), (19, .pointer (some ⟨bo, 0 + j * 2, none⟩)), (20, .pointer (some ⟨bo, 0 + j * 2 + 0, none⟩)), (21, .string y0), (22, .pointer (some ⟨bo, 0 + j * 2, none⟩)), (23, .pointer (some ⟨bo, 0 + j * 2, none⟩)), (24, .pointer (some ⟨bo, 0 + j * 2 + 0, none⟩)), (25, .string y0), (26, .slice (some ⟨q11, 0, none⟩) 5 5), (28, .pointer (some ⟨sb, 0, none⟩)), (29, .pointer (some ⟨bo, 0 + j * 2, none⟩)), (30, .pointer (some ⟨bo, 0 + j * 2, none⟩)), (31, .pointer (some ⟨bo, 0 + j * 2 + 1, none⟩)), (33, .pointer (some ⟨bo, 0 + j * 2, none⟩)), (34, .pointer (some ⟨bo, 0 + j * 2, none⟩)), (35, .pointer (some ⟨bo, 0 + j * 2 + 0, none⟩))] (fun w => Strm 25 w B sb (m + 20 + 1 + 1)) [(q11, 9, [.string y0, .string y0, .string ⟨#[]⟩, .string ⟨#[65]⟩, .string ⟨#[122, 101, 100]⟩])] [⟨.slice (some ⟨bo, 0, none⟩) 4 c, 159, 2, 4, l.flatMap csEnc⟩] [] := by
   intro q11
   rw [hW]
   refine wa_all [12, 17, 21] (by kernel_rfl) rfl ⟨⟨_, rfl, ?_⟩, ⟨_, rfl, ?_⟩, ⟨_, rfl, ?_⟩, trivial⟩
   ·refine wl_got (γ := ByteArray) (val := fun v => .string v) (φ := fun v => v ∈ ([y0, y0, ⟨#[]⟩, ⟨#[65]⟩, ⟨#[122, 101, 100]⟩] : List ByteArray)) rfl cb43 rfl rfl rfl rfl (fun wx hm => (some_any [y0, y0, ⟨#[]⟩, ⟨#[65]⟩, ⟨#[122, 101, 100]⟩] _ _ _ wx B sb _ hm.k (by omega) (by simp) (by simp) (hm.blkI 0 rfl) (hm.neRow 0 rfl rfl))) fun k12 hk12 => ?_
    refine wl_nil ?_
    refine nw 30 1966079 (fun _ _ => trivial) fun z => ?_
    have h := J1966079 q11 k12 hk12
    rw [hW] at h
    refine wa_weak ?_ ?_ h
    ·exact ⟨rfl, rfl, rfl, rfl, rfl, rfl, rfl, rfl, rfl, rfl, rfl, rfl, rfl, rfl, rfl, rfl, rfl, rfl, rfl, rfl, rfl, rfl, rfl, rfl, rfl, rfl, rfl, rfl, rfl, rfl, rfl, rfl, rfl, rfl, trivial⟩
    exact fun _ hm => hm.pick [0] [0] [] rfl rfl
   ·refine wl_ov (ov_elem1 (k := 1) (v := .string y1) sc9 rfl (fun _ hm => (SlT.ofOwn cs_len (hm.ownI 0 rfl) hl4)) hy rfl rfl) rfl ?_
    refine wl_nil ?_
    refine nw 30 2093055 (fun _ _ => trivial) fun z => ?_
    have h := J2093055 q11
    rw [hW] at h
    refine wa_weak ?_ ?_ h
    ·exact ⟨rfl, rfl, rfl, rfl, rfl, rfl, rfl, rfl, rfl, rfl, rfl, rfl, rfl, rfl, rfl, rfl, rfl, rfl, rfl, rfl, rfl, rfl, rfl, rfl, rfl, rfl, rfl, rfl, rfl, rfl, rfl, rfl, rfl, rfl, trivial⟩
    exact fun _ hm => hm.pick [0] [0] [] rfl rfl
   refine wl_ov (ov_elem1 (k := 0) (v := .string y0) sc9 rfl (fun _ hm => (SlT.ofOwn cs_len (hm.ownI 0 rfl) hl4)) hy rfl rfl) rfl ?_
   refine wl_nil ?_
   refine nw 30 4059135 (fun _ _ => trivial) fun z => ?_
   have h := J4059135 q11
   rw [hW] at h
   refine wa_weak ?_ ?_ h
   ·exact ⟨rfl, rfl, rfl, rfl, rfl, rfl, rfl, rfl, rfl, rfl, rfl, rfl, rfl, rfl, rfl, rfl, rfl, rfl, rfl, rfl, rfl, rfl, rfl, rfl, rfl, rfl, rfl, rfl, rfl, rfl, rfl, rfl, rfl, rfl, trivial⟩
   exact fun _ hm => hm.pick [0] [0] [] rfl rfl
  have T8382463 : ∀ (q22 : Nat), W 9 (lb 30 8382463) [(0, .pointer (some ⟨sb, 0, none⟩)), (2, .slice none 0 0), (3, .slice (some ⟨bo, 0, none⟩) 4 c), (4, .pointer (some ⟨bo, 0 + j * 2, none⟩)), (5, .pointer (some ⟨sb, 0, none⟩)), (6, .slice (some ⟨bo, 0, none⟩) 4 c), (7, .pointer (some ⟨sb, 0, none⟩)), (8, .bool f1), (9, .slice (some ⟨bo, 0, none⟩) 4 c), (10, .pointer (some ⟨sb, 0, none⟩)), (11, .slice (some ⟨bo, 0, none⟩) 4 c), (12, .int .i64 4), (13, .int .i64 ((j : Nat) : Int)), (14, .pointer (some ⟨bo, 0 + j * 2, none⟩)), (15, .pointer (some ⟨bo, 0 + j * 2, none⟩)), (16, .pointer (some ⟨bo, 0 + j * 2, none⟩)), (17, .pointer (some ⟨sb, 0, none⟩)), (18, .pointer (some ⟨bo, 0 + j * 2, none⟩)), (19, .pointer (some ⟨bo, 0 + j * 2, none⟩)), (20, .pointer (some ⟨bo, 0 + j * 2 + 0, none⟩)), (21, .string y0), (22, .pointer (some ⟨bo, 0 + j * 2, none⟩)), (23, .pointer (some ⟨bo, 0 + j * 2, none⟩)), (24, .pointer (some ⟨bo, 0 + j * 2 + 0, none⟩)), (25, .string y0), (28, .pointer (some ⟨sb, 0, none⟩)), (29, .pointer (some ⟨bo, 0 + j * 2, none⟩)), (30, .pointer (some ⟨bo, 0 + j * 2, none⟩)), (31, .pointer (some ⟨bo, 0 + j * 2 + 1, none⟩)), (32, .string y1), (33, .pointer (some ⟨bo, 0 + j * 2, none⟩)), (34, .pointer (some ⟨bo, 0 + j * 2, none⟩)), (35, .pointer (some ⟨bo, 0 + j * 2 + 0, none⟩)), (36, .string y0), (37, .slice (some ⟨q22, 0, none⟩) 5 5)] (fun w => Strm 25 w B sb (m + 20 + 1 + 1)) [(q22, 9, [.string y1, .string ⟨#[109, 105, 110, 105]⟩, .string ⟨#[110, 111, 110, 101]⟩, .string ⟨#[65]⟩, .string y0])] [⟨.slice (some ⟨bo, 0, none⟩) 4 c, 159, 2, 4, l.flatMap csEnc⟩] [] := by
   intro q22
   rw [hW]
   refine wa1 11 rfl ?_
   refine wl_buildSlice (e := 9) (cs := [.string y0, .string y0, .string ⟨#[]⟩, .string ⟨#[65]⟩, .string ⟨#[122, 101, 100]⟩]) rfl (by kernel_rfl) rfl fun q11 => ?_
   refine wl_nil ?_
   refine nw 30 8384511 (fun _ _ => trivial) fun z => ?_
   refine wa1 12 rfl ?_
   refine wl_got (γ := ByteArray) (val := fun v => .string v) (φ := fun v => v ∈ ([y0, y0, ⟨#[]⟩, ⟨#[65]⟩, ⟨#[122, 101, 100]⟩] : List ByteArray)) rfl cb43 rfl rfl rfl rfl (fun wx hm => (some_any [y0, y0, ⟨#[]⟩, ⟨#[65]⟩, ⟨#[122, 101, 100]⟩] _ _ _ wx B sb _ hm.k (by omega) (by simp) (by simp) (hm.blkI 0 rfl) (hm.neRow 0 rfl rfl))) fun k12 hk12 => ?_
   refine wl_nil ?_
   refine nw 30 8388607 (fun _ _ => trivial) fun z => ?_
   refine wa1 23 rfl ?_
   refine wl_got (γ := ByteArray) (val := fun v => .string v) (φ := fun v => v ∈ ([y1, ⟨#[109, 105, 110, 105]⟩, ⟨#[110, 111, 110, 101]⟩, ⟨#[65]⟩, y0] : List ByteArray)) rfl cb43 rfl rfl rfl rfl (fun wx hm => (some_any [y1, ⟨#[109, 105, 110, 105]⟩, ⟨#[110, 111, 110, 101]⟩, ⟨#[65]⟩, y0] _ _ _ wx B sb _ hm.k (by omega) (by simp) (by simp) (hm.blkI 1 rfl) (hm.neRow 1 rfl rfl))) fun k23 hk23 => ?_
   refine wl_nil ?_
   refine nw 30 16777215 (fun _ _ => trivial) fun z => ?_
   refine wt 24 30 33554431 rfl z (ov_nilcheck rfl) ?_
   refine wt 25 30 67108863 rfl z (ov_field fo159_0 rfl rfl) ?_
   refine wa1 26 rfl ?_
   refine wl_storeE (l := l) (j := j) (r := 0) (el := ⟨y0, y1⟩) (el' := ⟨k12, y1⟩) 0 sc9 rfl rfl rfl rfl cs_len rfl hy hl4 (by decide) rfl rfl ?_
   refine wl_nil ?_
   refine nw 30 134217727 (fun _ _ => trivial) fun z => ?_
   refine wt 27 30 268435455 rfl z (ov_nilcheck rfl) ?_
   refine wt 28 30 536870911 rfl z (ov_field fo159_1 rfl rfl) ?_
   refine wa1 29 rfl ?_
   have hy2 : (l.set j ⟨k12, y1⟩)[j]? = some (⟨k12, y1⟩ : Cs) := by rw [List.getElem?_set_self (by omega)]
   have hl42 : (l.set j ⟨k12, y1⟩).length = 4 := by simp [hl4]
   refine wl_storeE (l := (l.set j ⟨k12, y1⟩)) (j := j) (r := 1) (el := ⟨k12, y1⟩) (el' := ⟨k12, k23⟩) 0 sc9 rfl rfl rfl rfl cs_len rfl hy2 hl42 (by decide) rfl rfl ?_
   refine wl_nil ?_
   refine nw 30 1073741823 (fun _ _ => trivial) fun z => ?_
   refine wa_done (by kernel_rfl) ?_
   refine nx_then (sr_ (mv_ rfl (sg_ rfl (nn_ ?_))))
   refine gw_ret ?_
   refine nx_ret1 rfl rfl fun wx hm => ?_
   exact ⟨some ⟨bo, 0, none⟩, c, _, rfl, hm.ownI 0 rfl, (by simp [hl4]), cs_mem (cs_mem hok ⟨(show k12.size ≤ 1000000 by rcases mem5 hk12 with h | h | h | h | h <;> rw [h] <;> first | assumption | decide), hy1⟩) ⟨(show k12.size ≤ 1000000 by rcases mem5 hk12 with h | h | h | h | h <;> rw [h] <;> first | assumption | decide), (show k23.size ≤ 1000000 by rcases mem5 hk23 with h | h | h | h | h <;> rw [h] <;> first | assumption | decide)⟩, hm.k.more (by omega), hm.g⟩
  have J4188159 : W 10 (lb 30 4188159) [(0, .pointer (some ⟨sb, 0, none⟩)), (2, .slice none 0 0), (3, .slice (some ⟨bo, 0, none⟩) 4 c), (4, .pointer (some ⟨bo, 0 + j * 2, none⟩)), (5, .pointer (some ⟨sb, 0, none⟩)), (6, .slice (some ⟨bo, 0, none⟩) 4 c), (7, .pointer (some ⟨sb, 0, none⟩)), (8, .bool f1), (9, .slice (some ⟨bo, 0, none⟩) 4 c), (10, .pointer (some ⟨sb, 0, none⟩)), (11, .slice (some ⟨bo, 0, none⟩) 4 c), (12, .int .i64 4), (13, .int .i64 ((j : Nat) : Int)), (14, .pointer (some ⟨bo, 0 + j * 2, none⟩)), (15, .pointer (some ⟨bo, 0 + j * 2, none⟩)), (16, .pointer (some ⟨bo, 0 + j * 2, none⟩)), (17, .pointer (some ⟨sb, 0, none⟩)), (18, .pointer (some ⟨bo, 0 + j * 2, none⟩)), (19, .pointer (some ⟨bo, 0 + j * 2, none⟩)), (20, .pointer (some ⟨bo, 0 + j * 2 + 0, none⟩)), (21, .string y0), (22, .pointer (some ⟨bo, 0 + j * 2, none⟩)), (23, .pointer (some ⟨bo, 0 + j * 2, none⟩)), (24, .pointer (some ⟨bo, 0 + j * 2 + 0, none⟩)), (25, .string y0), (28, .pointer (some ⟨sb, 0, none⟩)), (29, .pointer (some ⟨bo, 0 + j * 2, none⟩)), (30, .pointer (some ⟨bo, 0 + j * 2, none⟩)), (31, .pointer (some ⟨bo, 0 + j * 2 + 1, none⟩)), (32, .string y1), (33, .pointer (some ⟨bo, 0 + j * 2, none⟩)), (34, .pointer (some ⟨bo, 0 + j * 2, none⟩)), (35, .pointer (some ⟨bo, 0 + j * 2 + 0, none⟩)), (36, .string y0)] (fun w => Strm 25 w B sb (m + 20 + 1 + 1)) [] [⟨.slice (some ⟨bo, 0, none⟩) 4 c, 159, 2, 4, l.flatMap csEnc⟩] [] := by
   skip
   rw [hW]
   refine wa_all [11, 22] (by kernel_rfl) rfl ⟨⟨_, rfl, ?_⟩, ⟨_, rfl, ?_⟩, trivial⟩
   ·refine wl_buildSlice (e := 9) (cs := [.string y0, .string y0, .string ⟨#[]⟩, .string ⟨#[65]⟩, .string ⟨#[122, 101, 100]⟩]) rfl (by kernel_rfl) rfl fun q11 => ?_
    refine wl_nil ?_
    refine nw 30 4190207 (fun _ _ => trivial) fun z => ?_
    have h := J4190207 q11
    rw [hW] at h
    refine wa_weak ?_ ?_ h
    ·exact ⟨rfl, rfl, rfl, rfl, rfl, rfl, rfl, rfl, rfl, rfl, rfl, rfl, rfl, rfl, rfl, rfl, rfl, rfl, rfl, rfl, rfl, rfl, rfl, rfl, rfl, rfl, rfl, rfl, rfl, rfl, rfl, rfl, rfl, rfl, rfl, trivial⟩
    exact fun _ hm => hm.pick [0] [0] [] rfl rfl
   refine wl_buildSlice (e := 9) (cs := [.string y1, .string ⟨#[109, 105, 110, 105]⟩, .string ⟨#[110, 111, 110, 101]⟩, .string ⟨#[65]⟩, .string y0]) rfl (by kernel_rfl) rfl fun q22 => ?_
   refine wl_nil ?_
   refine nw 30 8382463 (fun _ _ => trivial) fun z => ?_
   have h := T8382463 q22
   rw [hW] at h
   refine wa_weak ?_ ?_ h
   ·exact ⟨rfl, rfl, rfl, rfl, rfl, rfl, rfl, rfl, rfl, rfl, rfl, rfl, rfl, rfl, rfl, rfl, rfl, rfl, rfl, rfl, rfl, rfl, rfl, rfl, rfl, rfl, rfl, rfl, rfl, rfl, rfl, rfl, rfl, rfl, rfl, trivial⟩
   exact fun _ hm => hm.pick [0] [0] [] rfl rfl
  have J2091007 : W 11 (lb 30 2091007) [(0, .pointer (some ⟨sb, 0, none⟩)), (2, .slice none 0 0), (3, .slice (some ⟨bo, 0, none⟩) 4 c), (4, .pointer (some ⟨bo, 0 + j * 2, none⟩)), (5, .pointer (some ⟨sb, 0, none⟩)), (6, .slice (some ⟨bo, 0, none⟩) 4 c), (7, .pointer (some ⟨sb, 0, none⟩)), (8, .bool f1), (9, .slice (some ⟨bo, 0, none⟩) 4 c), (10, .pointer (some ⟨sb, 0, none⟩)), (11, .slice (some ⟨bo, 0, none⟩) 4 c), (12, .int .i64 4), (13, .int .i64 ((j : Nat) : Int)), (14, .pointer (some ⟨bo, 0 + j * 2, none⟩)), (15, .pointer (some ⟨bo, 0 + j * 2, none⟩)), (16, .pointer (some ⟨bo, 0 + j * 2, none⟩)), (17, .pointer (some ⟨sb, 0, none⟩)), (18, .pointer (some ⟨bo, 0 + j * 2, none⟩)), (19, .pointer (some ⟨bo, 0 + j * 2, none⟩)), (20, .pointer (some ⟨bo, 0 + j * 2 + 0, none⟩)), (21, .string y0), (22, .pointer (some ⟨bo, 0 + j * 2, none⟩)), (23, .pointer (some ⟨bo, 0 + j * 2, none⟩)), (24, .pointer (some ⟨bo, 0 + j * 2 + 0, none⟩)), (25, .string y0), (28, .pointer (some ⟨sb, 0, none⟩)), (29, .pointer (some ⟨bo, 0 + j * 2, none⟩)), (30, .pointer (some ⟨bo, 0 + j * 2, none⟩)), (31, .pointer (some ⟨bo, 0 + j * 2 + 1, none⟩)), (32, .string y1), (33, .pointer (some ⟨bo, 0 + j * 2, none⟩)), (34, .pointer (some ⟨bo, 0 + j * 2, none⟩)), (35, .pointer (some ⟨bo, 0 + j * 2 + 0, none⟩))] (fun w => Strm 25 w B sb (m + 20 + 1 + 1)) [] [⟨.slice (some ⟨bo, 0, none⟩) 4 c, 159, 2, 4, l.flatMap csEnc⟩] [] := by
   skip
   rw [hW]
   refine wa_all [11, 21] (by kernel_rfl) rfl ⟨⟨_, rfl, ?_⟩, ⟨_, rfl, ?_⟩, trivial⟩
   ·refine wl_buildSlice (e := 9) (cs := [.string y0, .string y0, .string ⟨#[]⟩, .string ⟨#[65]⟩, .string ⟨#[122, 101, 100]⟩]) rfl (by kernel_rfl) rfl fun q11 => ?_
    refine wl_nil ?_
    refine nw 30 2093055 (fun _ _ => trivial) fun z => ?_
    have h := J2093055 q11
    rw [hW] at h
    refine wa_weak ?_ ?_ h
    ·exact ⟨rfl, rfl, rfl, rfl, rfl, rfl, rfl, rfl, rfl, rfl, rfl, rfl, rfl, rfl, rfl, rfl, rfl, rfl, rfl, rfl, rfl, rfl, rfl, rfl, rfl, rfl, rfl, rfl, rfl, rfl, rfl, rfl, rfl, rfl, trivial⟩
    exact fun _ hm => hm.pick [0] [0] [] rfl rfl
   refine wl_ov (ov_elem1 (k := 0) (v := .string y0) sc9 rfl (fun _ hm => (SlT.ofOwn cs_len (hm.ownI 0 rfl) hl4)) hy rfl rfl) rfl ?_
   refine wl_nil ?_
   refine nw 30 4188159 (fun _ _ => trivial) fun z => ?_
   have h := J4188159 
   rw [hW] at h
   refine wa_weak ?_ ?_ h
   ·exact ⟨rfl, rfl, rfl, rfl, rfl, rfl, rfl, rfl, rfl, rfl, rfl, rfl, rfl, rfl, rfl, rfl, rfl, rfl, rfl, rfl, rfl, rfl, rfl, rfl, rfl, rfl, rfl, rfl, rfl, rfl, rfl, rfl, rfl, rfl, trivial⟩
   exact fun _ hm => hm.pick [] [0] [] rfl rfl
  have J4057087 : W 11 (lb 30 4057087) [(0, .pointer (some ⟨sb, 0, none⟩)), (2, .slice none 0 0), (3, .slice (some ⟨bo, 0, none⟩) 4 c), (4, .pointer (some ⟨bo, 0 + j * 2, none⟩)), (5, .pointer (some ⟨sb, 0, none⟩)), (6, .slice (some ⟨bo, 0, none⟩) 4 c), (7, .pointer (some ⟨sb, 0, none⟩)), (8, .bool f1), (9, .slice (some ⟨bo, 0, none⟩) 4 c), (10, .pointer (some ⟨sb, 0, none⟩)), (11, .slice (some ⟨bo, 0, none⟩) 4 c), (12, .int .i64 4), (13, .int .i64 ((j : Nat) : Int)), (14, .pointer (some ⟨bo, 0 + j * 2, none⟩)), (15, .pointer (some ⟨bo, 0 + j * 2, none⟩)), (16, .pointer (some ⟨bo, 0 + j * 2, none⟩)), (17, .pointer (some ⟨sb, 0, none⟩)), (18, .pointer (some ⟨bo, 0 + j * 2, none⟩)), (19, .pointer (some ⟨bo, 0 + j * 2, none⟩)), (20, .pointer (some ⟨bo, 0 + j * 2 + 0, none⟩)), (21, .string y0), (22, .pointer (some ⟨bo, 0 + j * 2, none⟩)), (23, .pointer (some ⟨bo, 0 + j * 2, none⟩)), (24, .pointer (some ⟨bo, 0 + j * 2 + 0, none⟩)), (25, .string y0), (28, .pointer (some ⟨sb, 0, none⟩)), (29, .pointer (some ⟨bo, 0 + j * 2, none⟩)), (30, .pointer (some ⟨bo, 0 + j * 2, none⟩)), (31, .pointer (some ⟨bo, 0 + j * 2 + 1, none⟩)), (33, .pointer (some ⟨bo, 0 + j * 2, none⟩)), (34, .pointer (some ⟨bo, 0 + j * 2, none⟩)), (35, .pointer (some ⟨bo, 0 + j * 2 + 0, none⟩)), (36, .string y0)] (fun w => Strm 25 w B sb (m + 20 + 1 + 1)) [] [⟨.slice (some ⟨bo, 0, none⟩) 4 c, 159, 2, 4, l.flatMap csEnc⟩] [] := by
   skip
   rw [hW]
   refine wa_all [11, 17] (by kernel_rfl) rfl ⟨⟨_, rfl, ?_⟩, ⟨_, rfl, ?_⟩, trivial⟩
   ·refine wl_buildSlice (e := 9) (cs := [.string y0, .string y0, .string ⟨#[]⟩, .string ⟨#[65]⟩, .string ⟨#[122, 101, 100]⟩]) rfl (by kernel_rfl) rfl fun q11 => ?_
    refine wl_nil ?_
    refine nw 30 4059135 (fun _ _ => trivial) fun z => ?_
    have h := J4059135 q11
    rw [hW] at h
    refine wa_weak ?_ ?_ h
    ·exact ⟨rfl, rfl, rfl, rfl, rfl, rfl, rfl, rfl, rfl, rfl, rfl, rfl, rfl, rfl, rfl, rfl, rfl, rfl, rfl, rfl, rfl, rfl, rfl, rfl, rfl, rfl, rfl, rfl, rfl, rfl, rfl, rfl, rfl, rfl, trivial⟩
    exact fun _ hm => hm.pick [0] [0] [] rfl rfl
   refine wl_ov (ov_elem1 (k := 1) (v := .string y1) sc9 rfl (fun _ hm => (SlT.ofOwn cs_len (hm.ownI 0 rfl) hl4)) hy rfl rfl) rfl ?_
   refine wl_nil ?_
   refine nw 30 4188159 (fun _ _ => trivial) fun z => ?_
   have h := J4188159 
   rw [hW] at h
   refine wa_weak ?_ ?_ h
   ·exact ⟨rfl, rfl, rfl, rfl, rfl, rfl, rfl, rfl, rfl, rfl, rfl, rfl, rfl, rfl, rfl, rfl, rfl, rfl, rfl, rfl, rfl, rfl, rfl, rfl, rfl, rfl, rfl, rfl, rfl, rfl, rfl, rfl, rfl, rfl, trivial⟩
   exact fun _ hm => hm.pick [] [0] [] rfl rfl
  have J1959935 : W 12 (lb 30 1959935) [(0, .pointer (some ⟨sb, 0, none⟩)), (2, .slice none 0 0), (3, .slice (some ⟨bo, 0, none⟩) 4 c), (4, .pointer (some ⟨bo, 0 + j * 2, none⟩)), (5, .pointer (some ⟨sb, 0, none⟩)), (6, .slice (some ⟨bo, 0, none⟩) 4 c), (7, .pointer (some ⟨sb, 0, none⟩)), (8, .bool f1), (9, .slice (some ⟨bo, 0, none⟩) 4 c), (10, .pointer (some ⟨sb, 0, none⟩)), (11, .slice (some ⟨bo, 0, none⟩) 4 c), (12, .int .i64 4), (13, .int .i64 ((j : Nat) : Int)), (14, .pointer (some ⟨bo, 0 + j * 2, none⟩)), (15, .pointer (some ⟨bo, 0 + j * 2, none⟩)), (16, .pointer (some ⟨bo, 0 + j * 2, none⟩)), (17, .pointer (some ⟨sb, 0, none⟩)), (18, .pointer (some ⟨bo, 0 + j * 2, none⟩)), (19, .pointer (some ⟨bo, 0 + j * 2, none⟩)), (20, .pointer (some ⟨bo, 0 + j * 2 + 0, none⟩)), (21, .string y0), (22, .pointer (some ⟨bo, 0 + j * 2, none⟩)), (23, .pointer (some ⟨bo, 0 + j * 2, none⟩)), (24, .pointer (some ⟨bo, 0 + j * 2 + 0, none⟩)), (25, .string y0), (28, .pointer (some ⟨sb, 0, none⟩)), (29, .pointer (some ⟨bo, 0 + j * 2, none⟩)), (30, .pointer (some ⟨bo, 0 + j * 2, none⟩)), (31, .pointer (some ⟨bo, 0 + j * 2 + 1, none⟩)), (33, .pointer (some ⟨bo, 0 + j * 2, none⟩)), (34, .pointer (some ⟨bo, 0 + j * 2, none⟩)), (35, .pointer (some ⟨bo, 0 + j * 2 + 0, none⟩))] (fun w => Strm 25 w B sb (m + 20 + 1 + 1)) [] [⟨.slice (some ⟨bo, 0, none⟩) 4 c, 159, 2, 4, l.flatMap csEnc⟩] [] := by
   skip
   rw [hW]
   refine wa_all [11, 17, 21] (by kernel_rfl) rfl ⟨⟨_, rfl, ?_⟩, ⟨_, rfl, ?_⟩, ⟨_, rfl, ?_⟩, trivial⟩
   ·refine wl_buildSlice (e := 9) (cs := [.string y0, .string y0, .string ⟨#[]⟩, .string ⟨#[65]⟩, .string ⟨#[122, 101, 100]⟩]) rfl (by kernel_rfl) rfl fun q11 => ?_
    refine wl_nil ?_
    refine nw 30 1961983 (fun _ _ => trivial) fun z => ?_
    have h := J1961983 q11
    rw [hW] at h
    refine wa_weak ?_ ?_ h
    ·exact ⟨rfl, rfl, rfl, rfl, rfl, rfl, rfl, rfl, rfl, rfl, rfl, rfl, rfl, rfl, rfl, rfl, rfl, rfl, rfl, rfl, rfl, rfl, rfl, rfl, rfl, rfl, rfl, rfl, rfl, rfl, rfl, rfl, rfl, trivial⟩
    exact fun _ hm => hm.pick [0] [0] [] rfl rfl
   ·refine wl_ov (ov_elem1 (k := 1) (v := .string y1) sc9 rfl (fun _ hm => (SlT.ofOwn cs_len (hm.ownI 0 rfl) hl4)) hy rfl rfl) rfl ?_
    refine wl_nil ?_
    refine nw 30 2091007 (fun _ _ => trivial) fun z => ?_
    have h := J2091007 
    rw [hW] at h
    refine wa_weak ?_ ?_ h
    ·exact ⟨rfl, rfl, rfl, rfl, rfl, rfl, rfl, rfl, rfl, rfl, rfl, rfl, rfl, rfl, rfl, rfl, rfl, rfl, rfl, rfl, rfl, rfl, rfl, rfl, rfl, rfl, rfl, rfl, rfl, rfl, rfl, rfl, rfl, trivial⟩
    exact fun _ hm => hm.pick [] [0] [] rfl rfl
   refine wl_ov (ov_elem1 (k := 0) (v := .string y0) sc9 rfl (fun _ hm => (SlT.ofOwn cs_len (hm.ownI 0 rfl) hl4)) hy rfl rfl) rfl ?_
   refine wl_nil ?_
   refine nw 30 4057087 (fun _ _ => trivial) fun z => ?_
   have h := J4057087 
   rw [hW] at h
   refine wa_weak ?_ ?_ h
   ·exact ⟨rfl, rfl, rfl, rfl, rfl, rfl, rfl, rfl, rfl, rfl, rfl, rfl, rfl, rfl, rfl, rfl, rfl, rfl, rfl, rfl, rfl, rfl, rfl, rfl, rfl, rfl, rfl, rfl, rfl, rfl, rfl, rfl, rfl, trivial⟩
   exact fun _ hm => hm.pick [] [0] [] rfl rfl
  have T8381439 : ∀ (q22 : Nat), W 10 (lb 30 8381439) [(0, .pointer (some ⟨sb, 0, none⟩)), (2, .slice none 0 0), (3, .slice (some ⟨bo, 0, none⟩) 4 c), (4, .pointer (some ⟨bo, 0 + j * 2, none⟩)), (5, .pointer (some ⟨sb, 0, none⟩)), (6, .slice (some ⟨bo, 0, none⟩) 4 c), (7, .pointer (some ⟨sb, 0, none⟩)), (8, .bool f1), (9, .slice (some ⟨bo, 0, none⟩) 4 c), (10, .pointer (some ⟨sb, 0, none⟩)), (11, .slice (some ⟨bo, 0, none⟩) 4 c), (12, .int .i64 4), (13, .int .i64 ((j : Nat) : Int)), (14, .pointer (some ⟨bo, 0 + j * 2, none⟩)), (15, .pointer (some ⟨bo, 0 + j * 2, none⟩)), (16, .pointer (some ⟨bo, 0 + j * 2, none⟩)), (17, .pointer (some ⟨sb, 0, none⟩)), (18, .pointer (some ⟨bo, 0 + j * 2, none⟩)), (19, .pointer (some ⟨bo, 0 + j * 2, none⟩)), (20, .pointer (some ⟨bo, 0 + j * 2 + 0, none⟩)), (21, .string y0), (22, .pointer (some ⟨bo, 0 + j * 2, none⟩)), (23, .pointer (some ⟨bo, 0 + j * 2, none⟩)), (24, .pointer (some ⟨bo, 0 + j * 2 + 0, none⟩)), (28, .pointer (some ⟨sb, 0, none⟩)), (29, .pointer (some ⟨bo, 0 + j * 2, none⟩)), (30, .pointer (some ⟨bo, 0 + j * 2, none⟩)), (31, .pointer (some ⟨bo, 0 + j * 2 + 1, none⟩)), (32, .string y1), (33, .pointer (some ⟨bo, 0 + j * 2, none⟩)), (34, .pointer (some ⟨bo, 0 + j * 2, none⟩)), (35, .pointer (some ⟨bo, 0 + j * 2 + 0, none⟩)), (36, .string y0), (37, .slice (some ⟨q22, 0, none⟩) 5 5)] (fun w => Strm 25 w B sb (m + 20 + 1 + 1)) [(q22, 9, [.string y1, .string ⟨#[109, 105, 110, 105]⟩, .string ⟨#[110, 111, 110, 101]⟩, .string ⟨#[65]⟩, .string y0])] [⟨.slice (some ⟨bo, 0, none⟩) 4 c, 159, 2, 4, l.flatMap csEnc⟩] [] := by
   intro q22
   rw [hW]
   refine wa1 10 rfl ?_
   refine wl_ov (ov_elem1 (k := 0) (v := .string y0) sc9 rfl (fun _ hm => (SlT.ofOwn cs_len (hm.ownI 0 rfl) hl4)) hy rfl rfl) rfl ?_
   refine wl_nil ?_
   refine nw 30 8382463 (fun _ _ => trivial) fun z => ?_
   refine wa1 11 rfl ?_
   refine wl_buildSlice (e := 9) (cs := [.string y0, .string y0, .string ⟨#[]⟩, .string ⟨#[65]⟩, .string ⟨#[122, 101, 100]⟩]) rfl (by kernel_rfl) rfl fun q11 => ?_
   refine wl_nil ?_
   refine nw 30 8384511 (fun _ _ => trivial) fun z => ?_
   refine wa1 12 rfl ?_
   refine wl_got (γ := ByteArray) (val := fun v => .string v) (φ := fun v => v ∈ ([y0, y0, ⟨#[]⟩, ⟨#[65]⟩, ⟨#[122, 101, 100]⟩] : List ByteArray)) rfl cb43 rfl rfl rfl rfl (fun wx hm => (some_any [y0, y0, ⟨#[]⟩, ⟨#[65]⟩, ⟨#[122, 101, 100]⟩] _ _ _ wx B sb _ hm.k (by omega) (by simp) (by simp) (hm.blkI 0 rfl) (hm.neRow 0 rfl rfl))) fun k12 hk12 => ?_
   refine wl_nil ?_
   refine nw 30 8388607 (fun _ _ => trivial) fun z => ?_
   refine wa1 23 rfl ?_
   refine wl_got (γ := ByteArray) (val := fun v => .string v) (φ := fun v => v ∈ ([y1, ⟨#[109, 105, 110, 105]⟩, ⟨#[110, 111, 110, 101]⟩, ⟨#[65]⟩, y0] : List ByteArray)) rfl cb43 rfl rfl rfl rfl (fun wx hm => (some_any [y1, ⟨#[109, 105, 110, 105]⟩, ⟨#[110, 111, 110, 101]⟩, ⟨#[65]⟩, y0] _ _ _ wx B sb _ hm.k (by omega) (by simp) (by simp) (hm.blkI 1 rfl) (hm.neRow 1 rfl rfl))) fun k23 hk23 => ?_
   refine wl_nil ?_
   refine nw 30 16777215 (fun _ _ => trivial) fun z => ?_
   refine wt 24 30 33554431 rfl z (ov_nilcheck rfl) ?_
   refine wt 25 30 67108863 rfl z (ov_field fo159_0 rfl rfl) ?_
   refine wa1 26 rfl ?_
   refine wl_storeE (l := l) (j := j) (r := 0) (el := ⟨y0, y1⟩) (el' := ⟨k12, y1⟩) 0 sc9 rfl rfl rfl rfl cs_len rfl hy hl4 (by decide) rfl rfl ?_
   refine wl_nil ?_
   refine nw 30 134217727 (fun _ _ => trivial) fun z => ?_
   refine wt 27 30 268435455 rfl z (ov_nilcheck rfl) ?_
   refine wt 28 30 536870911 rfl z (ov_field fo159_1 rfl rfl) ?_
   refine wa1 29 rfl ?_
   have hy2 : (l.set j ⟨k12, y1⟩)[j]? = some (⟨k12, y1⟩ : Cs) := by rw [List.getElem?_set_self (by omega)]
   have hl42 : (l.set j ⟨k12, y1⟩).length = 4 := by simp [hl4]
   refine wl_storeE (l := (l.set j ⟨k12, y1⟩)) (j := j) (r := 1) (el := ⟨k12, y1⟩) (el' := ⟨k12, k23⟩) 0 sc9 rfl rfl rfl rfl cs_len rfl hy2 hl42 (by decide) rfl rfl ?_
   refine wl_nil ?_
   refine nw 30 1073741823 (fun _ _ => trivial) fun z => ?_
   refine wa_done (by kernel_rfl) ?_
   refine nx_then (sr_ (mv_ rfl (sg_ rfl (nn_ ?_))))
   refine gw_ret ?_
   refine nx_ret1 rfl rfl fun wx hm => ?_
   exact ⟨some ⟨bo, 0, none⟩, c, _, rfl, hm.ownI 0 rfl, (by simp [hl4]), cs_mem (cs_mem hok ⟨(show k12.size ≤ 1000000 by rcases mem5 hk12 with h | h | h | h | h <;> rw [h] <;> first | assumption | decide), hy1⟩) ⟨(show k12.size ≤ 1000000 by rcases mem5 hk12 with h | h | h | h | h <;> rw [h] <;> first | assumption | decide), (show k23.size ≤ 1000000 by rcases mem5 hk23 with h | h | h | h | h <;> rw [h] <;> first | assumption | decide)⟩, hm.k.more (by omega), hm.g⟩
  have J4187135 : W 11 (lb 30 4187135) [(0, .pointer (some ⟨sb, 0, none⟩)), (2, .slice none 0 0), (3, .slice (some ⟨bo, 0, none⟩) 4 c), (4, .pointer (some ⟨bo, 0 + j * 2, none⟩)), (5, .pointer (some ⟨sb, 0, none⟩)), (6, .slice (some ⟨bo, 0, none⟩) 4 c), (7, .pointer (some ⟨sb, 0, none⟩)), (8, .bool f1), (9, .slice (some ⟨bo, 0, none⟩) 4 c), (10, .pointer (some ⟨sb, 0, none⟩)), (11, .slice (some ⟨bo, 0, none⟩) 4 c), (12, .int .i64 4), (13, .int .i64 ((j : Nat) : Int)), (14, .pointer (some ⟨bo, 0 + j * 2, none⟩)), (15, .pointer (some ⟨bo, 0 + j * 2, none⟩)), (16, .pointer (some ⟨bo, 0 + j * 2, none⟩)), (17, .pointer (some ⟨sb, 0, none⟩)), (18, .pointer (some ⟨bo, 0 + j * 2, none⟩)), (19, .pointer (some ⟨bo, 0 + j * 2, none⟩)), (20, .pointer (some ⟨bo, 0 + j * 2 + 0, none⟩)), (21, .string y0), (22, .pointer (some ⟨bo, 0 + j * 2, none⟩)), (23, .pointer (some ⟨bo, 0 + j * 2, none⟩)), (24, .pointer (some ⟨bo, 0 + j * 2 + 0, none⟩)), (28, .pointer (some ⟨sb, 0, none⟩)), (29, .pointer (some ⟨bo, 0 + j * 2, none⟩)), (30, .pointer (some ⟨bo, 0 + j * 2, none⟩)), (31, .pointer (some ⟨bo, 0 + j * 2 + 1, none⟩)), (32, .string y1), (33, .pointer (some ⟨bo, 0 + j * 2, none⟩)), (34, .pointer (some ⟨bo, 0 + j * 2, none⟩)), (35, .pointer (some ⟨bo, 0 + j * 2 + 0, none⟩)), (36, .string y0)] (fun w => Strm 25 w B sb (m + 20 + 1 + 1)) [] [⟨.slice (some ⟨bo, 0, none⟩) 4 c, 159, 2, 4, l.flatMap csEnc⟩] [] := by
   skip
   rw [hW]
   refine wa_all [10, 22] (by kernel_rfl) rfl ⟨⟨_, rfl, ?_⟩, ⟨_, rfl, ?_⟩, trivial⟩
   ·refine wl_ov (ov_elem1 (k := 0) (v := .string y0) sc9 rfl (fun _ hm => (SlT.ofOwn cs_len (hm.ownI 0 rfl) hl4)) hy rfl rfl) rfl ?_
    refine wl_nil ?_
    refine nw 30 4188159 (fun _ _ => trivial) fun z => ?_
    have h := J4188159 
    rw [hW] at h
    refine wa_weak ?_ ?_ h
    ·exact ⟨rfl, rfl, rfl, rfl, rfl, rfl, rfl, rfl, rfl, rfl, rfl, rfl, rfl, rfl, rfl, rfl, rfl, rfl, rfl, rfl, rfl, rfl, rfl, rfl, rfl, rfl, rfl, rfl, rfl, rfl, rfl, rfl, rfl, rfl, trivial⟩
    exact fun _ hm => hm.pick [] [0] [] rfl rfl
   refine wl_buildSlice (e := 9) (cs := [.string y1, .string ⟨#[109, 105, 110, 105]⟩, .string ⟨#[110, 111, 110, 101]⟩, .string ⟨#[65]⟩, .string y0]) rfl (by kernel_rfl) rfl fun q22 => ?_
   refine wl_nil ?_
   refine nw 30 8381439 (fun _ _ => trivial) fun z => ?_
   have h := T8381439 q22
   rw [hW] at h
   refine wa_weak ?_ ?_ h
   ·exact ⟨rfl, rfl, rfl, rfl, rfl, rfl, rfl, rfl, rfl, rfl, rfl, rfl, rfl, rfl, rfl, rfl, rfl, rfl, rfl, rfl, rfl, rfl, rfl, rfl, rfl, rfl, rfl, rfl, rfl, rfl, rfl, rfl, rfl, rfl, trivial⟩
   exact fun _ hm => hm.pick [0] [0] [] rfl rfl
  have J2089983 : W 12 (lb 30 2089983) [(0, .pointer (some ⟨sb, 0, none⟩)), (2, .slice none 0 0), (3, .slice (some ⟨bo, 0, none⟩) 4 c), (4, .pointer (some ⟨bo, 0 + j * 2, none⟩)), (5, .pointer (some ⟨sb, 0, none⟩)), (6, .slice (some ⟨bo, 0, none⟩) 4 c), (7, .pointer (some ⟨sb, 0, none⟩)), (8, .bool f1), (9, .slice (some ⟨bo, 0, none⟩) 4 c), (10, .pointer (some ⟨sb, 0, none⟩)), (11, .slice (some ⟨bo, 0, none⟩) 4 c), (12, .int .i64 4), (13, .int .i64 ((j : Nat) : Int)), (14, .pointer (some ⟨bo, 0 + j * 2, none⟩)), (15, .pointer (some ⟨bo, 0 + j * 2, none⟩)), (16, .pointer (some ⟨bo, 0 + j * 2, none⟩)), (17, .pointer (some ⟨sb, 0, none⟩)), (18, .pointer (some ⟨bo, 0 + j * 2, none⟩)), (19, .pointer (some ⟨bo, 0 + j * 2, none⟩)), (20, .pointer (some ⟨bo, 0 + j * 2 + 0, none⟩)), (21, .string y0), (22, .pointer (some ⟨bo, 0 + j * 2, none⟩)), (23, .pointer (some ⟨bo, 0 + j * 2, none⟩)), (24, .pointer (some ⟨bo, 0 + j * 2 + 0, none⟩)), (28, .pointer (some ⟨sb, 0, none⟩)), (29, .pointer (some ⟨bo, 0 + j * 2, none⟩)), (30, .pointer (some ⟨bo, 0 + j * 2, none⟩)), (31, .pointer (some ⟨bo, 0 + j * 2 + 1, none⟩)), (32, .string y1), (33, .pointer (some ⟨bo, 0 + j * 2, none⟩)), (34, .pointer (some ⟨bo, 0 + j * 2, none⟩)), (35, .pointer (some ⟨bo, 0 + j * 2 + 0, none⟩))] (fun w => Strm 25 w B sb (m + 20 + 1 + 1)) [] [⟨.slice (some ⟨bo, 0, none⟩) 4 c, 159, 2, 4, l.flatMap csEnc⟩] [] := by
   skip
   rw [hW]
   refine wa_all [10, 21] (by kernel_rfl) rfl ⟨⟨_, rfl, ?_⟩, ⟨_, rfl, ?_⟩, trivial⟩
   ·refine wl_ov (ov_elem1 (k := 0) (v := .string y0) sc9 rfl (fun _ hm => (SlT.ofOwn cs_len (hm.ownI 0 rfl) hl4)) hy rfl rfl) rfl ?_
    refine wl_nil ?_
    refine nw 30 2091007 (fun _ _ => trivial) fun z => ?_
    have h := J2091007 
    rw [hW] at h
    refine wa_weak ?_ ?_ h
    ·exact ⟨rfl, rfl, rfl, rfl, rfl, rfl, rfl, rfl, rfl, rfl, rfl, rfl, rfl, rfl, rfl, rfl, rfl, rfl, rfl, rfl, rfl, rfl, rfl, rfl, rfl, rfl, rfl, rfl, rfl, rfl, rfl, rfl, rfl, trivial⟩
    exact fun _ hm => hm.pick [] [0] [] rfl rfl
   refine wl_ov (ov_elem1 (k := 0) (v := .string y0) sc9 rfl (fun _ hm => (SlT.ofOwn cs_len (hm.ownI 0 rfl) hl4)) hy rfl rfl) rfl ?_
   refine wl_nil ?_
   refine nw 30 4187135 (fun _ _ => trivial) fun z => ?_
   have h := J4187135 
   rw [hW] at h
   refine wa_weak ?_ ?_ h
   ·exact ⟨rfl, rfl, rfl, rfl, rfl, rfl, rfl, rfl, rfl, rfl, rfl, rfl, rfl, rfl, rfl, rfl, rfl, rfl, rfl, rfl, rfl, rfl, rfl, rfl, rfl, rfl, rfl, rfl, rfl, rfl, rfl, rfl, rfl, trivial⟩
   exact fun _ hm => hm.pick [] [0] [] rfl rfl
  have J4056063 : W 12 (lb 30 4056063) [(0, .pointer (some ⟨sb, 0, none⟩)), (2, .slice none 0 0), (3, .slice (some ⟨bo, 0, none⟩) 4 c), (4, .pointer (some ⟨bo, 0 + j * 2, none⟩)), (5, .pointer (some ⟨sb, 0, none⟩)), (6, .slice (some ⟨bo, 0, none⟩) 4 c), (7, .pointer (some ⟨sb, 0, none⟩)), (8, .bool f1), (9, .slice (some ⟨bo, 0, none⟩) 4 c), (10, .pointer (some ⟨sb, 0, none⟩)), (11, .slice (some ⟨bo, 0, none⟩) 4 c), (12, .int .i64 4), (13, .int .i64 ((j : Nat) : Int)), (14, .pointer (some ⟨bo, 0 + j * 2, none⟩)), (15, .pointer (some ⟨bo, 0 + j * 2, none⟩)), (16, .pointer (some ⟨bo, 0 + j * 2, none⟩)), (17, .pointer (some ⟨sb, 0, none⟩)), (18, .pointer (some ⟨bo, 0 + j * 2, none⟩)), (19, .pointer (some ⟨bo, 0 + j * 2, none⟩)), (20, .pointer (some ⟨bo, 0 + j * 2 + 0, none⟩)), (21, .string y0), (22, .pointer (some ⟨bo, 0 + j * 2, none⟩)), (23, .pointer (some ⟨bo, 0 + j * 2, none⟩)), (24, .pointer (some ⟨bo, 0 + j * 2 + 0, none⟩)), (28, .pointer (some ⟨sb, 0, none⟩)), (29, .pointer (some ⟨bo, 0 + j * 2, none⟩)), (30, .pointer (some ⟨bo, 0 + j * 2, none⟩)), (31, .pointer (some ⟨bo, 0 + j * 2 + 1, none⟩)), (33, .pointer (some ⟨bo, 0 + j * 2, none⟩)), (34, .pointer (some ⟨bo, 0 + j * 2, none⟩)), (35, .pointer (some ⟨bo, 0 + j * 2 + 0, none⟩)), (36, .string y0)] (fun w => Strm 25 w B sb (m + 20 + 1 + 1)) [] [⟨.slice (some ⟨bo, 0, none⟩) 4 c, 159, 2, 4, l.flatMap csEnc⟩] [] := by
   skip
   rw [hW]
   refine wa_all [10, 17] (by kernel_rfl) rfl ⟨⟨_, rfl, ?_⟩, ⟨_, rfl, ?_⟩, trivial⟩
   ·refine wl_ov (ov_elem1 (k := 0) (v := .string y0) sc9 rfl (fun _ hm => (SlT.ofOwn cs_len (hm.ownI 0 rfl) hl4)) hy rfl rfl) rfl ?_
    refine wl_nil ?_
    refine nw 30 4057087 (fun _ _ => trivial) fun z => ?_
    have h := J4057087 
    rw [hW] at h
    refine wa_weak ?_ ?_ h
    ·exact ⟨rfl, rfl, rfl, rfl, rfl, rfl, rfl, rfl, rfl, rfl, rfl, rfl, rfl, rfl, rfl, rfl, rfl, rfl, rfl, rfl, rfl, rfl, rfl, rfl, rfl, rfl, rfl, rfl, rfl, rfl, rfl, rfl, rfl, trivial⟩
    exact fun _ hm => hm.pick [] [0] [] rfl rfl
   refine wl_ov (ov_elem1 (k := 1) (v := .string y1) sc9 rfl (fun _ hm => (SlT.ofOwn cs_len (hm.ownI 0 rfl) hl4)) hy rfl rfl) rfl ?_
   refine wl_nil ?_
   refine nw 30 4187135 (fun _ _ => trivial) fun z => ?_
   have h := J4187135 
   rw [hW] at h
   refine wa_weak ?_ ?_ h
   ·exact ⟨rfl, rfl, rfl, rfl, rfl, rfl, rfl, rfl, rfl, rfl, rfl, rfl, rfl, rfl, rfl, rfl, rfl, rfl, rfl, rfl, rfl, rfl, rfl, rfl, rfl, rfl, rfl, rfl, rfl, rfl, rfl, rfl, rfl, trivial⟩
   exact fun _ hm => hm.pick [] [0] [] rfl rfl
  have J1958911 : W 13 (lb 30 1958911) [(0, .pointer (some ⟨sb, 0, none⟩)), (2, .slice none 0 0), (3, .slice (some ⟨bo, 0, none⟩) 4 c), (4, .pointer (some ⟨bo, 0 + j * 2, none⟩)), (5, .pointer (some ⟨sb, 0, none⟩)), (6, .slice (some ⟨bo, 0, none⟩) 4 c), (7, .pointer (some ⟨sb, 0, none⟩)), (8, .bool f1), (9, .slice (some ⟨bo, 0, none⟩) 4 c), (10, .pointer (some ⟨sb, 0, none⟩)), (11, .slice (some ⟨bo, 0, none⟩) 4 c), (12, .int .i64 4), (13, .int .i64 ((j : Nat) : Int)), (14, .pointer (some ⟨bo, 0 + j * 2, none⟩)), (15, .pointer (some ⟨bo, 0 + j * 2, none⟩)), (16, .pointer (some ⟨bo, 0 + j * 2, none⟩)), (17, .pointer (some ⟨sb, 0, none⟩)), (18, .pointer (some ⟨bo, 0 + j * 2, none⟩)), (19, .pointer (some ⟨bo, 0 + j * 2, none⟩)), (20, .pointer (some ⟨bo, 0 + j * 2 + 0, none⟩)), (21, .string y0), (22, .pointer (some ⟨bo, 0 + j * 2, none⟩)), (23, .pointer (some ⟨bo, 0 + j * 2, none⟩)), (24, .pointer (some ⟨bo, 0 + j * 2 + 0, none⟩)), (28, .pointer (some ⟨sb, 0, none⟩)), (29, .pointer (some ⟨bo, 0 + j * 2, none⟩)), (30, .pointer (some ⟨bo, 0 + j * 2, none⟩)), (31, .pointer (some ⟨bo, 0 + j * 2 + 1, none⟩)), (33, .pointer (some ⟨bo, 0 + j * 2, none⟩)), (34, .pointer (some ⟨bo, 0 + j * 2, none⟩)), (35, .pointer (some ⟨bo, 0 + j * 2 + 0, none⟩))] (fun w => Strm 25 w B sb (m + 20 + 1 + 1)) [] [⟨.slice (some ⟨bo, 0, none⟩) 4 c, 159, 2, 4, l.flatMap csEnc⟩] [] := by
   skip
   rw [hW]
   refine wa_all [10, 17, 21] (by kernel_rfl) rfl ⟨⟨_, rfl, ?_⟩, ⟨_, rfl, ?_⟩, ⟨_, rfl, ?_⟩, trivial⟩
   ·refine wl_ov (ov_elem1 (k := 0) (v := .string y0) sc9 rfl (fun _ hm => (SlT.ofOwn cs_len (hm.ownI 0 rfl) hl4)) hy rfl rfl) rfl ?_
    refine wl_nil ?_
    refine nw 30 1959935 (fun _ _ => trivial) fun z => ?_
    have h := J1959935 
    rw [hW] at h
    refine wa_weak ?_ ?_ h
    ·exact ⟨rfl, rfl, rfl, rfl, rfl, rfl, rfl, rfl, rfl, rfl, rfl, rfl, rfl, rfl, rfl, rfl, rfl, rfl, rfl, rfl, rfl, rfl, rfl, rfl, rfl, rfl, rfl, rfl, rfl, rfl, rfl, rfl, trivial⟩
    exact fun _ hm => hm.pick [] [0] [] rfl rfl
   ·refine wl_ov (ov_elem1 (k := 1) (v := .string y1) sc9 rfl (fun _ hm => (SlT.ofOwn cs_len (hm.ownI 0 rfl) hl4)) hy rfl rfl) rfl ?_
    refine wl_nil ?_
    refine nw 30 2089983 (fun _ _ => trivial) fun z => ?_
    have h := J2089983 
    rw [hW] at h
    refine wa_weak ?_ ?_ h
    ·exact ⟨rfl, rfl, rfl, rfl, rfl, rfl, rfl, rfl, rfl, rfl, rfl, rfl, rfl, rfl, rfl, rfl, rfl, rfl, rfl, rfl, rfl, rfl, rfl, rfl, rfl, rfl, rfl, rfl, rfl, rfl, rfl, rfl, trivial⟩
    exact fun _ hm => hm.pick [] [0] [] rfl rfl
   refine wl_ov (ov_elem1 (k := 0) (v := .string y0) sc9 rfl (fun _ hm => (SlT.ofOwn cs_len (hm.ownI 0 rfl) hl4)) hy rfl rfl) rfl ?_
   refine wl_nil ?_
   refine nw 30 4056063 (fun _ _ => trivial) fun z => ?_
   have h := J4056063 
   rw [hW] at h
   refine wa_weak ?_ ?_ h
   ·exact ⟨rfl, rfl, rfl, rfl, rfl, rfl, rfl, rfl, rfl, rfl, rfl, rfl, rfl, rfl, rfl, rfl, rfl, rfl, rfl, rfl, rfl, rfl, rfl, rfl, rfl, rfl, rfl, rfl, rfl, rfl, rfl, rfl, trivial⟩
   exact fun _ hm => hm.pick [] [0] [] rfl rfl
  have T8382399 : ∀ (q22 : Nat), W 10 (lb 30 8382399) [(0, .pointer (some ⟨sb, 0, none⟩)), (2, .slice none 0 0), (3, .slice (some ⟨bo, 0, none⟩) 4 c), (4, .pointer (some ⟨bo, 0 + j * 2, none⟩)), (5, .pointer (some ⟨sb, 0, none⟩)), (6, .slice (some ⟨bo, 0, none⟩) 4 c), (7, .pointer (some ⟨sb, 0, none⟩)), (8, .bool f1), (9, .slice (some ⟨bo, 0, none⟩) 4 c), (10, .pointer (some ⟨sb, 0, none⟩)), (11, .slice (some ⟨bo, 0, none⟩) 4 c), (12, .int .i64 4), (13, .int .i64 ((j : Nat) : Int)), (14, .pointer (some ⟨bo, 0 + j * 2, none⟩)), (15, .pointer (some ⟨bo, 0 + j * 2, none⟩)), (16, .pointer (some ⟨bo, 0 + j * 2, none⟩)), (17, .pointer (some ⟨sb, 0, none⟩)), (18, .pointer (some ⟨bo, 0 + j * 2, none⟩)), (19, .pointer (some ⟨bo, 0 + j * 2, none⟩)), (20, .pointer (some ⟨bo, 0 + j * 2 + 0, none⟩)), (22, .pointer (some ⟨bo, 0 + j * 2, none⟩)), (23, .pointer (some ⟨bo, 0 + j * 2, none⟩)), (24, .pointer (some ⟨bo, 0 + j * 2 + 0, none⟩)), (25, .string y0), (28, .pointer (some ⟨sb, 0, none⟩)), (29, .pointer (some ⟨bo, 0 + j * 2, none⟩)), (30, .pointer (some ⟨bo, 0 + j * 2, none⟩)), (31, .pointer (some ⟨bo, 0 + j * 2 + 1, none⟩)), (32, .string y1), (33, .pointer (some ⟨bo, 0 + j * 2, none⟩)), (34, .pointer (some ⟨bo, 0 + j * 2, none⟩)), (35, .pointer (some ⟨bo, 0 + j * 2 + 0, none⟩)), (36, .string y0), (37, .slice (some ⟨q22, 0, none⟩) 5 5)] (fun w => Strm 25 w B sb (m + 20 + 1 + 1)) [(q22, 9, [.string y1, .string ⟨#[109, 105, 110, 105]⟩, .string ⟨#[110, 111, 110, 101]⟩, .string ⟨#[65]⟩, .string y0])] [⟨.slice (some ⟨bo, 0, none⟩) 4 c, 159, 2, 4, l.flatMap csEnc⟩] [] := by
   intro q22
   rw [hW]
   refine wa1 6 rfl ?_
   refine wl_ov (ov_elem1 (k := 0) (v := .string y0) sc9 rfl (fun _ hm => (SlT.ofOwn cs_len (hm.ownI 0 rfl) hl4)) hy rfl rfl) rfl ?_
   refine wl_nil ?_
   refine nw 30 8382463 (fun _ _ => trivial) fun z => ?_
   refine wa1 11 rfl ?_
   refine wl_buildSlice (e := 9) (cs := [.string y0, .string y0, .string ⟨#[]⟩, .string ⟨#[65]⟩, .string ⟨#[122, 101, 100]⟩]) rfl (by kernel_rfl) rfl fun q11 => ?_
   refine wl_nil ?_
   refine nw 30 8384511 (fun _ _ => trivial) fun z => ?_
   refine wa1 12 rfl ?_
   refine wl_got (γ := ByteArray) (val := fun v => .string v) (φ := fun v => v ∈ ([y0, y0, ⟨#[]⟩, ⟨#[65]⟩, ⟨#[122, 101, 100]⟩] : List ByteArray)) rfl cb43 rfl rfl rfl rfl (fun wx hm => (some_any [y0, y0, ⟨#[]⟩, ⟨#[65]⟩, ⟨#[122, 101, 100]⟩] _ _ _ wx B sb _ hm.k (by omega) (by simp) (by simp) (hm.blkI 0 rfl) (hm.neRow 0 rfl rfl))) fun k12 hk12 => ?_
   refine wl_nil ?_
   refine nw 30 8388607 (fun _ _ => trivial) fun z => ?_
   refine wa1 23 rfl ?_
   refine wl_got (γ := ByteArray) (val := fun v => .string v) (φ := fun v => v ∈ ([y1, ⟨#[109, 105, 110, 105]⟩, ⟨#[110, 111, 110, 101]⟩, ⟨#[65]⟩, y0] : List ByteArray)) rfl cb43 rfl rfl rfl rfl (fun wx hm => (some_any [y1, ⟨#[109, 105, 110, 105]⟩, ⟨#[110, 111, 110, 101]⟩, ⟨#[65]⟩, y0] _ _ _ wx B sb _ hm.k (by omega) (by simp) (by simp) (hm.blkI 1 rfl) (hm.neRow 1 rfl rfl))) fun k23 hk23 => ?_
   refine wl_nil ?_
   refine nw 30 16777215 (fun _ _ => trivial) fun z => ?_
   refine wt 24 30 33554431 rfl z (ov_nilcheck rfl) ?_
   refine wt 25 30 67108863 rfl z (ov_field fo159_0 rfl rfl) ?_
   refine wa1 26 rfl ?_
   refine wl_storeE (l := l) (j := j) (r := 0) (el := ⟨y0, y1⟩) (el' := ⟨k12, y1⟩) 0 sc9 rfl rfl rfl rfl cs_len rfl hy hl4 (by decide) rfl rfl ?_
   refine wl_nil ?_
   refine nw 30 134217727 (fun _ _ => trivial) fun z => ?_
   refine wt 27 30 268435455 rfl z (ov_nilcheck rfl) ?_
   refine wt 28 30 536870911 rfl z (ov_field fo159_1 rfl rfl) ?_
   refine wa1 29 rfl ?_
   have hy2 : (l.set j ⟨k12, y1⟩)[j]? = some (⟨k12, y1⟩ : Cs) := by rw [List.getElem?_set_self (by omega)]
   have hl42 : (l.set j ⟨k12, y1⟩).length = 4 := by simp [hl4]
   refine wl_storeE (l := (l.set j ⟨k12, y1⟩)) (j := j) (r := 1) (el := ⟨k12, y1⟩) (el' := ⟨k12, k23⟩) 0 sc9 rfl rfl rfl rfl cs_len rfl hy2 hl42 (by decide) rfl rfl ?_
   refine wl_nil ?_
   refine nw 30 1073741823 (fun _ _ => trivial) fun z => ?_
   refine wa_done (by kernel_rfl) ?_
   refine nx_then (sr_ (mv_ rfl (sg_ rfl (nn_ ?_))))
   refine gw_ret ?_
   refine nx_ret1 rfl rfl fun wx hm => ?_
   exact ⟨some ⟨bo, 0, none⟩, c, _, rfl, hm.ownI 0 rfl, (by simp [hl4]), cs_mem (cs_mem hok ⟨(show k12.size ≤ 1000000 by rcases mem5 hk12 with h | h | h | h | h <;> rw [h] <;> first | assumption | decide), hy1⟩) ⟨(show k12.size ≤ 1000000 by rcases mem5 hk12 with h | h | h | h | h <;> rw [h] <;> first | assumption | decide), (show k23.size ≤ 1000000 by rcases mem5 hk23 with h | h | h | h | h <;> rw [h] <;> first | assumption | decide)⟩, hm.k.more (by omega), hm.g⟩
  have J4188095 : W 11 (lb 30 4188095) [(0, .pointer (some ⟨sb, 0, none⟩)), (2, .slice none 0 0), (3, .slice (some ⟨bo, 0, none⟩) 4 c), (4, .pointer (some ⟨bo, 0 + j * 2, none⟩)), (5, .pointer (some ⟨sb, 0, none⟩)), (6, .slice (some ⟨bo, 0, none⟩) 4 c), (7, .pointer (some ⟨sb, 0, none⟩)), (8, .bool f1), (9, .slice (some ⟨bo, 0, none⟩) 4 c), (10, .pointer (some ⟨sb, 0, none⟩)), (11, .slice (some ⟨bo, 0, none⟩) 4 c), (12, .int .i64 4), (13, .int .i64 ((j : Nat) : Int)), (14, .pointer (some ⟨bo, 0 + j * 2, none⟩)), (15, .pointer (some ⟨bo, 0 + j * 2, none⟩)), (16, .pointer (some ⟨bo, 0 + j * 2, none⟩)), (17, .pointer (some ⟨sb, 0, none⟩)), (18, .pointer (some ⟨bo, 0 + j * 2, none⟩)), (19, .pointer (some ⟨bo, 0 + j * 2, none⟩)), (20, .pointer (some ⟨bo, 0 + j * 2 + 0, none⟩)), (22, .pointer (some ⟨bo, 0 + j * 2, none⟩)), (23, .pointer (some ⟨bo, 0 + j * 2, none⟩)), (24, .pointer (some ⟨bo, 0 + j * 2 + 0, none⟩)), (25, .string y0), (28, .pointer (some ⟨sb, 0, none⟩)), (29, .pointer (some ⟨bo, 0 + j * 2, none⟩)), (30, .pointer (some ⟨bo, 0 + j * 2, none⟩)), (31, .pointer (some ⟨bo, 0 + j * 2 + 1, none⟩)), (32, .string y1), (33, .pointer (some ⟨bo, 0 + j * 2, none⟩)), (34, .pointer (some ⟨bo, 0 + j * 2, none⟩)), (35, .pointer (some ⟨bo, 0 + j * 2 + 0, none⟩)), (36, .string y0)] (fun w => Strm 25 w B sb (m + 20 + 1 + 1)) [] [⟨.slice (some ⟨bo, 0, none⟩) 4 c, 159, 2, 4, l.flatMap csEnc⟩] [] := by
   skip
   rw [hW]
   refine wa_all [6, 22] (by kernel_rfl) rfl ⟨⟨_, rfl, ?_⟩, ⟨_, rfl, ?_⟩, trivial⟩
   ·refine wl_ov (ov_elem1 (k := 0) (v := .string y0) sc9 rfl (fun _ hm => (SlT.ofOwn cs_len (hm.ownI 0 rfl) hl4)) hy rfl rfl) rfl ?_
    refine wl_nil ?_
    refine nw 30 4188159 (fun _ _ => trivial) fun z => ?_
    have h := J4188159 
    rw [hW] at h
    refine wa_weak ?_ ?_ h
    ·exact ⟨rfl, rfl, rfl, rfl, rfl, rfl, rfl, rfl, rfl, rfl, rfl, rfl, rfl, rfl, rfl, rfl, rfl, rfl, rfl, rfl, rfl, rfl, rfl, rfl, rfl, rfl, rfl, rfl, rfl, rfl, rfl, rfl, rfl, rfl, trivial⟩
    exact fun _ hm => hm.pick [] [0] [] rfl rfl
   refine wl_buildSlice (e := 9) (cs := [.string y1, .string ⟨#[109, 105, 110, 105]⟩, .string ⟨#[110, 111, 110, 101]⟩, .string ⟨#[65]⟩, .string y0]) rfl (by kernel_rfl) rfl fun q22 => ?_
   refine wl_nil ?_
   refine nw 30 8382399 (fun _ _ => trivial) fun z => ?_
   have h := T8382399 q22
   rw [hW] at h
   refine wa_weak ?_ ?_ h
   ·exact ⟨rfl, rfl, rfl, rfl, rfl, rfl, rfl, rfl, rfl, rfl, rfl, rfl, rfl, rfl, rfl, rfl, rfl, rfl, rfl, rfl, rfl, rfl, rfl, rfl, rfl, rfl, rfl, rfl, rfl, rfl, rfl, rfl, rfl, rfl, trivial⟩
   exact fun _ hm => hm.pick [0] [0] [] rfl rfl
  have J2090943 : W 12 (lb 30 2090943) [(0, .pointer (some ⟨sb, 0, none⟩)), (2, .slice none 0 0), (3, .slice (some ⟨bo, 0, none⟩) 4 c), (4, .pointer (some ⟨bo, 0 + j * 2, none⟩)), (5, .pointer (some ⟨sb, 0, none⟩)), (6, .slice (some ⟨bo, 0, none⟩) 4 c), (7, .pointer (some ⟨sb, 0, none⟩)), (8, .bool f1), (9, .slice (some ⟨bo, 0, none⟩) 4 c), (10, .pointer (some ⟨sb, 0, none⟩)), (11, .slice (some ⟨bo, 0, none⟩) 4 c), (12, .int .i64 4), (13, .int .i64 ((j : Nat) : Int)), (14, .pointer (some ⟨bo, 0 + j * 2, none⟩)), (15, .pointer (some ⟨bo, 0 + j * 2, none⟩)), (16, .pointer (some ⟨bo, 0 + j * 2, none⟩)), (17, .pointer (some ⟨sb, 0, none⟩)), (18, .pointer (some ⟨bo, 0 + j * 2, none⟩)), (19, .pointer (some ⟨bo, 0 + j * 2, none⟩)), (20, .pointer (some ⟨bo, 0 + j * 2 + 0, none⟩)), (22, .pointer (some ⟨bo, 0 + j * 2, none⟩)), (23, .pointer (some ⟨bo, 0 + j * 2, none⟩)), (24, .pointer (some ⟨bo, 0 + j * 2 + 0, none⟩)), (25, .string y0), (28, .pointer (some ⟨sb, 0, none⟩)), (29, .pointer (some ⟨bo, 0 + j * 2, none⟩)), (30, .pointer (some ⟨bo, 0 + j * 2, none⟩)), (31, .pointer (some ⟨bo, 0 + j * 2 + 1, none⟩)), (32, .string y1), (33, .pointer (some ⟨bo, 0 + j * 2, none⟩)), (34, .pointer (some ⟨bo, 0 + j * 2, none⟩)), (35, .pointer (some ⟨bo, 0 + j * 2 + 0, none⟩))] (fun w => Strm 25 w B sb (m + 20 + 1 + 1)) [] [⟨.slice (some ⟨bo, 0, none⟩) 4 c, 159, 2, 4, l.flatMap csEnc⟩] [] := by
   skip
   rw [hW]
   refine wa_all [6, 21] (by kernel_rfl) rfl ⟨⟨_, rfl, ?_⟩, ⟨_, rfl, ?_⟩, trivial⟩
   ·refine wl_ov (ov_elem1 (k := 0) (v := .string y0) sc9 rfl (fun _ hm => (SlT.ofOwn cs_len (hm.ownI 0 rfl) hl4)) hy rfl rfl) rfl ?_
    refine wl_nil ?_
    refine nw 30 2091007 (fun _ _ => trivial) fun z => ?_
    have h := J2091007 
    rw [hW] at h
    refine wa_weak ?_ ?_ h
    ·exact ⟨rfl, rfl, rfl, rfl, rfl, rfl, rfl, rfl, rfl, rfl, rfl, rfl, rfl, rfl, rfl, rfl, rfl, rfl, rfl, rfl, rfl, rfl, rfl, rfl, rfl, rfl, rfl, rfl, rfl, rfl, rfl, rfl, rfl, trivial⟩
    exact fun _ hm => hm.pick [] [0] [] rfl rfl
   refine wl_ov (ov_elem1 (k := 0) (v := .string y0) sc9 rfl (fun _ hm => (SlT.ofOwn cs_len (hm.ownI 0 rfl) hl4)) hy rfl rfl) rfl ?_
   refine wl_nil ?_
   refine nw 30 4188095 (fun _ _ => trivial) fun z => ?_
   have h := J4188095 
   rw [hW] at h
   refine wa_weak ?_ ?_ h
   ·exact ⟨rfl, rfl, rfl, rfl, rfl, rfl, rfl, rfl, rfl, rfl, rfl, rfl, rfl, rfl, rfl, rfl, rfl, rfl, rfl, rfl, rfl, rfl, rfl, rfl, rfl, rfl, rfl, rfl, rfl, rfl, rfl, rfl, rfl, trivial⟩
   exact fun _ hm => hm.pick [] [0] [] rfl rfl
  have J4057023 : W 12 (lb 30 4057023) [(0, .pointer (some ⟨sb, 0, none⟩)), (2, .slice none 0 0), (3, .slice (some ⟨bo, 0, none⟩) 4 c), (4, .pointer (some ⟨bo, 0 + j * 2, none⟩)), (5, .pointer (some ⟨sb, 0, none⟩)), (6, .slice (some ⟨bo, 0, none⟩) 4 c), (7, .pointer (some ⟨sb, 0, none⟩)), (8, .bool f1), (9, .slice (some ⟨bo, 0, none⟩) 4 c), (10, .pointer (some ⟨sb, 0, none⟩)), (11, .slice (some ⟨bo, 0, none⟩) 4 c), (12, .int .i64 4), (13, .int .i64 ((j : Nat) : Int)), (14, .pointer (some ⟨bo, 0 + j * 2, none⟩)), (15, .pointer (some ⟨bo, 0 + j * 2, none⟩)), (16, .pointer (some ⟨bo, 0 + j * 2, none⟩)), (17, .pointer (some ⟨sb, 0, none⟩)), (18, .pointer (some ⟨bo, 0 + j * 2, none⟩)), (19, .pointer (some ⟨bo, 0 + j * 2, none⟩)), (20, .pointer (some ⟨bo, 0 + j * 2 + 0, none⟩)), (22, .pointer (some ⟨bo, 0 + j * 2, none⟩)), (23, .pointer (some ⟨bo, 0 + j * 2, none⟩)), (24, .pointer (some ⟨bo, 0 + j * 2 + 0, none⟩)), (25, .string y0), (28, .pointer (some ⟨sb, 0, none⟩)), (29, .pointer (some ⟨bo, 0 + j * 2, none⟩)), (30, .pointer (some ⟨bo, 0 + j * 2, none⟩)), (31, .pointer (some ⟨bo, 0 + j * 2 + 1, none⟩)), (33, .pointer (some ⟨bo, 0 + j * 2, none⟩)), (34, .pointer (some ⟨bo, 0 + j * 2, none⟩)), (35, .pointer (some ⟨bo, 0 + j * 2 + 0, none⟩)), (36, .string y0)] (fun w => Strm 25 w B sb (m + 20 + 1 + 1)) [] [⟨.slice (some ⟨bo, 0, none⟩) 4 c, 159, 2, 4, l.flatMap csEnc⟩] [] := by
   skip
   rw [hW]
   refine wa_all [6, 17] (by kernel_rfl) rfl ⟨⟨_, rfl, ?_⟩, ⟨_, rfl, ?_⟩, trivial⟩
   ·refine wl_ov (ov_elem1 (k := 0) (v := .string y0) sc9 rfl (fun _ hm => (SlT.ofOwn cs_len (hm.ownI 0 rfl) hl4)) hy rfl rfl) rfl ?_
    refine wl_nil ?_
    refine nw 30 4057087 (fun _ _ => trivial) fun z => ?_
    have h := J4057087 
    rw [hW] at h
    refine wa_weak ?_ ?_ h
    ·exact ⟨rfl, rfl, rfl, rfl, rfl, rfl, rfl, rfl, rfl, rfl, rfl, rfl, rfl, rfl, rfl, rfl, rfl, rfl, rfl, rfl, rfl, rfl, rfl, rfl, rfl, rfl, rfl, rfl, rfl, rfl, rfl, rfl, rfl, trivial⟩
    exact fun _ hm => hm.pick [] [0] [] rfl rfl
   refine wl_ov (ov_elem1 (k := 1) (v := .string y1) sc9 rfl (fun _ hm => (SlT.ofOwn cs_len (hm.ownI 0 rfl) hl4)) hy rfl rfl) rfl ?_
   refine wl_nil ?_
   refine nw 30 4188095 (fun _ _ => trivial) fun z => ?_
   have h := J4188095 
   rw [hW] at h
   refine wa_weak ?_ ?_ h
   ·exact ⟨rfl, rfl, rfl, rfl, rfl, rfl, rfl, rfl, rfl, rfl, rfl, rfl, rfl, rfl, rfl, rfl, rfl, rfl, rfl, rfl, rfl, rfl, rfl, rfl, rfl, rfl, rfl, rfl, rfl, rfl, rfl, rfl, rfl, trivial⟩
   exact fun _ hm => hm.pick [] [0] [] rfl rfl
  have J1959871 : W 13 (lb 30 1959871) [(0, .pointer (some ⟨sb, 0, none⟩)), (2, .slice none 0 0), (3, .slice (some ⟨bo, 0, none⟩) 4 c), (4, .pointer (some ⟨bo, 0 + j * 2, none⟩)), (5, .pointer (some ⟨sb, 0, none⟩)), (6, .slice (some ⟨bo, 0, none⟩) 4 c), (7, .pointer (some ⟨sb, 0, none⟩)), (8, .bool f1), (9, .slice (some ⟨bo, 0, none⟩) 4 c), (10, .pointer (some ⟨sb, 0, none⟩)), (11, .slice (some ⟨bo, 0, none⟩) 4 c), (12, .int .i64 4), (13, .int .i64 ((j : Nat) : Int)), (14, .pointer (some ⟨bo, 0 + j * 2, none⟩)), (15, .pointer (some ⟨bo, 0 + j * 2, none⟩)), (16, .pointer (some ⟨bo, 0 + j * 2, none⟩)), (17, .pointer (some ⟨sb, 0, none⟩)), (18, .pointer (some ⟨bo, 0 + j * 2, none⟩)), (19, .pointer (some ⟨bo, 0 + j * 2, none⟩)), (20, .pointer (some ⟨bo, 0 + j * 2 + 0, none⟩)), (22, .pointer (some ⟨bo, 0 + j * 2, none⟩)), (23, .pointer (some ⟨bo, 0 + j * 2, none⟩)), (24, .pointer (some ⟨bo, 0 + j * 2 + 0, none⟩)), (25, .string y0), (28, .pointer (some ⟨sb, 0, none⟩)), (29, .pointer (some ⟨bo, 0 + j * 2, none⟩)), (30, .pointer (some ⟨bo, 0 + j * 2, none⟩)), (31, .pointer (some ⟨bo, 0 + j * 2 + 1, none⟩)), (33, .pointer (some ⟨bo, 0 + j * 2, none⟩)), (34, .pointer (some ⟨bo, 0 + j * 2, none⟩)), (35, .pointer (some ⟨bo, 0 + j * 2 + 0, none⟩))] (fun w => Strm 25 w B sb (m + 20 + 1 + 1)) [] [⟨.slice (some ⟨bo, 0, none⟩) 4 c, 159, 2, 4, l.flatMap csEnc⟩] [] := by
   skip
   rw [hW]
   refine wa_all [6, 17, 21] (by kernel_rfl) rfl ⟨⟨_, rfl, ?_⟩, ⟨_, rfl, ?_⟩, ⟨_, rfl, ?_⟩, trivial⟩
   ·refine wl_ov (ov_elem1 (k := 0) (v := .string y0) sc9 rfl (fun _ hm => (SlT.ofOwn cs_len (hm.ownI 0 rfl) hl4)) hy rfl rfl) rfl ?_
    refine wl_nil ?_
    refine nw 30 1959935 (fun _ _ => trivial) fun z => ?_
    have h := J1959935 
    rw [hW] at h
    refine wa_weak ?_ ?_ h
    ·exact ⟨rfl, rfl, rfl, rfl, rfl, rfl, rfl, rfl, rfl, rfl, rfl, rfl, rfl, rfl, rfl, rfl, rfl, rfl, rfl, rfl, rfl, rfl, rfl, rfl, rfl, rfl, rfl, rfl, rfl, rfl, rfl, rfl, trivial⟩
    exact fun _ hm => hm.pick [] [0] [] rfl rfl
   ·refine wl_ov (ov_elem1 (k := 1) (v := .string y1) sc9 rfl (fun _ hm => (SlT.ofOwn cs_len (hm.ownI 0 rfl) hl4)) hy rfl rfl) rfl ?_
    refine wl_nil ?_
    refine nw 30 2090943 (fun _ _ => trivial) fun z => ?_
    have h := J2090943 
    rw [hW] at h
    refine wa_weak ?_ ?_ h
    ·exact ⟨rfl, rfl, rfl, rfl, rfl, rfl, rfl, rfl, rfl, rfl, rfl, rfl, rfl, rfl, rfl, rfl, rfl, rfl, rfl, rfl, rfl, rfl, rfl, rfl, rfl, rfl, rfl, rfl, rfl, rfl, rfl, rfl, trivial⟩
    exact fun _ hm => hm.pick [] [0] [] rfl rfl
   refine wl_ov (ov_elem1 (k := 0) (v := .string y0) sc9 rfl (fun _ hm => (SlT.ofOwn cs_len (hm.ownI 0 rfl) hl4)) hy rfl rfl) rfl ?_
   refine wl_nil ?_
   refine nw 30 4057023 (fun _ _ => trivial) fun z => ?_
   have h := J4057023 
   rw [hW] at h
   refine wa_weak ?_ ?_ h
   ·exact ⟨rfl, rfl, rfl, rfl, rfl, rfl, rfl, rfl, rfl, rfl, rfl, rfl, rfl, rfl, rfl, rfl, rfl, rfl, rfl, rfl, rfl, rfl, rfl, rfl, rfl, rfl, rfl, rfl, rfl, rfl, rfl, rfl, trivial⟩
   exact fun _ hm => hm.pick [] [0] [] rfl rfl
  have J8381375 : ∀ (q22 : Nat), W 11 (lb 30 8381375) [(0, .pointer (some ⟨sb, 0, none⟩)), (2, .slice none 0 0), (3, .slice (some ⟨bo, 0, none⟩) 4 c), (4, .pointer (some ⟨bo, 0 + j * 2, none⟩)), (5, .pointer (some ⟨sb, 0, none⟩)), (6, .slice (some ⟨bo, 0, none⟩) 4 c), (7, .pointer (some ⟨sb, 0, none⟩)), (8, .bool f1), (9, .slice (some ⟨bo, 0, none⟩) 4 c), (10, .pointer (some ⟨sb, 0, none⟩)), (11, .slice (some ⟨bo, 0, none⟩) 4 c), (12, .int .i64 4), (13, .int .i64 ((j : Nat) : Int)), (14, .pointer (some ⟨bo, 0 + j * 2, none⟩)), (15, .pointer (some ⟨bo, 0 + j * 2, none⟩)), (16, .pointer (some ⟨bo, 0 + j * 2, none⟩)), (17, .pointer (some ⟨sb, 0, none⟩)), (18, .pointer (some ⟨bo, 0 + j * 2, none⟩)), (19, .pointer (some ⟨bo, 0 + j * 2, none⟩)), (20, .pointer (some ⟨bo, 0 + j * 2 + 0, none⟩)), (22, .pointer (some ⟨bo, 0 + j * 2, none⟩)), (23, .pointer (some ⟨bo, 0 + j * 2, none⟩)), (24, .pointer (some ⟨bo, 0 + j * 2 + 0, none⟩)), (28, .pointer (some ⟨sb, 0, none⟩)), (29, .pointer (some ⟨bo, 0 + j * 2, none⟩)), (30, .pointer (some ⟨bo, 0 + j * 2, none⟩)), (31, .pointer (some ⟨bo, 0 + j * 2 + 1, none⟩)), (32, .string y1), (33, .pointer (some ⟨bo, 0 + j * 2, none⟩)), (34, .pointer (some ⟨bo, 0 + j * 2, none⟩)), (35, .pointer (some ⟨bo, 0 + j * 2 + 0, none⟩)), (36, .string y0), (37, .slice (some ⟨q22, 0, none⟩) 5 5)] (fun w => Strm 25 w B sb (m + 20 + 1 + 1)) [(q22, 9, [.string y1, .string ⟨#[109, 105, 110, 105]⟩, .string ⟨#[110, 111, 110, 101]⟩, .string ⟨#[65]⟩, .string y0])] [⟨.slice (some ⟨bo, 0, none⟩) 4 c, 159, 2, 4, l.flatMap csEnc⟩] [] := by
   intro q22
   rw [hW]
   refine wa_all [6, 10] (by kernel_rfl) rfl ⟨⟨_, rfl, ?_⟩, ⟨_, rfl, ?_⟩, trivial⟩
   ·refine wl_ov (ov_elem1 (k := 0) (v := .string y0) sc9 rfl (fun _ hm => (SlT.ofOwn cs_len (hm.ownI 0 rfl) hl4)) hy rfl rfl) rfl ?_
    refine wl_nil ?_
    refine nw 30 8381439 (fun _ _ => trivial) fun z => ?_
    have h := T8381439 q22
    rw [hW] at h
    refine wa_weak ?_ ?_ h
    ·exact ⟨rfl, rfl, rfl, rfl, rfl, rfl, rfl, rfl, rfl, rfl, rfl, rfl, rfl, rfl, rfl, rfl, rfl, rfl, rfl, rfl, rfl, rfl, rfl, rfl, rfl, rfl, rfl, rfl, rfl, rfl, rfl, rfl, rfl, rfl, trivial⟩
    exact fun _ hm => hm.pick [0] [0] [] rfl rfl
   refine wl_ov (ov_elem1 (k := 0) (v := .string y0) sc9 rfl (fun _ hm => (SlT.ofOwn cs_len (hm.ownI 0 rfl) hl4)) hy rfl rfl) rfl ?_
   refine wl_nil ?_
   refine nw 30 8382399 (fun _ _ => trivial) fun z => ?_
   have h := T8382399 q22
   rw [hW] at h
   refine wa_weak ?_ ?_ h
   ·exact ⟨rfl, rfl, rfl, rfl, rfl, rfl, rfl, rfl, rfl, rfl, rfl, rfl, rfl, rfl, rfl, rfl, rfl, rfl, rfl, rfl, rfl, rfl, rfl, rfl, rfl, rfl, rfl, rfl, rfl, rfl, rfl, rfl, rfl, rfl, trivial⟩
   exact fun _ hm => hm.pick [0] [0] [] rfl rfl
  have J4187071 : W 12 (lb 30 4187071) [(0, .pointer (some ⟨sb, 0, none⟩)), (2, .slice none 0 0), (3, .slice (some ⟨bo, 0, none⟩) 4 c), (4, .pointer (some ⟨bo, 0 + j * 2, none⟩)), (5, .pointer (some ⟨sb, 0, none⟩)), (6, .slice (some ⟨bo, 0, none⟩) 4 c), (7, .pointer (some ⟨sb, 0, none⟩)), (8, .bool f1), (9, .slice (some ⟨bo, 0, none⟩) 4 c), (10, .pointer (some ⟨sb, 0, none⟩)), (11, .slice (some ⟨bo, 0, none⟩) 4 c), (12, .int .i64 4), (13, .int .i64 ((j : Nat) : Int)), (14, .pointer (some ⟨bo, 0 + j * 2, none⟩)), (15, .pointer (some ⟨bo, 0 + j * 2, none⟩)), (16, .pointer (some ⟨bo, 0 + j * 2, none⟩)), (17, .pointer (some ⟨sb, 0, none⟩)), (18, .pointer (some ⟨bo, 0 + j * 2, none⟩)), (19, .pointer (some ⟨bo, 0 + j * 2, none⟩)), (20, .pointer (some ⟨bo, 0 + j * 2 + 0, none⟩)), (22, .pointer (some ⟨bo, 0 + j * 2, none⟩)), (23, .pointer (some ⟨bo, 0 + j * 2, none⟩)), (24, .pointer (some ⟨bo, 0 + j * 2 + 0, none⟩)), (28, .pointer (some ⟨sb, 0, none⟩)), (29, .pointer (some ⟨bo, 0 + j * 2, none⟩)), (30, .pointer (some ⟨bo, 0 + j * 2, none⟩)), (31, .pointer (some ⟨bo, 0 + j * 2 + 1, none⟩)), (32, .string y1), (33, .pointer (some ⟨bo, 0 + j * 2, none⟩)), (34, .pointer (some ⟨bo, 0 + j * 2, none⟩)), (35, .pointer (some ⟨bo, 0 + j * 2 + 0, none⟩)), (36, .string y0)] (fun w => Strm 25 w B sb (m + 20 + 1 + 1)) [] [⟨.slice (some ⟨bo, 0, none⟩) 4 c, 159, 2, 4, l.flatMap csEnc⟩] [] := by
   skip
   rw [hW]
   refine wa_all [6, 10, 22] (by kernel_rfl) rfl ⟨⟨_, rfl, ?_⟩, ⟨_, rfl, ?_⟩, ⟨_, rfl, ?_⟩, trivial⟩
   ·refine wl_ov (ov_elem1 (k := 0) (v := .string y0) sc9 rfl (fun _ hm => (SlT.ofOwn cs_len (hm.ownI 0 rfl) hl4)) hy rfl rfl) rfl ?_
    refine wl_nil ?_
    refine nw 30 4187135 (fun _ _ => trivial) fun z => ?_
    have h := J4187135 
    rw [hW] at h
    refine wa_weak ?_ ?_ h
    ·exact ⟨rfl, rfl, rfl, rfl, rfl, rfl, rfl, rfl, rfl, rfl, rfl, rfl, rfl, rfl, rfl, rfl, rfl, rfl, rfl, rfl, rfl, rfl, rfl, rfl, rfl, rfl, rfl, rfl, rfl, rfl, rfl, rfl, rfl, trivial⟩
    exact fun _ hm => hm.pick [] [0] [] rfl rfl
   ·refine wl_ov (ov_elem1 (k := 0) (v := .string y0) sc9 rfl (fun _ hm => (SlT.ofOwn cs_len (hm.ownI 0 rfl) hl4)) hy rfl rfl) rfl ?_
    refine wl_nil ?_
    refine nw 30 4188095 (fun _ _ => trivial) fun z => ?_
    have h := J4188095 
    rw [hW] at h
    refine wa_weak ?_ ?_ h
    ·exact ⟨rfl, rfl, rfl, rfl, rfl, rfl, rfl, rfl, rfl, rfl, rfl, rfl, rfl, rfl, rfl, rfl, rfl, rfl, rfl, rfl, rfl, rfl, rfl, rfl, rfl, rfl, rfl, rfl, rfl, rfl, rfl, rfl, rfl, trivial⟩
    exact fun _ hm => hm.pick [] [0] [] rfl rfl
   refine wl_buildSlice (e := 9) (cs := [.string y1, .string ⟨#[109, 105, 110, 105]⟩, .string ⟨#[110, 111, 110, 101]⟩, .string ⟨#[65]⟩, .string y0]) rfl (by kernel_rfl) rfl fun q22 => ?_
   refine wl_nil ?_
   refine nw 30 8381375 (fun _ _ => trivial) fun z => ?_
   have h := J8381375 q22
   rw [hW] at h
   refine wa_weak ?_ ?_ h
   ·exact ⟨rfl, rfl, rfl, rfl, rfl, rfl, rfl, rfl, rfl, rfl, rfl, rfl, rfl, rfl, rfl, rfl, rfl, rfl, rfl, rfl, rfl, rfl, rfl, rfl, rfl, rfl, rfl, rfl, rfl, rfl, rfl, rfl, rfl, trivial⟩
   exact fun _ hm => hm.pick [0] [0] [] rfl rfl
  have J2089919 : W 13 (lb 30 2089919) [(0, .pointer (some ⟨sb, 0, none⟩)), (2, .slice none 0 0), (3, .slice (some ⟨bo, 0, none⟩) 4 c), (4, .pointer (some ⟨bo, 0 + j * 2, none⟩)), (5, .pointer (some ⟨sb, 0, none⟩)), (6, .slice (some ⟨bo, 0, none⟩) 4 c), (7, .pointer (some ⟨sb, 0, none⟩)), (8, .bool f1), (9, .slice (some ⟨bo, 0, none⟩) 4 c), (10, .pointer (some ⟨sb, 0, none⟩)), (11, .slice (some ⟨bo, 0, none⟩) 4 c), (12, .int .i64 4), (13, .int .i64 ((j : Nat) : Int)), (14, .pointer (some ⟨bo, 0 + j * 2, none⟩)), (15, .pointer (some ⟨bo, 0 + j * 2, none⟩)), (16, .pointer (some ⟨bo, 0 + j * 2, none⟩)), (17, .pointer (some ⟨sb, 0, none⟩)), (18, .pointer (some ⟨bo, 0 + j * 2, none⟩)), (19, .pointer (some ⟨bo, 0 + j * 2, none⟩)), (20, .pointer (some ⟨bo, 0 + j * 2 + 0, none⟩)), (22, .pointer (some ⟨bo, 0 + j * 2, none⟩)), (23, .pointer (some ⟨bo, 0 + j * 2, none⟩)), (24, .pointer (some ⟨bo, 0 + j * 2 + 0, none⟩)), (28, .pointer (some ⟨sb, 0, none⟩)), (29, .pointer (some ⟨bo, 0 + j * 2, none⟩)), (30, .pointer (some ⟨bo, 0 + j * 2, none⟩)), (31, .pointer (some ⟨bo, 0 + j * 2 + 1, none⟩)), (32, .string y1), (33, .pointer (some ⟨bo, 0 + j * 2, none⟩)), (34, .pointer (some ⟨bo, 0 + j * 2, none⟩)), (35, .pointer (some ⟨bo, 0 + j * 2 + 0, none⟩))] (fun w => Strm 25 w B sb (m + 20 + 1 + 1)) [] [⟨.slice (some ⟨bo, 0, none⟩) 4 c, 159, 2, 4, l.flatMap csEnc⟩] [] := by
   skip
   rw [hW]
   refine wa_all [6, 10, 21] (by kernel_rfl) rfl ⟨⟨_, rfl, ?_⟩, ⟨_, rfl, ?_⟩, ⟨_, rfl, ?_⟩, trivial⟩
   ·refine wl_ov (ov_elem1 (k := 0) (v := .string y0) sc9 rfl (fun _ hm => (SlT.ofOwn cs_len (hm.ownI 0 rfl) hl4)) hy rfl rfl) rfl ?_
    refine wl_nil ?_
    refine nw 30 2089983 (fun _ _ => trivial) fun z => ?_
    have h := J2089983 
    rw [hW] at h
    refine wa_weak ?_ ?_ h
    ·exact ⟨rfl, rfl, rfl, rfl, rfl, rfl, rfl, rfl, rfl, rfl, rfl, rfl, rfl, rfl, rfl, rfl, rfl, rfl, rfl, rfl, rfl, rfl, rfl, rfl, rfl, rfl, rfl, rfl, rfl, rfl, rfl, rfl, trivial⟩
    exact fun _ hm => hm.pick [] [0] [] rfl rfl
   ·refine wl_ov (ov_elem1 (k := 0) (v := .string y0) sc9 rfl (fun _ hm => (SlT.ofOwn cs_len (hm.ownI 0 rfl) hl4)) hy rfl rfl) rfl ?_
    refine wl_nil ?_
    refine nw 30 2090943 (fun _ _ => trivial) fun z => ?_
    have h := J2090943 
    rw [hW] at h
    refine wa_weak ?_ ?_ h
    ·exact ⟨rfl, rfl, rfl, rfl, rfl, rfl, rfl, rfl, rfl, rfl, rfl, rfl, rfl, rfl, rfl, rfl, rfl, rfl, rfl, rfl, rfl, rfl, rfl, rfl, rfl, rfl, rfl, rfl, rfl, rfl, rfl, rfl, trivial⟩
    exact fun _ hm => hm.pick [] [0] [] rfl rfl
   refine wl_ov (ov_elem1 (k := 0) (v := .string y0) sc9 rfl (fun _ hm => (SlT.ofOwn cs_len (hm.ownI 0 rfl) hl4)) hy rfl rfl) rfl ?_
   refine wl_nil ?_
   refine nw 30 4187071 (fun _ _ => trivial) fun z => ?_
   have h := J4187071 
   rw [hW] at h
   refine wa_weak ?_ ?_ h
   ·exact ⟨rfl, rfl, rfl, rfl, rfl, rfl, rfl, rfl, rfl, rfl, rfl, rfl, rfl, rfl, rfl, rfl, rfl, rfl, rfl, rfl, rfl, rfl, rfl, rfl, rfl, rfl, rfl, rfl, rfl, rfl, rfl, rfl, trivial⟩
   exact fun _ hm => hm.pick [] [0] [] rfl rfl
  have J4055999 : W 13 (lb 30 4055999) [(0, .pointer (some ⟨sb, 0, none⟩)), (2, .slice none 0 0), (3, .slice (some ⟨bo, 0, none⟩) 4 c), (4, .pointer (some ⟨bo, 0 + j * 2, none⟩)), (5, .pointer (some ⟨sb, 0, none⟩)), (6, .slice (some ⟨bo, 0, none⟩) 4 c), (7, .pointer (some ⟨sb, 0, none⟩)), (8, .bool f1), (9, .slice (some ⟨bo, 0, none⟩) 4 c), (10, .pointer (some ⟨sb, 0, none⟩)), (11, .slice (some ⟨bo, 0, none⟩) 4 c), (12, .int .i64 4), (13, .int .i64 ((j : Nat) : Int)), (14, .pointer (some ⟨bo, 0 + j * 2, none⟩)), (15, .pointer (some ⟨bo, 0 + j * 2, none⟩)), (16, .pointer (some ⟨bo, 0 + j * 2, none⟩)), (17, .pointer (some ⟨sb, 0, none⟩)), (18, .pointer (some ⟨bo, 0 + j * 2, none⟩)), (19, .pointer (some ⟨bo, 0 + j * 2, none⟩)), (20, .pointer (some ⟨bo, 0 + j * 2 + 0, none⟩)), (22, .pointer (some ⟨bo, 0 + j * 2, none⟩)), (23, .pointer (some ⟨bo, 0 + j * 2, none⟩)), (24, .pointer (some ⟨bo, 0 + j * 2 + 0, none⟩)), (28, .pointer (some ⟨sb, 0, none⟩)), (29, .pointer (some ⟨bo, 0 + j * 2, none⟩)), (30, .pointer (some ⟨bo, 0 + j * 2, none⟩)), (31, .pointer (some ⟨bo, 0 + j * 2 + 1, none⟩)), (33, .pointer (some ⟨bo, 0 + j * 2, none⟩)), (34, .pointer (some ⟨bo, 0 + j * 2, none⟩)), (35, .pointer (some ⟨bo, 0 + j * 2 + 0, none⟩)), (36, .string y0)] (fun w => Strm 25 w B sb (m + 20 + 1 + 1)) [] [⟨.slice (some ⟨bo, 0, none⟩) 4 c, 159, 2, 4, l.flatMap csEnc⟩] [] := by
   skip
   rw [hW]
   refine wa_all [6, 10, 17] (by kernel_rfl) rfl ⟨⟨_, rfl, ?_⟩, ⟨_, rfl, ?_⟩, ⟨_, rfl, ?_⟩, trivial⟩
   ·refine wl_ov (ov_elem1 (k := 0) (v := .string y0) sc9 rfl (fun _ hm => (SlT.ofOwn cs_len (hm.ownI 0 rfl) hl4)) hy rfl rfl) rfl ?_
    refine wl_nil ?_
    refine nw 30 4056063 (fun _ _ => trivial) fun z => ?_
    have h := J4056063 
    rw [hW] at h
    refine wa_weak ?_ ?_ h
    ·exact ⟨rfl, rfl, rfl, rfl, rfl, rfl, rfl, rfl, rfl, rfl, rfl, rfl, rfl, rfl, rfl, rfl, rfl, rfl, rfl, rfl, rfl, rfl, rfl, rfl, rfl, rfl, rfl, rfl, rfl, rfl, rfl, rfl, trivial⟩
    exact fun _ hm => hm.pick [] [0] [] rfl rfl
   ·refine wl_ov (ov_elem1 (k := 0) (v := .string y0) sc9 rfl (fun _ hm => (SlT.ofOwn cs_len (hm.ownI 0 rfl) hl4)) hy rfl rfl) rfl ?_
    refine wl_nil ?_
    refine nw 30 4057023 (fun _ _ => trivial) fun z => ?_
    have h := J4057023 
    rw [hW] at h
    refine wa_weak ?_ ?_ h
    ·exact ⟨rfl, rfl, rfl, rfl, rfl, rfl, rfl, rfl, rfl, rfl, rfl, rfl, rfl, rfl, rfl, rfl, rfl, rfl, rfl, rfl, rfl, rfl, rfl, rfl, rfl, rfl, rfl, rfl, rfl, rfl, rfl, rfl, trivial⟩
    exact fun _ hm => hm.pick [] [0] [] rfl rfl
   refine wl_ov (ov_elem1 (k := 1) (v := .string y1) sc9 rfl (fun _ hm => (SlT.ofOwn cs_len (hm.ownI 0 rfl) hl4)) hy rfl rfl) rfl ?_
   refine wl_nil ?_
   refine nw 30 4187071 (fun _ _ => trivial) fun z => ?_
   have h := J4187071 
   rw [hW] at h
   refine wa_weak ?_ ?_ h
   ·exact ⟨rfl, rfl, rfl, rfl, rfl, rfl, rfl, rfl, rfl, rfl, rfl, rfl, rfl, rfl, rfl, rfl, rfl, rfl, rfl, rfl, rfl, rfl, rfl, rfl, rfl, rfl, rfl, rfl, rfl, rfl, rfl, rfl, trivial⟩
   exact fun _ hm => hm.pick [] [0] [] rfl rfl
  have J1958847 : W 14 (lb 30 1958847) [(0, .pointer (some ⟨sb, 0, none⟩)), (2, .slice none 0 0), (3, .slice (some ⟨bo, 0, none⟩) 4 c), (4, .pointer (some ⟨bo, 0 + j * 2, none⟩)), (5, .pointer (some ⟨sb, 0, none⟩)), (6, .slice (some ⟨bo, 0, none⟩) 4 c), (7, .pointer (some ⟨sb, 0, none⟩)), (8, .bool f1), (9, .slice (some ⟨bo, 0, none⟩) 4 c), (10, .pointer (some ⟨sb, 0, none⟩)), (11, .slice (some ⟨bo, 0, none⟩) 4 c), (12, .int .i64 4), (13, .int .i64 ((j : Nat) : Int)), (14, .pointer (some ⟨bo, 0 + j * 2, none⟩)), (15, .pointer (some ⟨bo, 0 + j * 2, none⟩)), (16, .pointer (some ⟨bo, 0 + j * 2, none⟩)), (17, .pointer (some ⟨sb, 0, none⟩)), (18, .pointer (some ⟨bo, 0 + j * 2, none⟩)), (19, .pointer (some ⟨bo, 0 + j * 2, none⟩)), (20, .pointer (some ⟨bo, 0 + j * 2 + 0, none⟩)), (22, .pointer (some ⟨bo, 0 + j * 2, none⟩)), (23, .pointer (some ⟨bo, 0 + j * 2, none⟩)), (24, .pointer (some ⟨bo, 0 + j * 2 + 0, none⟩)), (28, .pointer (some ⟨sb, 0, none⟩)), (29, .pointer (some ⟨bo, 0 + j * 2, none⟩)), (30, .pointer (some ⟨bo, 0 + j * 2, none⟩)), (31, .pointer (some ⟨bo, 0 + j * 2 + 1, none⟩)), (33, .pointer (some ⟨bo, 0 + j * 2, none⟩)), (34, .pointer (some ⟨bo, 0 + j * 2, none⟩)), (35, .pointer (some ⟨bo, 0 + j * 2 + 0, none⟩))] (fun w => Strm 25 w B sb (m + 20 + 1 + 1)) [] [⟨.slice (some ⟨bo, 0, none⟩) 4 c, 159, 2, 4, l.flatMap csEnc⟩] [] := by
   skip
   rw [hW]
   refine wa_all [6, 10, 17, 21] (by kernel_rfl) rfl ⟨⟨_, rfl, ?_⟩, ⟨_, rfl, ?_⟩, ⟨_, rfl, ?_⟩, ⟨_, rfl, ?_⟩, trivial⟩
   ·refine wl_ov (ov_elem1 (k := 0) (v := .string y0) sc9 rfl (fun _ hm => (SlT.ofOwn cs_len (hm.ownI 0 rfl) hl4)) hy rfl rfl) rfl ?_
    refine wl_nil ?_
    refine nw 30 1958911 (fun _ _ => trivial) fun z => ?_
    have h := J1958911 
    rw [hW] at h
    refine wa_weak ?_ ?_ h
    ·exact ⟨rfl, rfl, rfl, rfl, rfl, rfl, rfl, rfl, rfl, rfl, rfl, rfl, rfl, rfl, rfl, rfl, rfl, rfl, rfl, rfl, rfl, rfl, rfl, rfl, rfl, rfl, rfl, rfl, rfl, rfl, rfl, trivial⟩
    exact fun _ hm => hm.pick [] [0] [] rfl rfl
   ·refine wl_ov (ov_elem1 (k := 0) (v := .string y0) sc9 rfl (fun _ hm => (SlT.ofOwn cs_len (hm.ownI 0 rfl) hl4)) hy rfl rfl) rfl ?_
    refine wl_nil ?_
    refine nw 30 1959871 (fun _ _ => trivial) fun z => ?_
    have h := J1959871 
    rw [hW] at h
    refine wa_weak ?_ ?_ h
    ·exact ⟨rfl, rfl, rfl, rfl, rfl, rfl, rfl, rfl, rfl, rfl, rfl, rfl, rfl, rfl, rfl, rfl, rfl, rfl, rfl, rfl, rfl, rfl, rfl, rfl, rfl, rfl, rfl, rfl, rfl, rfl, rfl, trivial⟩
    exact fun _ hm => hm.pick [] [0] [] rfl rfl
   ·refine wl_ov (ov_elem1 (k := 1) (v := .string y1) sc9 rfl (fun _ hm => (SlT.ofOwn cs_len (hm.ownI 0 rfl) hl4)) hy rfl rfl) rfl ?_
    refine wl_nil ?_
    refine nw 30 2089919 (fun _ _ => trivial) fun z => ?_
    have h := J2089919 
    rw [hW] at h
    refine wa_weak ?_ ?_ h
    ·exact ⟨rfl, rfl, rfl, rfl, rfl, rfl, rfl, rfl, rfl, rfl, rfl, rfl, rfl, rfl, rfl, rfl, rfl, rfl, rfl, rfl, rfl, rfl, rfl, rfl, rfl, rfl, rfl, rfl, rfl, rfl, rfl, trivial⟩
    exact fun _ hm => hm.pick [] [0] [] rfl rfl
   refine wl_ov (ov_elem1 (k := 0) (v := .string y0) sc9 rfl (fun _ hm => (SlT.ofOwn cs_len (hm.ownI 0 rfl) hl4)) hy rfl rfl) rfl ?_
   refine wl_nil ?_
   refine nw 30 4055999 (fun _ _ => trivial) fun z => ?_
   have h := J4055999 
   rw [hW] at h
   refine wa_weak ?_ ?_ h
   ·exact ⟨rfl, rfl, rfl, rfl, rfl, rfl, rfl, rfl, rfl, rfl, rfl, rfl, rfl, rfl, rfl, rfl, rfl, rfl, rfl, rfl, rfl, rfl, rfl, rfl, rfl, rfl, rfl, rfl, rfl, rfl, rfl, trivial⟩
   exact fun _ hm => hm.pick [] [0] [] rfl rfl
  rw [hW]
  have h := J1958847 
  rw [hW] at h
  refine wa_weak ?_ ?_ h
  ·exact ⟨rfl, rfl, rfl, rfl, rfl, rfl, rfl, rfl, rfl, rfl, rfl, rfl, rfl, rfl, rfl, rfl, rfl, rfl, rfl, rfl, rfl, rfl, rfl, rfl, rfl, rfl, rfl, rfl, rfl, rfl, trivial⟩
  exact fun _ hm => hm.pick [] [0] [] rfl rfl
 have hf : f1 = false := by simpa using hh
 clear hh
 refine gw_skip (nx_then (sr_ (mv_ rfl (sg_ rfl (nn_ ?_)))))
 refine gw_ret ?_
 refine nx_ret1 rfl rfl fun wx hm => ?_
 exact ⟨A, c, l, rfl, hm.ownI 0 rfl, hl4, hok, hm.k.more (by omega), hm.g⟩
end Go.Proofs.YtjecbkgjabnmoaaGreatDoor
