/- Several texts as one: Ci Rw -/
import Derived.Test.YtnpcbfllnkiopaaGreatDoorN2b
import Derived.Test.YtnpcbfllnkiopaaGreatDoorN2a
import Derived.Test.YtnpcbfllnkiopaaGreatDoorN2c
set_option maxRecDepth 100000
set_option maxHeartbeats 4000000
namespace Go.Proofs.YtnpcbfllnkiopaaGreatDoor
open Go.RowKit
theorem cs_mem {l : List Cs} {x : Cs} {j : Nat} (h : ∀ y ∈ l, CsOk y) (hx : CsOk x) : ∀ y ∈ l.set j x, CsOk y := fun y hy => by
  rcases List.mem_or_eq_of_mem_set hy with hy | rfl
  · exact h y hy
  · exact hx
theorem gclasses_anyF (w : World) (B sb m : Nat) (hS : Strm 25 w B sb m) (hm : m ≤ 100000000000) :
  Calls Tryz.prog 208 #[.pointer (some ⟨sb, 0, none⟩)] w (fun e w' => ∃ (A : Option Addr) (c : Nat) (l : List Cs), e = .returned (.slice A 4 c) ∧ w'.ownsRow w.heap.size 170 2 (.slice A 4 c) 4 (l.flatMap csEnc) ∧ (l.length = 4 ∧ classesE l = 0) ∧ (∀ x ∈ l, CsOk x) ∧ Strm 25 w' B sb (m + 20) ∧ w.grownBy w' (some sb)) := by
 refine gw_enter ⟨35, w, (some sb), []⟩ Tryz.func208 rfl Tryz.ntmps208 rfl (memS (X := []) hS allF_nil allL_nil) ?_
 refine sr_ (sg_ rfl (nn_ (sr_ ?_)))
 refine wl_ov (ov_build (cs := [.string ⟨#[98, 105, 103]⟩, .string ⟨#[]⟩]) rfl (by kernel_rfl)) rfl ?_
 refine wl_ov (ov_build (cs := [.string ⟨#[109, 97, 120, 105]⟩, .string ⟨#[]⟩]) rfl (by kernel_rfl)) rfl ?_
 refine wl_ov (ov_build (cs := [.string ⟨#[109, 105, 100, 105]⟩, .string ⟨#[]⟩]) rfl (by kernel_rfl)) rfl ?_
 refine wl_ov (ov_build (cs := [.string ⟨#[109, 105, 110, 105]⟩, .string ⟨#[]⟩]) rfl (by kernel_rfl)) rfl ?_
 refine wl_buildSlice (e := 170) (cs := [.string ⟨#[98, 105, 103]⟩, .string ⟨#[]⟩, .string ⟨#[109, 97, 120, 105]⟩, .string ⟨#[]⟩, .string ⟨#[109, 105, 100, 105]⟩, .string ⟨#[]⟩, .string ⟨#[109, 105, 110, 105]⟩, .string ⟨#[]⟩]) rfl (by kernel_rfl) rfl fun g1 => ?_
 refine sg_ rfl (nn_ (gw_seq (sr_ (mv_ rfl (wl_ov (ov_len es62 rfl) rfl ?_)))))
 refine wl_set 11 (v' := .int .i64 4) rfl rfl ?_
 refine mv_ rfl (nn_ (gw_block ?_))
 refine gw_toOwn (sz := 2) (n := 4) 0 [] rfl rfl rfl (by unfold maxLen; omega) ?_
 refine gw_loop (γ := Nat × List Cs) (fun g => g.1 ≤ 4 ∧ (g.2.length = 4 ∧ ClG g.2) ∧ (∀ x ∈ g.2, CsOk x)) (fun g => [(0, .pointer (some ⟨sb, 0, none⟩)), (2, .slice none 0 0), (3, .slice (some ⟨g1, 0, none⟩) 4 4), (11, .int .i64 4), (12, .int .i64 ((g.1 : Nat) : Int))]) (fun g => fun w => Strm 25 w B sb (m + 2 * g.1)) (fun g => []) (fun g => [⟨.slice (some ⟨g1, 0, none⟩) 4 4, 170, 2, 4, g.2.flatMap csEnc⟩]) (fun g => []) (fun g => 4 - g.1) (0, [⟨⟨#[98, 105, 103]⟩, ⟨#[]⟩⟩, ⟨⟨#[109, 97, 120, 105]⟩, ⟨#[]⟩⟩, ⟨⟨#[109, 105, 100, 105]⟩, ⟨#[]⟩⟩, ⟨⟨#[109, 105, 110, 105]⟩, ⟨#[]⟩⟩]) ⟨Nat.zero_le _, ⟨rfl, clG_start⟩, by simp [CsOk] <;> decide⟩ ⟨rfl, rfl, rfl, rfl, rfl, trivial⟩ (fun _ hm => (hm.more rfl (by first | omega | (dsimp only; omega))).pick [] [0] [] rfl rfl) ?_
 rintro ⟨i, l⟩ hinv
 replace hinv : i ≤ 4 ∧ (l.length = 4 ∧ ClG l) ∧ (∀ x ∈ l, CsOk x) := hinv
 dsimp only
 refine sr_ ?_
 obtain ⟨hi0, ⟨hl4, hcg⟩, hok⟩ := hinv
 refine wl_ov (ov_lss rfl rfl) rfl (nn_ (gw_seq ?_))
 refine gw_cond rfl (fun hh => ?_) (fun hh => ?_)
 ·have hi : ((i : Nat) : Int) < 4 := by simpa using hh
  clear hh
  refine gw_skip (nx_then (gw_seq (gw_block (sr_ (mv_ rfl (sg_ rfl (nn_ (sr_ (mv_ rfl ?_)))))))))
  refine wl_ov (ov_gtr rfl rfl) rfl ?_
  refine mv_ rfl ?_
  rcases Bool.eq_false_or_eq_true (decide (0 < ((i : Nat) : Int))) with h0 | h0
  ·refine wl_set 17 rfl (congrArg Value.bool h0) ?_
   have h0 := of_decide_eq_true h0
   refine wl_guard_on rfl rfl rfl (mv_ rfl (wl_guard_on rfl rfl rfl ?_))
   refine wl_got (γ := Bool) (val := fun v => .bool v) (φ := fun v => True) rfl cb25 rfl rfl rfl rfl (fun wx hm => ((flip_any _ wx B sb _ hm.k (by omega) (by omega) (by omega)).mono fun _ _ ⟨v, he, hS, hg⟩ => ⟨v, trivial, he, hS, hg⟩)) fun f2 _ => ?_
   refine wl_guard_on rfl rfl rfl (wl_ov (ov_un_not rfl) rfl (pt_ rfl rfl (nn_ ?_)))
   refine gw_cond rfl (fun hh => ?_) (fun hh => ?_)
   ·have hf : f2 = false := by simpa using hh
    clear hh
    refine gw_region (mv_ rfl (mv_ rfl (mv_ rfl (mv_ rfl (mv_ rfl ?_)))))
    refine wl_got (γ := Int) (val := fun v => .int .i64 v) (φ := fun v => IsBelow ((i : Nat) : Int) v) rfl cb56 rfl rfl rfl rfl (fun wx hm => (next_any _ wx B sb _ hm.k (by omega) (by omega) (by omega))) fun vj hvj => ?_
    have hj := isBelow_lt hvj (by omega)
    obtain ⟨j, rfl⟩ := Int.eq_ofNat_of_zero_le hj.1
    have hji : j < 4 := by omega
    obtain ⟨y, hy⟩ : ∃ y, l[j]? = some y := ⟨_, List.getElem?_eq_getElem (by omega)⟩
    obtain ⟨z, hz⟩ : ∃ z, l[i]? = some z := ⟨_, List.getElem?_eq_getElem (by omega)⟩
    obtain ⟨y0, y1⟩ := y
    obtain ⟨z0, z1⟩ := z
    obtain ⟨hy0, hy1⟩ := hok _ (List.mem_of_getElem? hy)
    obtain ⟨hz0, hz1⟩ := hok _ (List.mem_of_getElem? hz)
    refine wl_ov (ov_index (j := j) es62 rfl rfl (by omega)) rfl ?_
    refine fd_ fo170_0 rfl rfl ?_
    refine wl_ov (ov_elem1 (k := 0) (v := .string y0) sc9 rfl (fun _ hm => (SlT.ofOwn cs_len (hm.ownI 0 rfl) hl4)) hy rfl rfl) rfl ?_
    refine wl_ov (ov_index (j := i) es62 rfl rfl (by omega)) rfl ?_
    refine fd_ fo170_1 rfl rfl ?_
    refine wl_storeE (l := l) (j := i) (r := 1) (el := ⟨z0, z1⟩) (el' := ⟨z0, y0⟩) 0 sc9 rfl rfl rfl rfl cs_len rfl hz hl4 (by decide) rfl rfl ?_
    refine wl_nil (nx_blk_nrm (nx_then (gw_region (ad_ rfl rfl (mv_ rfl (wl_nil ?_))))))
    exact nx_round (i + 1, l.set i ⟨z0, y0⟩) ⟨by dsimp only; omega, ⟨by simp [hl4], clG_set hcg (show j < i by omega) (by omega) hy hz⟩, cs_mem hok ⟨hz0, hy0⟩⟩ (by dsimp only; omega) ⟨rfl, rfl, rfl, rfl, (some_int (by omega)), trivial⟩ (fun _ hm => (hm.more rfl (by first | omega | (dsimp only; omega))).pick [] [0] [] rfl rfl)
   have hf : f2 = true := by simpa using hh
   clear hh
   refine gw_skip (nx_blk_nrm (nx_then (gw_region (ad_ rfl rfl (mv_ rfl (wl_nil ?_))))))
   exact nx_round (i + 1, l) ⟨by dsimp only; omega, ⟨hl4, hcg⟩, hok⟩ (by dsimp only; omega) ⟨rfl, rfl, rfl, rfl, (some_int (by omega)), trivial⟩ (fun _ hm => (hm.more rfl (by first | omega | (dsimp only; omega))).pick [] [0] [] rfl rfl)
  refine wl_set 17 rfl (congrArg Value.bool h0) ?_
  refine goff rfl rfl rfl (goff rfl rfl rfl (goff rfl rfl rfl (pf_ rfl rfl (nn_ (cf_ rfl (gw_skip (nx_blk_nrm (nx_then (gw_region (ad_ rfl rfl (mv_ rfl (wl_nil ?_))))))))))))
  exact nx_round (i + 1, l) ⟨by dsimp only; omega, ⟨hl4, hcg⟩, hok⟩ (by dsimp only; omega) ⟨rfl, rfl, rfl, rfl, (some_int (by omega)), trivial⟩ (fun _ hm => (hm.more rfl (by first | omega | (dsimp only; omega))).pick [] [0] [] rfl rfl)
 have hi : ¬ (((i : Nat) : Int) < 4) := by simpa using hh
 clear hh
 refine gw_exit ?_
 refine nx_then_exit (nx_then_exit ?_)
 refine nx_blk_here ?_
 refine nx_then (sr_ (mv_ rfl (sg_ rfl (nn_ ?_))))
 refine gw_ret ?_
 refine nx_ret1 rfl rfl fun wx hm => ?_
 exact ⟨_, 4, l, rfl, hm.ownI 0 rfl, ⟨hl4, clG_right hcg⟩, hok, hm.k.more (by omega), hm.g⟩
theorem gclasses_any (w : World) (B sb m : Nat) (hS : Strm 25 w B sb m) (hm : m ≤ 100000000000) :
    Calls Tryz.prog 208 #[.pointer (some ⟨sb, 0, none⟩)] w (fun e w' => ∃ (A : Option Addr) (c : Nat) (l : List Cs), e = .returned (.slice A 4 c) ∧ w'.ownsRow w.heap.size 170 2 (.slice A 4 c) 4 (l.flatMap csEnc) ∧ l.length = 4 ∧ (∀ x ∈ l, CsOk x) ∧ Strm 25 w' B sb (m + 20) ∧ w.grownBy w' (some sb)) :=
  (gclasses_anyF w B sb m hS hm).mono fun _ _ ⟨A, c, l, he, ho, ⟨hl, _⟩, h⟩ => ⟨A, c, l, he, ho, hl, h⟩
theorem mem5 {x a b c d e : ByteArray} (h : x ∈ [a, b, c, d, e]) : x = a ∨ x = b ∨ x = c ∨ x = d ∨ x = e := by simpa using h
theorem ganyClasses_any (w : World) (B sb m : Nat) (hS : Strm 25 w B sb m) (hm : m ≤ 100000000000) :
  Calls Tryz.prog 125 #[.pointer (some ⟨sb, 0, none⟩)] w (fun e w' => ∃ (A : Option Addr) (c : Nat) (l : List Cs), e = .returned (.slice A 4 c) ∧ w'.ownsRow w.heap.size 170 2 (.slice A 4 c) 4 (l.flatMap csEnc) ∧ l.length = 4 ∧ (∀ x ∈ l, CsOk x) ∧ Strm 25 w' B sb (m + 40) ∧ w.grownBy w' (some sb)) := by
 refine gw_enter ⟨44, w, (some sb), []⟩ Tryz.func125 rfl Tryz.ntmps125 rfl (memS (X := []) hS allF_nil allL_nil) ?_
 refine sr_ (sg_ rfl (nn_ (sr_ (mv_ rfl ?_))))
 refine wl_callgs (γ := Option Addr × Nat × List Cs) (val := (fun g => .slice g.1 4 g.2.1)) (φ := (fun g => g.2.2.length = 4 ∧ (∀ x ∈ g.2.2, CsOk x))) (m' := m + 20) (fun g => ⟨.slice g.1 4 g.2.1, 170, 2, 4, g.2.2.flatMap csEnc⟩) rfl cb208 rfl rfl rfl rfl (fun wx hm => (gclasses_any wx B sb _ hm.k (by omega)).mono fun _ _ ⟨A, c, l, he, ho, hl, hok, hS, hg⟩ => ⟨(A, c, l), he, ⟨hl, hok⟩, hS, hg, ho⟩) ?_
 rintro ⟨A, c, l⟩ hphi
 dsimp only at hphi ⊢
 obtain ⟨hl4, hok⟩ := hphi
 refine sg_ rfl (nn_ (gw_seq (sr_ (mv_ rfl ?_))))
 refine wl_got (γ := Bool) (val := fun v => .bool v) (φ := fun v => True) rfl cb25 rfl rfl rfl rfl (fun wx hm => ((flip_any _ wx B sb _ hm.k (by omega) (by omega) (by omega)).mono fun _ _ ⟨v, he, hS, hg⟩ => ⟨v, trivial, he, hS, hg⟩)) fun f1 _ => ?_
 refine nn_ ?_
 refine gw_cond rfl (fun hh => ?_) (fun hh => ?_)
 ·have hf : f1 = true := by simpa using hh
  clear hh
  refine sr_ ?_
  refine wl_look (R := ∃ g, A = some ⟨g, 0, none⟩) (fun wx hm => own_addr (hm.ownI 0 rfl) (by omega)) ?_
  rintro ⟨bo, rfl⟩
  refine mv_ rfl (mv_ rfl (mv_ rfl (wl_ov (ov_len es62 rfl) rfl ?_)))
  refine wl_set 12 (v' := .int .i64 4) rfl rfl ?_
  refine wl_got (γ := Int) (val := fun v => .int .i64 v) (φ := fun v => IsBelow 4 v) rfl cb56 rfl rfl rfl rfl (fun wx hm => (next_any _ wx B sb _ hm.k (by omega) (by omega) (by omega))) fun vj hvj => ?_
  have hj := isBelow_lt hvj (by omega)
  obtain ⟨j, rfl⟩ := Int.eq_ofNat_of_zero_le hj.1
  have hji : j < 4 := by omega
  obtain ⟨y, hy⟩ : ∃ y, l[j]? = some y := ⟨_, List.getElem?_eq_getElem (by omega)⟩
  obtain ⟨y0, y1⟩ := y
  obtain ⟨hy0, hy1⟩ := hok _ (List.mem_of_getElem? hy)
  have hy0 : y0.size ≤ 1000000 := hy0
  have hy1 : y1.size ≤ 1000000 := hy1
  refine wl_ov (ov_index (j := j) es62 rfl rfl (by omega)) rfl ?_
  refine sg_ rfl (nn_ ?_)
  refine gd (fun wz => True) mixed (fun _ _ => trivial) fun z => ?_
  refine wt 0 30 1 rfl z (ov_move rfl) ?_
  refine wt 1 30 3 rfl z (ov_move rfl) ?_
  refine wt 2 30 7 rfl z (ov_move rfl) ?_
  refine wt 3 30 15 rfl z (ov_move rfl) ?_
  refine wt 4 30 31 rfl z (ov_nilcheck rfl) ?_
  refine wt 5 30 63 rfl z (ov_field fo170_0 rfl rfl) ?_
  refine wt 7 30 191 rfl z (ov_move rfl) ?_
  refine wt 8 30 447 rfl z (ov_nilcheck rfl) ?_
  refine wt 9 30 959 rfl z (ov_field fo170_0 rfl rfl) ?_
  refine wt 13 30 9151 rfl z (ov_move rfl) ?_
  refine wt 14 30 25535 rfl z (ov_move rfl) ?_
  refine wt 15 30 58303 rfl z (ov_nilcheck rfl) ?_
  refine wt 16 30 123839 rfl z (ov_field fo170_1 rfl rfl) ?_
  refine wt 18 30 385983 rfl z (ov_move rfl) ?_
  refine wt 19 30 910271 rfl z (ov_nilcheck rfl) ?_
  refine wt 20 30 1958847 rfl z (ov_field fo170_0 rfl rfl) ?_
  refine wa_open fun W hW => ?_
  have T2097151 : ∀ (q11 : Nat) (k12 : ByteArray) (hk12 : k12 ∈ ([y0, y0, ⟨#[]⟩, ⟨#[65]⟩, ⟨#[122, 101, 100]⟩] : List ByteArray)), W 9 (lb 30 2097151) [(2, .slice none 0 0), (3, .slice (some ⟨bo, 0, none⟩) 4 c), (15, .pointer (some ⟨bo, 0 + j * 2, none⟩)), (16, .pointer (some ⟨bo, 0 + j * 2, none⟩)), (27, .string k12), (28, .pointer (some ⟨sb, 0, none⟩)), (32, .string y1), (35, .pointer (some ⟨bo, 0 + j * 2 + 0, none⟩))] (fun w => Strm 25 w B sb (m + 20 + 1 + 1 + 1)) [(q11, 9, [.string y0, .string y0, .string ⟨#[]⟩, .string ⟨#[65]⟩, .string ⟨#[122, 101, 100]⟩])] [⟨.slice (some ⟨bo, 0, none⟩) 4 c, 170, 2, 4, l.flatMap csEnc⟩] [] := by
   intro q11 k12 hk12
   rw [hW]
   refine wa1 21 rfl ?_
   refine wl_ov (ov_elem1 (k := 0) (v := .string y0) sc9 rfl (fun _ hm => (SlT.ofOwn cs_len (hm.ownI 0 rfl) hl4)) hy rfl rfl) rfl ?_
   refine wl_nil ?_
   refine nw 30 4194303 (fun _ _ => trivial) fun z => ?_
   refine wa1 22 rfl ?_
   refine wl_buildSlice (e := 9) (cs := [.string y1, .string ⟨#[109, 105, 110, 105]⟩, .string ⟨#[110, 111, 110, 101]⟩, .string ⟨#[65]⟩, .string y0]) rfl (by kernel_rfl) rfl fun q22 => ?_
   refine wl_nil ?_
   refine nw 30 8388607 (fun _ _ => trivial) fun z => ?_
   refine wa1 23 rfl ?_
   refine wl_got (γ := ByteArray) (val := fun v => .string v) (φ := fun v => v ∈ ([y1, ⟨#[109, 105, 110, 105]⟩, ⟨#[110, 111, 110, 101]⟩, ⟨#[65]⟩, y0] : List ByteArray)) rfl cb57 rfl rfl rfl rfl (fun wx hm => (some_any [y1, ⟨#[109, 105, 110, 105]⟩, ⟨#[110, 111, 110, 101]⟩, ⟨#[65]⟩, y0] _ _ _ wx B sb _ hm.k (by omega) (by simp) (by simp) (hm.blkI 0 rfl) (hm.neRow 0 rfl rfl))) fun k23 hk23 => ?_
   refine wl_nil ?_
   refine nw 30 16777215 (fun _ _ => trivial) fun z => ?_
   refine wt 24 30 33554431 rfl z (ov_nilcheck rfl) ?_
   refine wt 25 30 67108863 rfl z (ov_field fo170_0 rfl rfl) ?_
   refine wa1 26 rfl ?_
   refine wl_storeE (l := l) (j := j) (r := 0) (el := ⟨y0, y1⟩) (el' := ⟨k12, y1⟩) 0 sc9 rfl rfl rfl rfl cs_len rfl hy hl4 (by decide) rfl rfl ?_
   refine wl_nil ?_
   refine nw 30 134217727 (fun _ _ => trivial) fun z => ?_
   refine wt 27 30 268435455 rfl z (ov_nilcheck rfl) ?_
   refine wt 28 30 536870911 rfl z (ov_field fo170_1 rfl rfl) ?_
   refine wa1 29 rfl ?_
   have hy2 : (l.set j ⟨k12, y1⟩)[j]? = some (⟨k12, y1⟩ : Cs) := by rw [List.getElem?_set_self (by omega)]
   have hl42 : (l.set j ⟨k12, y1⟩).length = 4 := by simp [hl4]
   refine wl_storeE (l := (l.set j ⟨k12, y1⟩)) (j := j) (r := 1) (el := ⟨k12, y1⟩) (el' := ⟨k12, k23⟩) 0 sc9 rfl rfl rfl rfl cs_len rfl hy2 hl42 (by decide) rfl rfl ?_
   refine wl_nil ?_
   refine nw 30 1073741823 (fun _ _ => trivial) fun z => ?_
   refine wa_done (by kernel_rfl) ?_
   refine nx_then (sr_ (mv_ rfl (sg_ rfl (nn_ ?_))))
   refine gw_ret ?_
   refine nx_ret1 rfl rfl fun wx hm => ?_
   exact ⟨some ⟨bo, 0, none⟩, c, _, rfl, hm.ownI 0 rfl, (by simp [hl4]), cs_mem (cs_mem hok ⟨(show k12.size ≤ 1000000 by rcases mem5 hk12 with h | h | h | h | h <;> rw [h] <;> first | assumption | decide), hy1⟩) ⟨(show k12.size ≤ 1000000 by rcases mem5 hk12 with h | h | h | h | h <;> rw [h] <;> first | assumption | decide), (show k23.size ≤ 1000000 by rcases mem5 hk23 with h | h | h | h | h <;> rw [h] <;> first | assumption | decide)⟩, hm.k.more (by omega), hm.g⟩
  have T4063231 : ∀ (q11 : Nat) (k12 : ByteArray) (hk12 : k12 ∈ ([y0, y0, ⟨#[]⟩, ⟨#[65]⟩, ⟨#[122, 101, 100]⟩] : List ByteArray)), W 9 (lb 30 4063231) [(2, .slice none 0 0), (3, .slice (some ⟨bo, 0, none⟩) 4 c), (15, .pointer (some ⟨bo, 0 + j * 2, none⟩)), (16, .pointer (some ⟨bo, 0 + j * 2, none⟩)), (27, .string k12), (28, .pointer (some ⟨sb, 0, none⟩)), (31, .pointer (some ⟨bo, 0 + j * 2 + 1, none⟩)), (36, .string y0)] (fun w => Strm 25 w B sb (m + 20 + 1 + 1 + 1)) [(q11, 9, [.string y0, .string y0, .string ⟨#[]⟩, .string ⟨#[65]⟩, .string ⟨#[122, 101, 100]⟩])] [⟨.slice (some ⟨bo, 0, none⟩) 4 c, 170, 2, 4, l.flatMap csEnc⟩] [] := by
   intro q11 k12 hk12
   rw [hW]
   refine wa1 17 rfl ?_
   refine wl_ov (ov_elem1 (k := 1) (v := .string y1) sc9 rfl (fun _ hm => (SlT.ofOwn cs_len (hm.ownI 0 rfl) hl4)) hy rfl rfl) rfl ?_
   refine wl_nil ?_
   refine nw 30 4194303 (fun _ _ => trivial) fun z => ?_
   refine wa1 22 rfl ?_
   refine wl_buildSlice (e := 9) (cs := [.string y1, .string ⟨#[109, 105, 110, 105]⟩, .string ⟨#[110, 111, 110, 101]⟩, .string ⟨#[65]⟩, .string y0]) rfl (by kernel_rfl) rfl fun q22 => ?_
   refine wl_nil ?_
   refine nw 30 8388607 (fun _ _ => trivial) fun z => ?_
   refine wa1 23 rfl ?_
   refine wl_got (γ := ByteArray) (val := fun v => .string v) (φ := fun v => v ∈ ([y1, ⟨#[109, 105, 110, 105]⟩, ⟨#[110, 111, 110, 101]⟩, ⟨#[65]⟩, y0] : List ByteArray)) rfl cb57 rfl rfl rfl rfl (fun wx hm => (some_any [y1, ⟨#[109, 105, 110, 105]⟩, ⟨#[110, 111, 110, 101]⟩, ⟨#[65]⟩, y0] _ _ _ wx B sb _ hm.k (by omega) (by simp) (by simp) (hm.blkI 0 rfl) (hm.neRow 0 rfl rfl))) fun k23 hk23 => ?_
   refine wl_nil ?_
   refine nw 30 16777215 (fun _ _ => trivial) fun z => ?_
   refine wt 24 30 33554431 rfl z (ov_nilcheck rfl) ?_
   refine wt 25 30 67108863 rfl z (ov_field fo170_0 rfl rfl) ?_
   refine wa1 26 rfl ?_
   refine wl_storeE (l := l) (j := j) (r := 0) (el := ⟨y0, y1⟩) (el' := ⟨k12, y1⟩) 0 sc9 rfl rfl rfl rfl cs_len rfl hy hl4 (by decide) rfl rfl ?_
   refine wl_nil ?_
   refine nw 30 134217727 (fun _ _ => trivial) fun z => ?_
   refine wt 27 30 268435455 rfl z (ov_nilcheck rfl) ?_
   refine wt 28 30 536870911 rfl z (ov_field fo170_1 rfl rfl) ?_
   refine wa1 29 rfl ?_
   have hy2 : (l.set j ⟨k12, y1⟩)[j]? = some (⟨k12, y1⟩ : Cs) := by rw [List.getElem?_set_self (by omega)]
   have hl42 : (l.set j ⟨k12, y1⟩).length = 4 := by simp [hl4]
   refine wl_storeE (l := (l.set j ⟨k12, y1⟩)) (j := j) (r := 1) (el := ⟨k12, y1⟩) (el' := ⟨k12, k23⟩) 0 sc9 rfl rfl rfl rfl cs_len rfl hy2 hl42 (by decide) rfl rfl ?_
   refine wl_nil ?_
   refine nw 30 1073741823 (fun _ _ => trivial) fun z => ?_
   refine wa_done (by kernel_rfl) ?_
   refine nx_then (sr_ (mv_ rfl (sg_ rfl (nn_ ?_))))
   refine gw_ret ?_
   refine nx_ret1 rfl rfl fun wx hm => ?_
   exact ⟨some ⟨bo, 0, none⟩, c, _, rfl, hm.ownI 0 rfl, (by simp [hl4]), cs_mem (cs_mem hok ⟨(show k12.size ≤ 1000000 by rcases mem5 hk12 with h | h | h | h | h <;> rw [h] <;> first | assumption | decide), hy1⟩) ⟨(show k12.size ≤ 1000000 by rcases mem5 hk12 with h | h | h | h | h <;> rw [h] <;> first | assumption | decide), (show k23.size ≤ 1000000 by rcases mem5 hk23 with h | h | h | h | h <;> rw [h] <;> first | assumption | decide)⟩, hm.k.more (by omega), hm.g⟩
  have J1966079 : ∀ (q11 : Nat) (k12 : ByteArray) (hk12 : k12 ∈ ([y0, y0, ⟨#[]⟩, ⟨#[65]⟩, ⟨#[122, 101, 100]⟩] : List ByteArray)), W 10 (lb 30 1966079) [(2, .slice none 0 0), (3, .slice (some ⟨bo, 0, none⟩) 4 c), (15, .pointer (some ⟨bo, 0 + j * 2, none⟩)), (16, .pointer (some ⟨bo, 0 + j * 2, none⟩)), (27, .string k12), (28, .pointer (some ⟨sb, 0, none⟩)), (31, .pointer (some ⟨bo, 0 + j * 2 + 1, none⟩)), (35, .pointer (some ⟨bo, 0 + j * 2 + 0, none⟩))] (fun w => Strm 25 w B sb (m + 20 + 1 + 1 + 1)) [(q11, 9, [.string y0, .string y0, .string ⟨#[]⟩, .string ⟨#[65]⟩, .string ⟨#[122, 101, 100]⟩])] [⟨.slice (some ⟨bo, 0, none⟩) 4 c, 170, 2, 4, l.flatMap csEnc⟩] [] := by
   intro q11 k12 hk12
   rw [hW]
   refine wa_all [17, 21] (by kernel_rfl) rfl ⟨⟨_, rfl, ?_⟩, ⟨_, rfl, ?_⟩, trivial⟩
   ·refine wl_ov (ov_elem1 (k := 1) (v := .string y1) sc9 rfl (fun _ hm => (SlT.ofOwn cs_len (hm.ownI 0 rfl) hl4)) hy rfl rfl) rfl ?_
    refine wl_nil ?_
    refine nw 30 2097151 (fun _ _ => trivial) fun z => ?_
    have h := T2097151 q11 k12 hk12
    rw [hW] at h
    refine wa_weak ?_ ?_ h
    ·exact ⟨rfl, rfl, rfl, rfl, rfl, rfl, rfl, rfl, trivial⟩
    exact fun _ hm => hm.pick [0] [0] [] rfl rfl
   refine wl_ov (ov_elem1 (k := 0) (v := .string y0) sc9 rfl (fun _ hm => (SlT.ofOwn cs_len (hm.ownI 0 rfl) hl4)) hy rfl rfl) rfl ?_
   refine wl_nil ?_
   refine nw 30 4063231 (fun _ _ => trivial) fun z => ?_
   have h := T4063231 q11 k12 hk12
   rw [hW] at h
   refine wa_weak ?_ ?_ h
   ·exact ⟨rfl, rfl, rfl, rfl, rfl, rfl, rfl, rfl, trivial⟩
   exact fun _ hm => hm.pick [0] [0] [] rfl rfl
  have T4194303 : ∀ (q11 : Nat) (k12 : ByteArray) (hk12 : k12 ∈ ([y0, y0, ⟨#[]⟩, ⟨#[65]⟩, ⟨#[122, 101, 100]⟩] : List ByteArray)), W 8 (lb 30 4194303) [(2, .slice none 0 0), (3, .slice (some ⟨bo, 0, none⟩) 4 c), (15, .pointer (some ⟨bo, 0 + j * 2, none⟩)), (16, .pointer (some ⟨bo, 0 + j * 2, none⟩)), (27, .string k12), (28, .pointer (some ⟨sb, 0, none⟩)), (32, .string y1), (36, .string y0)] (fun w => Strm 25 w B sb (m + 20 + 1 + 1 + 1)) [(q11, 9, [.string y0, .string y0, .string ⟨#[]⟩, .string ⟨#[65]⟩, .string ⟨#[122, 101, 100]⟩])] [⟨.slice (some ⟨bo, 0, none⟩) 4 c, 170, 2, 4, l.flatMap csEnc⟩] [] := by
   intro q11 k12 hk12
   rw [hW]
   refine wa1 22 rfl ?_
   refine wl_buildSlice (e := 9) (cs := [.string y1, .string ⟨#[109, 105, 110, 105]⟩, .string ⟨#[110, 111, 110, 101]⟩, .string ⟨#[65]⟩, .string y0]) rfl (by kernel_rfl) rfl fun q22 => ?_
   refine wl_nil ?_
   refine nw 30 8388607 (fun _ _ => trivial) fun z => ?_
   refine wa1 23 rfl ?_
   refine wl_got (γ := ByteArray) (val := fun v => .string v) (φ := fun v => v ∈ ([y1, ⟨#[109, 105, 110, 105]⟩, ⟨#[110, 111, 110, 101]⟩, ⟨#[65]⟩, y0] : List ByteArray)) rfl cb57 rfl rfl rfl rfl (fun wx hm => (some_any [y1, ⟨#[109, 105, 110, 105]⟩, ⟨#[110, 111, 110, 101]⟩, ⟨#[65]⟩, y0] _ _ _ wx B sb _ hm.k (by omega) (by simp) (by simp) (hm.blkI 0 rfl) (hm.neRow 0 rfl rfl))) fun k23 hk23 => ?_
   refine wl_nil ?_
   refine nw 30 16777215 (fun _ _ => trivial) fun z => ?_
   refine wt 24 30 33554431 rfl z (ov_nilcheck rfl) ?_
   refine wt 25 30 67108863 rfl z (ov_field fo170_0 rfl rfl) ?_
   refine wa1 26 rfl ?_
   refine wl_storeE (l := l) (j := j) (r := 0) (el := ⟨y0, y1⟩) (el' := ⟨k12, y1⟩) 0 sc9 rfl rfl rfl rfl cs_len rfl hy hl4 (by decide) rfl rfl ?_
   refine wl_nil ?_
   refine nw 30 134217727 (fun _ _ => trivial) fun z => ?_
   refine wt 27 30 268435455 rfl z (ov_nilcheck rfl) ?_
   refine wt 28 30 536870911 rfl z (ov_field fo170_1 rfl rfl) ?_
   refine wa1 29 rfl ?_
   have hy2 : (l.set j ⟨k12, y1⟩)[j]? = some (⟨k12, y1⟩ : Cs) := by rw [List.getElem?_set_self (by omega)]
   have hl42 : (l.set j ⟨k12, y1⟩).length = 4 := by simp [hl4]
   refine wl_storeE (l := (l.set j ⟨k12, y1⟩)) (j := j) (r := 1) (el := ⟨k12, y1⟩) (el' := ⟨k12, k23⟩) 0 sc9 rfl rfl rfl rfl cs_len rfl hy2 hl42 (by decide) rfl rfl ?_
   refine wl_nil ?_
   refine nw 30 1073741823 (fun _ _ => trivial) fun z => ?_
   refine wa_done (by kernel_rfl) ?_
   refine nx_then (sr_ (mv_ rfl (sg_ rfl (nn_ ?_))))
   refine gw_ret ?_
   refine nx_ret1 rfl rfl fun wx hm => ?_
   exact ⟨some ⟨bo, 0, none⟩, c, _, rfl, hm.ownI 0 rfl, (by simp [hl4]), cs_mem (cs_mem hok ⟨(show k12.size ≤ 1000000 by rcases mem5 hk12 with h | h | h | h | h <;> rw [h] <;> first | assumption | decide), hy1⟩) ⟨(show k12.size ≤ 1000000 by rcases mem5 hk12 with h | h | h | h | h <;> rw [h] <;> first | assumption | decide), (show k23.size ≤ 1000000 by rcases mem5 hk23 with h | h | h | h | h <;> rw [h] <;> first | assumption | decide)⟩, hm.k.more (by omega), hm.g⟩
  have T8384511 : ∀ (q11 : Nat) (q22 : Nat), W 8 (lb 30 8384511) [(2, .slice none 0 0), (3, .slice (some ⟨bo, 0, none⟩) 4 c), (15, .pointer (some ⟨bo, 0 + j * 2, none⟩)), (16, .pointer (some ⟨bo, 0 + j * 2, none⟩)), (17, .pointer (some ⟨sb, 0, none⟩)), (26, .slice (some ⟨q11, 0, none⟩) 5 5), (28, .pointer (some ⟨sb, 0, none⟩)), (37, .slice (some ⟨q22, 0, none⟩) 5 5)] (fun w => Strm 25 w B sb (m + 20 + 1 + 1)) [(q11, 9, [.string y0, .string y0, .string ⟨#[]⟩, .string ⟨#[65]⟩, .string ⟨#[122, 101, 100]⟩]), (q22, 9, [.string y1, .string ⟨#[109, 105, 110, 105]⟩, .string ⟨#[110, 111, 110, 101]⟩, .string ⟨#[65]⟩, .string y0])] [⟨.slice (some ⟨bo, 0, none⟩) 4 c, 170, 2, 4, l.flatMap csEnc⟩] [] := by
   intro q11 q22
   rw [hW]
   refine wa1 12 rfl ?_
   refine wl_got (γ := ByteArray) (val := fun v => .string v) (φ := fun v => v ∈ ([y0, y0, ⟨#[]⟩, ⟨#[65]⟩, ⟨#[122, 101, 100]⟩] : List ByteArray)) rfl cb57 rfl rfl rfl rfl (fun wx hm => (some_any [y0, y0, ⟨#[]⟩, ⟨#[65]⟩, ⟨#[122, 101, 100]⟩] _ _ _ wx B sb _ hm.k (by omega) (by simp) (by simp) (hm.blkI 0 rfl) (hm.neRow 0 rfl rfl))) fun k12 hk12 => ?_
   refine wl_nil ?_
   refine nw 30 8388607 (fun _ _ => trivial) fun z => ?_
   refine wa1 23 rfl ?_
   refine wl_got (γ := ByteArray) (val := fun v => .string v) (φ := fun v => v ∈ ([y1, ⟨#[109, 105, 110, 105]⟩, ⟨#[110, 111, 110, 101]⟩, ⟨#[65]⟩, y0] : List ByteArray)) rfl cb57 rfl rfl rfl rfl (fun wx hm => (some_any [y1, ⟨#[109, 105, 110, 105]⟩, ⟨#[110, 111, 110, 101]⟩, ⟨#[65]⟩, y0] _ _ _ wx B sb _ hm.k (by omega) (by simp) (by simp) (hm.blkI 1 rfl) (hm.neRow 1 rfl rfl))) fun k23 hk23 => ?_
   refine wl_nil ?_
   refine nw 30 16777215 (fun _ _ => trivial) fun z => ?_
   refine wt 24 30 33554431 rfl z (ov_nilcheck rfl) ?_
   refine wt 25 30 67108863 rfl z (ov_field fo170_0 rfl rfl) ?_
   refine wa1 26 rfl ?_
   refine wl_storeE (l := l) (j := j) (r := 0) (el := ⟨y0, y1⟩) (el' := ⟨k12, y1⟩) 0 sc9 rfl rfl rfl rfl cs_len rfl hy hl4 (by decide) rfl rfl ?_
   refine wl_nil ?_
   refine nw 30 134217727 (fun _ _ => trivial) fun z => ?_
   refine wt 27 30 268435455 rfl z (ov_nilcheck rfl) ?_
   refine wt 28 30 536870911 rfl z (ov_field fo170_1 rfl rfl) ?_
   refine wa1 29 rfl ?_
   have hy2 : (l.set j ⟨k12, y1⟩)[j]? = some (⟨k12, y1⟩ : Cs) := by rw [List.getElem?_set_self (by omega)]
   have hl42 : (l.set j ⟨k12, y1⟩).length = 4 := by simp [hl4]
   refine wl_storeE (l := (l.set j ⟨k12, y1⟩)) (j := j) (r := 1) (el := ⟨k12, y1⟩) (el' := ⟨k12, k23⟩) 0 sc9 rfl rfl rfl rfl cs_len rfl hy2 hl42 (by decide) rfl rfl ?_
   refine wl_nil ?_
   refine nw 30 1073741823 (fun _ _ => trivial) fun z => ?_
   refine wa_done (by kernel_rfl) ?_
   refine nx_then (sr_ (mv_ rfl (sg_ rfl (nn_ ?_))))
   refine gw_ret ?_
   refine nx_ret1 rfl rfl fun wx hm => ?_
   exact ⟨some ⟨bo, 0, none⟩, c, _, rfl, hm.ownI 0 rfl, (by simp [hl4]), cs_mem (cs_mem hok ⟨(show k12.size ≤ 1000000 by rcases mem5 hk12 with h | h | h | h | h <;> rw [h] <;> first | assumption | decide), hy1⟩) ⟨(show k12.size ≤ 1000000 by rcases mem5 hk12 with h | h | h | h | h <;> rw [h] <;> first | assumption | decide), (show k23.size ≤ 1000000 by rcases mem5 hk23 with h | h | h | h | h <;> rw [h] <;> first | assumption | decide)⟩, hm.k.more (by omega), hm.g⟩
  have J4190207 : ∀ (q11 : Nat), W 9 (lb 30 4190207) [(2, .slice none 0 0), (3, .slice (some ⟨bo, 0, none⟩) 4 c), (15, .pointer (some ⟨bo, 0 + j * 2, none⟩)), (16, .pointer (some ⟨bo, 0 + j * 2, none⟩)), (17, .pointer (some ⟨sb, 0, none⟩)), (26, .slice (some ⟨q11, 0, none⟩) 5 5), (28, .pointer (some ⟨sb, 0, none⟩)), (32, .string y1), (36, .string y0)] (fun w => Strm 25 w B sb (m + 20 + 1 + 1)) [(q11, 9, [.string y0, .string y0, .string ⟨#[]⟩, .string ⟨#[65]⟩, .string ⟨#[122, 101, 100]⟩])] [⟨.slice (some ⟨bo, 0, none⟩) 4 c, 170, 2, 4, l.flatMap csEnc⟩] [] := by
   intro q11
   rw [hW]
   refine wa_all [12, 22] (by kernel_rfl) rfl ⟨⟨_, rfl, ?_⟩, ⟨_, rfl, ?_⟩, trivial⟩
   ·refine wl_got (γ := ByteArray) (val := fun v => .string v) (φ := fun v => v ∈ ([y0, y0, ⟨#[]⟩, ⟨#[65]⟩, ⟨#[122, 101, 100]⟩] : List ByteArray)) rfl cb57 rfl rfl rfl rfl (fun wx hm => (some_any [y0, y0, ⟨#[]⟩, ⟨#[65]⟩, ⟨#[122, 101, 100]⟩] _ _ _ wx B sb _ hm.k (by omega) (by simp) (by simp) (hm.blkI 0 rfl) (hm.neRow 0 rfl rfl))) fun k12 hk12 => ?_
    refine wl_nil ?_
    refine nw 30 4194303 (fun _ _ => trivial) fun z => ?_
    have h := T4194303 q11 k12 hk12
    rw [hW] at h
    refine wa_weak ?_ ?_ h
    ·exact ⟨rfl, rfl, rfl, rfl, rfl, rfl, rfl, rfl, trivial⟩
    exact fun _ hm => hm.pick [0] [0] [] rfl rfl
   refine wl_buildSlice (e := 9) (cs := [.string y1, .string ⟨#[109, 105, 110, 105]⟩, .string ⟨#[110, 111, 110, 101]⟩, .string ⟨#[65]⟩, .string y0]) rfl (by kernel_rfl) rfl fun q22 => ?_
   refine wl_nil ?_
   refine nw 30 8384511 (fun _ _ => trivial) fun z => ?_
   have h := T8384511 q11 q22
   rw [hW] at h
   refine wa_weak ?_ ?_ h
   ·exact ⟨rfl, rfl, rfl, rfl, rfl, rfl, rfl, rfl, trivial⟩
   exact fun _ hm => hm.pick [1, 0] [0] [] rfl rfl
  have J2093055 : ∀ (q11 : Nat), W 10 (lb 30 2093055) [(2, .slice none 0 0), (3, .slice (some ⟨bo, 0, none⟩) 4 c), (15, .pointer (some ⟨bo, 0 + j * 2, none⟩)), (16, .pointer (some ⟨bo, 0 + j * 2, none⟩)), (17, .pointer (some ⟨sb, 0, none⟩)), (26, .slice (some ⟨q11, 0, none⟩) 5 5), (28, .pointer (some ⟨sb, 0, none⟩)), (32, .string y1), (35, .pointer (some ⟨bo, 0 + j * 2 + 0, none⟩))] (fun w => Strm 25 w B sb (m + 20 + 1 + 1)) [(q11, 9, [.string y0, .string y0, .string ⟨#[]⟩, .string ⟨#[65]⟩, .string ⟨#[122, 101, 100]⟩])] [⟨.slice (some ⟨bo, 0, none⟩) 4 c, 170, 2, 4, l.flatMap csEnc⟩] [] := by
   intro q11
   rw [hW]
   refine wa_all [12, 21] (by kernel_rfl) rfl ⟨⟨_, rfl, ?_⟩, ⟨_, rfl, ?_⟩, trivial⟩
   ·refine wl_got (γ := ByteArray) (val := fun v => .string v) (φ := fun v => v ∈ ([y0, y0, ⟨#[]⟩, ⟨#[65]⟩, ⟨#[122, 101, 100]⟩] : List ByteArray)) rfl cb57 rfl rfl rfl rfl (fun wx hm => (some_any [y0, y0, ⟨#[]⟩, ⟨#[65]⟩, ⟨#[122, 101, 100]⟩] _ _ _ wx B sb _ hm.k (by omega) (by simp) (by simp) (hm.blkI 0 rfl) (hm.neRow 0 rfl rfl))) fun k12 hk12 => ?_
    refine wl_nil ?_
    refine nw 30 2097151 (fun _ _ => trivial) fun z => ?_
    have h := T2097151 q11 k12 hk12
    rw [hW] at h
    refine wa_weak ?_ ?_ h
    ·exact ⟨rfl, rfl, rfl, rfl, rfl, rfl, rfl, rfl, trivial⟩
    exact fun _ hm => hm.pick [0] [0] [] rfl rfl
   refine wl_ov (ov_elem1 (k := 0) (v := .string y0) sc9 rfl (fun _ hm => (SlT.ofOwn cs_len (hm.ownI 0 rfl) hl4)) hy rfl rfl) rfl ?_
   refine wl_nil ?_
   refine nw 30 4190207 (fun _ _ => trivial) fun z => ?_
   have h := J4190207 q11
   rw [hW] at h
   refine wa_weak ?_ ?_ h
   ·exact ⟨rfl, rfl, rfl, rfl, rfl, rfl, rfl, rfl, rfl, trivial⟩
   exact fun _ hm => hm.pick [0] [0] [] rfl rfl
  have J4059135 : ∀ (q11 : Nat), W 10 (lb 30 4059135) [(2, .slice none 0 0), (3, .slice (some ⟨bo, 0, none⟩) 4 c), (15, .pointer (some ⟨bo, 0 + j * 2, none⟩)), (16, .pointer (some ⟨bo, 0 + j * 2, none⟩)), (17, .pointer (some ⟨sb, 0, none⟩)), (26, .slice (some ⟨q11, 0, none⟩) 5 5), (28, .pointer (some ⟨sb, 0, none⟩)), (31, .pointer (some ⟨bo, 0 + j * 2 + 1, none⟩)), (36, .string y0)] (fun w => Strm 25 w B sb (m + 20 + 1 + 1)) [(q11, 9, [.string y0, .string y0, .string ⟨#[]⟩, .string ⟨#[65]⟩, .string ⟨#[122, 101, 100]⟩])] [⟨.slice (some ⟨bo, 0, none⟩) 4 c, 170, 2, 4, l.flatMap csEnc⟩] [] := by
   intro q11
   rw [hW]
   refine wa_all [12, 17] (by kernel_rfl) rfl ⟨⟨_, rfl, ?_⟩, ⟨_, rfl, ?_⟩, trivial⟩
   ·refine wl_got (γ := ByteArray) (val := fun v => .string v) (φ := fun v => v ∈ ([y0, y0, ⟨#[]⟩, ⟨#[65]⟩, ⟨#[122, 101, 100]⟩] : List ByteArray)) rfl cb57 rfl rfl rfl rfl (fun wx hm => (some_any [y0, y0, ⟨#[]⟩, ⟨#[65]⟩, ⟨#[122, 101, 100]⟩] _ _ _ wx B sb _ hm.k (by omega) (by simp) (by simp) (hm.blkI 0 rfl) (hm.neRow 0 rfl rfl))) fun k12 hk12 => ?_
    refine wl_nil ?_
    refine nw 30 4063231 (fun _ _ => trivial) fun z => ?_
    have h := T4063231 q11 k12 hk12
    rw [hW] at h
    refine wa_weak ?_ ?_ h
    ·exact ⟨rfl, rfl, rfl, rfl, rfl, rfl, rfl, rfl, trivial⟩
    exact fun _ hm => hm.pick [0] [0] [] rfl rfl
   refine wl_ov (ov_elem1 (k := 1) (v := .string y1) sc9 rfl (fun _ hm => (SlT.ofOwn cs_len (hm.ownI 0 rfl) hl4)) hy rfl rfl) rfl ?_
   refine wl_nil ?_
   refine nw 30 4190207 (fun _ _ => trivial) fun z => ?_
   have h := J4190207 q11
   rw [hW] at h
   refine wa_weak ?_ ?_ h
   ·exact ⟨rfl, rfl, rfl, rfl, rfl, rfl, rfl, rfl, rfl, trivial⟩
   exact fun _ hm => hm.pick [0] [0] [] rfl rfl
  have J1961983 : ∀ (q11 : Nat), W 11 (lb 30 1961983) [(2, .slice none 0 0), (3, .slice (some ⟨bo, 0, none⟩) 4 c), (15, .pointer (some ⟨bo, 0 + j * 2, none⟩)), (16, .pointer (some ⟨bo, 0 + j * 2, none⟩)), (17, .pointer (some ⟨sb, 0, none⟩)), (26, .slice (some ⟨q11, 0, none⟩) 5 5), (28, .pointer (some ⟨sb, 0, none⟩)), (31, .pointer (some ⟨bo, 0 + j * 2 + 1, none⟩)), (35, .pointer (some ⟨bo, 0 + j * 2 + 0, none⟩))] (fun w => Strm 25 w B sb (m + 20 + 1 + 1)) [(q11, 9, [.string y0, .string y0, .string ⟨#[]⟩, .string ⟨#[65]⟩, .string ⟨#[122, 101, 100]⟩])] [⟨.slice (some ⟨bo, 0, none⟩) 4 c, 170, 2, 4, l.flatMap csEnc⟩] [] := by
   intro q11
   rw [hW]
   refine wa_all [12, 17, 21] (by kernel_rfl) rfl ⟨⟨_, rfl, ?_⟩, ⟨_, rfl, ?_⟩, ⟨_, rfl, ?_⟩, trivial⟩
   ·refine wl_got (γ := ByteArray) (val := fun v => .string v) (φ := fun v => v ∈ ([y0, y0, ⟨#[]⟩, ⟨#[65]⟩, ⟨#[122, 101, 100]⟩] : List ByteArray)) rfl cb57 rfl rfl rfl rfl (fun wx hm => (some_any [y0, y0, ⟨#[]⟩, ⟨#[65]⟩, ⟨#[122, 101, 100]⟩] _ _ _ wx B sb _ hm.k (by omega) (by simp) (by simp) (hm.blkI 0 rfl) (hm.neRow 0 rfl rfl))) fun k12 hk12 => ?_
    refine wl_nil ?_
    refine nw 30 1966079 (fun _ _ => trivial) fun z => ?_
    have h := J1966079 q11 k12 hk12
    rw [hW] at h
    refine wa_weak ?_ ?_ h
    ·exact ⟨rfl, rfl, rfl, rfl, rfl, rfl, rfl, rfl, trivial⟩
    exact fun _ hm => hm.pick [0] [0] [] rfl rfl
   ·refine wl_ov (ov_elem1 (k := 1) (v := .string y1) sc9 rfl (fun _ hm => (SlT.ofOwn cs_len (hm.ownI 0 rfl) hl4)) hy rfl rfl) rfl ?_
    refine wl_nil ?_
    refine nw 30 2093055 (fun _ _ => trivial) fun z => ?_
    have h := J2093055 q11
    rw [hW] at h
    refine wa_weak ?_ ?_ h
    ·exact ⟨rfl, rfl, rfl, rfl, rfl, rfl, rfl, rfl, rfl, trivial⟩
    exact fun _ hm => hm.pick [0] [0] [] rfl rfl
   refine wl_ov (ov_elem1 (k := 0) (v := .string y0) sc9 rfl (fun _ hm => (SlT.ofOwn cs_len (hm.ownI 0 rfl) hl4)) hy rfl rfl) rfl ?_
   refine wl_nil ?_
   refine nw 30 4059135 (fun _ _ => trivial) fun z => ?_
   have h := J4059135 q11
   rw [hW] at h
   refine wa_weak ?_ ?_ h
   ·exact ⟨rfl, rfl, rfl, rfl, rfl, rfl, rfl, rfl, rfl, trivial⟩
   exact fun _ hm => hm.pick [0] [0] [] rfl rfl
  have T8382463 : ∀ (q22 : Nat), W 9 (lb 30 8382463) [(2, .slice none 0 0), (3, .slice (some ⟨bo, 0, none⟩) 4 c), (15, .pointer (some ⟨bo, 0 + j * 2, none⟩)), (16, .pointer (some ⟨bo, 0 + j * 2, none⟩)), (17, .pointer (some ⟨sb, 0, none⟩)), (21, .string y0), (25, .string y0), (28, .pointer (some ⟨sb, 0, none⟩)), (37, .slice (some ⟨q22, 0, none⟩) 5 5)] (fun w => Strm 25 w B sb (m + 20 + 1 + 1)) [(q22, 9, [.string y1, .string ⟨#[109, 105, 110, 105]⟩, .string ⟨#[110, 111, 110, 101]⟩, .string ⟨#[65]⟩, .string y0])] [⟨.slice (some ⟨bo, 0, none⟩) 4 c, 170, 2, 4, l.flatMap csEnc⟩] [] := by
   intro q22
   rw [hW]
   refine wa1 11 rfl ?_
   refine wl_buildSlice (e := 9) (cs := [.string y0, .string y0, .string ⟨#[]⟩, .string ⟨#[65]⟩, .string ⟨#[122, 101, 100]⟩]) rfl (by kernel_rfl) rfl fun q11 => ?_
   refine wl_nil ?_
   refine nw 30 8384511 (fun _ _ => trivial) fun z => ?_
   refine wa1 12 rfl ?_
   refine wl_got (γ := ByteArray) (val := fun v => .string v) (φ := fun v => v ∈ ([y0, y0, ⟨#[]⟩, ⟨#[65]⟩, ⟨#[122, 101, 100]⟩] : List ByteArray)) rfl cb57 rfl rfl rfl rfl (fun wx hm => (some_any [y0, y0, ⟨#[]⟩, ⟨#[65]⟩, ⟨#[122, 101, 100]⟩] _ _ _ wx B sb _ hm.k (by omega) (by simp) (by simp) (hm.blkI 0 rfl) (hm.neRow 0 rfl rfl))) fun k12 hk12 => ?_
   refine wl_nil ?_
   refine nw 30 8388607 (fun _ _ => trivial) fun z => ?_
   refine wa1 23 rfl ?_
   refine wl_got (γ := ByteArray) (val := fun v => .string v) (φ := fun v => v ∈ ([y1, ⟨#[109, 105, 110, 105]⟩, ⟨#[110, 111, 110, 101]⟩, ⟨#[65]⟩, y0] : List ByteArray)) rfl cb57 rfl rfl rfl rfl (fun wx hm => (some_any [y1, ⟨#[109, 105, 110, 105]⟩, ⟨#[110, 111, 110, 101]⟩, ⟨#[65]⟩, y0] _ _ _ wx B sb _ hm.k (by omega) (by simp) (by simp) (hm.blkI 1 rfl) (hm.neRow 1 rfl rfl))) fun k23 hk23 => ?_
   refine wl_nil ?_
   refine nw 30 16777215 (fun _ _ => trivial) fun z => ?_
   refine wt 24 30 33554431 rfl z (ov_nilcheck rfl) ?_
   refine wt 25 30 67108863 rfl z (ov_field fo170_0 rfl rfl) ?_
   refine wa1 26 rfl ?_
   refine wl_storeE (l := l) (j := j) (r := 0) (el := ⟨y0, y1⟩) (el' := ⟨k12, y1⟩) 0 sc9 rfl rfl rfl rfl cs_len rfl hy hl4 (by decide) rfl rfl ?_
   refine wl_nil ?_
   refine nw 30 134217727 (fun _ _ => trivial) fun z => ?_
   refine wt 27 30 268435455 rfl z (ov_nilcheck rfl) ?_
   refine wt 28 30 536870911 rfl z (ov_field fo170_1 rfl rfl) ?_
   refine wa1 29 rfl ?_
   have hy2 : (l.set j ⟨k12, y1⟩)[j]? = some (⟨k12, y1⟩ : Cs) := by rw [List.getElem?_set_self (by omega)]
   have hl42 : (l.set j ⟨k12, y1⟩).length = 4 := by simp [hl4]
   refine wl_storeE (l := (l.set j ⟨k12, y1⟩)) (j := j) (r := 1) (el := ⟨k12, y1⟩) (el' := ⟨k12, k23⟩) 0 sc9 rfl rfl rfl rfl cs_len rfl hy2 hl42 (by decide) rfl rfl ?_
   refine wl_nil ?_
   refine nw 30 1073741823 (fun _ _ => trivial) fun z => ?_
   refine wa_done (by kernel_rfl) ?_
   refine nx_then (sr_ (mv_ rfl (sg_ rfl (nn_ ?_))))
   refine gw_ret ?_
   refine nx_ret1 rfl rfl fun wx hm => ?_
   exact ⟨some ⟨bo, 0, none⟩, c, _, rfl, hm.ownI 0 rfl, (by simp [hl4]), cs_mem (cs_mem hok ⟨(show k12.size ≤ 1000000 by rcases mem5 hk12 with h | h | h | h | h <;> rw [h] <;> first | assumption | decide), hy1⟩) ⟨(show k12.size ≤ 1000000 by rcases mem5 hk12 with h | h | h | h | h <;> rw [h] <;> first | assumption | decide), (show k23.size ≤ 1000000 by rcases mem5 hk23 with h | h | h | h | h <;> rw [h] <;> first | assumption | decide)⟩, hm.k.more (by omega), hm.g⟩
  have J4188159 : W 10 (lb 30 4188159) [(2, .slice none 0 0), (3, .slice (some ⟨bo, 0, none⟩) 4 c), (15, .pointer (some ⟨bo, 0 + j * 2, none⟩)), (16, .pointer (some ⟨bo, 0 + j * 2, none⟩)), (17, .pointer (some ⟨sb, 0, none⟩)), (21, .string y0), (25, .string y0), (28, .pointer (some ⟨sb, 0, none⟩)), (32, .string y1), (36, .string y0)] (fun w => Strm 25 w B sb (m + 20 + 1 + 1)) [] [⟨.slice (some ⟨bo, 0, none⟩) 4 c, 170, 2, 4, l.flatMap csEnc⟩] [] := by
   skip
   rw [hW]
   refine wa_all [11, 22] (by kernel_rfl) rfl ⟨⟨_, rfl, ?_⟩, ⟨_, rfl, ?_⟩, trivial⟩
   ·refine wl_buildSlice (e := 9) (cs := [.string y0, .string y0, .string ⟨#[]⟩, .string ⟨#[65]⟩, .string ⟨#[122, 101, 100]⟩]) rfl (by kernel_rfl) rfl fun q11 => ?_
    refine wl_nil ?_
    refine nw 30 4190207 (fun _ _ => trivial) fun z => ?_
    have h := J4190207 q11
    rw [hW] at h
    refine wa_weak ?_ ?_ h
    ·exact ⟨rfl, rfl, rfl, rfl, rfl, rfl, rfl, rfl, rfl, trivial⟩
    exact fun _ hm => hm.pick [0] [0] [] rfl rfl
   refine wl_buildSlice (e := 9) (cs := [.string y1, .string ⟨#[109, 105, 110, 105]⟩, .string ⟨#[110, 111, 110, 101]⟩, .string ⟨#[65]⟩, .string y0]) rfl (by kernel_rfl) rfl fun q22 => ?_
   refine wl_nil ?_
   refine nw 30 8382463 (fun _ _ => trivial) fun z => ?_
   have h := T8382463 q22
   rw [hW] at h
   refine wa_weak ?_ ?_ h
   ·exact ⟨rfl, rfl, rfl, rfl, rfl, rfl, rfl, rfl, rfl, trivial⟩
   exact fun _ hm => hm.pick [0] [0] [] rfl rfl
  have J2091007 : W 11 (lb 30 2091007) [(2, .slice none 0 0), (3, .slice (some ⟨bo, 0, none⟩) 4 c), (15, .pointer (some ⟨bo, 0 + j * 2, none⟩)), (16, .pointer (some ⟨bo, 0 + j * 2, none⟩)), (17, .pointer (some ⟨sb, 0, none⟩)), (21, .string y0), (25, .string y0), (28, .pointer (some ⟨sb, 0, none⟩)), (32, .string y1), (35, .pointer (some ⟨bo, 0 + j * 2 + 0, none⟩))] (fun w => Strm 25 w B sb (m + 20 + 1 + 1)) [] [⟨.slice (some ⟨bo, 0, none⟩) 4 c, 170, 2, 4, l.flatMap csEnc⟩] [] := by
   skip
   rw [hW]
   refine wa_all [11, 21] (by kernel_rfl) rfl ⟨⟨_, rfl, ?_⟩, ⟨_, rfl, ?_⟩, trivial⟩
   ·refine wl_buildSlice (e := 9) (cs := [.string y0, .string y0, .string ⟨#[]⟩, .string ⟨#[65]⟩, .string ⟨#[122, 101, 100]⟩]) rfl (by kernel_rfl) rfl fun q11 => ?_
    refine wl_nil ?_
    refine nw 30 2093055 (fun _ _ => trivial) fun z => ?_
    have h := J2093055 q11
    rw [hW] at h
    refine wa_weak ?_ ?_ h
    ·exact ⟨rfl, rfl, rfl, rfl, rfl, rfl, rfl, rfl, rfl, trivial⟩
    exact fun _ hm => hm.pick [0] [0] [] rfl rfl
   refine wl_ov (ov_elem1 (k := 0) (v := .string y0) sc9 rfl (fun _ hm => (SlT.ofOwn cs_len (hm.ownI 0 rfl) hl4)) hy rfl rfl) rfl ?_
   refine wl_nil ?_
   refine nw 30 4188159 (fun _ _ => trivial) fun z => ?_
   have h := J4188159 
   rw [hW] at h
   refine wa_weak ?_ ?_ h
   ·exact ⟨rfl, rfl, rfl, rfl, rfl, rfl, rfl, rfl, rfl, rfl, trivial⟩
   exact fun _ hm => hm.pick [] [0] [] rfl rfl
  have J4057087 : W 11 (lb 30 4057087) [(2, .slice none 0 0), (3, .slice (some ⟨bo, 0, none⟩) 4 c), (15, .pointer (some ⟨bo, 0 + j * 2, none⟩)), (16, .pointer (some ⟨bo, 0 + j * 2, none⟩)), (17, .pointer (some ⟨sb, 0, none⟩)), (21, .string y0), (25, .string y0), (28, .pointer (some ⟨sb, 0, none⟩)), (31, .pointer (some ⟨bo, 0 + j * 2 + 1, none⟩)), (36, .string y0)] (fun w => Strm 25 w B sb (m + 20 + 1 + 1)) [] [⟨.slice (some ⟨bo, 0, none⟩) 4 c, 170, 2, 4, l.flatMap csEnc⟩] [] := by
   skip
   rw [hW]
   refine wa_all [11, 17] (by kernel_rfl) rfl ⟨⟨_, rfl, ?_⟩, ⟨_, rfl, ?_⟩, trivial⟩
   ·refine wl_buildSlice (e := 9) (cs := [.string y0, .string y0, .string ⟨#[]⟩, .string ⟨#[65]⟩, .string ⟨#[122, 101, 100]⟩]) rfl (by kernel_rfl) rfl fun q11 => ?_
    refine wl_nil ?_
    refine nw 30 4059135 (fun _ _ => trivial) fun z => ?_
    have h := J4059135 q11
    rw [hW] at h
    refine wa_weak ?_ ?_ h
    ·exact ⟨rfl, rfl, rfl, rfl, rfl, rfl, rfl, rfl, rfl, trivial⟩
    exact fun _ hm => hm.pick [0] [0] [] rfl rfl
   refine wl_ov (ov_elem1 (k := 1) (v := .string y1) sc9 rfl (fun _ hm => (SlT.ofOwn cs_len (hm.ownI 0 rfl) hl4)) hy rfl rfl) rfl ?_
   refine wl_nil ?_
   refine nw 30 4188159 (fun _ _ => trivial) fun z => ?_
   have h := J4188159 
   rw [hW] at h
   refine wa_weak ?_ ?_ h
   ·exact ⟨rfl, rfl, rfl, rfl, rfl, rfl, rfl, rfl, rfl, rfl, trivial⟩
   exact fun _ hm => hm.pick [] [0] [] rfl rfl
  have J1959935 : W 12 (lb 30 1959935) [(2, .slice none 0 0), (3, .slice (some ⟨bo, 0, none⟩) 4 c), (15, .pointer (some ⟨bo, 0 + j * 2, none⟩)), (16, .pointer (some ⟨bo, 0 + j * 2, none⟩)), (17, .pointer (some ⟨sb, 0, none⟩)), (21, .string y0), (25, .string y0), (28, .pointer (some ⟨sb, 0, none⟩)), (31, .pointer (some ⟨bo, 0 + j * 2 + 1, none⟩)), (35, .pointer (some ⟨bo, 0 + j * 2 + 0, none⟩))] (fun w => Strm 25 w B sb (m + 20 + 1 + 1)) [] [⟨.slice (some ⟨bo, 0, none⟩) 4 c, 170, 2, 4, l.flatMap csEnc⟩] [] := by
   skip
   rw [hW]
   refine wa_all [11, 17, 21] (by kernel_rfl) rfl ⟨⟨_, rfl, ?_⟩, ⟨_, rfl, ?_⟩, ⟨_, rfl, ?_⟩, trivial⟩
   ·refine wl_buildSlice (e := 9) (cs := [.string y0, .string y0, .string ⟨#[]⟩, .string ⟨#[65]⟩, .string ⟨#[122, 101, 100]⟩]) rfl (by kernel_rfl) rfl fun q11 => ?_
    refine wl_nil ?_
    refine nw 30 1961983 (fun _ _ => trivial) fun z => ?_
    have h := J1961983 q11
    rw [hW] at h
    refine wa_weak ?_ ?_ h
    ·exact ⟨rfl, rfl, rfl, rfl, rfl, rfl, rfl, rfl, rfl, trivial⟩
    exact fun _ hm => hm.pick [0] [0] [] rfl rfl
   ·refine wl_ov (ov_elem1 (k := 1) (v := .string y1) sc9 rfl (fun _ hm => (SlT.ofOwn cs_len (hm.ownI 0 rfl) hl4)) hy rfl rfl) rfl ?_
    refine wl_nil ?_
    refine nw 30 2091007 (fun _ _ => trivial) fun z => ?_
    have h := J2091007 
    rw [hW] at h
    refine wa_weak ?_ ?_ h
    ·exact ⟨rfl, rfl, rfl, rfl, rfl, rfl, rfl, rfl, rfl, rfl, trivial⟩
    exact fun _ hm => hm.pick [] [0] [] rfl rfl
   refine wl_ov (ov_elem1 (k := 0) (v := .string y0) sc9 rfl (fun _ hm => (SlT.ofOwn cs_len (hm.ownI 0 rfl) hl4)) hy rfl rfl) rfl ?_
   refine wl_nil ?_
   refine nw 30 4057087 (fun _ _ => trivial) fun z => ?_
   have h := J4057087 
   rw [hW] at h
   refine wa_weak ?_ ?_ h
   ·exact ⟨rfl, rfl, rfl, rfl, rfl, rfl, rfl, rfl, rfl, rfl, trivial⟩
   exact fun _ hm => hm.pick [] [0] [] rfl rfl
  have T8381439 : ∀ (q22 : Nat), W 10 (lb 30 8381439) [(2, .slice none 0 0), (3, .slice (some ⟨bo, 0, none⟩) 4 c), (15, .pointer (some ⟨bo, 0 + j * 2, none⟩)), (16, .pointer (some ⟨bo, 0 + j * 2, none⟩)), (17, .pointer (some ⟨sb, 0, none⟩)), (21, .string y0), (24, .pointer (some ⟨bo, 0 + j * 2 + 0, none⟩)), (28, .pointer (some ⟨sb, 0, none⟩)), (37, .slice (some ⟨q22, 0, none⟩) 5 5)] (fun w => Strm 25 w B sb (m + 20 + 1 + 1)) [(q22, 9, [.string y1, .string ⟨#[109, 105, 110, 105]⟩, .string ⟨#[110, 111, 110, 101]⟩, .string ⟨#[65]⟩, .string y0])] [⟨.slice (some ⟨bo, 0, none⟩) 4 c, 170, 2, 4, l.flatMap csEnc⟩] [] := by
   intro q22
   rw [hW]
   refine wa1 10 rfl ?_
   refine wl_ov (ov_elem1 (k := 0) (v := .string y0) sc9 rfl (fun _ hm => (SlT.ofOwn cs_len (hm.ownI 0 rfl) hl4)) hy rfl rfl) rfl ?_
   refine wl_nil ?_
   refine nw 30 8382463 (fun _ _ => trivial) fun z => ?_
   refine wa1 11 rfl ?_
   refine wl_buildSlice (e := 9) (cs := [.string y0, .string y0, .string ⟨#[]⟩, .string ⟨#[65]⟩, .string ⟨#[122, 101, 100]⟩]) rfl (by kernel_rfl) rfl fun q11 => ?_
   refine wl_nil ?_
   refine nw 30 8384511 (fun _ _ => trivial) fun z => ?_
   refine wa1 12 rfl ?_
   refine wl_got (γ := ByteArray) (val := fun v => .string v) (φ := fun v => v ∈ ([y0, y0, ⟨#[]⟩, ⟨#[65]⟩, ⟨#[122, 101, 100]⟩] : List ByteArray)) rfl cb57 rfl rfl rfl rfl (fun wx hm => (some_any [y0, y0, ⟨#[]⟩, ⟨#[65]⟩, ⟨#[122, 101, 100]⟩] _ _ _ wx B sb _ hm.k (by omega) (by simp) (by simp) (hm.blkI 0 rfl) (hm.neRow 0 rfl rfl))) fun k12 hk12 => ?_
   refine wl_nil ?_
   refine nw 30 8388607 (fun _ _ => trivial) fun z => ?_
   refine wa1 23 rfl ?_
   refine wl_got (γ := ByteArray) (val := fun v => .string v) (φ := fun v => v ∈ ([y1, ⟨#[109, 105, 110, 105]⟩, ⟨#[110, 111, 110, 101]⟩, ⟨#[65]⟩, y0] : List ByteArray)) rfl cb57 rfl rfl rfl rfl (fun wx hm => (some_any [y1, ⟨#[109, 105, 110, 105]⟩, ⟨#[110, 111, 110, 101]⟩, ⟨#[65]⟩, y0] _ _ _ wx B sb _ hm.k (by omega) (by simp) (by simp) (hm.blkI 1 rfl) (hm.neRow 1 rfl rfl))) fun k23 hk23 => ?_
   refine wl_nil ?_
   refine nw 30 16777215 (fun _ _ => trivial) fun z => ?_
   refine wt 24 30 33554431 rfl z (ov_nilcheck rfl) ?_
   refine wt 25 30 67108863 rfl z (ov_field fo170_0 rfl rfl) ?_
   refine wa1 26 rfl ?_
   refine wl_storeE (l := l) (j := j) (r := 0) (el := ⟨y0, y1⟩) (el' := ⟨k12, y1⟩) 0 sc9 rfl rfl rfl rfl cs_len rfl hy hl4 (by decide) rfl rfl ?_
   refine wl_nil ?_
   refine nw 30 134217727 (fun _ _ => trivial) fun z => ?_
   refine wt 27 30 268435455 rfl z (ov_nilcheck rfl) ?_
   refine wt 28 30 536870911 rfl z (ov_field fo170_1 rfl rfl) ?_
   refine wa1 29 rfl ?_
   have hy2 : (l.set j ⟨k12, y1⟩)[j]? = some (⟨k12, y1⟩ : Cs) := by rw [List.getElem?_set_self (by omega)]
   have hl42 : (l.set j ⟨k12, y1⟩).length = 4 := by simp [hl4]
   refine wl_storeE (l := (l.set j ⟨k12, y1⟩)) (j := j) (r := 1) (el := ⟨k12, y1⟩) (el' := ⟨k12, k23⟩) 0 sc9 rfl rfl rfl rfl cs_len rfl hy2 hl42 (by decide) rfl rfl ?_
   refine wl_nil ?_
   refine nw 30 1073741823 (fun _ _ => trivial) fun z => ?_
   refine wa_done (by kernel_rfl) ?_
   refine nx_then (sr_ (mv_ rfl (sg_ rfl (nn_ ?_))))
   refine gw_ret ?_
   refine nx_ret1 rfl rfl fun wx hm => ?_
   exact ⟨some ⟨bo, 0, none⟩, c, _, rfl, hm.ownI 0 rfl, (by simp [hl4]), cs_mem (cs_mem hok ⟨(show k12.size ≤ 1000000 by rcases mem5 hk12 with h | h | h | h | h <;> rw [h] <;> first | assumption | decide), hy1⟩) ⟨(show k12.size ≤ 1000000 by rcases mem5 hk12 with h | h | h | h | h <;> rw [h] <;> first | assumption | decide), (show k23.size ≤ 1000000 by rcases mem5 hk23 with h | h | h | h | h <;> rw [h] <;> first | assumption | decide)⟩, hm.k.more (by omega), hm.g⟩
  have J4187135 : W 11 (lb 30 4187135) [(2, .slice none 0 0), (3, .slice (some ⟨bo, 0, none⟩) 4 c), (15, .pointer (some ⟨bo, 0 + j * 2, none⟩)), (16, .pointer (some ⟨bo, 0 + j * 2, none⟩)), (17, .pointer (some ⟨sb, 0, none⟩)), (21, .string y0), (24, .pointer (some ⟨bo, 0 + j * 2 + 0, none⟩)), (28, .pointer (some ⟨sb, 0, none⟩)), (32, .string y1), (36, .string y0)] (fun w => Strm 25 w B sb (m + 20 + 1 + 1)) [] [⟨.slice (some ⟨bo, 0, none⟩) 4 c, 170, 2, 4, l.flatMap csEnc⟩] [] := by
   skip
   rw [hW]
   refine wa_all [10, 22] (by kernel_rfl) rfl ⟨⟨_, rfl, ?_⟩, ⟨_, rfl, ?_⟩, trivial⟩
   ·refine wl_ov (ov_elem1 (k := 0) (v := .string y0) sc9 rfl (fun _ hm => (SlT.ofOwn cs_len (hm.ownI 0 rfl) hl4)) hy rfl rfl) rfl ?_
    refine wl_nil ?_
    refine nw 30 4188159 (fun _ _ => trivial) fun z => ?_
    have h := J4188159 
    rw [hW] at h
    refine wa_weak ?_ ?_ h
    ·exact ⟨rfl, rfl, rfl, rfl, rfl, rfl, rfl, rfl, rfl, rfl, trivial⟩
    exact fun _ hm => hm.pick [] [0] [] rfl rfl
   refine wl_buildSlice (e := 9) (cs := [.string y1, .string ⟨#[109, 105, 110, 105]⟩, .string ⟨#[110, 111, 110, 101]⟩, .string ⟨#[65]⟩, .string y0]) rfl (by kernel_rfl) rfl fun q22 => ?_
   refine wl_nil ?_
   refine nw 30 8381439 (fun _ _ => trivial) fun z => ?_
   have h := T8381439 q22
   rw [hW] at h
   refine wa_weak ?_ ?_ h
   ·exact ⟨rfl, rfl, rfl, rfl, rfl, rfl, rfl, rfl, rfl, trivial⟩
   exact fun _ hm => hm.pick [0] [0] [] rfl rfl
  have J2089983 : W 12 (lb 30 2089983) [(2, .slice none 0 0), (3, .slice (some ⟨bo, 0, none⟩) 4 c), (15, .pointer (some ⟨bo, 0 + j * 2, none⟩)), (16, .pointer (some ⟨bo, 0 + j * 2, none⟩)), (17, .pointer (some ⟨sb, 0, none⟩)), (21, .string y0), (24, .pointer (some ⟨bo, 0 + j * 2 + 0, none⟩)), (28, .pointer (some ⟨sb, 0, none⟩)), (32, .string y1), (35, .pointer (some ⟨bo, 0 + j * 2 + 0, none⟩))] (fun w => Strm 25 w B sb (m + 20 + 1 + 1)) [] [⟨.slice (some ⟨bo, 0, none⟩) 4 c, 170, 2, 4, l.flatMap csEnc⟩] [] := by
   skip
   rw [hW]
   refine wa_all [10, 21] (by kernel_rfl) rfl ⟨⟨_, rfl, ?_⟩, ⟨_, rfl, ?_⟩, trivial⟩
   ·refine wl_ov (ov_elem1 (k := 0) (v := .string y0) sc9 rfl (fun _ hm => (SlT.ofOwn cs_len (hm.ownI 0 rfl) hl4)) hy rfl rfl) rfl ?_
    refine wl_nil ?_
    refine nw 30 2091007 (fun _ _ => trivial) fun z => ?_
    have h := J2091007 
    rw [hW] at h
    refine wa_weak ?_ ?_ h
    ·exact ⟨rfl, rfl, rfl, rfl, rfl, rfl, rfl, rfl, rfl, rfl, trivial⟩
    exact fun _ hm => hm.pick [] [0] [] rfl rfl
   refine wl_ov (ov_elem1 (k := 0) (v := .string y0) sc9 rfl (fun _ hm => (SlT.ofOwn cs_len (hm.ownI 0 rfl) hl4)) hy rfl rfl) rfl ?_
   refine wl_nil ?_
   refine nw 30 4187135 (fun _ _ => trivial) fun z => ?_
   have h := J4187135 
   rw [hW] at h
   refine wa_weak ?_ ?_ h
   ·exact ⟨rfl, rfl, rfl, rfl, rfl, rfl, rfl, rfl, rfl, rfl, trivial⟩
   exact fun _ hm => hm.pick [] [0] [] rfl rfl
  have J4056063 : W 12 (lb 30 4056063) [(2, .slice none 0 0), (3, .slice (some ⟨bo, 0, none⟩) 4 c), (15, .pointer (some ⟨bo, 0 + j * 2, none⟩)), (16, .pointer (some ⟨bo, 0 + j * 2, none⟩)), (17, .pointer (some ⟨sb, 0, none⟩)), (21, .string y0), (24, .pointer (some ⟨bo, 0 + j * 2 + 0, none⟩)), (28, .pointer (some ⟨sb, 0, none⟩)), (31, .pointer (some ⟨bo, 0 + j * 2 + 1, none⟩)), (36, .string y0)] (fun w => Strm 25 w B sb (m + 20 + 1 + 1)) [] [⟨.slice (some ⟨bo, 0, none⟩) 4 c, 170, 2, 4, l.flatMap csEnc⟩] [] := by
   skip
   rw [hW]
   refine wa_all [10, 17] (by kernel_rfl) rfl ⟨⟨_, rfl, ?_⟩, ⟨_, rfl, ?_⟩, trivial⟩
   ·refine wl_ov (ov_elem1 (k := 0) (v := .string y0) sc9 rfl (fun _ hm => (SlT.ofOwn cs_len (hm.ownI 0 rfl) hl4)) hy rfl rfl) rfl ?_
    refine wl_nil ?_
    refine nw 30 4057087 (fun _ _ => trivial) fun z => ?_
    have h := J4057087 
    rw [hW] at h
    refine wa_weak ?_ ?_ h
    ·exact ⟨rfl, rfl, rfl, rfl, rfl, rfl, rfl, rfl, rfl, rfl, trivial⟩
    exact fun _ hm => hm.pick [] [0] [] rfl rfl
   refine wl_ov (ov_elem1 (k := 1) (v := .string y1) sc9 rfl (fun _ hm => (SlT.ofOwn cs_len (hm.ownI 0 rfl) hl4)) hy rfl rfl) rfl ?_
   refine wl_nil ?_
   refine nw 30 4187135 (fun _ _ => trivial) fun z => ?_
   have h := J4187135 
   rw [hW] at h
   refine wa_weak ?_ ?_ h
   ·exact ⟨rfl, rfl, rfl, rfl, rfl, rfl, rfl, rfl, rfl, rfl, trivial⟩
   exact fun _ hm => hm.pick [] [0] [] rfl rfl
  have J1958911 : W 13 (lb 30 1958911) [(2, .slice none 0 0), (3, .slice (some ⟨bo, 0, none⟩) 4 c), (15, .pointer (some ⟨bo, 0 + j * 2, none⟩)), (16, .pointer (some ⟨bo, 0 + j * 2, none⟩)), (17, .pointer (some ⟨sb, 0, none⟩)), (21, .string y0), (24, .pointer (some ⟨bo, 0 + j * 2 + 0, none⟩)), (28, .pointer (some ⟨sb, 0, none⟩)), (31, .pointer (some ⟨bo, 0 + j * 2 + 1, none⟩)), (35, .pointer (some ⟨bo, 0 + j * 2 + 0, none⟩))] (fun w => Strm 25 w B sb (m + 20 + 1 + 1)) [] [⟨.slice (some ⟨bo, 0, none⟩) 4 c, 170, 2, 4, l.flatMap csEnc⟩] [] := by
   skip
   rw [hW]
   refine wa_all [10, 17, 21] (by kernel_rfl) rfl ⟨⟨_, rfl, ?_⟩, ⟨_, rfl, ?_⟩, ⟨_, rfl, ?_⟩, trivial⟩
   ·refine wl_ov (ov_elem1 (k := 0) (v := .string y0) sc9 rfl (fun _ hm => (SlT.ofOwn cs_len (hm.ownI 0 rfl) hl4)) hy rfl rfl) rfl ?_
    refine wl_nil ?_
    refine nw 30 1959935 (fun _ _ => trivial) fun z => ?_
    have h := J1959935 
    rw [hW] at h
    refine wa_weak ?_ ?_ h
    ·exact ⟨rfl, rfl, rfl, rfl, rfl, rfl, rfl, rfl, rfl, rfl, trivial⟩
    exact fun _ hm => hm.pick [] [0] [] rfl rfl
   ·refine wl_ov (ov_elem1 (k := 1) (v := .string y1) sc9 rfl (fun _ hm => (SlT.ofOwn cs_len (hm.ownI 0 rfl) hl4)) hy rfl rfl) rfl ?_
    refine wl_nil ?_
    refine nw 30 2089983 (fun _ _ => trivial) fun z => ?_
    have h := J2089983 
    rw [hW] at h
    refine wa_weak ?_ ?_ h
    ·exact ⟨rfl, rfl, rfl, rfl, rfl, rfl, rfl, rfl, rfl, rfl, trivial⟩
    exact fun _ hm => hm.pick [] [0] [] rfl rfl
   refine wl_ov (ov_elem1 (k := 0) (v := .string y0) sc9 rfl (fun _ hm => (SlT.ofOwn cs_len (hm.ownI 0 rfl) hl4)) hy rfl rfl) rfl ?_
   refine wl_nil ?_
   refine nw 30 4056063 (fun _ _ => trivial) fun z => ?_
   have h := J4056063 
   rw [hW] at h
   refine wa_weak ?_ ?_ h
   ·exact ⟨rfl, rfl, rfl, rfl, rfl, rfl, rfl, rfl, rfl, rfl, trivial⟩
   exact fun _ hm => hm.pick [] [0] [] rfl rfl
  have T8382399 : ∀ (q22 : Nat), W 10 (lb 30 8382399) [(2, .slice none 0 0), (3, .slice (some ⟨bo, 0, none⟩) 4 c), (15, .pointer (some ⟨bo, 0 + j * 2, none⟩)), (16, .pointer (some ⟨bo, 0 + j * 2, none⟩)), (17, .pointer (some ⟨sb, 0, none⟩)), (20, .pointer (some ⟨bo, 0 + j * 2 + 0, none⟩)), (25, .string y0), (28, .pointer (some ⟨sb, 0, none⟩)), (37, .slice (some ⟨q22, 0, none⟩) 5 5)] (fun w => Strm 25 w B sb (m + 20 + 1 + 1)) [(q22, 9, [.string y1, .string ⟨#[109, 105, 110, 105]⟩, .string ⟨#[110, 111, 110, 101]⟩, .string ⟨#[65]⟩, .string y0])] [⟨.slice (some ⟨bo, 0, none⟩) 4 c, 170, 2, 4, l.flatMap csEnc⟩] [] := by
   intro q22
   rw [hW]
   refine wa1 6 rfl ?_
   refine wl_ov (ov_elem1 (k := 0) (v := .string y0) sc9 rfl (fun _ hm => (SlT.ofOwn cs_len (hm.ownI 0 rfl) hl4)) hy rfl rfl) rfl ?_
   refine wl_nil ?_
   refine nw 30 8382463 (fun _ _ => trivial) fun z => ?_
   refine wa1 11 rfl ?_
   refine wl_buildSlice (e := 9) (cs := [.string y0, .string y0, .string ⟨#[]⟩, .string ⟨#[65]⟩, .string ⟨#[122, 101, 100]⟩]) rfl (by kernel_rfl) rfl fun q11 => ?_
   refine wl_nil ?_
   refine nw 30 8384511 (fun _ _ => trivial) fun z => ?_
   refine wa1 12 rfl ?_
   refine wl_got (γ := ByteArray) (val := fun v => .string v) (φ := fun v => v ∈ ([y0, y0, ⟨#[]⟩, ⟨#[65]⟩, ⟨#[122, 101, 100]⟩] : List ByteArray)) rfl cb57 rfl rfl rfl rfl (fun wx hm => (some_any [y0, y0, ⟨#[]⟩, ⟨#[65]⟩, ⟨#[122, 101, 100]⟩] _ _ _ wx B sb _ hm.k (by omega) (by simp) (by simp) (hm.blkI 0 rfl) (hm.neRow 0 rfl rfl))) fun k12 hk12 => ?_
   refine wl_nil ?_
   refine nw 30 8388607 (fun _ _ => trivial) fun z => ?_
   refine wa1 23 rfl ?_
   refine wl_got (γ := ByteArray) (val := fun v => .string v) (φ := fun v => v ∈ ([y1, ⟨#[109, 105, 110, 105]⟩, ⟨#[110, 111, 110, 101]⟩, ⟨#[65]⟩, y0] : List ByteArray)) rfl cb57 rfl rfl rfl rfl (fun wx hm => (some_any [y1, ⟨#[109, 105, 110, 105]⟩, ⟨#[110, 111, 110, 101]⟩, ⟨#[65]⟩, y0] _ _ _ wx B sb _ hm.k (by omega) (by simp) (by simp) (hm.blkI 1 rfl) (hm.neRow 1 rfl rfl))) fun k23 hk23 => ?_
   refine wl_nil ?_
   refine nw 30 16777215 (fun _ _ => trivial) fun z => ?_
   refine wt 24 30 33554431 rfl z (ov_nilcheck rfl) ?_
   refine wt 25 30 67108863 rfl z (ov_field fo170_0 rfl rfl) ?_
   refine wa1 26 rfl ?_
   refine wl_storeE (l := l) (j := j) (r := 0) (el := ⟨y0, y1⟩) (el' := ⟨k12, y1⟩) 0 sc9 rfl rfl rfl rfl cs_len rfl hy hl4 (by decide) rfl rfl ?_
   refine wl_nil ?_
   refine nw 30 134217727 (fun _ _ => trivial) fun z => ?_
   refine wt 27 30 268435455 rfl z (ov_nilcheck rfl) ?_
   refine wt 28 30 536870911 rfl z (ov_field fo170_1 rfl rfl) ?_
   refine wa1 29 rfl ?_
   have hy2 : (l.set j ⟨k12, y1⟩)[j]? = some (⟨k12, y1⟩ : Cs) := by rw [List.getElem?_set_self (by omega)]
   have hl42 : (l.set j ⟨k12, y1⟩).length = 4 := by simp [hl4]
   refine wl_storeE (l := (l.set j ⟨k12, y1⟩)) (j := j) (r := 1) (el := ⟨k12, y1⟩) (el' := ⟨k12, k23⟩) 0 sc9 rfl rfl rfl rfl cs_len rfl hy2 hl42 (by decide) rfl rfl ?_
   refine wl_nil ?_
   refine nw 30 1073741823 (fun _ _ => trivial) fun z => ?_
   refine wa_done (by kernel_rfl) ?_
   refine nx_then (sr_ (mv_ rfl (sg_ rfl (nn_ ?_))))
   refine gw_ret ?_
   refine nx_ret1 rfl rfl fun wx hm => ?_
   exact ⟨some ⟨bo, 0, none⟩, c, _, rfl, hm.ownI 0 rfl, (by simp [hl4]), cs_mem (cs_mem hok ⟨(show k12.size ≤ 1000000 by rcases mem5 hk12 with h | h | h | h | h <;> rw [h] <;> first | assumption | decide), hy1⟩) ⟨(show k12.size ≤ 1000000 by rcases mem5 hk12 with h | h | h | h | h <;> rw [h] <;> first | assumption | decide), (show k23.size ≤ 1000000 by rcases mem5 hk23 with h | h | h | h | h <;> rw [h] <;> first | assumption | decide)⟩, hm.k.more (by omega), hm.g⟩
  have J4188095 : W 11 (lb 30 4188095) [(2, .slice none 0 0), (3, .slice (some ⟨bo, 0, none⟩) 4 c), (15, .pointer (some ⟨bo, 0 + j * 2, none⟩)), (16, .pointer (some ⟨bo, 0 + j * 2, none⟩)), (17, .pointer (some ⟨sb, 0, none⟩)), (20, .pointer (some ⟨bo, 0 + j * 2 + 0, none⟩)), (25, .string y0), (28, .pointer (some ⟨sb, 0, none⟩)), (32, .string y1), (36, .string y0)] (fun w => Strm 25 w B sb (m + 20 + 1 + 1)) [] [⟨.slice (some ⟨bo, 0, none⟩) 4 c, 170, 2, 4, l.flatMap csEnc⟩] [] := by
   skip
   rw [hW]
   refine wa_all [6, 22] (by kernel_rfl) rfl ⟨⟨_, rfl, ?_⟩, ⟨_, rfl, ?_⟩, trivial⟩
   ·refine wl_ov (ov_elem1 (k := 0) (v := .string y0) sc9 rfl (fun _ hm => (SlT.ofOwn cs_len (hm.ownI 0 rfl) hl4)) hy rfl rfl) rfl ?_
    refine wl_nil ?_
    refine nw 30 4188159 (fun _ _ => trivial) fun z => ?_
    have h := J4188159 
    rw [hW] at h
    refine wa_weak ?_ ?_ h
    ·exact ⟨rfl, rfl, rfl, rfl, rfl, rfl, rfl, rfl, rfl, rfl, trivial⟩
    exact fun _ hm => hm.pick [] [0] [] rfl rfl
   refine wl_buildSlice (e := 9) (cs := [.string y1, .string ⟨#[109, 105, 110, 105]⟩, .string ⟨#[110, 111, 110, 101]⟩, .string ⟨#[65]⟩, .string y0]) rfl (by kernel_rfl) rfl fun q22 => ?_
   refine wl_nil ?_
   refine nw 30 8382399 (fun _ _ => trivial) fun z => ?_
   have h := T8382399 q22
   rw [hW] at h
   refine wa_weak ?_ ?_ h
   ·exact ⟨rfl, rfl, rfl, rfl, rfl, rfl, rfl, rfl, rfl, trivial⟩
   exact fun _ hm => hm.pick [0] [0] [] rfl rfl
  have J2090943 : W 12 (lb 30 2090943) [(2, .slice none 0 0), (3, .slice (some ⟨bo, 0, none⟩) 4 c), (15, .pointer (some ⟨bo, 0 + j * 2, none⟩)), (16, .pointer (some ⟨bo, 0 + j * 2, none⟩)), (17, .pointer (some ⟨sb, 0, none⟩)), (20, .pointer (some ⟨bo, 0 + j * 2 + 0, none⟩)), (25, .string y0), (28, .pointer (some ⟨sb, 0, none⟩)), (32, .string y1), (35, .pointer (some ⟨bo, 0 + j * 2 + 0, none⟩))] (fun w => Strm 25 w B sb (m + 20 + 1 + 1)) [] [⟨.slice (some ⟨bo, 0, none⟩) 4 c, 170, 2, 4, l.flatMap csEnc⟩] [] := by
   skip
   rw [hW]
   refine wa_all [6, 21] (by kernel_rfl) rfl ⟨⟨_, rfl, ?_⟩, ⟨_, rfl, ?_⟩, trivial⟩
   ·refine wl_ov (ov_elem1 (k := 0) (v := .string y0) sc9 rfl (fun _ hm => (SlT.ofOwn cs_len (hm.ownI 0 rfl) hl4)) hy rfl rfl) rfl ?_
    refine wl_nil ?_
    refine nw 30 2091007 (fun _ _ => trivial) fun z => ?_
    have h := J2091007 
    rw [hW] at h
    refine wa_weak ?_ ?_ h
    ·exact ⟨rfl, rfl, rfl, rfl, rfl, rfl, rfl, rfl, rfl, rfl, trivial⟩
    exact fun _ hm => hm.pick [] [0] [] rfl rfl
   refine wl_ov (ov_elem1 (k := 0) (v := .string y0) sc9 rfl (fun _ hm => (SlT.ofOwn cs_len (hm.ownI 0 rfl) hl4)) hy rfl rfl) rfl ?_
   refine wl_nil ?_
   refine nw 30 4188095 (fun _ _ => trivial) fun z => ?_
   have h := J4188095 
   rw [hW] at h
   refine wa_weak ?_ ?_ h
   ·exact ⟨rfl, rfl, rfl, rfl, rfl, rfl, rfl, rfl, rfl, rfl, trivial⟩
   exact fun _ hm => hm.pick [] [0] [] rfl rfl
  have J4057023 : W 12 (lb 30 4057023) [(2, .slice none 0 0), (3, .slice (some ⟨bo, 0, none⟩) 4 c), (15, .pointer (some ⟨bo, 0 + j * 2, none⟩)), (16, .pointer (some ⟨bo, 0 + j * 2, none⟩)), (17, .pointer (some ⟨sb, 0, none⟩)), (20, .pointer (some ⟨bo, 0 + j * 2 + 0, none⟩)), (25, .string y0), (28, .pointer (some ⟨sb, 0, none⟩)), (31, .pointer (some ⟨bo, 0 + j * 2 + 1, none⟩)), (36, .string y0)] (fun w => Strm 25 w B sb (m + 20 + 1 + 1)) [] [⟨.slice (some ⟨bo, 0, none⟩) 4 c, 170, 2, 4, l.flatMap csEnc⟩] [] := by
   skip
   rw [hW]
   refine wa_all [6, 17] (by kernel_rfl) rfl ⟨⟨_, rfl, ?_⟩, ⟨_, rfl, ?_⟩, trivial⟩
   ·refine wl_ov (ov_elem1 (k := 0) (v := .string y0) sc9 rfl (fun _ hm => (SlT.ofOwn cs_len (hm.ownI 0 rfl) hl4)) hy rfl rfl) rfl ?_
    refine wl_nil ?_
    refine nw 30 4057087 (fun _ _ => trivial) fun z => ?_
    have h := J4057087 
    rw [hW] at h
    refine wa_weak ?_ ?_ h
    ·exact ⟨rfl, rfl, rfl, rfl, rfl, rfl, rfl, rfl, rfl, rfl, trivial⟩
    exact fun _ hm => hm.pick [] [0] [] rfl rfl
   refine wl_ov (ov_elem1 (k := 1) (v := .string y1) sc9 rfl (fun _ hm => (SlT.ofOwn cs_len (hm.ownI 0 rfl) hl4)) hy rfl rfl) rfl ?_
   refine wl_nil ?_
   refine nw 30 4188095 (fun _ _ => trivial) fun z => ?_
   have h := J4188095 
   rw [hW] at h
   refine wa_weak ?_ ?_ h
   ·exact ⟨rfl, rfl, rfl, rfl, rfl, rfl, rfl, rfl, rfl, rfl, trivial⟩
   exact fun _ hm => hm.pick [] [0] [] rfl rfl
  have J1959871 : W 13 (lb 30 1959871) [(2, .slice none 0 0), (3, .slice (some ⟨bo, 0, none⟩) 4 c), (15, .pointer (some ⟨bo, 0 + j * 2, none⟩)), (16, .pointer (some ⟨bo, 0 + j * 2, none⟩)), (17, .pointer (some ⟨sb, 0, none⟩)), (20, .pointer (some ⟨bo, 0 + j * 2 + 0, none⟩)), (25, .string y0), (28, .pointer (some ⟨sb, 0, none⟩)), (31, .pointer (some ⟨bo, 0 + j * 2 + 1, none⟩)), (35, .pointer (some ⟨bo, 0 + j * 2 + 0, none⟩))] (fun w => Strm 25 w B sb (m + 20 + 1 + 1)) [] [⟨.slice (some ⟨bo, 0, none⟩) 4 c, 170, 2, 4, l.flatMap csEnc⟩] [] := by
   skip
   rw [hW]
   refine wa_all [6, 17, 21] (by kernel_rfl) rfl ⟨⟨_, rfl, ?_⟩, ⟨_, rfl, ?_⟩, ⟨_, rfl, ?_⟩, trivial⟩
   ·refine wl_ov (ov_elem1 (k := 0) (v := .string y0) sc9 rfl (fun _ hm => (SlT.ofOwn cs_len (hm.ownI 0 rfl) hl4)) hy rfl rfl) rfl ?_
    refine wl_nil ?_
    refine nw 30 1959935 (fun _ _ => trivial) fun z => ?_
    have h := J1959935 
    rw [hW] at h
    refine wa_weak ?_ ?_ h
    ·exact ⟨rfl, rfl, rfl, rfl, rfl, rfl, rfl, rfl, rfl, rfl, trivial⟩
    exact fun _ hm => hm.pick [] [0] [] rfl rfl
   ·refine wl_ov (ov_elem1 (k := 1) (v := .string y1) sc9 rfl (fun _ hm => (SlT.ofOwn cs_len (hm.ownI 0 rfl) hl4)) hy rfl rfl) rfl ?_
    refine wl_nil ?_
    refine nw 30 2090943 (fun _ _ => trivial) fun z => ?_
    have h := J2090943 
    rw [hW] at h
    refine wa_weak ?_ ?_ h
    ·exact ⟨rfl, rfl, rfl, rfl, rfl, rfl, rfl, rfl, rfl, rfl, trivial⟩
    exact fun _ hm => hm.pick [] [0] [] rfl rfl
   refine wl_ov (ov_elem1 (k := 0) (v := .string y0) sc9 rfl (fun _ hm => (SlT.ofOwn cs_len (hm.ownI 0 rfl) hl4)) hy rfl rfl) rfl ?_
   refine wl_nil ?_
   refine nw 30 4057023 (fun _ _ => trivial) fun z => ?_
   have h := J4057023 
   rw [hW] at h
   refine wa_weak ?_ ?_ h
   ·exact ⟨rfl, rfl, rfl, rfl, rfl, rfl, rfl, rfl, rfl, rfl, trivial⟩
   exact fun _ hm => hm.pick [] [0] [] rfl rfl
  have J8381375 : ∀ (q22 : Nat), W 11 (lb 30 8381375) [(2, .slice none 0 0), (3, .slice (some ⟨bo, 0, none⟩) 4 c), (15, .pointer (some ⟨bo, 0 + j * 2, none⟩)), (16, .pointer (some ⟨bo, 0 + j * 2, none⟩)), (17, .pointer (some ⟨sb, 0, none⟩)), (20, .pointer (some ⟨bo, 0 + j * 2 + 0, none⟩)), (24, .pointer (some ⟨bo, 0 + j * 2 + 0, none⟩)), (28, .pointer (some ⟨sb, 0, none⟩)), (37, .slice (some ⟨q22, 0, none⟩) 5 5)] (fun w => Strm 25 w B sb (m + 20 + 1 + 1)) [(q22, 9, [.string y1, .string ⟨#[109, 105, 110, 105]⟩, .string ⟨#[110, 111, 110, 101]⟩, .string ⟨#[65]⟩, .string y0])] [⟨.slice (some ⟨bo, 0, none⟩) 4 c, 170, 2, 4, l.flatMap csEnc⟩] [] := by
   intro q22
   rw [hW]
   refine wa_all [6, 10] (by kernel_rfl) rfl ⟨⟨_, rfl, ?_⟩, ⟨_, rfl, ?_⟩, trivial⟩
   ·refine wl_ov (ov_elem1 (k := 0) (v := .string y0) sc9 rfl (fun _ hm => (SlT.ofOwn cs_len (hm.ownI 0 rfl) hl4)) hy rfl rfl) rfl ?_
    refine wl_nil ?_
    refine nw 30 8381439 (fun _ _ => trivial) fun z => ?_
    have h := T8381439 q22
    rw [hW] at h
    refine wa_weak ?_ ?_ h
    ·exact ⟨rfl, rfl, rfl, rfl, rfl, rfl, rfl, rfl, rfl, trivial⟩
    exact fun _ hm => hm.pick [0] [0] [] rfl rfl
   refine wl_ov (ov_elem1 (k := 0) (v := .string y0) sc9 rfl (fun _ hm => (SlT.ofOwn cs_len (hm.ownI 0 rfl) hl4)) hy rfl rfl) rfl ?_
   refine wl_nil ?_
   refine nw 30 8382399 (fun _ _ => trivial) fun z => ?_
   have h := T8382399 q22
   rw [hW] at h
   refine wa_weak ?_ ?_ h
   ·exact ⟨rfl, rfl, rfl, rfl, rfl, rfl, rfl, rfl, rfl, trivial⟩
   exact fun _ hm => hm.pick [0] [0] [] rfl rfl
  have J4187071 : W 12 (lb 30 4187071) [(2, .slice none 0 0), (3, .slice (some ⟨bo, 0, none⟩) 4 c), (15, .pointer (some ⟨bo, 0 + j * 2, none⟩)), (16, .pointer (some ⟨bo, 0 + j * 2, none⟩)), (17, .pointer (some ⟨sb, 0, none⟩)), (20, .pointer (some ⟨bo, 0 + j * 2 + 0, none⟩)), (24, .pointer (some ⟨bo, 0 + j * 2 + 0, none⟩)), (28, .pointer (some ⟨sb, 0, none⟩)), (32, .string y1), (36, .string y0)] (fun w => Strm 25 w B sb (m + 20 + 1 + 1)) [] [⟨.slice (some ⟨bo, 0, none⟩) 4 c, 170, 2, 4, l.flatMap csEnc⟩] [] := by
   skip
   rw [hW]
   refine wa_all [6, 10, 22] (by kernel_rfl) rfl ⟨⟨_, rfl, ?_⟩, ⟨_, rfl, ?_⟩, ⟨_, rfl, ?_⟩, trivial⟩
   ·refine wl_ov (ov_elem1 (k := 0) (v := .string y0) sc9 rfl (fun _ hm => (SlT.ofOwn cs_len (hm.ownI 0 rfl) hl4)) hy rfl rfl) rfl ?_
    refine wl_nil ?_
    refine nw 30 4187135 (fun _ _ => trivial) fun z => ?_
    have h := J4187135 
    rw [hW] at h
    refine wa_weak ?_ ?_ h
    ·exact ⟨rfl, rfl, rfl, rfl, rfl, rfl, rfl, rfl, rfl, rfl, trivial⟩
    exact fun _ hm => hm.pick [] [0] [] rfl rfl
   ·refine wl_ov (ov_elem1 (k := 0) (v := .string y0) sc9 rfl (fun _ hm => (SlT.ofOwn cs_len (hm.ownI 0 rfl) hl4)) hy rfl rfl) rfl ?_
    refine wl_nil ?_
    refine nw 30 4188095 (fun _ _ => trivial) fun z => ?_
    have h := J4188095 
    rw [hW] at h
    refine wa_weak ?_ ?_ h
    ·exact ⟨rfl, rfl, rfl, rfl, rfl, rfl, rfl, rfl, rfl, rfl, trivial⟩
    exact fun _ hm => hm.pick [] [0] [] rfl rfl
   refine wl_buildSlice (e := 9) (cs := [.string y1, .string ⟨#[109, 105, 110, 105]⟩, .string ⟨#[110, 111, 110, 101]⟩, .string ⟨#[65]⟩, .string y0]) rfl (by kernel_rfl) rfl fun q22 => ?_
   refine wl_nil ?_
   refine nw 30 8381375 (fun _ _ => trivial) fun z => ?_
   have h := J8381375 q22
   rw [hW] at h
   refine wa_weak ?_ ?_ h
   ·exact ⟨rfl, rfl, rfl, rfl, rfl, rfl, rfl, rfl, rfl, trivial⟩
   exact fun _ hm => hm.pick [0] [0] [] rfl rfl
  have J2089919 : W 13 (lb 30 2089919) [(2, .slice none 0 0), (3, .slice (some ⟨bo, 0, none⟩) 4 c), (15, .pointer (some ⟨bo, 0 + j * 2, none⟩)), (16, .pointer (some ⟨bo, 0 + j * 2, none⟩)), (17, .pointer (some ⟨sb, 0, none⟩)), (20, .pointer (some ⟨bo, 0 + j * 2 + 0, none⟩)), (24, .pointer (some ⟨bo, 0 + j * 2 + 0, none⟩)), (28, .pointer (some ⟨sb, 0, none⟩)), (32, .string y1), (35, .pointer (some ⟨bo, 0 + j * 2 + 0, none⟩))] (fun w => Strm 25 w B sb (m + 20 + 1 + 1)) [] [⟨.slice (some ⟨bo, 0, none⟩) 4 c, 170, 2, 4, l.flatMap csEnc⟩] [] := by
   skip
   rw [hW]
   refine wa_all [6, 10, 21] (by kernel_rfl) rfl ⟨⟨_, rfl, ?_⟩, ⟨_, rfl, ?_⟩, ⟨_, rfl, ?_⟩, trivial⟩
   ·refine wl_ov (ov_elem1 (k := 0) (v := .string y0) sc9 rfl (fun _ hm => (SlT.ofOwn cs_len (hm.ownI 0 rfl) hl4)) hy rfl rfl) rfl ?_
    refine wl_nil ?_
    refine nw 30 2089983 (fun _ _ => trivial) fun z => ?_
    have h := J2089983 
    rw [hW] at h
    refine wa_weak ?_ ?_ h
    ·exact ⟨rfl, rfl, rfl, rfl, rfl, rfl, rfl, rfl, rfl, rfl, trivial⟩
    exact fun _ hm => hm.pick [] [0] [] rfl rfl
   ·refine wl_ov (ov_elem1 (k := 0) (v := .string y0) sc9 rfl (fun _ hm => (SlT.ofOwn cs_len (hm.ownI 0 rfl) hl4)) hy rfl rfl) rfl ?_
    refine wl_nil ?_
    refine nw 30 2090943 (fun _ _ => trivial) fun z => ?_
    have h := J2090943 
    rw [hW] at h
    refine wa_weak ?_ ?_ h
    ·exact ⟨rfl, rfl, rfl, rfl, rfl, rfl, rfl, rfl, rfl, rfl, trivial⟩
    exact fun _ hm => hm.pick [] [0] [] rfl rfl
   refine wl_ov (ov_elem1 (k := 0) (v := .string y0) sc9 rfl (fun _ hm => (SlT.ofOwn cs_len (hm.ownI 0 rfl) hl4)) hy rfl rfl) rfl ?_
   refine wl_nil ?_
   refine nw 30 4187071 (fun _ _ => trivial) fun z => ?_
   have h := J4187071 
   rw [hW] at h
   refine wa_weak ?_ ?_ h
   ·exact ⟨rfl, rfl, rfl, rfl, rfl, rfl, rfl, rfl, rfl, rfl, trivial⟩
   exact fun _ hm => hm.pick [] [0] [] rfl rfl
  have J4055999 : W 13 (lb 30 4055999) [(2, .slice none 0 0), (3, .slice (some ⟨bo, 0, none⟩) 4 c), (15, .pointer (some ⟨bo, 0 + j * 2, none⟩)), (16, .pointer (some ⟨bo, 0 + j * 2, none⟩)), (17, .pointer (some ⟨sb, 0, none⟩)), (20, .pointer (some ⟨bo, 0 + j * 2 + 0, none⟩)), (24, .pointer (some ⟨bo, 0 + j * 2 + 0, none⟩)), (28, .pointer (some ⟨sb, 0, none⟩)), (31, .pointer (some ⟨bo, 0 + j * 2 + 1, none⟩)), (36, .string y0)] (fun w => Strm 25 w B sb (m + 20 + 1 + 1)) [] [⟨.slice (some ⟨bo, 0, none⟩) 4 c, 170, 2, 4, l.flatMap csEnc⟩] [] := by
   skip
   rw [hW]
   refine wa_all [6, 10, 17] (by kernel_rfl) rfl ⟨⟨_, rfl, ?_⟩, ⟨_, rfl, ?_⟩, ⟨_, rfl, ?_⟩, trivial⟩
   ·refine wl_ov (ov_elem1 (k := 0) (v := .string y0) sc9 rfl (fun _ hm => (SlT.ofOwn cs_len (hm.ownI 0 rfl) hl4)) hy rfl rfl) rfl ?_
    refine wl_nil ?_
    refine nw 30 4056063 (fun _ _ => trivial) fun z => ?_
    have h := J4056063 
    rw [hW] at h
    refine wa_weak ?_ ?_ h
    ·exact ⟨rfl, rfl, rfl, rfl, rfl, rfl, rfl, rfl, rfl, rfl, trivial⟩
    exact fun _ hm => hm.pick [] [0] [] rfl rfl
   ·refine wl_ov (ov_elem1 (k := 0) (v := .string y0) sc9 rfl (fun _ hm => (SlT.ofOwn cs_len (hm.ownI 0 rfl) hl4)) hy rfl rfl) rfl ?_
    refine wl_nil ?_
    refine nw 30 4057023 (fun _ _ => trivial) fun z => ?_
    have h := J4057023 
    rw [hW] at h
    refine wa_weak ?_ ?_ h
    ·exact ⟨rfl, rfl, rfl, rfl, rfl, rfl, rfl, rfl, rfl, rfl, trivial⟩
    exact fun _ hm => hm.pick [] [0] [] rfl rfl
   refine wl_ov (ov_elem1 (k := 1) (v := .string y1) sc9 rfl (fun _ hm => (SlT.ofOwn cs_len (hm.ownI 0 rfl) hl4)) hy rfl rfl) rfl ?_
   refine wl_nil ?_
   refine nw 30 4187071 (fun _ _ => trivial) fun z => ?_
   have h := J4187071 
   rw [hW] at h
   refine wa_weak ?_ ?_ h
   ·exact ⟨rfl, rfl, rfl, rfl, rfl, rfl, rfl, rfl, rfl, rfl, trivial⟩
   exact fun _ hm => hm.pick [] [0] [] rfl rfl
  have J1958847 : W 14 (lb 30 1958847) [(2, .slice none 0 0), (3, .slice (some ⟨bo, 0, none⟩) 4 c), (15, .pointer (some ⟨bo, 0 + j * 2, none⟩)), (16, .pointer (some ⟨bo, 0 + j * 2, none⟩)), (17, .pointer (some ⟨sb, 0, none⟩)), (20, .pointer (some ⟨bo, 0 + j * 2 + 0, none⟩)), (24, .pointer (some ⟨bo, 0 + j * 2 + 0, none⟩)), (28, .pointer (some ⟨sb, 0, none⟩)), (31, .pointer (some ⟨bo, 0 + j * 2 + 1, none⟩)), (35, .pointer (some ⟨bo, 0 + j * 2 + 0, none⟩))] (fun w => Strm 25 w B sb (m + 20 + 1 + 1)) [] [⟨.slice (some ⟨bo, 0, none⟩) 4 c, 170, 2, 4, l.flatMap csEnc⟩] [] := by
   skip
   rw [hW]
   refine wa_all [6, 10, 17, 21] (by kernel_rfl) rfl ⟨⟨_, rfl, ?_⟩, ⟨_, rfl, ?_⟩, ⟨_, rfl, ?_⟩, ⟨_, rfl, ?_⟩, trivial⟩
   ·refine wl_ov (ov_elem1 (k := 0) (v := .string y0) sc9 rfl (fun _ hm => (SlT.ofOwn cs_len (hm.ownI 0 rfl) hl4)) hy rfl rfl) rfl ?_
    refine wl_nil ?_
    refine nw 30 1958911 (fun _ _ => trivial) fun z => ?_
    have h := J1958911 
    rw [hW] at h
    refine wa_weak ?_ ?_ h
    ·exact ⟨rfl, rfl, rfl, rfl, rfl, rfl, rfl, rfl, rfl, rfl, trivial⟩
    exact fun _ hm => hm.pick [] [0] [] rfl rfl
   ·refine wl_ov (ov_elem1 (k := 0) (v := .string y0) sc9 rfl (fun _ hm => (SlT.ofOwn cs_len (hm.ownI 0 rfl) hl4)) hy rfl rfl) rfl ?_
    refine wl_nil ?_
    refine nw 30 1959871 (fun _ _ => trivial) fun z => ?_
    have h := J1959871 
    rw [hW] at h
    refine wa_weak ?_ ?_ h
    ·exact ⟨rfl, rfl, rfl, rfl, rfl, rfl, rfl, rfl, rfl, rfl, trivial⟩
    exact fun _ hm => hm.pick [] [0] [] rfl rfl
   ·refine wl_ov (ov_elem1 (k := 1) (v := .string y1) sc9 rfl (fun _ hm => (SlT.ofOwn cs_len (hm.ownI 0 rfl) hl4)) hy rfl rfl) rfl ?_
    refine wl_nil ?_
    refine nw 30 2089919 (fun _ _ => trivial) fun z => ?_
    have h := J2089919 
    rw [hW] at h
    refine wa_weak ?_ ?_ h
    ·exact ⟨rfl, rfl, rfl, rfl, rfl, rfl, rfl, rfl, rfl, rfl, trivial⟩
    exact fun _ hm => hm.pick [] [0] [] rfl rfl
   refine wl_ov (ov_elem1 (k := 0) (v := .string y0) sc9 rfl (fun _ hm => (SlT.ofOwn cs_len (hm.ownI 0 rfl) hl4)) hy rfl rfl) rfl ?_
   refine wl_nil ?_
   refine nw 30 4055999 (fun _ _ => trivial) fun z => ?_
   have h := J4055999 
   rw [hW] at h
   refine wa_weak ?_ ?_ h
   ·exact ⟨rfl, rfl, rfl, rfl, rfl, rfl, rfl, rfl, rfl, rfl, trivial⟩
   exact fun _ hm => hm.pick [] [0] [] rfl rfl
  rw [hW]
  have h := J1958847 
  rw [hW] at h
  refine wa_weak ?_ ?_ h
  ·exact ⟨rfl, rfl, rfl, rfl, rfl, rfl, rfl, rfl, rfl, rfl, trivial⟩
  exact fun _ hm => hm.pick [] [0] [] rfl rfl
 have hf : f1 = false := by simpa using hh
 clear hh
 refine gw_skip (nx_then (sr_ (mv_ rfl (sg_ rfl (nn_ ?_)))))
 refine gw_ret ?_
 refine nx_ret1 rfl rfl fun wx hm => ?_
 exact ⟨A, c, l, rfl, hm.ownI 0 rfl, hl4, hok, hm.k.more (by omega), hm.g⟩
end Go.Proofs.YtnpcbfllnkiopaaGreatDoor
namespace Go.Proofs.YtnpcbfllnkiopaaGreatDoor
open Go.RowKit
theorem stEnc_lenL {s : St} (h : StOk s) : (stEnc s).length = 15 := stEnc_len h
theorem flat_getL {enc : St → List Value} {k : Nat} : ∀ (l : List St), (∀ x ∈ l, (enc x).length = k) → ∀ (i : Nat) (x : St), l[i]? = some x → ∀ (j : Nat) (v : Value), (enc x)[j]? = some v → (l.flatMap enc)[i * k + j]? = some v
  | [], _, i, x, h, _, _, _ => by simp at h
  | y :: r, hk, 0, x, h, j, v, hv => by
    simp only [List.getElem?_cons_zero, Option.some.injEq] at h
    subst h
    rw [List.flatMap_cons, List.getElem?_append_left (by have := (List.getElem?_eq_some_iff.1 hv).1; omega), Nat.zero_mul, Nat.zero_add]; exact hv
  | y :: r, hk, i + 1, x, h, j, v, hv => by
    have h1 := hk y (List.mem_cons_self ..)
    rw [List.flatMap_cons, List.getElem?_append_right (by rw [h1, Nat.add_mul]; omega), h1, show (i + 1) * k + j - k = i * k + j by rw [Nat.add_mul]; omega]
    exact flat_getL r (fun z hz => hk z (List.mem_cons_of_mem _ hz)) i x (by simpa using h) j v hv
theorem SlT.ofOwnL {enc : St → List Value} {base k n c : Nat} {T : TypeId} {w : World} {A : Option Addr} {l : List St} (hk : ∀ {x : St}, StOk x → (enc x).length = k) (hl : ∀ x ∈ l, StOk x) (h : w.ownsRow base T k (.slice A n c) n (l.flatMap enc)) (hn : l.length = n) : SlT enc k T w A n l := by
  refine ⟨hn, fun hn0 => ?_⟩
  obtain ⟨h1, h2⟩ := h
  rcases h2 with ⟨h2, h3⟩ | ⟨g, cap, cur, hv, _, hh, hle, _, hcs, htk⟩
  · omega
  · injection hv with hA _ _
    refine ⟨g, 0, cur, _, hA, hh, fun i x hx j v hv => ?_⟩
    have := flat_getL l (fun x hx => hk (hl x hx)) i x hx j v hv
    rw [← htk] at this
    rw [List.getElem?_take] at this
    split at this
    · simpa using this
    · cases this
def cat3 (a b : ByteArray) : ByteArray := a ++ (⟨#[32]⟩ : ByteArray) ++ b
def rfOrd (x y : Pl) : Int := if x.fr = y.fr then cmpS (cat3 x.veh x.plate) (cat3 y.veh y.plate) else x.fr - y.fr
def rfLt (x y : Pl) : Bool := decide (rfOrd x y < 0)
/-- A plate that the generators draw. -/
def PlB (x : Pl) : Prop := (-2000000000000000 ≤ x.fr ∧ x.fr ≤ 2000000000000000) ∧ x.veh.size ≤ 1000 ∧ x.plate.size ≤ 1000
theorem plB_ok {x : Pl} (h : PlB x) : PlOk x := ⟨by have := h.1; omega, by have := h.2.1; omega, by have := h.2.2; omega⟩
theorem all_snoc {α : Type} {P : α → Prop} {l : List α} {x : α} (h : ∀ y ∈ l, P y) (hx : P x) : ∀ y ∈ l ++ [x], P y := fun y hy => by
  rcases List.mem_append.1 hy with hy | hy
  · exact h y hy
  · rw [List.mem_singleton.1 hy]; exact hx
theorem s1_ok : StB ⟨⟨#[115, 49]⟩, [0, 0, 0, 0, 0, 0, 0, 0, 0, 0, 0, 0, 0, 0]⟩ := ⟨rfl, by decide, by decide⟩
theorem sz32 : (⟨#[32]⟩ : ByteArray).size = 1 := rfl
theorem rfOrd_any (x0 y0 : Int) (x1 x2 y1 y2 : ByteArray) (w : World) (hx : PlB ⟨x0, x1, x2⟩) (hy : PlB ⟨y0, y1, y2⟩) :
  Calls Tryz.prog 211 #[.agg #[.int .i64 x0, .string x1, .string x2], .agg #[.int .i64 y0, .string y1, .string y2]] w (GotE w (rfOrd ⟨x0, x1, x2⟩ ⟨y0, y1, y2⟩)) := by
 refine gw_enter ⟨28, w, none, []⟩ Tryz.func211 rfl Tryz.ntmps211 rfl (mem0 (X := []) allF_nil allL_nil) ?_
 refine sr_ ?_
 obtain ⟨⟨hx1, hx2⟩, hx3, hx4⟩ := hx
 obtain ⟨⟨hy1, hy2⟩, hy3, hy4⟩ := hy
 dsimp only at hx1 hx2 hx3 hx4 hy1 hy2 hy3 hy4
 have h32 := sz32
 refine wl_box rfl rfl rfl fun g1 => ?_
 refine wl_box rfl rfl rfl fun g2 => ?_
 refine sg_ rfl (nn_ (gw_seq (sr_ (fd_ fo161_0 rfl rfl (lk_ sc3 1 rfl rfl rfl (fd_ fo161_0 rfl rfl (lk_ sc3 0 rfl rfl rfl (wl_ov (ov_neq rfl rfl) rfl (nn_ ?_)))))))))
 refine gw_cond rfl (fun hh => ?_) (fun hh => ?_)
 ·have hne : ¬ (x0 = y0) := by simpa using hh
  clear hh
  refine sr_ (fd_ fo161_0 rfl rfl (lk_ sc3 1 rfl rfl rfl (fd_ fo161_0 rfl rfl (lk_ sc3 0 rfl rfl rfl ?_))))
  refine wl_ov (ov_sub rfl rfl (by omega) (by omega)) rfl ?_
  refine sg_ rfl (nn_ ?_)
  refine gw_ret ?_
  refine nx_then_ret ?_
  refine nx_ret1 rfl rfl fun wx hm => ?_
  exact ⟨ret_int (by unfold rfOrd; exact (if_neg hne).symm), hm.g⟩
 have hne : x0 = y0 := by simpa using hh
 clear hh
 refine gw_skip (nx_then (sr_ (fd_ fo161_1 rfl rfl (lk_ sc9 1 rfl rfl rfl ?_))))
 refine wl_ov (ov_sadd rfl rfl (by (try simp only [ByteArray.size_append]); omega)) rfl ?_
 refine fd_ fo161_2 rfl rfl (lk_ sc9 1 rfl rfl rfl ?_)
 refine wl_ov (ov_sadd rfl rfl (by (try simp only [ByteArray.size_append]); omega)) rfl ?_
 refine fd_ fo161_1 rfl rfl (lk_ sc9 0 rfl rfl rfl ?_)
 refine wl_ov (ov_sadd rfl rfl (by (try simp only [ByteArray.size_append]); omega)) rfl ?_
 refine fd_ fo161_2 rfl rfl (lk_ sc9 0 rfl rfl rfl ?_)
 refine wl_ov (ov_sadd rfl rfl (by (try simp only [ByteArray.size_append]); omega)) rfl ?_
 refine wl_callv rfl cb143 rfl rfl (fun wx hm => (strCompare_any _ _ wx)) ?_
 refine sg_ rfl (nn_ ?_)
 refine gw_ret ?_
 refine nx_ret1 rfl rfl fun wx hm => ?_
 exact ⟨ret_int (by unfold rfOrd; exact (if_pos hne).symm), hm.g⟩
theorem ins_rf  (l0 : List Pl) (br n cap base : Nat) (w : World) (h : w.ownsRow base 161 3 (.slice (some ⟨br, 0, none⟩) n cap) n (l0.flatMap plEnc)) (hl0 : l0.length = n) (hn : n ≤ 1000000) (hall : ∀ x ∈ l0, PlB x) :
  Calls Tryz.prog 315 #[.slice (some ⟨br, 0, none⟩) n cap, .int .i64 0, .int .i64 ((n : Nat) : Int), .func (.func 211) #[] #[]] w (fun e w' => e = .returned (.tuple #[]) ∧ w'.ownsRow base 161 3 (.slice (some ⟨br, 0, none⟩) n cap) n ((isort (rfLt) l0).flatMap plEnc) ∧ w.grownBy w' (some br)) := by
 obtain ⟨R, hR⟩ : ∃ z, z = isort (rfLt) l0 := ⟨_, rfl⟩
 rw [← hR]
 refine gw_enter ⟨53, w, (some br), []⟩ Tryz.func315 rfl Tryz.ntmps315 rfl (memR (X := []) h allF_nil allL_nil) ?_
 refine sr_ (mv_ rfl (ad_ rfl rfl ?_))
 refine wl_set 11 (v' := .int .i64 1) rfl rfl ?_
 refine sg_ rfl (nn_ (gw_block ?_))
 refine gw_loop (γ := Nat × List Pl) (fun gg => (1 ≤ gg.1 ∧ gg.1 ≤ n + 1) ∧ gg.2.length = n ∧ isortF (rfLt) (n - gg.1) gg.1 gg.2 = R) (fun gg => [(0, .slice (some ⟨br, 0, none⟩) n cap), (1, .int .i64 0), (2, .int .i64 ((n : Nat) : Int)), (3, .func (.func 211) #[] #[]), (8, .int .i64 ((gg.1 : Nat) : Int))]) (fun gg => RowK base 161 3 n cap br ((gg.2).flatMap plEnc)) (fun gg => []) (fun gg => []) (fun gg => []) (fun gg => n + 1 - gg.1) (1, l0) ⟨⟨Nat.le_refl _, by omega⟩, hl0, by rw [hR]; unfold isort; rw [hl0]⟩ ⟨rfl, rfl, rfl, rfl, (some_int (by omega)), trivial⟩ (fun _ hm => hm.pick [] [] [] rfl rfl) ?_
 rintro ⟨i, l⟩ hinv
 replace hinv : (1 ≤ i ∧ i ≤ n + 1) ∧ l.length = n ∧ isortF (rfLt) (n - i) i l = R := hinv
 dsimp only
 refine gw_seq (sr_ ?_)
 obtain ⟨⟨hi1, hi2⟩, hl1, hR1⟩ := hinv
 refine mv_ rfl (mv_ rfl (wl_ov (ov_lss rfl rfl) rfl (nn_ ?_)))
 refine gw_cond rfl (fun hh => ?_) (fun hh => ?_)
 ·have hi : ((i : Nat) : Int) < ((n : Nat) : Int) := by simpa using hh
  clear hh
  refine gw_skip (nx_then (gw_seq (gw_block (sr_ ?_))))
  have hRi : isortF (rfLt) (n - (i + 1)) (i + 1) (sink (rfLt) i l) = R := by rw [← hR1, show n - i = (n - (i + 1)) + 1 by omega]; rfl
  obtain ⟨S, hS⟩ : ∃ z, z = sink (rfLt) i l := ⟨_, rfl⟩
  rw [← hS] at hRi
  have hSl : S.length = n := by rw [hS, sink_len]; exact hl1
  refine mv_ rfl (sg_ rfl (nn_ (gw_block ?_)))
  refine gw_loop (γ := Nat × List Pl) (fun gg => (gg.1 ≤ i) ∧ gg.2.length = n ∧ sink (rfLt) gg.1 gg.2 = S) (fun gg => [(0, .slice (some ⟨br, 0, none⟩) n cap), (1, .int .i64 0), (2, .int .i64 ((n : Nat) : Int)), (3, .func (.func 211) #[] #[]), (8, .int .i64 ((i : Nat) : Int)), (9, .int .i64 ((gg.1 : Nat) : Int))]) (fun gg => RowK base 161 3 n cap br ((gg.2).flatMap plEnc)) (fun gg => []) (fun gg => []) (fun gg => []) (fun gg => gg.1) (i, l) ⟨Nat.le_refl _, hl1, hS.symm⟩ ⟨rfl, rfl, rfl, rfl, rfl, rfl, trivial⟩ (fun _ hm => hm.pick [] [] [] rfl rfl) ?_
  rintro ⟨jj, m⟩ hinv
  replace hinv : (jj ≤ i) ∧ m.length = n ∧ sink (rfLt) jj m = S := hinv
  dsimp only
  refine gw_seq (gw_seq ?_)
  obtain ⟨hj1, hm1, hS1⟩ := hinv
  rcases jj with _ | j
  ·refine gd (fun wz => True) mixed (fun _ _ => trivial) fun z => ?_
   refine wt 0 17 1 rfl z (ov_move rfl) ?_
   refine wa_set 18 (v' := .int .i64 0) rfl rfl ?_
   refine wt 1 17 3 rfl z (ov_move rfl) ?_
   refine wt 2 17 7 rfl z (ov_gtr rfl rfl) ?_
   refine wa_set 20 (v' := .bool false) rfl (congrArg Value.bool (by decide)) ?_
   refine wt 3 17 15 rfl z (ov_move rfl) ?_
   refine wtf 4 17 31 rfl rfl rfl z ?_
   refine wtf 5 17 63 rfl rfl rfl z ?_
   refine wtf 6 17 127 rfl rfl rfl z ?_
   refine wtf 7 17 255 rfl rfl rfl z ?_
   refine wtf 8 17 511 rfl rfl rfl z ?_
   refine wtf 9 17 1023 rfl rfl rfl z ?_
   refine wtf 10 17 2047 rfl rfl rfl z ?_
   refine wtf 11 17 4095 rfl rfl rfl z ?_
   refine wtf 12 17 8191 rfl rfl rfl z ?_
   refine wtf 13 17 16383 rfl rfl rfl z ?_
   refine wtf 14 17 32767 rfl rfl rfl z ?_
   refine wtf 15 17 65535 rfl rfl rfl z ?_
   refine wt 16 17 131071 rfl z (ov_pick_f rfl rfl) ?_
   refine wa_done (by kernel_rfl) ?_
   refine nx_then (cf_ rfl ?_)
   refine gw_exit ?_
   refine nx_then_exit (nx_then_exit ?_)
   refine nx_blk_here ?_
   refine nx_blk_nrm (nx_then (gw_region (mv_ rfl (ad_ rfl rfl (sg_ rfl (wl_nil ?_))))))
   have hm2 : m = S := hS1
   exact nx_round (i + 1, m) ⟨⟨by dsimp only; omega, by dsimp only; omega⟩, by rw [hm2]; exact hSl, by rw [hm2]; exact hRi⟩ (by dsimp only; omega) ⟨rfl, rfl, rfl, rfl, (some_int (by omega)), trivial⟩ (fun _ hm => hm.pick [] [] [] rfl rfl)
  have hj2 : j + 1 < n := by omega
  have hin : ∀ z ∈ m, z ∈ l0 := fun z hz => mem_in hR hRi hS1 hz
  obtain ⟨xx, hx⟩ : ∃ x, m[j + 1]? = some x := ⟨_, List.getElem?_eq_getElem (by omega)⟩
  obtain ⟨x0, x1, x2⟩ := xx
  obtain ⟨yy, hy⟩ : ∃ x, m[j]? = some x := ⟨_, List.getElem?_eq_getElem (by omega)⟩
  obtain ⟨y0, y1, y2⟩ := yy
  refine gd (fun wz => (RowK base 161 3 n cap br ((m).flatMap plEnc)) wz ∧ True) mixed (fun _ hm => ⟨hm.k, trivial⟩) fun z => ?_
  refine wt 0 17 1 rfl z (ov_move rfl) ?_
  refine wt 1 17 3 rfl z (ov_move rfl) ?_
  refine wt 2 17 7 rfl z (ov_gtr rfl rfl) ?_
  refine wa_set 20 (v' := .bool true) rfl (congrArg Value.bool (decide_eq_true (by omega))) ?_
  refine wt 3 17 15 rfl z (ov_move rfl) ?_
  refine wto 4 17 31 rfl rfl rfl z (ov_move rfl) ?_
  refine wto 5 17 63 rfl rfl rfl z (ov_move rfl) ?_
  refine wto 6 17 127 rfl rfl rfl z (ov_move rfl) ?_
  refine wto 7 17 255 rfl rfl rfl z (ov_index (j := (j + 1)) es64 rfl rfl (by omega)) ?_
  refine wto 8 17 511 rfl rfl rfl z (ov_elem (vs := [.int .i64 x0, .string x1, .string x2]) rz161 rfl (fun _ hm => (RowK.get (hm.1) pl_len hm1)) hx rfl rfl) ?_
  refine wto 9 17 1023 rfl rfl rfl z (ov_move rfl) ?_
  refine wto 10 17 2047 rfl rfl rfl z (ov_move rfl) ?_
  refine wto 11 17 4095 rfl rfl rfl z (ov_sub rfl rfl (by omega) (by omega)) ?_
  refine wa_set 29 (v' := .int .i64 ((j : Nat) : Int)) rfl (congrArg (Value.int .i64) (by omega)) ?_
  refine wto 12 17 8191 rfl rfl rfl z (ov_index (j := j) es64 rfl rfl (by omega)) ?_
  refine wto 13 17 16383 rfl rfl rfl z (ov_elem (vs := [.int .i64 y0, .string y1, .string y2]) rz161 rfl (fun _ hm => (RowK.get (hm.1) pl_len hm1)) hy rfl rfl) ?_
  refine wa1 14 rfl ?_
  refine wl_guard_on rfl rfl rfl ?_
  refine wl_callv rfl cb211 rfl rfl (fun wx hm => (rfOrd_any x0 y0 x1 x2 y1 y2 wx (hall _ (hin _ (List.mem_of_getElem? hx))) (hall _ (hin _ (List.mem_of_getElem? hy))))) ?_
  refine wl_nil ?_
  refine nw 17 32767 (fun _ hm => ⟨hm.k, trivial⟩) fun z => ?_
  refine wto 15 17 65535 rfl rfl rfl z (ov_lss rfl rfl) ?_
  refine wt 16 17 131071 rfl z (ov_pick_t rfl rfl) ?_
  refine wa_done (by kernel_rfl) ?_
  refine nx_then ?_
  refine gw_cond rfl (fun hh => ?_) (fun hh => ?_)
  ·have hlt : rfOrd ⟨x0, x1, x2⟩ ⟨y0, y1, y2⟩ < 0 := by simpa using hh
   clear hh
   refine gw_skip (nx_then (gw_seq (gw_block ?_)))
   have hlt2 : (rfLt) ⟨x0, x1, x2⟩ ⟨y0, y1, y2⟩ = true := decide_eq_true (show rfOrd ⟨x0, x1, x2⟩ ⟨y0, y1, y2⟩ < 0 from hlt)
   have hS2 := (sink_yes hx hy hlt2).symm.trans hS1
   refine gd (fun wz => True) mixed (fun _ _ => trivial) fun z => ?_
   refine wt 0 18 1 rfl z (ov_move rfl) ?_
   refine wt 1 18 3 rfl z (ov_move rfl) ?_
   refine wt 2 18 7 rfl z (ov_move rfl) ?_
   refine wt 3 18 15 rfl z (ov_move rfl) ?_
   refine wt 4 18 31 rfl z (ov_sub rfl rfl (by omega) (by omega)) ?_
   refine wa_set 41 (v' := .int .i64 ((j : Nat) : Int)) rfl (congrArg (Value.int .i64) (by omega)) ?_
   refine wt 5 18 63 rfl z (ov_move rfl) ?_
   refine wt 6 18 127 rfl z (ov_move rfl) ?_
   refine wt 7 18 255 rfl z (ov_sub rfl rfl (by omega) (by omega)) ?_
   refine wa_set 44 (v' := .int .i64 ((j : Nat) : Int)) rfl (congrArg (Value.int .i64) (by omega)) ?_
   refine wt 8 18 511 rfl z (ov_index (j := j) es64 rfl rfl (by omega)) ?_
   refine wt 10 18 1535 rfl z (ov_move rfl) ?_
   refine wt 11 18 3583 rfl z (ov_move rfl) ?_
   refine wt 12 18 7679 rfl z (ov_index (j := (j + 1)) es64 rfl rfl (by omega)) ?_
   refine wa_all [9, 13] (by kernel_rfl) rfl ⟨⟨_, rfl, ?_⟩, ⟨_, rfl, ?_⟩, trivial⟩
   ·refine wl_ov (ov_elem (vs := [.int .i64 y0, .string y1, .string y2]) rz161 rfl (fun _ hm => (RowK.get hm.k pl_len hm1)) hy rfl rfl) rfl ?_
    refine wl_nil ?_
    refine nw 18 8191 (fun _ _ => trivial) fun z => ?_
    refine wa1 13 rfl ?_
    refine wl_ov (ov_elem (vs := [.int .i64 x0, .string x1, .string x2]) rz161 rfl (fun _ hm => (RowK.get hm.k pl_len hm1)) hx rfl rfl) rfl ?_
    refine wl_nil ?_
    refine nw 18 16383 (fun _ _ => trivial) fun z => ?_
    refine wt 14 18 32767 rfl z (ov_index (j := (j + 1)) es64 rfl rfl (by omega)) ?_
    refine wa1 15 rfl ?_
    refine wl_storesRow (l := m) (j := j + 1) (r := 0) (el := ⟨x0, x1, x2⟩) (el' := ⟨y0, y1, y2⟩) rfl rz161 rfl rfl rfl rfl pl_len rfl hx hm1 (by decide) rfl rfl ?_
    refine wl_nil ?_
    refine nw 18 65535 (fun _ _ => trivial) fun z => ?_
    refine wt 16 18 131071 rfl z (ov_index (j := j) es64 rfl rfl (by omega)) ?_
    refine wa1 17 rfl ?_
    refine wl_storesRow (l := m.set (j + 1) ⟨y0, y1, y2⟩) (j := j) (r := 0) (el := ⟨y0, y1, y2⟩) (el' := ⟨x0, x1, x2⟩) rfl rz161 rfl rfl rfl rfl pl_len rfl (by rw [List.getElem?_set_ne (by omega)]; exact hy) (by rw [List.length_set]; exact hm1) (by decide) rfl rfl ?_
    refine wl_nil ?_
    refine nw 18 262143 (fun _ _ => trivial) fun z => ?_
    refine wa_done (by kernel_rfl) ?_
    refine nx_blk_nrm (nx_then (gw_region (mv_ rfl ?_)))
    refine wl_ov (ov_sub rfl rfl (by omega) (by omega)) rfl ?_
    refine wl_set 36 (v' := .int .i64 ((j : Nat) : Int)) rfl (congrArg (Value.int .i64) (by omega)) ?_
    refine sg_ rfl (wl_nil ?_)
    exact nx_round (j, (m.set (j + 1) ⟨y0, y1, y2⟩).set j ⟨x0, x1, x2⟩) ⟨by dsimp only; omega, by simp [hm1], hS2⟩ (by dsimp only; omega) ⟨rfl, rfl, rfl, rfl, rfl, (some_int (by omega)), trivial⟩ (fun _ hm => hm.pick [] [] [] rfl rfl)
   refine wl_ov (ov_elem (vs := [.int .i64 x0, .string x1, .string x2]) rz161 rfl (fun _ hm => (RowK.get hm.k pl_len hm1)) hx rfl rfl) rfl ?_
   refine wl_nil ?_
   refine nw 18 15871 (fun _ _ => trivial) fun z => ?_
   refine wa1 9 rfl ?_
   refine wl_ov (ov_elem (vs := [.int .i64 y0, .string y1, .string y2]) rz161 rfl (fun _ hm => (RowK.get hm.k pl_len hm1)) hy rfl rfl) rfl ?_
   refine wl_nil ?_
   refine nw 18 16383 (fun _ _ => trivial) fun z => ?_
   refine wt 14 18 32767 rfl z (ov_index (j := (j + 1)) es64 rfl rfl (by omega)) ?_
   refine wa1 15 rfl ?_
   refine wl_storesRow (l := m) (j := j + 1) (r := 0) (el := ⟨x0, x1, x2⟩) (el' := ⟨y0, y1, y2⟩) rfl rz161 rfl rfl rfl rfl pl_len rfl hx hm1 (by decide) rfl rfl ?_
   refine wl_nil ?_
   refine nw 18 65535 (fun _ _ => trivial) fun z => ?_
   refine wt 16 18 131071 rfl z (ov_index (j := j) es64 rfl rfl (by omega)) ?_
   refine wa1 17 rfl ?_
   refine wl_storesRow (l := m.set (j + 1) ⟨y0, y1, y2⟩) (j := j) (r := 0) (el := ⟨y0, y1, y2⟩) (el' := ⟨x0, x1, x2⟩) rfl rz161 rfl rfl rfl rfl pl_len rfl (by rw [List.getElem?_set_ne (by omega)]; exact hy) (by rw [List.length_set]; exact hm1) (by decide) rfl rfl ?_
   refine wl_nil ?_
   refine nw 18 262143 (fun _ _ => trivial) fun z => ?_
   refine wa_done (by kernel_rfl) ?_
   refine nx_blk_nrm (nx_then (gw_region (mv_ rfl ?_)))
   refine wl_ov (ov_sub rfl rfl (by omega) (by omega)) rfl ?_
   refine wl_set 36 (v' := .int .i64 ((j : Nat) : Int)) rfl (congrArg (Value.int .i64) (by omega)) ?_
   refine sg_ rfl (wl_nil ?_)
   exact nx_round (j, (m.set (j + 1) ⟨y0, y1, y2⟩).set j ⟨x0, x1, x2⟩) ⟨by dsimp only; omega, by simp [hm1], hS2⟩ (by dsimp only; omega) ⟨rfl, rfl, rfl, rfl, rfl, (some_int (by omega)), trivial⟩ (fun _ hm => hm.pick [] [] [] rfl rfl)
  have hlt : ¬ (rfOrd ⟨x0, x1, x2⟩ ⟨y0, y1, y2⟩ < 0) := by simpa using hh
  clear hh
  refine gw_exit ?_
  refine nx_then_exit (nx_then_exit ?_)
  refine nx_blk_here ?_
  refine nx_blk_nrm (nx_then (gw_region ?_))
  have hlt2 : (rfLt) ⟨x0, x1, x2⟩ ⟨y0, y1, y2⟩ = false := decide_eq_false (show ¬ rfOrd ⟨x0, x1, x2⟩ ⟨y0, y1, y2⟩ < 0 from hlt)
  have hS2 := (sink_no hx hy hlt2).symm.trans hS1
  refine mv_ rfl (ad_ rfl rfl (sg_ rfl (wl_nil ?_)))
  have hm2 : m = S := hS2
  exact nx_round (i + 1, m) ⟨⟨by dsimp only; omega, by dsimp only; omega⟩, by rw [hm2]; exact hSl, by rw [hm2]; exact hRi⟩ (by dsimp only; omega) ⟨rfl, rfl, rfl, rfl, (some_int (by omega)), trivial⟩ (fun _ hm => hm.pick [] [] [] rfl rfl)
 have hi : ¬ (((i : Nat) : Int) < ((n : Nat) : Int)) := by simpa using hh
 clear hh
 refine gw_exit ?_
 refine nx_then_exit (nx_then_exit ?_)
 refine nx_blk_here ?_
 obtain rfl : l = R := by rw [← hR1, show n - i = 0 by omega]; rfl
 refine nx_ret0 rfl fun wx hm => ?_
 exact ⟨rfl, fin_row hm.k hm.g⟩
theorem pdq_rf  (l0 : List Pl) (br n cap base : Nat) (lim : Int) (w : World) (h : w.ownsRow base 161 3 (.slice (some ⟨br, 0, none⟩) n cap) n (l0.flatMap plEnc)) (hl0 : l0.length = n) (hn : n ≤ 12) (hall : ∀ x ∈ l0, PlB x) :
  Calls Tryz.prog 266 #[.slice (some ⟨br, 0, none⟩) n cap, .int .i64 0, .int .i64 ((n : Nat) : Int), .int .i64 lim, .func (.func 211) #[] #[]] w (fun e w' => e = .returned (.tuple #[]) ∧ w'.ownsRow base 161 3 (.slice (some ⟨br, 0, none⟩) n cap) n ((isort (rfLt) l0).flatMap plEnc) ∧ w.grownBy w' (some br)) := by
 refine gw_enter ⟨148, w, (some br), []⟩ Tryz.func266 rfl Tryz.ntmps266 rfl (memR (X := []) h allF_nil allL_nil) ?_
 refine sr_ (sg_ rfl (nn_ (sr_ (sg_ rfl (nn_ (gw_block ?_))))))
 refine gw_rounds 1 ?_
 refine gr_next ?_
 refine gw_block (sr_ (mv_ rfl (mv_ rfl ?_)))
 refine wl_ov (ov_sub rfl rfl (by omega) (by omega)) rfl ?_
 refine sg_ rfl (nn_ (gw_seq (sr_ (mv_ rfl (wl_ov (ov_leq rfl rfl) rfl ?_)))))
 refine wl_set 25 (v' := .bool true) rfl (congrArg Value.bool (decide_eq_true (by omega))) ?_
 refine nn_ (ct_ rfl (sr_ (mv_ rfl (mv_ rfl (mv_ rfl (mv_ rfl ?_))))))
 refine wl_callK rfl rfl rfl cb315 rfl rfl (fun wx hm => (ins_rf  l0 br n cap base wx hm.k hl0 (by omega) hall)) ?_
 refine nn_ ?_
 refine gw_ret ?_
 refine nx_then_ret (nx_blk_ret (nx_then_ret (nx_blk_ret ?_)))
 refine nx_ret0' rfl fun wx hm => ?_
 exact ⟨rfl, fin_row hm.k hm.g⟩
theorem sort_rf  (l0 : List Pl) (br n cap base : Nat) (w : World) (h : w.ownsRow base 161 3 (.slice (some ⟨br, 0, none⟩) n cap) n (l0.flatMap plEnc)) (hl0 : l0.length = n) (hn : n ≤ 12) (hall : ∀ x ∈ l0, PlB x) :
  Calls Tryz.prog 210 #[.slice (some ⟨br, 0, none⟩) n cap, .func (.func 211) #[] #[]] w (fun e w' => e = .returned (.tuple #[]) ∧ w'.ownsRow base 161 3 (.slice (some ⟨br, 0, none⟩) n cap) n ((isort (rfLt) l0).flatMap plEnc) ∧ w.grownBy w' (some br)) := by
 refine gw_enter ⟨14, w, (some br), []⟩ Tryz.func210 rfl Tryz.ntmps210 rfl (memR (X := []) h allF_nil allL_nil) ?_
 refine sr_ (mv_ rfl (wl_ov (ov_len es64 rfl) rfl (sg_ rfl (nn_ (gw_region (mv_ rfl (mv_ rfl (mv_ rfl ?_))))))))
 refine wl_ov (ov_u64 (a := n) (by kernel_rfl) (by kernel_rfl) rfl (by omega)) rfl ?_
 refine wl_callx (γ := Int) (val := (fun g => .int .i64 g)) (φ := (fun g => True)) (Y := (fun g => fun _ => True)) rfl cb225 rfl rfl (fun wx hm => (bitsLen_any n wx (by omega)).mono fun _ _ ⟨v, he, hg⟩ => ⟨v, he, trivial, hg, trivial⟩) (fun _ => Lasts2.true_) ?_
 rintro lim hphi
 clear hphi
 refine mv_ rfl ?_
 refine wl_callK rfl rfl rfl cb266 rfl rfl (fun wx hm => (pdq_rf  l0 br n cap base _ wx hm.k hl0 hn hall)) ?_
 refine wl_nil ?_
 refine nx_ret0 rfl fun wx hm => ?_
 exact ⟨rfl, fin_row hm.k hm.g⟩
/-- A vehicle that the generators draw. -/
def VhB (x : Vh) : Prop := x.key.size ≤ 1000 ∧ x.cls.size ≤ 1000000
theorem vhB_ok {x : Vh} (h : VhB x) : VhOk x := ⟨by have := h.1; omega, h.2⟩
def RfOk (sl : List St) (cl : List Cs) (vl : List Vh) (pl : List Pl) (sn vn pn : Nat) : Prop := (sl.length = sn ∧ (∀ x ∈ sl, StB x) ∧ (1 ≤ sn ∧ sn ≤ 3)) ∧ (cl.length = 4 ∧ ∀ x ∈ cl, CsOk x) ∧ (vl.length = vn ∧ (∀ x ∈ vl, VhB x) ∧ vn ≤ 4) ∧ pl.length = pn ∧ (∀ x ∈ pl, PlB x) ∧ pn ≤ 5
theorem rightFleet_anyF (w : World) (B sb m : Nat) (hS : Strm 25 w B sb m) (hm : m ≤ 100000000) :
  Calls Tryz.prog 124 #[.pointer (some ⟨sb, 0, none⟩)] w (fun e w' => ∃ (sA cA vA pA : Option Addr) (sn sc cc vn vc pn pc : Nat) (sl : List St) (cl : List Cs) (vl : List Vh) (pl : List Pl), e = .returned (.agg #[.slice sA sn sc, .slice cA 4 cc, .slice vA vn vc, .slice pA pn pc]) ∧ (RfOk sl cl vl pl sn vn pn ∧ fleetE sl cl vl pl = 0) ∧ Strm 25 w' B sb (m + 300) ∧ w.grownBy w' (some sb) ∧ w'.ownsRow w.heap.size 168 15 (.slice sA sn sc) sn (sl.flatMap stEnc) ∧ w'.ownsRow w.heap.size 158 2 (.slice vA vn vc) vn (vl.flatMap vhEnc) ∧ w'.ownsRow w.heap.size 161 3 (.slice pA pn pc) pn (pl.flatMap plEnc) ∧ SlT csEnc 2 170 w' cA 4 cl) := by
 refine gw_enter ⟨90, w, (some sb), [170]⟩ Tryz.func124 rfl Tryz.ntmps124 rfl (memS (X := []) hS allF_nil allL_nil) ?_
 refine sr_ ?_
 refine wl_alloc zc66 rfl fun g1 => ?_
 refine nn_ (sr_ (mv_ rfl ?_))
 refine wl_callgs (γ := Option Addr × Nat × Nat × List St) (val := (fun g => .slice g.1 g.2.1 g.2.2.1)) (φ := (fun g => g.2.2.2.length = g.2.1 ∧ (∀ x ∈ g.2.2.2, StB x) ∧ g.2.1 ≤ 3 ∧ stationsE g.2.2.2 = 0)) (m' := m + 100) (fun g => ⟨.slice g.1 g.2.1 g.2.2.1, 168, 15, g.2.1, g.2.2.2.flatMap stEnc⟩) rfl cb207 rfl rfl rfl rfl (fun wx hm => (gstations_anyF wx B sb _ hm.k (by omega)).mono fun _ _ ⟨A, n, c, l, he, ho, ⟨hl, hz⟩, hok, hn, hS, hg⟩ => ⟨(A, n, c, l), he, ⟨hl, hok, hn, hz⟩, hS, hg, ho⟩) ?_
 rintro ⟨sA0, sn0, sc0, sl0⟩ hphi
 dsimp only at hphi ⊢
 obtain ⟨hsl0, hsB0, hs30, hsz0⟩ := hphi
 refine mv_ rfl ?_
 refine wl_calls (γ := Option Addr × Nat × List Cs) (val := (fun g => .slice g.1 4 g.2.1)) (φ := (fun g => g.2.2.length = 4 ∧ (∀ x ∈ g.2.2, CsOk x) ∧ classesE g.2.2 = 0)) (Y := (fun g => fun wy => SlT csEnc 2 170 wy g.1 4 g.2.2)) (m' := m + 100 + 20) rfl cb208 rfl rfl rfl rfl (fun wx hm => (gclasses_anyF wx B sb _ hm.k (by omega)).mono fun _ _ ⟨A, c, l, he, ho, ⟨hl, hz⟩, hok, hS, hg⟩ => ⟨(A, c, l), he, ⟨hl, hok, hz⟩, hS, hg, SlT.ofOwn cs_len ho hl⟩) (fun _ => SlT.lasts2 rfl) ?_
 rintro ⟨cA, cc, cl⟩ hphi
 dsimp only at hphi ⊢
 obtain ⟨hcl4, hcok, hcz⟩ := hphi
 refine wl_ov (ov_build (cs := [.slice sA0 sn0 sc0, .slice cA 4 cc, .slice none 0 0, .slice none 0 0]) rfl (by kernel_rfl)) rfl ?_
 refine wl_alloc zc66 rfl fun g2 => ?_
 refine wl_stores (cs' := [.slice sA0 sn0 sc0, .slice cA 4 cc, .slice none 0 0, .slice none 0 0]) 0 rz66 rfl rfl rfl rfl rfl rfl rfl rfl ?_
 refine nn_ ?_
 refine gw_cut (γ := Option Addr × Nat × Nat × List St) (I := (fun g => g.2.2.2.length = g.2.1 ∧ (∀ x ∈ g.2.2.2, StB x) ∧ (1 ≤ g.2.1 ∧ g.2.1 ≤ 3) ∧ stationsE g.2.2.2 = 0)) (S' := (fun g => [(0, .pointer (some ⟨sb, 0, none⟩)), (2, .pointer (some ⟨g1, 0, none⟩)), (3, .pointer (some ⟨g2, 0, none⟩))])) (K' := (fun g => fun w => Strm 25 w B sb (m + 120))) (L' := (fun g => [(g2, 66, [.slice g.1 g.2.1 g.2.2.1, .slice cA 4 cc, .slice none 0 0, .slice none 0 0]), (g1, 66, [.slice none 0 0, .slice none 0 0, .slice none 0 0, .slice none 0 0])])) (O' := (fun g => [⟨.slice g.1 g.2.1 g.2.2.1, 168, 15, g.2.1, g.2.2.2.flatMap stEnc⟩])) (X' := (fun g => [fun wy => SlT csEnc 2 170 wy cA 4 cl])) ?_ ?_
 ·refine sr_ (fd_ fo66_0 rfl rfl (lk_ sc61 0 rfl rfl rfl (wl_ov (ov_len es61 rfl) rfl (wl_ov (ov_eql rfl rfl) rfl (nn_ ?_)))))
  refine gw_cond rfl (fun hh => ?_) (fun hh => ?_)
  ·have h0 : ((sn0 : Nat) : Int) = 0 := by simpa using hh
   clear hh
   refine gw_region ?_
   refine wl_ov (ov_build (cs := [.string ⟨#[115, 49]⟩, .int .i64 0, .int .i64 0, .int .i64 0, .int .i64 0, .int .i64 0, .int .i64 0, .int .i64 0, .int .i64 0, .int .i64 0, .int .i64 0, .int .i64 0, .int .i64 0, .int .i64 0, .int .i64 0]) rfl (by kernel_rfl)) rfl ?_
   refine wl_buildSlice (e := 168) (cs := [.string ⟨#[115, 49]⟩, .int .i64 0, .int .i64 0, .int .i64 0, .int .i64 0, .int .i64 0, .int .i64 0, .int .i64 0, .int .i64 0, .int .i64 0, .int .i64 0, .int .i64 0, .int .i64 0, .int .i64 0, .int .i64 0]) rfl (by kernel_rfl) rfl fun g3 => ?_
   refine fd_ fo66_0 rfl rfl ?_
   refine wl_store 1 sc61 rfl rfl rfl rfl rfl rfl ?_
   refine wl_nil ?_
   refine nx_toOwn (sz := 15) (n := 1) 0 [1, 2] rfl rfl rfl (by unfold maxLen; omega) ?_
   exact nx_meet ((some ⟨g3, 0, none⟩), 1, 1, [⟨⟨#[115, 49]⟩, [0, 0, 0, 0, 0, 0, 0, 0, 0, 0, 0, 0, 0, 0]⟩]) ⟨rfl, (fun x hx => List.mem_singleton.1 hx ▸ s1_ok), ⟨by dsimp only; decide, by dsimp only; decide⟩, s1_right⟩ ⟨rfl, rfl, rfl, trivial⟩ (fun _ hm => (hm.more rfl (by first | omega | (dsimp only; omega))).pick [0, 1] [0] [0] rfl rfl)
  have h0 : ¬ (((sn0 : Nat) : Int) = 0) := by simpa using hh
  clear hh
  refine gw_skip ?_
  exact nx_meet (sA0, sn0, sc0, sl0) ⟨hsl0, hsB0, ⟨by dsimp only; omega, by dsimp only; omega⟩, hsz0⟩ ⟨rfl, rfl, rfl, trivial⟩ (fun _ hm => (hm.more rfl (by first | omega | (dsimp only; omega))).pick [0, 1] [0] [0] rfl rfl)
 rintro ⟨sA, sn, sc, sl⟩ hinv
 replace hinv : sl.length = sn ∧ (∀ x ∈ sl, StB x) ∧ (1 ≤ sn ∧ sn ≤ 3) ∧ stationsE sl = 0 := hinv
 dsimp only
 refine gw_seq (sr_ ?_)
 obtain ⟨hsl, hsB, ⟨hs1, hs3⟩, hsz⟩ := hinv
 refine wl_nilOwn 158 2 ?_
 refine wl_buildSlice (e := 9) (cs := [.string ⟨#[118, 49]⟩, .string ⟨#[118, 50]⟩, .string ⟨#[118, 51]⟩, .string ⟨#[118, 52]⟩]) rfl (by kernel_rfl) rfl fun g4 => ?_
 refine wl_ov (ov_len es112 rfl) rfl ?_
 refine wl_set 22 (v' := .int .i64 4) rfl rfl ?_
 refine mv_ rfl (nn_ (gw_block ?_))
 refine gw_loop (γ := Nat × Nat × Option Addr × Nat × List Vh) (fun g => g.1 ≤ 4 ∧ g.2.1 ≤ g.1 ∧ g.2.2.2.2.length = g.2.1 ∧ (∀ x ∈ g.2.2.2.2, VhB x) ∧ VhG cl g.1 g.2.2.2.2) (fun g => [(0, .pointer (some ⟨sb, 0, none⟩)), (2, .pointer (some ⟨g1, 0, none⟩)), (3, .pointer (some ⟨g2, 0, none⟩)), (21, .slice (some ⟨g4, 0, none⟩) 4 4), (22, .int .i64 4), (23, .int .i64 ((g.1 : Nat) : Int))]) (fun g => fun w => Strm 25 w B sb (m + 120 + 2 * g.1)) (fun g => [(g2, 66, [.slice sA sn sc, .slice cA 4 cc, .slice g.2.2.1 g.2.1 g.2.2.2.1, .slice none 0 0]), (g4, 9, [.string ⟨#[118, 49]⟩, .string ⟨#[118, 50]⟩, .string ⟨#[118, 51]⟩, .string ⟨#[118, 52]⟩]), (g1, 66, [.slice none 0 0, .slice none 0 0, .slice none 0 0, .slice none 0 0])]) (fun g => [⟨.slice g.2.2.1 g.2.1 g.2.2.2.1, 158, 2, g.2.1, g.2.2.2.2.flatMap vhEnc⟩, ⟨.slice sA sn sc, 168, 15, sn, sl.flatMap stEnc⟩]) (fun g => [fun wy => SlT csEnc 2 170 wy cA 4 cl]) (fun g => 4 - g.1) (0, 0, none, 0, []) ⟨Nat.zero_le _, Nat.le_refl _, rfl, (fun _ h => by cases h), vhG_nil⟩ ⟨rfl, rfl, rfl, rfl, rfl, rfl, trivial⟩ (fun _ hm => (hm.more rfl (by first | omega | (dsimp only; omega))).pick [1, 0, 2] [0, 1] [0] rfl rfl) ?_
 rintro ⟨i, k, vA, vc, vl⟩ hinv
 replace hinv : i ≤ 4 ∧ k ≤ i ∧ vl.length = k ∧ (∀ x ∈ vl, VhB x) ∧ VhG cl i vl := hinv
 dsimp only
 refine sr_ ?_
 obtain ⟨hi0, hki, hvl, hvB, hvg⟩ := hinv
 refine wl_ov (ov_lss rfl rfl) rfl (nn_ (gw_seq ?_))
 refine gw_cond rfl (fun hh => ?_) (fun hh => ?_)
 ·have hi : ((i : Nat) : Int) < 4 := by simpa using hh
  clear hh
  refine gw_skip (nx_then (gw_seq (gw_block (sr_ ?_))))
  obtain ⟨nm, hx⟩ : ∃ x, ([⟨#[118, 49]⟩, ⟨#[118, 50]⟩, ⟨#[118, 51]⟩, ⟨#[118, 52]⟩] : List ByteArray)[i]? = some x := ⟨_, List.getElem?_eq_getElem (by simp; omega)⟩
  have hnm : nm.size ≤ 100 := mem_sz (List.mem_of_getElem? hx) (by decide)
  refine wl_ov (ov_index (j := i) es112 rfl rfl (by omega)) rfl ?_
  refine wl_ov (ov_elem1 (k := 0) (v := .string nm) sc9 rfl (fun _ hm => (SlT.ofBlk (l := [⟨#[118, 49]⟩, ⟨#[118, 50]⟩, ⟨#[118, 51]⟩, ⟨#[118, 52]⟩]) sg_len (hm.blkI 1 rfl))) hx rfl rfl) rfl ?_
  refine sg_ rfl (nn_ (sr_ (mv_ rfl ?_)))
  refine wl_got (γ := Bool) (val := fun v => .bool v) (φ := fun v => True) rfl cb25 rfl rfl rfl rfl (fun wx hm => ((flip_any _ wx B sb _ hm.k (by omega) (by omega) (by omega)).mono fun _ _ ⟨v, he, hS, hg⟩ => ⟨v, trivial, he, hS, hg⟩)) fun f5 _ => ?_
  refine wl_ov (ov_un_not rfl) rfl (nn_ ?_)
  refine gw_cond rfl (fun hh => ?_) (fun hh => ?_)
  ·have hf : f5 = false := by simpa using hh
   clear hh
   have hcl0 : 0 < cl.length := by omega
   refine gw_look (R := ∃ bc oc, cA = some ⟨bc, oc, none⟩) (fun wx hm => by obtain ⟨b, off, hA, _, _⟩ := SlT.get (hm.fact 0 rfl) (by omega); exact ⟨b, off, hA⟩) ?_
   rintro ⟨bc, oc, rfl⟩
   refine gd (fun wz => Blk wz g4 9 [.string ⟨#[118, 49]⟩, .string ⟨#[118, 50]⟩, .string ⟨#[118, 51]⟩, .string ⟨#[118, 52]⟩] ∧ Blk wz g1 66 [.slice none 0 0, .slice none 0 0, .slice none 0 0, .slice none 0 0] ∧ (fun wy => SlT csEnc 2 170 wy (some ⟨bc, oc, none⟩) 4 cl) wz ∧ True) mixed (fun _ hm => ⟨hm.bl 1, hm.bl 2, hm.fa 0, trivial⟩) fun z => ?_
   refine wt 0 18 1 rfl z (ov_field fo66_2 rfl rfl) ?_
   refine wt 2 18 5 rfl z (ov_move rfl) ?_
   refine wt 3 18 13 rfl z (ov_field fo66_1 rfl rfl) ?_
   refine wt 5 18 45 rfl z (ov_move rfl) ?_
   refine wt 6 18 109 rfl z (ov_field fo66_1 rfl rfl) ?_
   refine wa_open fun W hW => ?_
   have T127 : W 11 (lb 18 127) [(0, .pointer (some ⟨sb, 0, none⟩)), (2, .pointer (some ⟨g1, 0, none⟩)), (3, .pointer (some ⟨g2, 0, none⟩)), (21, .slice (some ⟨g4, 0, none⟩) 4 4), (22, .int .i64 4), (23, .int .i64 ((i : Nat) : Int)), (31, .slice vA k vc), (32, .string nm), (34, .slice (some ⟨bc, oc, none⟩) 4 cc), (35, .pointer (some ⟨sb, 0, none⟩)), (36, .pointer (some ⟨g2, 1, none⟩))] (fun w => Strm 25 w B sb (m + 120 + 2 * i + 1)) [(g1, 66, [.slice none 0 0, .slice none 0 0, .slice none 0 0, .slice none 0 0]), (g2, 66, [.slice sA sn sc, .slice (some ⟨bc, oc, none⟩) 4 cc, .slice vA k vc, .slice none 0 0]), (g4, 9, [.string ⟨#[118, 49]⟩, .string ⟨#[118, 50]⟩, .string ⟨#[118, 51]⟩, .string ⟨#[118, 52]⟩])] [⟨.slice vA k vc, 158, 2, k, vl.flatMap vhEnc⟩, ⟨.slice sA sn sc, 168, 15, sn, sl.flatMap stEnc⟩] [fun wy => SlT csEnc 2 170 wy (some ⟨bc, oc, none⟩) 4 cl] := by
    skip
    rw [hW]
    refine wa1 7 rfl ?_
    refine lk_ sc62 1 rfl rfl rfl (wl_nil ?_)
    refine nw 18 255 (fun _ hm => ⟨hm.bl 2, hm.bl 0, hm.fa 0, trivial⟩) fun z => ?_
    refine wt 8 18 511 rfl z (ov_len es62 rfl) ?_
    refine wa_set 38 (v' := .int .i64 4) rfl rfl ?_
    refine wa1 9 rfl ?_
    refine wl_got (γ := Int) (val := fun v => .int .i64 v) (φ := fun v => IsBelow 4 v) rfl cb56 rfl rfl rfl rfl (fun wx hm => (next_any _ wx B sb _ hm.k (by omega) (by omega) (by omega))) fun vj hvj => ?_
    have hj := isBelow_lt hvj (by omega)
    obtain ⟨j, rfl⟩ := Int.eq_ofNat_of_zero_le hj.1
    have hji : j < 4 := by omega
    obtain ⟨q, hq⟩ : ∃ q, cl[j]? = some q := ⟨_, List.getElem?_eq_getElem (by omega)⟩
    obtain ⟨u0, u1⟩ := q
    obtain ⟨hq0, hq1⟩ := hcok _ (List.mem_of_getElem? hq)
    have hq0 : u0.size ≤ 1000000 := hq0
    refine wl_nil ?_
    refine nw 18 1023 (fun _ hm => ⟨hm.bl 2, hm.bl 0, hm.fa 0, trivial⟩) fun z => ?_
    refine wt 10 18 2047 rfl z (ov_index (j := j) es62 rfl rfl (by omega)) ?_
    refine wt 11 18 4095 rfl z (ov_field fo170_0 rfl rfl) ?_
    refine wt 12 18 8191 rfl z (ov_elem1 (k := 0) (v := .string u0) sc9 rfl (fun _ hm => (hm.2.2.1)) hq rfl rfl) ?_
    refine wt 13 18 16383 rfl z (ov_build (cs := [.string nm, .string u0]) rfl (by kernel_rfl)) ?_
    refine wa1 14 rfl ?_
    refine wl_buildSlice (e := 158) (cs := [.string nm, .string u0]) rfl (by kernel_rfl) rfl fun g6 => ?_
    refine wl_nil ?_
    refine nw 18 32767 (fun _ hm => ⟨hm.bl 3, hm.bl 1, hm.fa 0, trivial⟩) fun z => ?_
    refine wa1 15 rfl ?_
    refine wl_append (news := [.string nm, .string u0]) 0 0 ap63 rfl rfl rfl rfl rfl rfl rfl (by omega) (by unfold maxLen; omega) rfl rfl fun v2 hv2 => ?_
    refine wl_look (R := ∃ A cc, v2 = .slice A (k + 1) cc) (fun wx hm => own_slice (hm.ownI 0 rfl)) ?_
    rintro ⟨vA2, vc2, rfl⟩
    refine wl_nil ?_
    refine nw 18 65535 (fun _ hm => ⟨hm.bl 3, hm.bl 1, hm.fa 0, trivial⟩) fun z => ?_
    refine wt 16 18 131071 rfl z (ov_field fo66_2 rfl rfl) ?_
    refine wa1 17 rfl ?_
    refine wl_store 2 sc63 rfl rfl rfl rfl rfl rfl ?_
    refine wl_nil ?_
    refine nw 18 262143 (fun _ hm => ⟨hm.bl 3, hm.bl 1, hm.fa 0, trivial⟩) fun z => ?_
    refine wa_done (by kernel_rfl) ?_
    refine nx_blk_nrm (nx_then (gw_region (ad_ rfl rfl (mv_ rfl (wl_nil ?_)))))
    have hxs : vl.flatMap vhEnc ++ ([.string nm, .string u0] : List Value) = (vl ++ [(⟨nm, u0⟩ : Vh)]).flatMap vhEnc := by simp [vhEnc]
    rw [hxs]
    exact nx_round (i + 1, k + 1, vA2, vc2, vl ++ [(⟨nm, u0⟩ : Vh)]) ⟨by dsimp only; omega, by dsimp only; omega, by simp [hvl], all_snoc hvB ⟨(show nm.size ≤ 1000 by omega), hq0⟩, vhG_snoc hvg hx hq⟩ (by dsimp only; omega) ⟨rfl, rfl, rfl, rfl, rfl, (some_int (by omega)), trivial⟩ (fun _ hm => (hm.more rfl (by first | omega | (dsimp only; omega))).pick [2, 3, 1] [0, 1] [0] rfl rfl)
   have T511 : W 9 (lb 18 511) [(0, .pointer (some ⟨sb, 0, none⟩)), (2, .pointer (some ⟨g1, 0, none⟩)), (3, .pointer (some ⟨g2, 0, none⟩)), (21, .slice (some ⟨g4, 0, none⟩) 4 4), (22, .int .i64 4), (23, .int .i64 ((i : Nat) : Int)), (31, .slice vA k vc), (32, .string nm), (34, .slice (some ⟨bc, oc, none⟩) 4 cc), (35, .pointer (some ⟨sb, 0, none⟩)), (38, .int .i64 4)] (fun w => Strm 25 w B sb (m + 120 + 2 * i + 1)) [(g1, 66, [.slice none 0 0, .slice none 0 0, .slice none 0 0, .slice none 0 0]), (g2, 66, [.slice sA sn sc, .slice (some ⟨bc, oc, none⟩) 4 cc, .slice vA k vc, .slice none 0 0]), (g4, 9, [.string ⟨#[118, 49]⟩, .string ⟨#[118, 50]⟩, .string ⟨#[118, 51]⟩, .string ⟨#[118, 52]⟩])] [⟨.slice vA k vc, 158, 2, k, vl.flatMap vhEnc⟩, ⟨.slice sA sn sc, 168, 15, sn, sl.flatMap stEnc⟩] [fun wy => SlT csEnc 2 170 wy (some ⟨bc, oc, none⟩) 4 cl] := by
    skip
    rw [hW]
    refine wa1 9 rfl ?_
    refine wl_got (γ := Int) (val := fun v => .int .i64 v) (φ := fun v => IsBelow 4 v) rfl cb56 rfl rfl rfl rfl (fun wx hm => (next_any _ wx B sb _ hm.k (by omega) (by omega) (by omega))) fun vj hvj => ?_
    have hj := isBelow_lt hvj (by omega)
    obtain ⟨j, rfl⟩ := Int.eq_ofNat_of_zero_le hj.1
    have hji : j < 4 := by omega
    obtain ⟨q, hq⟩ : ∃ q, cl[j]? = some q := ⟨_, List.getElem?_eq_getElem (by omega)⟩
    obtain ⟨u0, u1⟩ := q
    obtain ⟨hq0, hq1⟩ := hcok _ (List.mem_of_getElem? hq)
    have hq0 : u0.size ≤ 1000000 := hq0
    refine wl_nil ?_
    refine nw 18 1023 (fun _ hm => ⟨hm.bl 2, hm.bl 0, hm.fa 0, trivial⟩) fun z => ?_
    refine wt 10 18 2047 rfl z (ov_index (j := j) es62 rfl rfl (by omega)) ?_
    refine wt 11 18 4095 rfl z (ov_field fo170_0 rfl rfl) ?_
    refine wt 12 18 8191 rfl z (ov_elem1 (k := 0) (v := .string u0) sc9 rfl (fun _ hm => (hm.2.2.1)) hq rfl rfl) ?_
    refine wt 13 18 16383 rfl z (ov_build (cs := [.string nm, .string u0]) rfl (by kernel_rfl)) ?_
    refine wa1 14 rfl ?_
    refine wl_buildSlice (e := 158) (cs := [.string nm, .string u0]) rfl (by kernel_rfl) rfl fun g7 => ?_
    refine wl_nil ?_
    refine nw 18 32767 (fun _ hm => ⟨hm.bl 3, hm.bl 1, hm.fa 0, trivial⟩) fun z => ?_
    refine wa1 15 rfl ?_
    refine wl_append (news := [.string nm, .string u0]) 0 0 ap63 rfl rfl rfl rfl rfl rfl rfl (by omega) (by unfold maxLen; omega) rfl rfl fun v2 hv2 => ?_
    refine wl_look (R := ∃ A cc, v2 = .slice A (k + 1) cc) (fun wx hm => own_slice (hm.ownI 0 rfl)) ?_
    rintro ⟨vA2, vc2, rfl⟩
    refine wl_nil ?_
    refine nw 18 65535 (fun _ hm => ⟨hm.bl 3, hm.bl 1, hm.fa 0, trivial⟩) fun z => ?_
    refine wt 16 18 131071 rfl z (ov_field fo66_2 rfl rfl) ?_
    refine wa1 17 rfl ?_
    refine wl_store 2 sc63 rfl rfl rfl rfl rfl rfl ?_
    refine wl_nil ?_
    refine nw 18 262143 (fun _ hm => ⟨hm.bl 3, hm.bl 1, hm.fa 0, trivial⟩) fun z => ?_
    refine wa_done (by kernel_rfl) ?_
    refine nx_blk_nrm (nx_then (gw_region (ad_ rfl rfl (mv_ rfl (wl_nil ?_)))))
    have hxs : vl.flatMap vhEnc ++ ([.string nm, .string u0] : List Value) = (vl ++ [(⟨nm, u0⟩ : Vh)]).flatMap vhEnc := by simp [vhEnc]
    rw [hxs]
    exact nx_round (i + 1, k + 1, vA2, vc2, vl ++ [(⟨nm, u0⟩ : Vh)]) ⟨by dsimp only; omega, by dsimp only; omega, by simp [hvl], all_snoc hvB ⟨(show nm.size ≤ 1000 by omega), hq0⟩, vhG_snoc hvg hx hq⟩ (by dsimp only; omega) ⟨rfl, rfl, rfl, rfl, rfl, (some_int (by omega)), trivial⟩ (fun _ hm => (hm.more rfl (by first | omega | (dsimp only; omega))).pick [2, 3, 1] [0, 1] [0] rfl rfl)
   have T1007 : ∀ (j : Nat) (hji : j < 4) (u0 : ByteArray) (u1 : ByteArray) (hq : cl[j]? = some ⟨u0, u1⟩) (hq0 : u0.size ≤ 1000000), W 9 (lb 18 1007) [(0, .pointer (some ⟨sb, 0, none⟩)), (2, .pointer (some ⟨g1, 0, none⟩)), (3, .pointer (some ⟨g2, 0, none⟩)), (21, .slice (some ⟨g4, 0, none⟩) 4 4), (22, .int .i64 4), (23, .int .i64 ((i : Nat) : Int)), (31, .slice vA k vc), (32, .string nm), (33, .pointer (some ⟨g2, 1, none⟩)), (39, .int .i64 ((j : Nat) : Int))] (fun w => Strm 25 w B sb (m + 120 + 2 * i + 1 + 1)) [(g1, 66, [.slice none 0 0, .slice none 0 0, .slice none 0 0, .slice none 0 0]), (g2, 66, [.slice sA sn sc, .slice (some ⟨bc, oc, none⟩) 4 cc, .slice vA k vc, .slice none 0 0]), (g4, 9, [.string ⟨#[118, 49]⟩, .string ⟨#[118, 50]⟩, .string ⟨#[118, 51]⟩, .string ⟨#[118, 52]⟩])] [⟨.slice vA k vc, 158, 2, k, vl.flatMap vhEnc⟩, ⟨.slice sA sn sc, 168, 15, sn, sl.flatMap stEnc⟩] [fun wy => SlT csEnc 2 170 wy (some ⟨bc, oc, none⟩) 4 cl] := by
    intro j hji u0 u1 hq hq0
    rw [hW]
    refine wa1 4 rfl ?_
    refine lk_ sc62 1 rfl rfl rfl (wl_nil ?_)
    refine nw 18 1023 (fun _ hm => ⟨hm.bl 2, hm.bl 0, hm.fa 0, trivial⟩) fun z => ?_
    refine wt 10 18 2047 rfl z (ov_index (j := j) es62 rfl rfl (by omega)) ?_
    refine wt 11 18 4095 rfl z (ov_field fo170_0 rfl rfl) ?_
    refine wt 12 18 8191 rfl z (ov_elem1 (k := 0) (v := .string u0) sc9 rfl (fun _ hm => (hm.2.2.1)) hq rfl rfl) ?_
    refine wt 13 18 16383 rfl z (ov_build (cs := [.string nm, .string u0]) rfl (by kernel_rfl)) ?_
    refine wa1 14 rfl ?_
    refine wl_buildSlice (e := 158) (cs := [.string nm, .string u0]) rfl (by kernel_rfl) rfl fun g8 => ?_
    refine wl_nil ?_
    refine nw 18 32767 (fun _ hm => ⟨hm.bl 3, hm.bl 1, hm.fa 0, trivial⟩) fun z => ?_
    refine wa1 15 rfl ?_
    refine wl_append (news := [.string nm, .string u0]) 0 0 ap63 rfl rfl rfl rfl rfl rfl rfl (by omega) (by unfold maxLen; omega) rfl rfl fun v2 hv2 => ?_
    refine wl_look (R := ∃ A cc, v2 = .slice A (k + 1) cc) (fun wx hm => own_slice (hm.ownI 0 rfl)) ?_
    rintro ⟨vA2, vc2, rfl⟩
    refine wl_nil ?_
    refine nw 18 65535 (fun _ hm => ⟨hm.bl 3, hm.bl 1, hm.fa 0, trivial⟩) fun z => ?_
    refine wt 16 18 131071 rfl z (ov_field fo66_2 rfl rfl) ?_
    refine wa1 17 rfl ?_
    refine wl_store 2 sc63 rfl rfl rfl rfl rfl rfl ?_
    refine wl_nil ?_
    refine nw 18 262143 (fun _ hm => ⟨hm.bl 3, hm.bl 1, hm.fa 0, trivial⟩) fun z => ?_
    refine wa_done (by kernel_rfl) ?_
    refine nx_blk_nrm (nx_then (gw_region (ad_ rfl rfl (mv_ rfl (wl_nil ?_)))))
    have hxs : vl.flatMap vhEnc ++ ([.string nm, .string u0] : List Value) = (vl ++ [(⟨nm, u0⟩ : Vh)]).flatMap vhEnc := by simp [vhEnc]
    rw [hxs]
    exact nx_round (i + 1, k + 1, vA2, vc2, vl ++ [(⟨nm, u0⟩ : Vh)]) ⟨by dsimp only; omega, by dsimp only; omega, by simp [hvl], all_snoc hvB ⟨(show nm.size ≤ 1000 by omega), hq0⟩, vhG_snoc hvg hx hq⟩ (by dsimp only; omega) ⟨rfl, rfl, rfl, rfl, rfl, (some_int (by omega)), trivial⟩ (fun _ hm => (hm.more rfl (by first | omega | (dsimp only; omega))).pick [2, 3, 1] [0, 1] [0] rfl rfl)
   have J495 : W 10 (lb 18 495) [(0, .pointer (some ⟨sb, 0, none⟩)), (2, .pointer (some ⟨g1, 0, none⟩)), (3, .pointer (some ⟨g2, 0, none⟩)), (21, .slice (some ⟨g4, 0, none⟩) 4 4), (22, .int .i64 4), (23, .int .i64 ((i : Nat) : Int)), (31, .slice vA k vc), (32, .string nm), (33, .pointer (some ⟨g2, 1, none⟩)), (35, .pointer (some ⟨sb, 0, none⟩)), (38, .int .i64 4)] (fun w => Strm 25 w B sb (m + 120 + 2 * i + 1)) [(g1, 66, [.slice none 0 0, .slice none 0 0, .slice none 0 0, .slice none 0 0]), (g2, 66, [.slice sA sn sc, .slice (some ⟨bc, oc, none⟩) 4 cc, .slice vA k vc, .slice none 0 0]), (g4, 9, [.string ⟨#[118, 49]⟩, .string ⟨#[118, 50]⟩, .string ⟨#[118, 51]⟩, .string ⟨#[118, 52]⟩])] [⟨.slice vA k vc, 158, 2, k, vl.flatMap vhEnc⟩, ⟨.slice sA sn sc, 168, 15, sn, sl.flatMap stEnc⟩] [fun wy => SlT csEnc 2 170 wy (some ⟨bc, oc, none⟩) 4 cl] := by
    skip
    rw [hW]
    refine wa_all [4, 9] (by kernel_rfl) rfl ⟨⟨_, rfl, ?_⟩, ⟨_, rfl, ?_⟩, trivial⟩
    ·refine lk_ sc62 1 rfl rfl rfl (wl_nil ?_)
     refine nw 18 511 (fun _ hm => ⟨hm.bl 2, hm.bl 0, hm.fa 0, trivial⟩) fun z => ?_
     have h := T511 
     rw [hW] at h
     refine wa_weak ?_ ?_ h
     ·exact ⟨rfl, rfl, rfl, rfl, rfl, rfl, rfl, rfl, rfl, rfl, rfl, trivial⟩
     exact fun _ hm => hm.pick [0, 1, 2] [0, 1] [0] rfl rfl
    refine wl_got (γ := Int) (val := fun v => .int .i64 v) (φ := fun v => IsBelow 4 v) rfl cb56 rfl rfl rfl rfl (fun wx hm => (next_any _ wx B sb _ hm.k (by omega) (by omega) (by omega))) fun vj hvj => ?_
    have hj := isBelow_lt hvj (by omega)
    obtain ⟨j, rfl⟩ := Int.eq_ofNat_of_zero_le hj.1
    have hji : j < 4 := by omega
    obtain ⟨q, hq⟩ : ∃ q, cl[j]? = some q := ⟨_, List.getElem?_eq_getElem (by omega)⟩
    obtain ⟨u0, u1⟩ := q
    obtain ⟨hq0, hq1⟩ := hcok _ (List.mem_of_getElem? hq)
    have hq0 : u0.size ≤ 1000000 := hq0
    refine wl_nil ?_
    refine nw 18 1007 (fun _ hm => ⟨hm.bl 2, hm.bl 0, hm.fa 0, trivial⟩) fun z => ?_
    have h := T1007 j hji u0 u1 hq hq0
    rw [hW] at h
    refine wa_weak ?_ ?_ h
    ·exact ⟨rfl, rfl, rfl, rfl, rfl, rfl, rfl, rfl, rfl, rfl, trivial⟩
    exact fun _ hm => hm.pick [0, 1, 2] [0, 1] [0] rfl rfl
   have J111 : W 12 (lb 18 111) [(0, .pointer (some ⟨sb, 0, none⟩)), (2, .pointer (some ⟨g1, 0, none⟩)), (3, .pointer (some ⟨g2, 0, none⟩)), (21, .slice (some ⟨g4, 0, none⟩) 4 4), (22, .int .i64 4), (23, .int .i64 ((i : Nat) : Int)), (31, .slice vA k vc), (32, .string nm), (33, .pointer (some ⟨g2, 1, none⟩)), (35, .pointer (some ⟨sb, 0, none⟩)), (36, .pointer (some ⟨g2, 1, none⟩))] (fun w => Strm 25 w B sb (m + 120 + 2 * i + 1)) [(g1, 66, [.slice none 0 0, .slice none 0 0, .slice none 0 0, .slice none 0 0]), (g2, 66, [.slice sA sn sc, .slice (some ⟨bc, oc, none⟩) 4 cc, .slice vA k vc, .slice none 0 0]), (g4, 9, [.string ⟨#[118, 49]⟩, .string ⟨#[118, 50]⟩, .string ⟨#[118, 51]⟩, .string ⟨#[118, 52]⟩])] [⟨.slice vA k vc, 158, 2, k, vl.flatMap vhEnc⟩, ⟨.slice sA sn sc, 168, 15, sn, sl.flatMap stEnc⟩] [fun wy => SlT csEnc 2 170 wy (some ⟨bc, oc, none⟩) 4 cl] := by
    skip
    rw [hW]
    refine wa_all [4, 7] (by kernel_rfl) rfl ⟨⟨_, rfl, ?_⟩, ⟨_, rfl, ?_⟩, trivial⟩
    ·refine lk_ sc62 1 rfl rfl rfl (wl_nil ?_)
     refine nw 18 127 (fun _ hm => ⟨hm.bl 2, hm.bl 0, hm.fa 0, trivial⟩) fun z => ?_
     have h := T127 
     rw [hW] at h
     refine wa_weak ?_ ?_ h
     ·exact ⟨rfl, rfl, rfl, rfl, rfl, rfl, rfl, rfl, rfl, rfl, rfl, trivial⟩
     exact fun _ hm => hm.pick [0, 1, 2] [0, 1] [0] rfl rfl
    refine lk_ sc62 1 rfl rfl rfl (wl_nil ?_)
    refine nw 18 239 (fun _ hm => ⟨hm.bl 2, hm.bl 0, hm.fa 0, trivial⟩) fun z => ?_
    refine wt 8 18 495 rfl z (ov_len es62 rfl) ?_
    refine wa_set 38 (v' := .int .i64 4) rfl rfl ?_
    have h := J495 
    rw [hW] at h
    refine wa_weak ?_ ?_ h
    ·exact ⟨rfl, rfl, rfl, rfl, rfl, rfl, rfl, rfl, rfl, rfl, rfl, trivial⟩
    exact fun _ hm => hm.pick [0, 1, 2] [0, 1] [0] rfl rfl
   have T16383 : ∀ (j : Nat) (hji : j < 4) (u0 : ByteArray) (u1 : ByteArray) (hq : cl[j]? = some ⟨u0, u1⟩) (hq0 : u0.size ≤ 1000000), W 4 (lb 18 16383) [(0, .pointer (some ⟨sb, 0, none⟩)), (2, .pointer (some ⟨g1, 0, none⟩)), (3, .pointer (some ⟨g2, 0, none⟩)), (21, .slice (some ⟨g4, 0, none⟩) 4 4), (22, .int .i64 4), (23, .int .i64 ((i : Nat) : Int)), (31, .slice vA k vc), (43, .agg #[.string nm, .string u0])] (fun w => Strm 25 w B sb (m + 120 + 2 * i + 1 + 1)) [(g1, 66, [.slice none 0 0, .slice none 0 0, .slice none 0 0, .slice none 0 0]), (g2, 66, [.slice sA sn sc, .slice (some ⟨bc, oc, none⟩) 4 cc, .slice vA k vc, .slice none 0 0]), (g4, 9, [.string ⟨#[118, 49]⟩, .string ⟨#[118, 50]⟩, .string ⟨#[118, 51]⟩, .string ⟨#[118, 52]⟩])] [⟨.slice vA k vc, 158, 2, k, vl.flatMap vhEnc⟩, ⟨.slice sA sn sc, 168, 15, sn, sl.flatMap stEnc⟩] [fun wy => SlT csEnc 2 170 wy (some ⟨bc, oc, none⟩) 4 cl] := by
    intro j hji u0 u1 hq hq0
    rw [hW]
    refine wa1 14 rfl ?_
    refine wl_buildSlice (e := 158) (cs := [.string nm, .string u0]) rfl (by kernel_rfl) rfl fun g9 => ?_
    refine wl_nil ?_
    refine nw 18 32767 (fun _ hm => ⟨hm.bl 3, hm.bl 1, hm.fa 0, trivial⟩) fun z => ?_
    refine wa1 15 rfl ?_
    refine wl_append (news := [.string nm, .string u0]) 0 0 ap63 rfl rfl rfl rfl rfl rfl rfl (by omega) (by unfold maxLen; omega) rfl rfl fun v2 hv2 => ?_
    refine wl_look (R := ∃ A cc, v2 = .slice A (k + 1) cc) (fun wx hm => own_slice (hm.ownI 0 rfl)) ?_
    rintro ⟨vA2, vc2, rfl⟩
    refine wl_nil ?_
    refine nw 18 65535 (fun _ hm => ⟨hm.bl 3, hm.bl 1, hm.fa 0, trivial⟩) fun z => ?_
    refine wt 16 18 131071 rfl z (ov_field fo66_2 rfl rfl) ?_
    refine wa1 17 rfl ?_
    refine wl_store 2 sc63 rfl rfl rfl rfl rfl rfl ?_
    refine wl_nil ?_
    refine nw 18 262143 (fun _ hm => ⟨hm.bl 3, hm.bl 1, hm.fa 0, trivial⟩) fun z => ?_
    refine wa_done (by kernel_rfl) ?_
    refine nx_blk_nrm (nx_then (gw_region (ad_ rfl rfl (mv_ rfl (wl_nil ?_)))))
    have hxs : vl.flatMap vhEnc ++ ([.string nm, .string u0] : List Value) = (vl ++ [(⟨nm, u0⟩ : Vh)]).flatMap vhEnc := by simp [vhEnc]
    rw [hxs]
    exact nx_round (i + 1, k + 1, vA2, vc2, vl ++ [(⟨nm, u0⟩ : Vh)]) ⟨by dsimp only; omega, by dsimp only; omega, by simp [hvl], all_snoc hvB ⟨(show nm.size ≤ 1000 by omega), hq0⟩, vhG_snoc hvg hx hq⟩ (by dsimp only; omega) ⟨rfl, rfl, rfl, rfl, rfl, (some_int (by omega)), trivial⟩ (fun _ hm => (hm.more rfl (by first | omega | (dsimp only; omega))).pick [2, 3, 1] [0, 1] [0] rfl rfl)
   have T32765 : ∀ (j : Nat) (hji : j < 4) (u0 : ByteArray) (u1 : ByteArray) (hq : cl[j]? = some ⟨u0, u1⟩) (hq0 : u0.size ≤ 1000000) (q14 : Nat), W 4 (lb 18 32765) [(0, .pointer (some ⟨sb, 0, none⟩)), (2, .pointer (some ⟨g1, 0, none⟩)), (3, .pointer (some ⟨g2, 0, none⟩)), (21, .slice (some ⟨g4, 0, none⟩) 4 4), (22, .int .i64 4), (23, .int .i64 ((i : Nat) : Int)), (30, .pointer (some ⟨g2, 2, none⟩)), (44, .slice (some ⟨q14, 0, none⟩) 1 1)] (fun w => Strm 25 w B sb (m + 120 + 2 * i + 1 + 1)) [(g1, 66, [.slice none 0 0, .slice none 0 0, .slice none 0 0, .slice none 0 0]), (g2, 66, [.slice sA sn sc, .slice (some ⟨bc, oc, none⟩) 4 cc, .slice vA k vc, .slice none 0 0]), (g4, 9, [.string ⟨#[118, 49]⟩, .string ⟨#[118, 50]⟩, .string ⟨#[118, 51]⟩, .string ⟨#[118, 52]⟩]), (q14, 158, [.string nm, .string u0])] [⟨.slice vA k vc, 158, 2, k, vl.flatMap vhEnc⟩, ⟨.slice sA sn sc, 168, 15, sn, sl.flatMap stEnc⟩] [fun wy => SlT csEnc 2 170 wy (some ⟨bc, oc, none⟩) 4 cl] := by
    intro j hji u0 u1 hq hq0 q14
    rw [hW]
    refine wa1 1 rfl ?_
    refine lk_ sc63 1 rfl rfl rfl (wl_nil ?_)
    refine nw 18 32767 (fun _ hm => ⟨hm.bl 2, hm.bl 0, hm.fa 0, trivial⟩) fun z => ?_
    refine wa1 15 rfl ?_
    refine wl_append (news := [.string nm, .string u0]) 0 3 ap63 rfl rfl rfl rfl rfl rfl rfl (by omega) (by unfold maxLen; omega) rfl rfl fun v2 hv2 => ?_
    refine wl_look (R := ∃ A cc, v2 = .slice A (k + 1) cc) (fun wx hm => own_slice (hm.ownI 0 rfl)) ?_
    rintro ⟨vA2, vc2, rfl⟩
    refine wl_nil ?_
    refine nw 18 65535 (fun _ hm => ⟨hm.bl 2, hm.bl 0, hm.fa 0, trivial⟩) fun z => ?_
    refine wt 16 18 131071 rfl z (ov_field fo66_2 rfl rfl) ?_
    refine wa1 17 rfl ?_
    refine wl_store 1 sc63 rfl rfl rfl rfl rfl rfl ?_
    refine wl_nil ?_
    refine nw 18 262143 (fun _ hm => ⟨hm.bl 2, hm.bl 0, hm.fa 0, trivial⟩) fun z => ?_
    refine wa_done (by kernel_rfl) ?_
    refine nx_blk_nrm (nx_then (gw_region (ad_ rfl rfl (mv_ rfl (wl_nil ?_)))))
    have hxs : vl.flatMap vhEnc ++ ([.string nm, .string u0] : List Value) = (vl ++ [(⟨nm, u0⟩ : Vh)]).flatMap vhEnc := by simp [vhEnc]
    rw [hxs]
    exact nx_round (i + 1, k + 1, vA2, vc2, vl ++ [(⟨nm, u0⟩ : Vh)]) ⟨by dsimp only; omega, by dsimp only; omega, by simp [hvl], all_snoc hvB ⟨(show nm.size ≤ 1000 by omega), hq0⟩, vhG_snoc hvg hx hq⟩ (by dsimp only; omega) ⟨rfl, rfl, rfl, rfl, rfl, (some_int (by omega)), trivial⟩ (fun _ hm => (hm.more rfl (by first | omega | (dsimp only; omega))).pick [1, 2, 0] [0, 1] [0] rfl rfl)
   have J16381 : ∀ (j : Nat) (hji : j < 4) (u0 : ByteArray) (u1 : ByteArray) (hq : cl[j]? = some ⟨u0, u1⟩) (hq0 : u0.size ≤ 1000000), W 5 (lb 18 16381) [(0, .pointer (some ⟨sb, 0, none⟩)), (2, .pointer (some ⟨g1, 0, none⟩)), (3, .pointer (some ⟨g2, 0, none⟩)), (21, .slice (some ⟨g4, 0, none⟩) 4 4), (22, .int .i64 4), (23, .int .i64 ((i : Nat) : Int)), (30, .pointer (some ⟨g2, 2, none⟩)), (43, .agg #[.string nm, .string u0])] (fun w => Strm 25 w B sb (m + 120 + 2 * i + 1 + 1)) [(g1, 66, [.slice none 0 0, .slice none 0 0, .slice none 0 0, .slice none 0 0]), (g2, 66, [.slice sA sn sc, .slice (some ⟨bc, oc, none⟩) 4 cc, .slice vA k vc, .slice none 0 0]), (g4, 9, [.string ⟨#[118, 49]⟩, .string ⟨#[118, 50]⟩, .string ⟨#[118, 51]⟩, .string ⟨#[118, 52]⟩])] [⟨.slice vA k vc, 158, 2, k, vl.flatMap vhEnc⟩, ⟨.slice sA sn sc, 168, 15, sn, sl.flatMap stEnc⟩] [fun wy => SlT csEnc 2 170 wy (some ⟨bc, oc, none⟩) 4 cl] := by
    intro j hji u0 u1 hq hq0
    rw [hW]
    refine wa_all [1, 14] (by kernel_rfl) rfl ⟨⟨_, rfl, ?_⟩, ⟨_, rfl, ?_⟩, trivial⟩
    ·refine lk_ sc63 1 rfl rfl rfl (wl_nil ?_)
     refine nw 18 16383 (fun _ hm => ⟨hm.bl 2, hm.bl 0, hm.fa 0, trivial⟩) fun z => ?_
     have h := T16383 j hji u0 u1 hq hq0
     rw [hW] at h
     refine wa_weak ?_ ?_ h
     ·exact ⟨rfl, rfl, rfl, rfl, rfl, rfl, rfl, rfl, trivial⟩
     exact fun _ hm => hm.pick [0, 1, 2] [0, 1] [0] rfl rfl
    refine wl_buildSlice (e := 158) (cs := [.string nm, .string u0]) rfl (by kernel_rfl) rfl fun q14 => ?_
    refine wl_nil ?_
    refine nw 18 32765 (fun _ hm => ⟨hm.bl 3, hm.bl 1, hm.fa 0, trivial⟩) fun z => ?_
    have h := T32765 j hji u0 u1 hq hq0 q14
    rw [hW] at h
    refine wa_weak ?_ ?_ h
    ·exact ⟨rfl, rfl, rfl, rfl, rfl, rfl, rfl, rfl, trivial⟩
    exact fun _ hm => hm.pick [1, 2, 3, 0] [0, 1] [0] rfl rfl
   have J509 : W 10 (lb 18 509) [(0, .pointer (some ⟨sb, 0, none⟩)), (2, .pointer (some ⟨g1, 0, none⟩)), (3, .pointer (some ⟨g2, 0, none⟩)), (21, .slice (some ⟨g4, 0, none⟩) 4 4), (22, .int .i64 4), (23, .int .i64 ((i : Nat) : Int)), (30, .pointer (some ⟨g2, 2, none⟩)), (32, .string nm), (34, .slice (some ⟨bc, oc, none⟩) 4 cc), (35, .pointer (some ⟨sb, 0, none⟩)), (38, .int .i64 4)] (fun w => Strm 25 w B sb (m + 120 + 2 * i + 1)) [(g1, 66, [.slice none 0 0, .slice none 0 0, .slice none 0 0, .slice none 0 0]), (g2, 66, [.slice sA sn sc, .slice (some ⟨bc, oc, none⟩) 4 cc, .slice vA k vc, .slice none 0 0]), (g4, 9, [.string ⟨#[118, 49]⟩, .string ⟨#[118, 50]⟩, .string ⟨#[118, 51]⟩, .string ⟨#[118, 52]⟩])] [⟨.slice vA k vc, 158, 2, k, vl.flatMap vhEnc⟩, ⟨.slice sA sn sc, 168, 15, sn, sl.flatMap stEnc⟩] [fun wy => SlT csEnc 2 170 wy (some ⟨bc, oc, none⟩) 4 cl] := by
    skip
    rw [hW]
    refine wa_all [1, 9] (by kernel_rfl) rfl ⟨⟨_, rfl, ?_⟩, ⟨_, rfl, ?_⟩, trivial⟩
    ·refine lk_ sc63 1 rfl rfl rfl (wl_nil ?_)
     refine nw 18 511 (fun _ hm => ⟨hm.bl 2, hm.bl 0, hm.fa 0, trivial⟩) fun z => ?_
     have h := T511 
     rw [hW] at h
     refine wa_weak ?_ ?_ h
     ·exact ⟨rfl, rfl, rfl, rfl, rfl, rfl, rfl, rfl, rfl, rfl, rfl, trivial⟩
     exact fun _ hm => hm.pick [0, 1, 2] [0, 1] [0] rfl rfl
    refine wl_got (γ := Int) (val := fun v => .int .i64 v) (φ := fun v => IsBelow 4 v) rfl cb56 rfl rfl rfl rfl (fun wx hm => (next_any _ wx B sb _ hm.k (by omega) (by omega) (by omega))) fun vj hvj => ?_
    have hj := isBelow_lt hvj (by omega)
    obtain ⟨j, rfl⟩ := Int.eq_ofNat_of_zero_le hj.1
    have hji : j < 4 := by omega
    obtain ⟨q, hq⟩ : ∃ q, cl[j]? = some q := ⟨_, List.getElem?_eq_getElem (by omega)⟩
    obtain ⟨u0, u1⟩ := q
    obtain ⟨hq0, hq1⟩ := hcok _ (List.mem_of_getElem? hq)
    have hq0 : u0.size ≤ 1000000 := hq0
    refine wl_nil ?_
    refine nw 18 1021 (fun _ hm => ⟨hm.bl 2, hm.bl 0, hm.fa 0, trivial⟩) fun z => ?_
    refine wt 10 18 2045 rfl z (ov_index (j := j) es62 rfl rfl (by omega)) ?_
    refine wt 11 18 4093 rfl z (ov_field fo170_0 rfl rfl) ?_
    refine wt 12 18 8189 rfl z (ov_elem1 (k := 0) (v := .string u0) sc9 rfl (fun _ hm => (hm.2.2.1)) hq rfl rfl) ?_
    refine wt 13 18 16381 rfl z (ov_build (cs := [.string nm, .string u0]) rfl (by kernel_rfl)) ?_
    have h := J16381 j hji u0 u1 hq hq0
    rw [hW] at h
    refine wa_weak ?_ ?_ h
    ·exact ⟨rfl, rfl, rfl, rfl, rfl, rfl, rfl, rfl, trivial⟩
    exact fun _ hm => hm.pick [0, 1, 2] [0, 1] [0] rfl rfl
   have J125 : W 12 (lb 18 125) [(0, .pointer (some ⟨sb, 0, none⟩)), (2, .pointer (some ⟨g1, 0, none⟩)), (3, .pointer (some ⟨g2, 0, none⟩)), (21, .slice (some ⟨g4, 0, none⟩) 4 4), (22, .int .i64 4), (23, .int .i64 ((i : Nat) : Int)), (30, .pointer (some ⟨g2, 2, none⟩)), (32, .string nm), (34, .slice (some ⟨bc, oc, none⟩) 4 cc), (35, .pointer (some ⟨sb, 0, none⟩)), (36, .pointer (some ⟨g2, 1, none⟩))] (fun w => Strm 25 w B sb (m + 120 + 2 * i + 1)) [(g1, 66, [.slice none 0 0, .slice none 0 0, .slice none 0 0, .slice none 0 0]), (g2, 66, [.slice sA sn sc, .slice (some ⟨bc, oc, none⟩) 4 cc, .slice vA k vc, .slice none 0 0]), (g4, 9, [.string ⟨#[118, 49]⟩, .string ⟨#[118, 50]⟩, .string ⟨#[118, 51]⟩, .string ⟨#[118, 52]⟩])] [⟨.slice vA k vc, 158, 2, k, vl.flatMap vhEnc⟩, ⟨.slice sA sn sc, 168, 15, sn, sl.flatMap stEnc⟩] [fun wy => SlT csEnc 2 170 wy (some ⟨bc, oc, none⟩) 4 cl] := by
    skip
    rw [hW]
    refine wa_all [1, 7] (by kernel_rfl) rfl ⟨⟨_, rfl, ?_⟩, ⟨_, rfl, ?_⟩, trivial⟩
    ·refine lk_ sc63 1 rfl rfl rfl (wl_nil ?_)
     refine nw 18 127 (fun _ hm => ⟨hm.bl 2, hm.bl 0, hm.fa 0, trivial⟩) fun z => ?_
     have h := T127 
     rw [hW] at h
     refine wa_weak ?_ ?_ h
     ·exact ⟨rfl, rfl, rfl, rfl, rfl, rfl, rfl, rfl, rfl, rfl, rfl, trivial⟩
     exact fun _ hm => hm.pick [0, 1, 2] [0, 1] [0] rfl rfl
    refine lk_ sc62 1 rfl rfl rfl (wl_nil ?_)
    refine nw 18 253 (fun _ hm => ⟨hm.bl 2, hm.bl 0, hm.fa 0, trivial⟩) fun z => ?_
    refine wt 8 18 509 rfl z (ov_len es62 rfl) ?_
    refine wa_set 38 (v' := .int .i64 4) rfl rfl ?_
    have h := J509 
    rw [hW] at h
    refine wa_weak ?_ ?_ h
    ·exact ⟨rfl, rfl, rfl, rfl, rfl, rfl, rfl, rfl, rfl, rfl, rfl, trivial⟩
    exact fun _ hm => hm.pick [0, 1, 2] [0, 1] [0] rfl rfl
   have J1005 : ∀ (j : Nat) (hji : j < 4) (u0 : ByteArray) (u1 : ByteArray) (hq : cl[j]? = some ⟨u0, u1⟩) (hq0 : u0.size ≤ 1000000), W 10 (lb 18 1005) [(0, .pointer (some ⟨sb, 0, none⟩)), (2, .pointer (some ⟨g1, 0, none⟩)), (3, .pointer (some ⟨g2, 0, none⟩)), (21, .slice (some ⟨g4, 0, none⟩) 4 4), (22, .int .i64 4), (23, .int .i64 ((i : Nat) : Int)), (30, .pointer (some ⟨g2, 2, none⟩)), (32, .string nm), (33, .pointer (some ⟨g2, 1, none⟩)), (39, .int .i64 ((j : Nat) : Int))] (fun w => Strm 25 w B sb (m + 120 + 2 * i + 1 + 1)) [(g1, 66, [.slice none 0 0, .slice none 0 0, .slice none 0 0, .slice none 0 0]), (g2, 66, [.slice sA sn sc, .slice (some ⟨bc, oc, none⟩) 4 cc, .slice vA k vc, .slice none 0 0]), (g4, 9, [.string ⟨#[118, 49]⟩, .string ⟨#[118, 50]⟩, .string ⟨#[118, 51]⟩, .string ⟨#[118, 52]⟩])] [⟨.slice vA k vc, 158, 2, k, vl.flatMap vhEnc⟩, ⟨.slice sA sn sc, 168, 15, sn, sl.flatMap stEnc⟩] [fun wy => SlT csEnc 2 170 wy (some ⟨bc, oc, none⟩) 4 cl] := by
    intro j hji u0 u1 hq hq0
    rw [hW]
    refine wa_all [1, 4] (by kernel_rfl) rfl ⟨⟨_, rfl, ?_⟩, ⟨_, rfl, ?_⟩, trivial⟩
    ·refine lk_ sc63 1 rfl rfl rfl (wl_nil ?_)
     refine nw 18 1007 (fun _ hm => ⟨hm.bl 2, hm.bl 0, hm.fa 0, trivial⟩) fun z => ?_
     have h := T1007 j hji u0 u1 hq hq0
     rw [hW] at h
     refine wa_weak ?_ ?_ h
     ·exact ⟨rfl, rfl, rfl, rfl, rfl, rfl, rfl, rfl, rfl, rfl, trivial⟩
     exact fun _ hm => hm.pick [0, 1, 2] [0, 1] [0] rfl rfl
    refine lk_ sc62 1 rfl rfl rfl (wl_nil ?_)
    refine nw 18 1021 (fun _ hm => ⟨hm.bl 2, hm.bl 0, hm.fa 0, trivial⟩) fun z => ?_
    refine wt 10 18 2045 rfl z (ov_index (j := j) es62 rfl rfl (by omega)) ?_
    refine wt 11 18 4093 rfl z (ov_field fo170_0 rfl rfl) ?_
    refine wt 12 18 8189 rfl z (ov_elem1 (k := 0) (v := .string u0) sc9 rfl (fun _ hm => (hm.2.2.1)) hq rfl rfl) ?_
    refine wt 13 18 16381 rfl z (ov_build (cs := [.string nm, .string u0]) rfl (by kernel_rfl)) ?_
    have h := J16381 j hji u0 u1 hq hq0
    rw [hW] at h
    refine wa_weak ?_ ?_ h
    ·exact ⟨rfl, rfl, rfl, rfl, rfl, rfl, rfl, rfl, trivial⟩
    exact fun _ hm => hm.pick [0, 1, 2] [0, 1] [0] rfl rfl
   have J493 : W 11 (lb 18 493) [(0, .pointer (some ⟨sb, 0, none⟩)), (2, .pointer (some ⟨g1, 0, none⟩)), (3, .pointer (some ⟨g2, 0, none⟩)), (21, .slice (some ⟨g4, 0, none⟩) 4 4), (22, .int .i64 4), (23, .int .i64 ((i : Nat) : Int)), (30, .pointer (some ⟨g2, 2, none⟩)), (32, .string nm), (33, .pointer (some ⟨g2, 1, none⟩)), (35, .pointer (some ⟨sb, 0, none⟩)), (38, .int .i64 4)] (fun w => Strm 25 w B sb (m + 120 + 2 * i + 1)) [(g1, 66, [.slice none 0 0, .slice none 0 0, .slice none 0 0, .slice none 0 0]), (g2, 66, [.slice sA sn sc, .slice (some ⟨bc, oc, none⟩) 4 cc, .slice vA k vc, .slice none 0 0]), (g4, 9, [.string ⟨#[118, 49]⟩, .string ⟨#[118, 50]⟩, .string ⟨#[118, 51]⟩, .string ⟨#[118, 52]⟩])] [⟨.slice vA k vc, 158, 2, k, vl.flatMap vhEnc⟩, ⟨.slice sA sn sc, 168, 15, sn, sl.flatMap stEnc⟩] [fun wy => SlT csEnc 2 170 wy (some ⟨bc, oc, none⟩) 4 cl] := by
    skip
    rw [hW]
    refine wa_all [1, 4, 9] (by kernel_rfl) rfl ⟨⟨_, rfl, ?_⟩, ⟨_, rfl, ?_⟩, ⟨_, rfl, ?_⟩, trivial⟩
    ·refine lk_ sc63 1 rfl rfl rfl (wl_nil ?_)
     refine nw 18 495 (fun _ hm => ⟨hm.bl 2, hm.bl 0, hm.fa 0, trivial⟩) fun z => ?_
     have h := J495 
     rw [hW] at h
     refine wa_weak ?_ ?_ h
     ·exact ⟨rfl, rfl, rfl, rfl, rfl, rfl, rfl, rfl, rfl, rfl, rfl, trivial⟩
     exact fun _ hm => hm.pick [0, 1, 2] [0, 1] [0] rfl rfl
    ·refine lk_ sc62 1 rfl rfl rfl (wl_nil ?_)
     refine nw 18 509 (fun _ hm => ⟨hm.bl 2, hm.bl 0, hm.fa 0, trivial⟩) fun z => ?_
     have h := J509 
     rw [hW] at h
     refine wa_weak ?_ ?_ h
     ·exact ⟨rfl, rfl, rfl, rfl, rfl, rfl, rfl, rfl, rfl, rfl, rfl, trivial⟩
     exact fun _ hm => hm.pick [0, 1, 2] [0, 1] [0] rfl rfl
    refine wl_got (γ := Int) (val := fun v => .int .i64 v) (φ := fun v => IsBelow 4 v) rfl cb56 rfl rfl rfl rfl (fun wx hm => (next_any _ wx B sb _ hm.k (by omega) (by omega) (by omega))) fun vj hvj => ?_
    have hj := isBelow_lt hvj (by omega)
    obtain ⟨j, rfl⟩ := Int.eq_ofNat_of_zero_le hj.1
    have hji : j < 4 := by omega
    obtain ⟨q, hq⟩ : ∃ q, cl[j]? = some q := ⟨_, List.getElem?_eq_getElem (by omega)⟩
    obtain ⟨u0, u1⟩ := q
    obtain ⟨hq0, hq1⟩ := hcok _ (List.mem_of_getElem? hq)
    have hq0 : u0.size ≤ 1000000 := hq0
    refine wl_nil ?_
    refine nw 18 1005 (fun _ hm => ⟨hm.bl 2, hm.bl 0, hm.fa 0, trivial⟩) fun z => ?_
    have h := J1005 j hji u0 u1 hq hq0
    rw [hW] at h
    refine wa_weak ?_ ?_ h
    ·exact ⟨rfl, rfl, rfl, rfl, rfl, rfl, rfl, rfl, rfl, rfl, trivial⟩
    exact fun _ hm => hm.pick [0, 1, 2] [0, 1] [0] rfl rfl
   have J109 : W 13 (lb 18 109) [(0, .pointer (some ⟨sb, 0, none⟩)), (2, .pointer (some ⟨g1, 0, none⟩)), (3, .pointer (some ⟨g2, 0, none⟩)), (21, .slice (some ⟨g4, 0, none⟩) 4 4), (22, .int .i64 4), (23, .int .i64 ((i : Nat) : Int)), (30, .pointer (some ⟨g2, 2, none⟩)), (32, .string nm), (33, .pointer (some ⟨g2, 1, none⟩)), (35, .pointer (some ⟨sb, 0, none⟩)), (36, .pointer (some ⟨g2, 1, none⟩))] (fun w => Strm 25 w B sb (m + 120 + 2 * i + 1)) [(g1, 66, [.slice none 0 0, .slice none 0 0, .slice none 0 0, .slice none 0 0]), (g2, 66, [.slice sA sn sc, .slice (some ⟨bc, oc, none⟩) 4 cc, .slice vA k vc, .slice none 0 0]), (g4, 9, [.string ⟨#[118, 49]⟩, .string ⟨#[118, 50]⟩, .string ⟨#[118, 51]⟩, .string ⟨#[118, 52]⟩])] [⟨.slice vA k vc, 158, 2, k, vl.flatMap vhEnc⟩, ⟨.slice sA sn sc, 168, 15, sn, sl.flatMap stEnc⟩] [fun wy => SlT csEnc 2 170 wy (some ⟨bc, oc, none⟩) 4 cl] := by
    skip
    rw [hW]
    refine wa_all [1, 4, 7] (by kernel_rfl) rfl ⟨⟨_, rfl, ?_⟩, ⟨_, rfl, ?_⟩, ⟨_, rfl, ?_⟩, trivial⟩
    ·refine lk_ sc63 1 rfl rfl rfl (wl_nil ?_)
     refine nw 18 111 (fun _ hm => ⟨hm.bl 2, hm.bl 0, hm.fa 0, trivial⟩) fun z => ?_
     have h := J111 
     rw [hW] at h
     refine wa_weak ?_ ?_ h
     ·exact ⟨rfl, rfl, rfl, rfl, rfl, rfl, rfl, rfl, rfl, rfl, rfl, trivial⟩
     exact fun _ hm => hm.pick [0, 1, 2] [0, 1] [0] rfl rfl
    ·refine lk_ sc62 1 rfl rfl rfl (wl_nil ?_)
     refine nw 18 125 (fun _ hm => ⟨hm.bl 2, hm.bl 0, hm.fa 0, trivial⟩) fun z => ?_
     have h := J125 
     rw [hW] at h
     refine wa_weak ?_ ?_ h
     ·exact ⟨rfl, rfl, rfl, rfl, rfl, rfl, rfl, rfl, rfl, rfl, rfl, trivial⟩
     exact fun _ hm => hm.pick [0, 1, 2] [0, 1] [0] rfl rfl
    refine lk_ sc62 1 rfl rfl rfl (wl_nil ?_)
    refine nw 18 237 (fun _ hm => ⟨hm.bl 2, hm.bl 0, hm.fa 0, trivial⟩) fun z => ?_
    refine wt 8 18 493 rfl z (ov_len es62 rfl) ?_
    refine wa_set 38 (v' := .int .i64 4) rfl rfl ?_
    have h := J493 
    rw [hW] at h
    refine wa_weak ?_ ?_ h
    ·exact ⟨rfl, rfl, rfl, rfl, rfl, rfl, rfl, rfl, rfl, rfl, rfl, trivial⟩
    exact fun _ hm => hm.pick [0, 1, 2] [0, 1] [0] rfl rfl
   rw [hW]
   have h := J109 
   rw [hW] at h
   refine wa_weak ?_ ?_ h
   ·exact ⟨rfl, rfl, rfl, rfl, rfl, rfl, rfl, rfl, rfl, rfl, rfl, trivial⟩
   exact fun _ hm => hm.pick [2, 0, 1] [0, 1] [0] rfl rfl
  have hf : f5 = true := by simpa using hh
  clear hh
  refine gw_skip (nx_blk_nrm (nx_then (gw_region (ad_ rfl rfl (mv_ rfl (wl_nil ?_))))))
  exact nx_round (i + 1, k, vA, vc, vl) ⟨by dsimp only; omega, by dsimp only; omega, hvl, hvB, vhG_more hvg⟩ (by dsimp only; omega) ⟨rfl, rfl, rfl, rfl, rfl, (some_int (by omega)), trivial⟩ (fun _ hm => (hm.more rfl (by first | omega | (dsimp only; omega))).pick [0, 1, 2] [0, 1] [0] rfl rfl)
 have hi : ¬ (((i : Nat) : Int) < 4) := by simpa using hh
 clear hh
 refine gw_exit ?_
 refine nx_then_exit (nx_then_exit ?_)
 refine nx_blk_here ?_
 refine nx_then (gw_seq (sr_ (mv_ rfl ?_)))
 refine wl_got (γ := Int) (val := fun v => .int .i64 v) (φ := fun v => 0 ≤ v ∧ (v ≤ 5 ∨ v = 0)) rfl cb31 rfl rfl rfl rfl (fun wx hm => (range_any _ _ wx B sb _ hm.k (by omega) (by omega) (by omega) (by omega) (by omega))) fun v10 hv10 => ?_
 refine mv_ rfl (nn_ (gw_block ?_))
 have hk4 : k ≤ 4 := by omega
 obtain ⟨R, hRR⟩ := Int.eq_ofNat_of_zero_le (show 0 ≤ v10 by omega)
 have hR5 : R ≤ 5 := by omega
 subst hRR
 refine gw_nilOwn 161 3 ?_
 refine gw_loop (γ := Nat × Option Addr × Nat × Nat × List Pl) (fun g => g.1 ≤ R ∧ g.2.2.1 ≤ g.1 ∧ g.2.2.2.2.length = g.2.2.1 ∧ (∀ x ∈ g.2.2.2.2, PlB x) ∧ fleetE sl cl vl g.2.2.2.2 = 0) (fun g => [(0, .pointer (some ⟨sb, 0, none⟩)), (2, .pointer (some ⟨g1, 0, none⟩)), (3, .pointer (some ⟨g2, 0, none⟩)), (49, .int .i64 ((R : Nat) : Int)), (50, .int .i64 ((g.1 : Nat) : Int))]) (fun g => fun w => Strm 25 w B sb (m + 140 + 10 * g.1)) (fun g => [(g2, 66, [.slice sA sn sc, .slice cA 4 cc, .slice vA k vc, .slice g.2.1 g.2.2.1 g.2.2.2.1]), (g1, 66, [.slice none 0 0, .slice none 0 0, .slice none 0 0, .slice none 0 0])]) (fun g => [⟨.slice g.2.1 g.2.2.1 g.2.2.2.1, 161, 3, g.2.2.1, g.2.2.2.2.flatMap plEnc⟩, ⟨.slice vA k vc, 158, 2, k, vl.flatMap vhEnc⟩, ⟨.slice sA sn sc, 168, 15, sn, sl.flatMap stEnc⟩]) (fun g => [fun wy => SlT csEnc 2 170 wy cA 4 cl]) (fun g => R - g.1) (0, none, 0, 0, []) ⟨Nat.zero_le _, Nat.le_refl _, rfl, (fun _ h => by cases h), fleet_start hsz hcz hvg (by omega)⟩ ⟨rfl, rfl, rfl, rfl, rfl, trivial⟩ (fun _ hm => (hm.more rfl (by first | omega | (dsimp only; omega))).pick [0, 2] [0, 1, 2] [0] rfl rfl) ?_
 rintro ⟨j, pA, pn, pc, pl⟩ hinv
 replace hinv : j ≤ R ∧ pn ≤ j ∧ pl.length = pn ∧ (∀ x ∈ pl, PlB x) ∧ fleetE sl cl vl pl = 0 := hinv
 dsimp only
 refine sr_ ?_
 obtain ⟨hj0, hpj, hpl, hpB, hfz⟩ := hinv
 refine wl_ov (ov_lss rfl rfl) rfl (nn_ (gw_seq ?_))
 refine gw_cond rfl (fun hh => ?_) (fun hh => ?_)
 ·have hj : ((j : Nat) : Int) < ((R : Nat) : Int) := by simpa using hh
  clear hh
  refine gw_skip (nx_then (gw_seq (gw_block (gw_seq (sr_ (fd_ fo66_2 rfl rfl (lk_ sc63 0 rfl rfl rfl (wl_ov (ov_len es63 rfl) rfl (wl_ov (ov_eql rfl rfl) rfl (nn_ ?_))))))))))
  refine gw_cond rfl (fun hh => ?_) (fun hh => ?_)
  ·have hk0 : ((k : Nat) : Int) = 0 := by simpa using hh
   clear hh
   refine gw_exit ?_
   refine nx_then_exit ?_
   refine nx_blk_on rfl ?_
   refine nx_then_exit (nx_then_exit ?_)
   refine nx_blk_here ?_
   refine nx_then (sr_ ?_)
   refine wl_ov (ov_loads rz66 rfl (fun _ hm => hm.blkI 0 rfl) rfl rfl) rfl ?_
   refine wl_stores (cs' := [.slice sA sn sc, .slice cA 4 cc, .slice vA k vc, .slice pA pn pc]) 1 rz66 rfl rfl rfl rfl rfl rfl rfl rfl ?_
   refine nn_ ?_
   refine gw_ret ?_
   refine nx_retc 1 rfl rz66 rfl rfl rfl fun wx hm => ?_
   exact ⟨sA, cA, vA, pA, sn, sc, cc, k, vc, pn, pc, sl, cl, vl, pl, rfl, ⟨⟨⟨hsl, hsB, hs1, hs3⟩, ⟨hcl4, hcok⟩, ⟨hvl, hvB, by omega⟩, ⟨hpl, hpB, by omega⟩⟩, hfz⟩, hm.k.more (by omega), hm.g, (hm.ownI 2 rfl), (hm.ownI 1 rfl), (hm.ownI 0 rfl), (hm.fact 0 rfl)⟩
  have hk0 : ¬ (((k : Nat) : Int) = 0) := by simpa using hh
  clear hh
  refine gw_skip (nx_then ?_)
  refine gw_look (R := ∃ g, vA = some ⟨g, 0, none⟩) (fun wx hm => own_addr (hm.ownI 1 rfl) (by omega)) ?_
  rintro ⟨bv, rfl⟩
  refine gw_cut (γ := Nat × Int × ByteArray × ByteArray) (I := (fun g => PlB ⟨g.2.1, g.2.2.1, g.2.2.2⟩)) (S' := (fun g => [(0, .pointer (some ⟨sb, 0, none⟩)), (2, .pointer (some ⟨g1, 0, none⟩)), (3, .pointer (some ⟨g2, 0, none⟩)), (6, .pointer (some ⟨g.1, 0, none⟩)), (49, .int .i64 ((R : Nat) : Int)), (50, .int .i64 ((j : Nat) : Int))])) (K' := (fun g => fun w => Strm 25 w B sb (m + 140 + 10 * j + 9))) (L' := (fun g => [(g.1, 161, [.int .i64 g.2.1, .string g.2.2.1, .string g.2.2.2]), (g2, 66, [.slice sA sn sc, .slice cA 4 cc, .slice (some ⟨bv, 0, none⟩) k vc, .slice pA pn pc]), (g1, 66, [.slice none 0 0, .slice none 0 0, .slice none 0 0, .slice none 0 0])])) (O' := (fun g => [⟨.slice pA pn pc, 161, 3, pn, pl.flatMap plEnc⟩, ⟨.slice (some ⟨bv, 0, none⟩) k vc, 158, 2, k, vl.flatMap vhEnc⟩, ⟨.slice sA sn sc, 168, 15, sn, sl.flatMap stEnc⟩])) (X' := (fun g => [fun wy => SlT csEnc 2 170 wy cA 4 cl])) ?_ ?_
  ·refine gd (fun wz => Blk wz g2 66 [.slice sA sn sc, .slice cA 4 cc, .slice (some ⟨bv, 0, none⟩) k vc, .slice pA pn pc] ∧ Blk wz g1 66 [.slice none 0 0, .slice none 0 0, .slice none 0 0, .slice none 0 0] ∧ (fun wy => SlT csEnc 2 170 wy cA 4 cl) wz ∧ wz.ownsRow w.heap.size 161 3 (.slice pA pn pc) pn (pl.flatMap plEnc) ∧ wz.ownsRow w.heap.size 158 2 (.slice (some ⟨bv, 0, none⟩) k vc) k (vl.flatMap vhEnc) ∧ wz.ownsRow w.heap.size 168 15 (.slice sA sn sc) sn (sl.flatMap stEnc) ∧ True) mixed (fun _ hm => ⟨hm.bl 0, hm.bl 1, hm.fa 0, hm.ownI 0 rfl, hm.ownI 1 rfl, hm.ownI 2 rfl, trivial⟩) fun z => ?_
   refine wt 0 19 1 rfl z (ov_move rfl) ?_
   refine wt 3 19 9 rfl z (ov_field fo66_2 rfl rfl) ?_
   refine wt 4 19 25 rfl z (ov_load sc63 rfl (fun _ hm => hm.1) rfl) ?_
   refine wt 5 19 57 rfl z (ov_move rfl) ?_
   refine wt 6 19 121 rfl z (ov_field fo66_2 rfl rfl) ?_
   refine wt 7 19 249 rfl z (ov_load sc63 rfl (fun _ hm => hm.1) rfl) ?_
   refine wt 8 19 505 rfl z (ov_len es63 rfl) ?_
   refine wt 13 19 8697 rfl z (ov_move rfl) ?_
   refine wa_open fun W hW => ?_
   have T131071 : ∀ (q1 : Nat) (k2 : Int) (bk20 : 0 ≤ k2) (bk21 : k2 ≤ 1000) (u0 : ByteArray) (hq0 : u0.size ≤ 1000) (q14 : Nat) (k15 : ByteArray) (zk15 : k15.size ≤ 100), W 2 (lb 19 131071) [(0, .pointer (some ⟨sb, 0, none⟩)), (2, .pointer (some ⟨g1, 0, none⟩)), (3, .pointer (some ⟨g2, 0, none⟩)), (49, .int .i64 ((R : Nat) : Int)), (50, .int .i64 ((j : Nat) : Int)), (72, .agg #[.int .i64 k2, .string u0, .string k15])] (fun w => Strm 25 w B sb (m + 140 + 10 * j + 1 + 1 + 1)) [(g1, 66, [.slice none 0 0, .slice none 0 0, .slice none 0 0, .slice none 0 0]), (g2, 66, [.slice sA sn sc, .slice cA 4 cc, .slice (some ⟨bv, 0, none⟩) k vc, .slice pA pn pc]), (q1, 3, [.int .i64 0, .int .i64 0, .int .i64 50, .int .i64 100, .int .i64 200, .int .i64 1000]), (q14, 9, [.string ⟨#[65, 66, 49]⟩, .string ⟨#[65, 66, 50]⟩, .string ⟨#[90, 90, 57]⟩])] [⟨.slice pA pn pc, 161, 3, pn, pl.flatMap plEnc⟩, ⟨.slice (some ⟨bv, 0, none⟩) k vc, 158, 2, k, vl.flatMap vhEnc⟩, ⟨.slice sA sn sc, 168, 15, sn, sl.flatMap stEnc⟩] [fun wy => SlT csEnc 2 170 wy cA 4 cl] := by
    intro q1 k2 bk20 bk21 u0 hq0 q14 k15 zk15
    rw [hW]
    refine wa1 17 rfl ?_
    refine wl_alloc zc161 rfl fun g11 => ?_
    refine wl_nil ?_
    refine nw 19 262143 (fun _ hm => ⟨hm.bl 2, hm.bl 1, hm.fa 0, hm.ownI 0 rfl, hm.ownI 1 rfl, hm.ownI 2 rfl, trivial⟩) fun z => ?_
    refine wa1 18 rfl ?_
    refine wl_stores (cs' := [.int .i64 k2, .string u0, .string k15]) 0 rz161 rfl rfl rfl rfl rfl rfl rfl rfl ?_
    refine wl_nil ?_
    refine nw 19 524287 (fun _ hm => ⟨hm.bl 2, hm.bl 1, hm.fa 0, hm.ownI 0 rfl, hm.ownI 1 rfl, hm.ownI 2 rfl, trivial⟩) fun z => ?_
    refine wa_done (by kernel_rfl) ?_
    exact nx_meet (g11, k2, u0, k15) ⟨⟨by dsimp only; omega, by dsimp only; omega⟩, by dsimp only; omega, by dsimp only; omega⟩ ⟨rfl, rfl, rfl, rfl, rfl, rfl, trivial⟩ (fun _ hm => (hm.more rfl (by first | omega | (dsimp only; omega))).pick [0, 2, 1] [0, 1, 2] [0] rfl rfl)
   have T163839 : ∀ (q1 : Nat) (k2 : Int) (bk20 : 0 ≤ k2) (bk21 : k2 ≤ 1000) (u0 : ByteArray) (hq0 : u0.size ≤ 1000) (q14 : Nat) (q17 : Nat), W 3 (lb 19 163839) [(0, .pointer (some ⟨sb, 0, none⟩)), (2, .pointer (some ⟨g1, 0, none⟩)), (3, .pointer (some ⟨g2, 0, none⟩)), (6, .pointer (some ⟨q17, 0, none⟩)), (49, .int .i64 ((R : Nat) : Int)), (50, .int .i64 ((j : Nat) : Int)), (58, .int .i64 k2), (68, .string u0), (69, .pointer (some ⟨sb, 0, none⟩)), (70, .slice (some ⟨q14, 0, none⟩) 3 3)] (fun w => Strm 25 w B sb (m + 140 + 10 * j + 1 + 1)) [(g1, 66, [.slice none 0 0, .slice none 0 0, .slice none 0 0, .slice none 0 0]), (g2, 66, [.slice sA sn sc, .slice cA 4 cc, .slice (some ⟨bv, 0, none⟩) k vc, .slice pA pn pc]), (q1, 3, [.int .i64 0, .int .i64 0, .int .i64 50, .int .i64 100, .int .i64 200, .int .i64 1000]), (q14, 9, [.string ⟨#[65, 66, 49]⟩, .string ⟨#[65, 66, 50]⟩, .string ⟨#[90, 90, 57]⟩]), (q17, 161, [.int .i64 0, .string ⟨#[]⟩, .string ⟨#[]⟩])] [⟨.slice pA pn pc, 161, 3, pn, pl.flatMap plEnc⟩, ⟨.slice (some ⟨bv, 0, none⟩) k vc, 158, 2, k, vl.flatMap vhEnc⟩, ⟨.slice sA sn sc, 168, 15, sn, sl.flatMap stEnc⟩] [fun wy => SlT csEnc 2 170 wy cA 4 cl] := by
    intro q1 k2 bk20 bk21 u0 hq0 q14 q17
    rw [hW]
    refine wa1 15 rfl ?_
    refine wl_got (γ := ByteArray) (val := fun v => .string v) (φ := fun v => v ∈ ([⟨#[65, 66, 49]⟩, ⟨#[65, 66, 50]⟩, ⟨#[90, 90, 57]⟩] : List ByteArray)) rfl cb57 rfl rfl rfl rfl (fun wx hm => (some_any [⟨#[65, 66, 49]⟩, ⟨#[65, 66, 50]⟩, ⟨#[90, 90, 57]⟩] _ _ _ wx B sb _ hm.k (by omega) (by simp) (by simp) (hm.blkI 3 rfl) (hm.neRow 3 rfl rfl))) fun k15 hk15 => ?_
    have zk15 : k15.size ≤ 100 := mem_sz hk15 (by decide)
    refine wl_nil ?_
    refine nw 19 196607 (fun _ hm => ⟨hm.bl 1, hm.bl 0, hm.fa 0, hm.ownI 0 rfl, hm.ownI 1 rfl, hm.ownI 2 rfl, trivial⟩) fun z => ?_
    refine wt 16 19 262143 rfl z (ov_build (cs := [.int .i64 k2, .string u0, .string k15]) rfl (by kernel_rfl)) ?_
    refine wa1 18 rfl ?_
    refine wl_stores (cs' := [.int .i64 k2, .string u0, .string k15]) 4 rz161 rfl rfl rfl rfl rfl rfl rfl rfl ?_
    refine wl_nil ?_
    refine nw 19 524287 (fun _ hm => ⟨hm.bl 1, hm.bl 0, hm.fa 0, hm.ownI 0 rfl, hm.ownI 1 rfl, hm.ownI 2 rfl, trivial⟩) fun z => ?_
    refine wa_done (by kernel_rfl) ?_
    exact nx_meet (q17, k2, u0, k15) ⟨⟨by dsimp only; omega, by dsimp only; omega⟩, by dsimp only; omega, by dsimp only; omega⟩ ⟨rfl, rfl, rfl, rfl, rfl, rfl, trivial⟩ (fun _ hm => (hm.more rfl (by first | omega | (dsimp only; omega))).pick [4, 1, 0] [0, 1, 2] [0] rfl rfl)
   have J32767 : ∀ (q1 : Nat) (k2 : Int) (bk20 : 0 ≤ k2) (bk21 : k2 ≤ 1000) (u0 : ByteArray) (hq0 : u0.size ≤ 1000) (q14 : Nat), W 4 (lb 19 32767) [(0, .pointer (some ⟨sb, 0, none⟩)), (2, .pointer (some ⟨g1, 0, none⟩)), (3, .pointer (some ⟨g2, 0, none⟩)), (49, .int .i64 ((R : Nat) : Int)), (50, .int .i64 ((j : Nat) : Int)), (58, .int .i64 k2), (68, .string u0), (69, .pointer (some ⟨sb, 0, none⟩)), (70, .slice (some ⟨q14, 0, none⟩) 3 3)] (fun w => Strm 25 w B sb (m + 140 + 10 * j + 1 + 1)) [(g1, 66, [.slice none 0 0, .slice none 0 0, .slice none 0 0, .slice none 0 0]), (g2, 66, [.slice sA sn sc, .slice cA 4 cc, .slice (some ⟨bv, 0, none⟩) k vc, .slice pA pn pc]), (q1, 3, [.int .i64 0, .int .i64 0, .int .i64 50, .int .i64 100, .int .i64 200, .int .i64 1000]), (q14, 9, [.string ⟨#[65, 66, 49]⟩, .string ⟨#[65, 66, 50]⟩, .string ⟨#[90, 90, 57]⟩])] [⟨.slice pA pn pc, 161, 3, pn, pl.flatMap plEnc⟩, ⟨.slice (some ⟨bv, 0, none⟩) k vc, 158, 2, k, vl.flatMap vhEnc⟩, ⟨.slice sA sn sc, 168, 15, sn, sl.flatMap stEnc⟩] [fun wy => SlT csEnc 2 170 wy cA 4 cl] := by
    intro q1 k2 bk20 bk21 u0 hq0 q14
    rw [hW]
    refine wa_all [15, 17] (by kernel_rfl) rfl ⟨⟨_, rfl, ?_⟩, ⟨_, rfl, ?_⟩, trivial⟩
    ·refine wl_got (γ := ByteArray) (val := fun v => .string v) (φ := fun v => v ∈ ([⟨#[65, 66, 49]⟩, ⟨#[65, 66, 50]⟩, ⟨#[90, 90, 57]⟩] : List ByteArray)) rfl cb57 rfl rfl rfl rfl (fun wx hm => (some_any [⟨#[65, 66, 49]⟩, ⟨#[65, 66, 50]⟩, ⟨#[90, 90, 57]⟩] _ _ _ wx B sb _ hm.k (by omega) (by simp) (by simp) (hm.blkI 3 rfl) (hm.neRow 3 rfl rfl))) fun k15 hk15 => ?_
     have zk15 : k15.size ≤ 100 := mem_sz hk15 (by decide)
     refine wl_nil ?_
     refine nw 19 65535 (fun _ hm => ⟨hm.bl 1, hm.bl 0, hm.fa 0, hm.ownI 0 rfl, hm.ownI 1 rfl, hm.ownI 2 rfl, trivial⟩) fun z => ?_
     refine wt 16 19 131071 rfl z (ov_build (cs := [.int .i64 k2, .string u0, .string k15]) rfl (by kernel_rfl)) ?_
     have h := T131071 q1 k2 bk20 bk21 u0 hq0 q14 k15 zk15
     rw [hW] at h
     refine wa_weak ?_ ?_ h
     ·exact ⟨rfl, rfl, rfl, rfl, rfl, rfl, trivial⟩
     exact fun _ hm => hm.pick [0, 1, 2, 3] [0, 1, 2] [0] rfl rfl
    refine wl_alloc zc161 rfl fun q17 => ?_
    refine wl_nil ?_
    refine nw 19 163839 (fun _ hm => ⟨hm.bl 2, hm.bl 1, hm.fa 0, hm.ownI 0 rfl, hm.ownI 1 rfl, hm.ownI 2 rfl, trivial⟩) fun z => ?_
    have h := T163839 q1 k2 bk20 bk21 u0 hq0 q14 q17
    rw [hW] at h
    refine wa_weak ?_ ?_ h
    ·exact ⟨rfl, rfl, rfl, rfl, rfl, rfl, rfl, rfl, rfl, rfl, trivial⟩
    exact fun _ hm => hm.pick [1, 2, 3, 4, 0] [0, 1, 2] [0] rfl rfl
   have T147455 : ∀ (q1 : Nat) (k2 : Int) (bk20 : 0 ≤ k2) (bk21 : k2 ≤ 1000) (u0 : ByteArray) (hq0 : u0.size ≤ 1000) (q17 : Nat), W 4 (lb 19 147455) [(0, .pointer (some ⟨sb, 0, none⟩)), (2, .pointer (some ⟨g1, 0, none⟩)), (3, .pointer (some ⟨g2, 0, none⟩)), (6, .pointer (some ⟨q17, 0, none⟩)), (49, .int .i64 ((R : Nat) : Int)), (50, .int .i64 ((j : Nat) : Int)), (58, .int .i64 k2), (68, .string u0), (69, .pointer (some ⟨sb, 0, none⟩))] (fun w => Strm 25 w B sb (m + 140 + 10 * j + 1 + 1)) [(g1, 66, [.slice none 0 0, .slice none 0 0, .slice none 0 0, .slice none 0 0]), (g2, 66, [.slice sA sn sc, .slice cA 4 cc, .slice (some ⟨bv, 0, none⟩) k vc, .slice pA pn pc]), (q1, 3, [.int .i64 0, .int .i64 0, .int .i64 50, .int .i64 100, .int .i64 200, .int .i64 1000]), (q17, 161, [.int .i64 0, .string ⟨#[]⟩, .string ⟨#[]⟩])] [⟨.slice pA pn pc, 161, 3, pn, pl.flatMap plEnc⟩, ⟨.slice (some ⟨bv, 0, none⟩) k vc, 158, 2, k, vl.flatMap vhEnc⟩, ⟨.slice sA sn sc, 168, 15, sn, sl.flatMap stEnc⟩] [fun wy => SlT csEnc 2 170 wy cA 4 cl] := by
    intro q1 k2 bk20 bk21 u0 hq0 q17
    rw [hW]
    refine wa1 14 rfl ?_
    refine wl_buildSlice (e := 9) (cs := [.string ⟨#[65, 66, 49]⟩, .string ⟨#[65, 66, 50]⟩, .string ⟨#[90, 90, 57]⟩]) rfl (by kernel_rfl) rfl fun g12 => ?_
    refine wl_nil ?_
    refine nw 19 163839 (fun _ hm => ⟨hm.bl 2, hm.bl 1, hm.fa 0, hm.ownI 0 rfl, hm.ownI 1 rfl, hm.ownI 2 rfl, trivial⟩) fun z => ?_
    refine wa1 15 rfl ?_
    refine wl_got (γ := ByteArray) (val := fun v => .string v) (φ := fun v => v ∈ ([⟨#[65, 66, 49]⟩, ⟨#[65, 66, 50]⟩, ⟨#[90, 90, 57]⟩] : List ByteArray)) rfl cb57 rfl rfl rfl rfl (fun wx hm => (some_any [⟨#[65, 66, 49]⟩, ⟨#[65, 66, 50]⟩, ⟨#[90, 90, 57]⟩] _ _ _ wx B sb _ hm.k (by omega) (by simp) (by simp) (hm.blkI 0 rfl) (hm.neRow 0 rfl rfl))) fun k15 hk15 => ?_
    have zk15 : k15.size ≤ 100 := mem_sz hk15 (by decide)
    refine wl_nil ?_
    refine nw 19 196607 (fun _ hm => ⟨hm.bl 2, hm.bl 1, hm.fa 0, hm.ownI 0 rfl, hm.ownI 1 rfl, hm.ownI 2 rfl, trivial⟩) fun z => ?_
    refine wt 16 19 262143 rfl z (ov_build (cs := [.int .i64 k2, .string u0, .string k15]) rfl (by kernel_rfl)) ?_
    refine wa1 18 rfl ?_
    refine wl_stores (cs' := [.int .i64 k2, .string u0, .string k15]) 4 rz161 rfl rfl rfl rfl rfl rfl rfl rfl ?_
    refine wl_nil ?_
    refine nw 19 524287 (fun _ hm => ⟨hm.bl 2, hm.bl 1, hm.fa 0, hm.ownI 0 rfl, hm.ownI 1 rfl, hm.ownI 2 rfl, trivial⟩) fun z => ?_
    refine wa_done (by kernel_rfl) ?_
    exact nx_meet (q17, k2, u0, k15) ⟨⟨by dsimp only; omega, by dsimp only; omega⟩, by dsimp only; omega, by dsimp only; omega⟩ ⟨rfl, rfl, rfl, rfl, rfl, rfl, trivial⟩ (fun _ hm => (hm.more rfl (by first | omega | (dsimp only; omega))).pick [4, 2, 1] [0, 1, 2] [0] rfl rfl)
   have J16383 : ∀ (q1 : Nat) (k2 : Int) (bk20 : 0 ≤ k2) (bk21 : k2 ≤ 1000) (u0 : ByteArray) (hq0 : u0.size ≤ 1000), W 5 (lb 19 16383) [(0, .pointer (some ⟨sb, 0, none⟩)), (2, .pointer (some ⟨g1, 0, none⟩)), (3, .pointer (some ⟨g2, 0, none⟩)), (49, .int .i64 ((R : Nat) : Int)), (50, .int .i64 ((j : Nat) : Int)), (58, .int .i64 k2), (68, .string u0), (69, .pointer (some ⟨sb, 0, none⟩))] (fun w => Strm 25 w B sb (m + 140 + 10 * j + 1 + 1)) [(g1, 66, [.slice none 0 0, .slice none 0 0, .slice none 0 0, .slice none 0 0]), (g2, 66, [.slice sA sn sc, .slice cA 4 cc, .slice (some ⟨bv, 0, none⟩) k vc, .slice pA pn pc]), (q1, 3, [.int .i64 0, .int .i64 0, .int .i64 50, .int .i64 100, .int .i64 200, .int .i64 1000])] [⟨.slice pA pn pc, 161, 3, pn, pl.flatMap plEnc⟩, ⟨.slice (some ⟨bv, 0, none⟩) k vc, 158, 2, k, vl.flatMap vhEnc⟩, ⟨.slice sA sn sc, 168, 15, sn, sl.flatMap stEnc⟩] [fun wy => SlT csEnc 2 170 wy cA 4 cl] := by
    intro q1 k2 bk20 bk21 u0 hq0
    rw [hW]
    refine wa_all [14, 17] (by kernel_rfl) rfl ⟨⟨_, rfl, ?_⟩, ⟨_, rfl, ?_⟩, trivial⟩
    ·refine wl_buildSlice (e := 9) (cs := [.string ⟨#[65, 66, 49]⟩, .string ⟨#[65, 66, 50]⟩, .string ⟨#[90, 90, 57]⟩]) rfl (by kernel_rfl) rfl fun q14 => ?_
     refine wl_nil ?_
     refine nw 19 32767 (fun _ hm => ⟨hm.bl 2, hm.bl 1, hm.fa 0, hm.ownI 0 rfl, hm.ownI 1 rfl, hm.ownI 2 rfl, trivial⟩) fun z => ?_
     have h := J32767 q1 k2 bk20 bk21 u0 hq0 q14
     rw [hW] at h
     refine wa_weak ?_ ?_ h
     ·exact ⟨rfl, rfl, rfl, rfl, rfl, rfl, rfl, rfl, rfl, trivial⟩
     exact fun _ hm => hm.pick [1, 2, 3, 0] [0, 1, 2] [0] rfl rfl
    refine wl_alloc zc161 rfl fun q17 => ?_
    refine wl_nil ?_
    refine nw 19 147455 (fun _ hm => ⟨hm.bl 2, hm.bl 1, hm.fa 0, hm.ownI 0 rfl, hm.ownI 1 rfl, hm.ownI 2 rfl, trivial⟩) fun z => ?_
    have h := T147455 q1 k2 bk20 bk21 u0 hq0 q17
    rw [hW] at h
    refine wa_weak ?_ ?_ h
    ·exact ⟨rfl, rfl, rfl, rfl, rfl, rfl, rfl, rfl, rfl, trivial⟩
    exact fun _ hm => hm.pick [1, 2, 3, 0] [0, 1, 2] [0] rfl rfl
   have T156159 : ∀ (q1 : Nat) (k2 : Int) (bk20 : 0 ≤ k2) (bk21 : k2 ≤ 1000) (q14 : Nat) (q17 : Nat), W 7 (lb 19 156159) [(0, .pointer (some ⟨sb, 0, none⟩)), (2, .pointer (some ⟨g1, 0, none⟩)), (3, .pointer (some ⟨g2, 0, none⟩)), (6, .pointer (some ⟨q17, 0, none⟩)), (49, .int .i64 ((R : Nat) : Int)), (50, .int .i64 ((j : Nat) : Int)), (58, .int .i64 k2), (60, .slice (some ⟨bv, 0, none⟩) k vc), (61, .pointer (some ⟨sb, 0, none⟩)), (64, .int .i64 ((k : Nat) : Int)), (69, .pointer (some ⟨sb, 0, none⟩)), (70, .slice (some ⟨q14, 0, none⟩) 3 3)] (fun w => Strm 25 w B sb (m + 140 + 10 * j + 1)) [(g1, 66, [.slice none 0 0, .slice none 0 0, .slice none 0 0, .slice none 0 0]), (g2, 66, [.slice sA sn sc, .slice cA 4 cc, .slice (some ⟨bv, 0, none⟩) k vc, .slice pA pn pc]), (q1, 3, [.int .i64 0, .int .i64 0, .int .i64 50, .int .i64 100, .int .i64 200, .int .i64 1000]), (q14, 9, [.string ⟨#[65, 66, 49]⟩, .string ⟨#[65, 66, 50]⟩, .string ⟨#[90, 90, 57]⟩]), (q17, 161, [.int .i64 0, .string ⟨#[]⟩, .string ⟨#[]⟩])] [⟨.slice pA pn pc, 161, 3, pn, pl.flatMap plEnc⟩, ⟨.slice (some ⟨bv, 0, none⟩) k vc, 158, 2, k, vl.flatMap vhEnc⟩, ⟨.slice sA sn sc, 168, 15, sn, sl.flatMap stEnc⟩] [fun wy => SlT csEnc 2 170 wy cA 4 cl] := by
    intro q1 k2 bk20 bk21 q14 q17
    rw [hW]
    refine wa1 9 rfl ?_
    refine wl_got (γ := Int) (val := fun v => .int .i64 v) (φ := fun v => IsBelow ((k : Nat) : Int) v) rfl cb56 rfl rfl rfl rfl (fun wx hm => (next_any _ wx B sb _ hm.k (by omega) (by omega) (by omega))) fun vj hvj => ?_
    have hj3 := isBelow_lt hvj (by omega)
    obtain ⟨j2, rfl⟩ := Int.eq_ofNat_of_zero_le hj3.1
    have hj2 : j2 < k := by omega
    obtain ⟨q, hq⟩ : ∃ q, vl[j2]? = some q := ⟨_, List.getElem?_eq_getElem (by omega)⟩
    obtain ⟨u0, u1⟩ := q
    have hqB := hvB _ (List.mem_of_getElem? hq)
    have hq0 : u0.size ≤ 1000 := hqB.1
    refine wl_nil ?_
    refine nw 19 156671 (fun _ hm => ⟨hm.bl 1, hm.bl 0, hm.fa 0, hm.ownI 0 rfl, hm.ownI 1 rfl, hm.ownI 2 rfl, trivial⟩) fun z => ?_
    refine wt 10 19 157695 rfl z (ov_index (j := j2) es63 rfl rfl (by omega)) ?_
    refine wt 11 19 159743 rfl z (ov_field fo158_0 rfl rfl) ?_
    refine wt 12 19 163839 rfl z (ov_elem1 (k := 0) (v := .string u0) sc9 rfl (fun _ hm => (SlT.ofOwn vh_len (hm.2.2.2.2.1) hvl)) hq rfl rfl) ?_
    refine wa1 15 rfl ?_
    refine wl_got (γ := ByteArray) (val := fun v => .string v) (φ := fun v => v ∈ ([⟨#[65, 66, 49]⟩, ⟨#[65, 66, 50]⟩, ⟨#[90, 90, 57]⟩] : List ByteArray)) rfl cb57 rfl rfl rfl rfl (fun wx hm => (some_any [⟨#[65, 66, 49]⟩, ⟨#[65, 66, 50]⟩, ⟨#[90, 90, 57]⟩] _ _ _ wx B sb _ hm.k (by omega) (by simp) (by simp) (hm.blkI 3 rfl) (hm.neRow 3 rfl rfl))) fun k15 hk15 => ?_
    have zk15 : k15.size ≤ 100 := mem_sz hk15 (by decide)
    refine wl_nil ?_
    refine nw 19 196607 (fun _ hm => ⟨hm.bl 1, hm.bl 0, hm.fa 0, hm.ownI 0 rfl, hm.ownI 1 rfl, hm.ownI 2 rfl, trivial⟩) fun z => ?_
    refine wt 16 19 262143 rfl z (ov_build (cs := [.int .i64 k2, .string u0, .string k15]) rfl (by kernel_rfl)) ?_
    refine wa1 18 rfl ?_
    refine wl_stores (cs' := [.int .i64 k2, .string u0, .string k15]) 4 rz161 rfl rfl rfl rfl rfl rfl rfl rfl ?_
    refine wl_nil ?_
    refine nw 19 524287 (fun _ hm => ⟨hm.bl 1, hm.bl 0, hm.fa 0, hm.ownI 0 rfl, hm.ownI 1 rfl, hm.ownI 2 rfl, trivial⟩) fun z => ?_
    refine wa_done (by kernel_rfl) ?_
    exact nx_meet (q17, k2, u0, k15) ⟨⟨by dsimp only; omega, by dsimp only; omega⟩, by dsimp only; omega, by dsimp only; omega⟩ ⟨rfl, rfl, rfl, rfl, rfl, rfl, trivial⟩ (fun _ hm => (hm.more rfl (by first | omega | (dsimp only; omega))).pick [4, 1, 0] [0, 1, 2] [0] rfl rfl)
   have J25087 : ∀ (q1 : Nat) (k2 : Int) (bk20 : 0 ≤ k2) (bk21 : k2 ≤ 1000) (q14 : Nat), W 8 (lb 19 25087) [(0, .pointer (some ⟨sb, 0, none⟩)), (2, .pointer (some ⟨g1, 0, none⟩)), (3, .pointer (some ⟨g2, 0, none⟩)), (49, .int .i64 ((R : Nat) : Int)), (50, .int .i64 ((j : Nat) : Int)), (58, .int .i64 k2), (60, .slice (some ⟨bv, 0, none⟩) k vc), (61, .pointer (some ⟨sb, 0, none⟩)), (64, .int .i64 ((k : Nat) : Int)), (69, .pointer (some ⟨sb, 0, none⟩)), (70, .slice (some ⟨q14, 0, none⟩) 3 3)] (fun w => Strm 25 w B sb (m + 140 + 10 * j + 1)) [(g1, 66, [.slice none 0 0, .slice none 0 0, .slice none 0 0, .slice none 0 0]), (g2, 66, [.slice sA sn sc, .slice cA 4 cc, .slice (some ⟨bv, 0, none⟩) k vc, .slice pA pn pc]), (q1, 3, [.int .i64 0, .int .i64 0, .int .i64 50, .int .i64 100, .int .i64 200, .int .i64 1000]), (q14, 9, [.string ⟨#[65, 66, 49]⟩, .string ⟨#[65, 66, 50]⟩, .string ⟨#[90, 90, 57]⟩])] [⟨.slice pA pn pc, 161, 3, pn, pl.flatMap plEnc⟩, ⟨.slice (some ⟨bv, 0, none⟩) k vc, 158, 2, k, vl.flatMap vhEnc⟩, ⟨.slice sA sn sc, 168, 15, sn, sl.flatMap stEnc⟩] [fun wy => SlT csEnc 2 170 wy cA 4 cl] := by
    intro q1 k2 bk20 bk21 q14
    rw [hW]
    refine wa_all [9, 17] (by kernel_rfl) rfl ⟨⟨_, rfl, ?_⟩, ⟨_, rfl, ?_⟩, trivial⟩
    ·refine wl_got (γ := Int) (val := fun v => .int .i64 v) (φ := fun v => IsBelow ((k : Nat) : Int) v) rfl cb56 rfl rfl rfl rfl (fun wx hm => (next_any _ wx B sb _ hm.k (by omega) (by omega) (by omega))) fun vj hvj => ?_
     have hj3 := isBelow_lt hvj (by omega)
     obtain ⟨j2, rfl⟩ := Int.eq_ofNat_of_zero_le hj3.1
     have hj2 : j2 < k := by omega
     obtain ⟨q, hq⟩ : ∃ q, vl[j2]? = some q := ⟨_, List.getElem?_eq_getElem (by omega)⟩
     obtain ⟨u0, u1⟩ := q
     have hqB := hvB _ (List.mem_of_getElem? hq)
     have hq0 : u0.size ≤ 1000 := hqB.1
     refine wl_nil ?_
     refine nw 19 25599 (fun _ hm => ⟨hm.bl 1, hm.bl 0, hm.fa 0, hm.ownI 0 rfl, hm.ownI 1 rfl, hm.ownI 2 rfl, trivial⟩) fun z => ?_
     refine wt 10 19 26623 rfl z (ov_index (j := j2) es63 rfl rfl (by omega)) ?_
     refine wt 11 19 28671 rfl z (ov_field fo158_0 rfl rfl) ?_
     refine wt 12 19 32767 rfl z (ov_elem1 (k := 0) (v := .string u0) sc9 rfl (fun _ hm => (SlT.ofOwn vh_len (hm.2.2.2.2.1) hvl)) hq rfl rfl) ?_
     have h := J32767 q1 k2 bk20 bk21 u0 hq0 q14
     rw [hW] at h
     refine wa_weak ?_ ?_ h
     ·exact ⟨rfl, rfl, rfl, rfl, rfl, rfl, rfl, rfl, rfl, trivial⟩
     exact fun _ hm => hm.pick [0, 1, 2, 3] [0, 1, 2] [0] rfl rfl
    refine wl_alloc zc161 rfl fun q17 => ?_
    refine wl_nil ?_
    refine nw 19 156159 (fun _ hm => ⟨hm.bl 2, hm.bl 1, hm.fa 0, hm.ownI 0 rfl, hm.ownI 1 rfl, hm.ownI 2 rfl, trivial⟩) fun z => ?_
    have h := T156159 q1 k2 bk20 bk21 q14 q17
    rw [hW] at h
    refine wa_weak ?_ ?_ h
    ·exact ⟨rfl, rfl, rfl, rfl, rfl, rfl, rfl, rfl, rfl, rfl, rfl, rfl, trivial⟩
    exact fun _ hm => hm.pick [1, 2, 3, 4, 0] [0, 1, 2] [0] rfl rfl
   have J139775 : ∀ (q1 : Nat) (k2 : Int) (bk20 : 0 ≤ k2) (bk21 : k2 ≤ 1000) (q17 : Nat), W 8 (lb 19 139775) [(0, .pointer (some ⟨sb, 0, none⟩)), (2, .pointer (some ⟨g1, 0, none⟩)), (3, .pointer (some ⟨g2, 0, none⟩)), (6, .pointer (some ⟨q17, 0, none⟩)), (49, .int .i64 ((R : Nat) : Int)), (50, .int .i64 ((j : Nat) : Int)), (58, .int .i64 k2), (60, .slice (some ⟨bv, 0, none⟩) k vc), (61, .pointer (some ⟨sb, 0, none⟩)), (64, .int .i64 ((k : Nat) : Int)), (69, .pointer (some ⟨sb, 0, none⟩))] (fun w => Strm 25 w B sb (m + 140 + 10 * j + 1)) [(g1, 66, [.slice none 0 0, .slice none 0 0, .slice none 0 0, .slice none 0 0]), (g2, 66, [.slice sA sn sc, .slice cA 4 cc, .slice (some ⟨bv, 0, none⟩) k vc, .slice pA pn pc]), (q1, 3, [.int .i64 0, .int .i64 0, .int .i64 50, .int .i64 100, .int .i64 200, .int .i64 1000]), (q17, 161, [.int .i64 0, .string ⟨#[]⟩, .string ⟨#[]⟩])] [⟨.slice pA pn pc, 161, 3, pn, pl.flatMap plEnc⟩, ⟨.slice (some ⟨bv, 0, none⟩) k vc, 158, 2, k, vl.flatMap vhEnc⟩, ⟨.slice sA sn sc, 168, 15, sn, sl.flatMap stEnc⟩] [fun wy => SlT csEnc 2 170 wy cA 4 cl] := by
    intro q1 k2 bk20 bk21 q17
    rw [hW]
    refine wa_all [9, 14] (by kernel_rfl) rfl ⟨⟨_, rfl, ?_⟩, ⟨_, rfl, ?_⟩, trivial⟩
    ·refine wl_got (γ := Int) (val := fun v => .int .i64 v) (φ := fun v => IsBelow ((k : Nat) : Int) v) rfl cb56 rfl rfl rfl rfl (fun wx hm => (next_any _ wx B sb _ hm.k (by omega) (by omega) (by omega))) fun vj hvj => ?_
     have hj3 := isBelow_lt hvj (by omega)
     obtain ⟨j2, rfl⟩ := Int.eq_ofNat_of_zero_le hj3.1
     have hj2 : j2 < k := by omega
     obtain ⟨q, hq⟩ : ∃ q, vl[j2]? = some q := ⟨_, List.getElem?_eq_getElem (by omega)⟩
     obtain ⟨u0, u1⟩ := q
     have hqB := hvB _ (List.mem_of_getElem? hq)
     have hq0 : u0.size ≤ 1000 := hqB.1
     refine wl_nil ?_
     refine nw 19 140287 (fun _ hm => ⟨hm.bl 1, hm.bl 0, hm.fa 0, hm.ownI 0 rfl, hm.ownI 1 rfl, hm.ownI 2 rfl, trivial⟩) fun z => ?_
     refine wt 10 19 141311 rfl z (ov_index (j := j2) es63 rfl rfl (by omega)) ?_
     refine wt 11 19 143359 rfl z (ov_field fo158_0 rfl rfl) ?_
     refine wt 12 19 147455 rfl z (ov_elem1 (k := 0) (v := .string u0) sc9 rfl (fun _ hm => (SlT.ofOwn vh_len (hm.2.2.2.2.1) hvl)) hq rfl rfl) ?_
     have h := T147455 q1 k2 bk20 bk21 u0 hq0 q17
     rw [hW] at h
     refine wa_weak ?_ ?_ h
     ·exact ⟨rfl, rfl, rfl, rfl, rfl, rfl, rfl, rfl, rfl, trivial⟩
     exact fun _ hm => hm.pick [0, 1, 2, 3] [0, 1, 2] [0] rfl rfl
    refine wl_buildSlice (e := 9) (cs := [.string ⟨#[65, 66, 49]⟩, .string ⟨#[65, 66, 50]⟩, .string ⟨#[90, 90, 57]⟩]) rfl (by kernel_rfl) rfl fun q14 => ?_
    refine wl_nil ?_
    refine nw 19 156159 (fun _ hm => ⟨hm.bl 2, hm.bl 1, hm.fa 0, hm.ownI 0 rfl, hm.ownI 1 rfl, hm.ownI 2 rfl, trivial⟩) fun z => ?_
    have h := T156159 q1 k2 bk20 bk21 q14 q17
    rw [hW] at h
    refine wa_weak ?_ ?_ h
    ·exact ⟨rfl, rfl, rfl, rfl, rfl, rfl, rfl, rfl, rfl, rfl, rfl, rfl, trivial⟩
    exact fun _ hm => hm.pick [1, 2, 3, 0, 4] [0, 1, 2] [0] rfl rfl
   have J8703 : ∀ (q1 : Nat) (k2 : Int) (bk20 : 0 ≤ k2) (bk21 : k2 ≤ 1000), W 9 (lb 19 8703) [(0, .pointer (some ⟨sb, 0, none⟩)), (2, .pointer (some ⟨g1, 0, none⟩)), (3, .pointer (some ⟨g2, 0, none⟩)), (49, .int .i64 ((R : Nat) : Int)), (50, .int .i64 ((j : Nat) : Int)), (58, .int .i64 k2), (60, .slice (some ⟨bv, 0, none⟩) k vc), (61, .pointer (some ⟨sb, 0, none⟩)), (64, .int .i64 ((k : Nat) : Int)), (69, .pointer (some ⟨sb, 0, none⟩))] (fun w => Strm 25 w B sb (m + 140 + 10 * j + 1)) [(g1, 66, [.slice none 0 0, .slice none 0 0, .slice none 0 0, .slice none 0 0]), (g2, 66, [.slice sA sn sc, .slice cA 4 cc, .slice (some ⟨bv, 0, none⟩) k vc, .slice pA pn pc]), (q1, 3, [.int .i64 0, .int .i64 0, .int .i64 50, .int .i64 100, .int .i64 200, .int .i64 1000])] [⟨.slice pA pn pc, 161, 3, pn, pl.flatMap plEnc⟩, ⟨.slice (some ⟨bv, 0, none⟩) k vc, 158, 2, k, vl.flatMap vhEnc⟩, ⟨.slice sA sn sc, 168, 15, sn, sl.flatMap stEnc⟩] [fun wy => SlT csEnc 2 170 wy cA 4 cl] := by
    intro q1 k2 bk20 bk21
    rw [hW]
    refine wa_all [9, 14, 17] (by kernel_rfl) rfl ⟨⟨_, rfl, ?_⟩, ⟨_, rfl, ?_⟩, ⟨_, rfl, ?_⟩, trivial⟩
    ·refine wl_got (γ := Int) (val := fun v => .int .i64 v) (φ := fun v => IsBelow ((k : Nat) : Int) v) rfl cb56 rfl rfl rfl rfl (fun wx hm => (next_any _ wx B sb _ hm.k (by omega) (by omega) (by omega))) fun vj hvj => ?_
     have hj3 := isBelow_lt hvj (by omega)
     obtain ⟨j2, rfl⟩ := Int.eq_ofNat_of_zero_le hj3.1
     have hj2 : j2 < k := by omega
     obtain ⟨q, hq⟩ : ∃ q, vl[j2]? = some q := ⟨_, List.getElem?_eq_getElem (by omega)⟩
     obtain ⟨u0, u1⟩ := q
     have hqB := hvB _ (List.mem_of_getElem? hq)
     have hq0 : u0.size ≤ 1000 := hqB.1
     refine wl_nil ?_
     refine nw 19 9215 (fun _ hm => ⟨hm.bl 1, hm.bl 0, hm.fa 0, hm.ownI 0 rfl, hm.ownI 1 rfl, hm.ownI 2 rfl, trivial⟩) fun z => ?_
     refine wt 10 19 10239 rfl z (ov_index (j := j2) es63 rfl rfl (by omega)) ?_
     refine wt 11 19 12287 rfl z (ov_field fo158_0 rfl rfl) ?_
     refine wt 12 19 16383 rfl z (ov_elem1 (k := 0) (v := .string u0) sc9 rfl (fun _ hm => (SlT.ofOwn vh_len (hm.2.2.2.2.1) hvl)) hq rfl rfl) ?_
     have h := J16383 q1 k2 bk20 bk21 u0 hq0
     rw [hW] at h
     refine wa_weak ?_ ?_ h
     ·exact ⟨rfl, rfl, rfl, rfl, rfl, rfl, rfl, rfl, trivial⟩
     exact fun _ hm => hm.pick [0, 1, 2] [0, 1, 2] [0] rfl rfl
    ·refine wl_buildSlice (e := 9) (cs := [.string ⟨#[65, 66, 49]⟩, .string ⟨#[65, 66, 50]⟩, .string ⟨#[90, 90, 57]⟩]) rfl (by kernel_rfl) rfl fun q14 => ?_
     refine wl_nil ?_
     refine nw 19 25087 (fun _ hm => ⟨hm.bl 2, hm.bl 1, hm.fa 0, hm.ownI 0 rfl, hm.ownI 1 rfl, hm.ownI 2 rfl, trivial⟩) fun z => ?_
     have h := J25087 q1 k2 bk20 bk21 q14
     rw [hW] at h
     refine wa_weak ?_ ?_ h
     ·exact ⟨rfl, rfl, rfl, rfl, rfl, rfl, rfl, rfl, rfl, rfl, rfl, trivial⟩
     exact fun _ hm => hm.pick [1, 2, 3, 0] [0, 1, 2] [0] rfl rfl
    refine wl_alloc zc161 rfl fun q17 => ?_
    refine wl_nil ?_
    refine nw 19 139775 (fun _ hm => ⟨hm.bl 2, hm.bl 1, hm.fa 0, hm.ownI 0 rfl, hm.ownI 1 rfl, hm.ownI 2 rfl, trivial⟩) fun z => ?_
    have h := J139775 q1 k2 bk20 bk21 q17
    rw [hW] at h
    refine wa_weak ?_ ?_ h
    ·exact ⟨rfl, rfl, rfl, rfl, rfl, rfl, rfl, rfl, rfl, rfl, rfl, trivial⟩
    exact fun _ hm => hm.pick [1, 2, 3, 0] [0, 1, 2] [0] rfl rfl
   have T156155 : ∀ (q1 : Nat) (q14 : Nat) (q17 : Nat), W 8 (lb 19 156155) [(0, .pointer (some ⟨sb, 0, none⟩)), (2, .pointer (some ⟨g1, 0, none⟩)), (3, .pointer (some ⟨g2, 0, none⟩)), (6, .pointer (some ⟨q17, 0, none⟩)), (49, .int .i64 ((R : Nat) : Int)), (50, .int .i64 ((j : Nat) : Int)), (56, .pointer (some ⟨sb, 0, none⟩)), (57, .slice (some ⟨q1, 0, none⟩) 6 6), (60, .slice (some ⟨bv, 0, none⟩) k vc), (61, .pointer (some ⟨sb, 0, none⟩)), (64, .int .i64 ((k : Nat) : Int)), (69, .pointer (some ⟨sb, 0, none⟩)), (70, .slice (some ⟨q14, 0, none⟩) 3 3)] (fun w => Strm 25 w B sb (m + 140 + 10 * j)) [(g1, 66, [.slice none 0 0, .slice none 0 0, .slice none 0 0, .slice none 0 0]), (g2, 66, [.slice sA sn sc, .slice cA 4 cc, .slice (some ⟨bv, 0, none⟩) k vc, .slice pA pn pc]), (q1, 3, [.int .i64 0, .int .i64 0, .int .i64 50, .int .i64 100, .int .i64 200, .int .i64 1000]), (q14, 9, [.string ⟨#[65, 66, 49]⟩, .string ⟨#[65, 66, 50]⟩, .string ⟨#[90, 90, 57]⟩]), (q17, 161, [.int .i64 0, .string ⟨#[]⟩, .string ⟨#[]⟩])] [⟨.slice pA pn pc, 161, 3, pn, pl.flatMap plEnc⟩, ⟨.slice (some ⟨bv, 0, none⟩) k vc, 158, 2, k, vl.flatMap vhEnc⟩, ⟨.slice sA sn sc, 168, 15, sn, sl.flatMap stEnc⟩] [fun wy => SlT csEnc 2 170 wy cA 4 cl] := by
    intro q1 q14 q17
    rw [hW]
    refine wa1 2 rfl ?_
    refine wl_got (γ := Int) (val := fun v => .int .i64 v) (φ := fun v => v ∈ ([0, 0, 50, 100, 200, 1000] : List Int)) rfl cb34 rfl rfl rfl rfl (fun wx hm => (pick_any [0, 0, 50, 100, 200, 1000] _ _ _ wx B sb _ hm.k (by omega) (by simp) (by simp) (hm.blkI 2 rfl) (hm.neRow 2 rfl rfl))) fun k2 hk2 => ?_
    have bk2 : 0 ≤ k2 ∧ k2 ≤ 1000 := mem_rng hk2 (by decide)
    have bk20 := bk2.1
    have bk21 := bk2.2
    clear bk2
    refine wl_nil ?_
    refine nw 19 156159 (fun _ hm => ⟨hm.bl 1, hm.bl 0, hm.fa 0, hm.ownI 0 rfl, hm.ownI 1 rfl, hm.ownI 2 rfl, trivial⟩) fun z => ?_
    refine wa1 9 rfl ?_
    refine wl_got (γ := Int) (val := fun v => .int .i64 v) (φ := fun v => IsBelow ((k : Nat) : Int) v) rfl cb56 rfl rfl rfl rfl (fun wx hm => (next_any _ wx B sb _ hm.k (by omega) (by omega) (by omega))) fun vj hvj => ?_
    have hj3 := isBelow_lt hvj (by omega)
    obtain ⟨j2, rfl⟩ := Int.eq_ofNat_of_zero_le hj3.1
    have hj2 : j2 < k := by omega
    obtain ⟨q, hq⟩ : ∃ q, vl[j2]? = some q := ⟨_, List.getElem?_eq_getElem (by omega)⟩
    obtain ⟨u0, u1⟩ := q
    have hqB := hvB _ (List.mem_of_getElem? hq)
    have hq0 : u0.size ≤ 1000 := hqB.1
    refine wl_nil ?_
    refine nw 19 156671 (fun _ hm => ⟨hm.bl 1, hm.bl 0, hm.fa 0, hm.ownI 0 rfl, hm.ownI 1 rfl, hm.ownI 2 rfl, trivial⟩) fun z => ?_
    refine wt 10 19 157695 rfl z (ov_index (j := j2) es63 rfl rfl (by omega)) ?_
    refine wt 11 19 159743 rfl z (ov_field fo158_0 rfl rfl) ?_
    refine wt 12 19 163839 rfl z (ov_elem1 (k := 0) (v := .string u0) sc9 rfl (fun _ hm => (SlT.ofOwn vh_len (hm.2.2.2.2.1) hvl)) hq rfl rfl) ?_
    refine wa1 15 rfl ?_
    refine wl_got (γ := ByteArray) (val := fun v => .string v) (φ := fun v => v ∈ ([⟨#[65, 66, 49]⟩, ⟨#[65, 66, 50]⟩, ⟨#[90, 90, 57]⟩] : List ByteArray)) rfl cb57 rfl rfl rfl rfl (fun wx hm => (some_any [⟨#[65, 66, 49]⟩, ⟨#[65, 66, 50]⟩, ⟨#[90, 90, 57]⟩] _ _ _ wx B sb _ hm.k (by omega) (by simp) (by simp) (hm.blkI 3 rfl) (hm.neRow 3 rfl rfl))) fun k15 hk15 => ?_
    have zk15 : k15.size ≤ 100 := mem_sz hk15 (by decide)
    refine wl_nil ?_
    refine nw 19 196607 (fun _ hm => ⟨hm.bl 1, hm.bl 0, hm.fa 0, hm.ownI 0 rfl, hm.ownI 1 rfl, hm.ownI 2 rfl, trivial⟩) fun z => ?_
    refine wt 16 19 262143 rfl z (ov_build (cs := [.int .i64 k2, .string u0, .string k15]) rfl (by kernel_rfl)) ?_
    refine wa1 18 rfl ?_
    refine wl_stores (cs' := [.int .i64 k2, .string u0, .string k15]) 4 rz161 rfl rfl rfl rfl rfl rfl rfl rfl ?_
    refine wl_nil ?_
    refine nw 19 524287 (fun _ hm => ⟨hm.bl 1, hm.bl 0, hm.fa 0, hm.ownI 0 rfl, hm.ownI 1 rfl, hm.ownI 2 rfl, trivial⟩) fun z => ?_
    refine wa_done (by kernel_rfl) ?_
    exact nx_meet (q17, k2, u0, k15) ⟨⟨by dsimp only; omega, by dsimp only; omega⟩, by dsimp only; omega, by dsimp only; omega⟩ ⟨rfl, rfl, rfl, rfl, rfl, rfl, trivial⟩ (fun _ hm => (hm.more rfl (by first | omega | (dsimp only; omega))).pick [4, 1, 0] [0, 1, 2] [0] rfl rfl)
   have J25083 : ∀ (q1 : Nat) (q14 : Nat), W 9 (lb 19 25083) [(0, .pointer (some ⟨sb, 0, none⟩)), (2, .pointer (some ⟨g1, 0, none⟩)), (3, .pointer (some ⟨g2, 0, none⟩)), (49, .int .i64 ((R : Nat) : Int)), (50, .int .i64 ((j : Nat) : Int)), (56, .pointer (some ⟨sb, 0, none⟩)), (57, .slice (some ⟨q1, 0, none⟩) 6 6), (60, .slice (some ⟨bv, 0, none⟩) k vc), (61, .pointer (some ⟨sb, 0, none⟩)), (64, .int .i64 ((k : Nat) : Int)), (69, .pointer (some ⟨sb, 0, none⟩)), (70, .slice (some ⟨q14, 0, none⟩) 3 3)] (fun w => Strm 25 w B sb (m + 140 + 10 * j)) [(g1, 66, [.slice none 0 0, .slice none 0 0, .slice none 0 0, .slice none 0 0]), (g2, 66, [.slice sA sn sc, .slice cA 4 cc, .slice (some ⟨bv, 0, none⟩) k vc, .slice pA pn pc]), (q1, 3, [.int .i64 0, .int .i64 0, .int .i64 50, .int .i64 100, .int .i64 200, .int .i64 1000]), (q14, 9, [.string ⟨#[65, 66, 49]⟩, .string ⟨#[65, 66, 50]⟩, .string ⟨#[90, 90, 57]⟩])] [⟨.slice pA pn pc, 161, 3, pn, pl.flatMap plEnc⟩, ⟨.slice (some ⟨bv, 0, none⟩) k vc, 158, 2, k, vl.flatMap vhEnc⟩, ⟨.slice sA sn sc, 168, 15, sn, sl.flatMap stEnc⟩] [fun wy => SlT csEnc 2 170 wy cA 4 cl] := by
    intro q1 q14
    rw [hW]
    refine wa_all [2, 17] (by kernel_rfl) rfl ⟨⟨_, rfl, ?_⟩, ⟨_, rfl, ?_⟩, trivial⟩
    ·refine wl_got (γ := Int) (val := fun v => .int .i64 v) (φ := fun v => v ∈ ([0, 0, 50, 100, 200, 1000] : List Int)) rfl cb34 rfl rfl rfl rfl (fun wx hm => (pick_any [0, 0, 50, 100, 200, 1000] _ _ _ wx B sb _ hm.k (by omega) (by simp) (by simp) (hm.blkI 2 rfl) (hm.neRow 2 rfl rfl))) fun k2 hk2 => ?_
     have bk2 : 0 ≤ k2 ∧ k2 ≤ 1000 := mem_rng hk2 (by decide)
     have bk20 := bk2.1
     have bk21 := bk2.2
     clear bk2
     refine wl_nil ?_
     refine nw 19 25087 (fun _ hm => ⟨hm.bl 1, hm.bl 0, hm.fa 0, hm.ownI 0 rfl, hm.ownI 1 rfl, hm.ownI 2 rfl, trivial⟩) fun z => ?_
     have h := J25087 q1 k2 bk20 bk21 q14
     rw [hW] at h
     refine wa_weak ?_ ?_ h
     ·exact ⟨rfl, rfl, rfl, rfl, rfl, rfl, rfl, rfl, rfl, rfl, rfl, trivial⟩
     exact fun _ hm => hm.pick [0, 1, 2, 3] [0, 1, 2] [0] rfl rfl
    refine wl_alloc zc161 rfl fun q17 => ?_
    refine wl_nil ?_
    refine nw 19 156155 (fun _ hm => ⟨hm.bl 2, hm.bl 1, hm.fa 0, hm.ownI 0 rfl, hm.ownI 1 rfl, hm.ownI 2 rfl, trivial⟩) fun z => ?_
    have h := T156155 q1 q14 q17
    rw [hW] at h
    refine wa_weak ?_ ?_ h
    ·exact ⟨rfl, rfl, rfl, rfl, rfl, rfl, rfl, rfl, rfl, rfl, rfl, rfl, rfl, trivial⟩
    exact fun _ hm => hm.pick [1, 2, 3, 4, 0] [0, 1, 2] [0] rfl rfl
   have J139771 : ∀ (q1 : Nat) (q17 : Nat), W 9 (lb 19 139771) [(0, .pointer (some ⟨sb, 0, none⟩)), (2, .pointer (some ⟨g1, 0, none⟩)), (3, .pointer (some ⟨g2, 0, none⟩)), (6, .pointer (some ⟨q17, 0, none⟩)), (49, .int .i64 ((R : Nat) : Int)), (50, .int .i64 ((j : Nat) : Int)), (56, .pointer (some ⟨sb, 0, none⟩)), (57, .slice (some ⟨q1, 0, none⟩) 6 6), (60, .slice (some ⟨bv, 0, none⟩) k vc), (61, .pointer (some ⟨sb, 0, none⟩)), (64, .int .i64 ((k : Nat) : Int)), (69, .pointer (some ⟨sb, 0, none⟩))] (fun w => Strm 25 w B sb (m + 140 + 10 * j)) [(g1, 66, [.slice none 0 0, .slice none 0 0, .slice none 0 0, .slice none 0 0]), (g2, 66, [.slice sA sn sc, .slice cA 4 cc, .slice (some ⟨bv, 0, none⟩) k vc, .slice pA pn pc]), (q1, 3, [.int .i64 0, .int .i64 0, .int .i64 50, .int .i64 100, .int .i64 200, .int .i64 1000]), (q17, 161, [.int .i64 0, .string ⟨#[]⟩, .string ⟨#[]⟩])] [⟨.slice pA pn pc, 161, 3, pn, pl.flatMap plEnc⟩, ⟨.slice (some ⟨bv, 0, none⟩) k vc, 158, 2, k, vl.flatMap vhEnc⟩, ⟨.slice sA sn sc, 168, 15, sn, sl.flatMap stEnc⟩] [fun wy => SlT csEnc 2 170 wy cA 4 cl] := by
    intro q1 q17
    rw [hW]
    refine wa_all [2, 14] (by kernel_rfl) rfl ⟨⟨_, rfl, ?_⟩, ⟨_, rfl, ?_⟩, trivial⟩
    ·refine wl_got (γ := Int) (val := fun v => .int .i64 v) (φ := fun v => v ∈ ([0, 0, 50, 100, 200, 1000] : List Int)) rfl cb34 rfl rfl rfl rfl (fun wx hm => (pick_any [0, 0, 50, 100, 200, 1000] _ _ _ wx B sb _ hm.k (by omega) (by simp) (by simp) (hm.blkI 2 rfl) (hm.neRow 2 rfl rfl))) fun k2 hk2 => ?_
     have bk2 : 0 ≤ k2 ∧ k2 ≤ 1000 := mem_rng hk2 (by decide)
     have bk20 := bk2.1
     have bk21 := bk2.2
     clear bk2
     refine wl_nil ?_
     refine nw 19 139775 (fun _ hm => ⟨hm.bl 1, hm.bl 0, hm.fa 0, hm.ownI 0 rfl, hm.ownI 1 rfl, hm.ownI 2 rfl, trivial⟩) fun z => ?_
     have h := J139775 q1 k2 bk20 bk21 q17
     rw [hW] at h
     refine wa_weak ?_ ?_ h
     ·exact ⟨rfl, rfl, rfl, rfl, rfl, rfl, rfl, rfl, rfl, rfl, rfl, trivial⟩
     exact fun _ hm => hm.pick [0, 1, 2, 3] [0, 1, 2] [0] rfl rfl
    refine wl_buildSlice (e := 9) (cs := [.string ⟨#[65, 66, 49]⟩, .string ⟨#[65, 66, 50]⟩, .string ⟨#[90, 90, 57]⟩]) rfl (by kernel_rfl) rfl fun q14 => ?_
    refine wl_nil ?_
    refine nw 19 156155 (fun _ hm => ⟨hm.bl 2, hm.bl 1, hm.fa 0, hm.ownI 0 rfl, hm.ownI 1 rfl, hm.ownI 2 rfl, trivial⟩) fun z => ?_
    have h := T156155 q1 q14 q17
    rw [hW] at h
    refine wa_weak ?_ ?_ h
    ·exact ⟨rfl, rfl, rfl, rfl, rfl, rfl, rfl, rfl, rfl, rfl, rfl, rfl, rfl, trivial⟩
    exact fun _ hm => hm.pick [1, 2, 3, 0, 4] [0, 1, 2] [0] rfl rfl
   have J8699 : ∀ (q1 : Nat), W 10 (lb 19 8699) [(0, .pointer (some ⟨sb, 0, none⟩)), (2, .pointer (some ⟨g1, 0, none⟩)), (3, .pointer (some ⟨g2, 0, none⟩)), (49, .int .i64 ((R : Nat) : Int)), (50, .int .i64 ((j : Nat) : Int)), (56, .pointer (some ⟨sb, 0, none⟩)), (57, .slice (some ⟨q1, 0, none⟩) 6 6), (60, .slice (some ⟨bv, 0, none⟩) k vc), (61, .pointer (some ⟨sb, 0, none⟩)), (64, .int .i64 ((k : Nat) : Int)), (69, .pointer (some ⟨sb, 0, none⟩))] (fun w => Strm 25 w B sb (m + 140 + 10 * j)) [(g1, 66, [.slice none 0 0, .slice none 0 0, .slice none 0 0, .slice none 0 0]), (g2, 66, [.slice sA sn sc, .slice cA 4 cc, .slice (some ⟨bv, 0, none⟩) k vc, .slice pA pn pc]), (q1, 3, [.int .i64 0, .int .i64 0, .int .i64 50, .int .i64 100, .int .i64 200, .int .i64 1000])] [⟨.slice pA pn pc, 161, 3, pn, pl.flatMap plEnc⟩, ⟨.slice (some ⟨bv, 0, none⟩) k vc, 158, 2, k, vl.flatMap vhEnc⟩, ⟨.slice sA sn sc, 168, 15, sn, sl.flatMap stEnc⟩] [fun wy => SlT csEnc 2 170 wy cA 4 cl] := by
    intro q1
    rw [hW]
    refine wa_all [2, 14, 17] (by kernel_rfl) rfl ⟨⟨_, rfl, ?_⟩, ⟨_, rfl, ?_⟩, ⟨_, rfl, ?_⟩, trivial⟩
    ·refine wl_got (γ := Int) (val := fun v => .int .i64 v) (φ := fun v => v ∈ ([0, 0, 50, 100, 200, 1000] : List Int)) rfl cb34 rfl rfl rfl rfl (fun wx hm => (pick_any [0, 0, 50, 100, 200, 1000] _ _ _ wx B sb _ hm.k (by omega) (by simp) (by simp) (hm.blkI 2 rfl) (hm.neRow 2 rfl rfl))) fun k2 hk2 => ?_
     have bk2 : 0 ≤ k2 ∧ k2 ≤ 1000 := mem_rng hk2 (by decide)
     have bk20 := bk2.1
     have bk21 := bk2.2
     clear bk2
     refine wl_nil ?_
     refine nw 19 8703 (fun _ hm => ⟨hm.bl 1, hm.bl 0, hm.fa 0, hm.ownI 0 rfl, hm.ownI 1 rfl, hm.ownI 2 rfl, trivial⟩) fun z => ?_
     have h := J8703 q1 k2 bk20 bk21
     rw [hW] at h
     refine wa_weak ?_ ?_ h
     ·exact ⟨rfl, rfl, rfl, rfl, rfl, rfl, rfl, rfl, rfl, rfl, trivial⟩
     exact fun _ hm => hm.pick [0, 1, 2] [0, 1, 2] [0] rfl rfl
    ·refine wl_buildSlice (e := 9) (cs := [.string ⟨#[65, 66, 49]⟩, .string ⟨#[65, 66, 50]⟩, .string ⟨#[90, 90, 57]⟩]) rfl (by kernel_rfl) rfl fun q14 => ?_
     refine wl_nil ?_
     refine nw 19 25083 (fun _ hm => ⟨hm.bl 2, hm.bl 1, hm.fa 0, hm.ownI 0 rfl, hm.ownI 1 rfl, hm.ownI 2 rfl, trivial⟩) fun z => ?_
     have h := J25083 q1 q14
     rw [hW] at h
     refine wa_weak ?_ ?_ h
     ·exact ⟨rfl, rfl, rfl, rfl, rfl, rfl, rfl, rfl, rfl, rfl, rfl, rfl, trivial⟩
     exact fun _ hm => hm.pick [1, 2, 3, 0] [0, 1, 2] [0] rfl rfl
    refine wl_alloc zc161 rfl fun q17 => ?_
    refine wl_nil ?_
    refine nw 19 139771 (fun _ hm => ⟨hm.bl 2, hm.bl 1, hm.fa 0, hm.ownI 0 rfl, hm.ownI 1 rfl, hm.ownI 2 rfl, trivial⟩) fun z => ?_
    have h := J139771 q1 q17
    rw [hW] at h
    refine wa_weak ?_ ?_ h
    ·exact ⟨rfl, rfl, rfl, rfl, rfl, rfl, rfl, rfl, rfl, rfl, rfl, rfl, trivial⟩
    exact fun _ hm => hm.pick [1, 2, 3, 0] [0, 1, 2] [0] rfl rfl
   have T156153 : ∀ (q14 : Nat) (q17 : Nat), W 9 (lb 19 156153) [(0, .pointer (some ⟨sb, 0, none⟩)), (2, .pointer (some ⟨g1, 0, none⟩)), (3, .pointer (some ⟨g2, 0, none⟩)), (6, .pointer (some ⟨q17, 0, none⟩)), (49, .int .i64 ((R : Nat) : Int)), (50, .int .i64 ((j : Nat) : Int)), (56, .pointer (some ⟨sb, 0, none⟩)), (60, .slice (some ⟨bv, 0, none⟩) k vc), (61, .pointer (some ⟨sb, 0, none⟩)), (64, .int .i64 ((k : Nat) : Int)), (69, .pointer (some ⟨sb, 0, none⟩)), (70, .slice (some ⟨q14, 0, none⟩) 3 3)] (fun w => Strm 25 w B sb (m + 140 + 10 * j)) [(g1, 66, [.slice none 0 0, .slice none 0 0, .slice none 0 0, .slice none 0 0]), (g2, 66, [.slice sA sn sc, .slice cA 4 cc, .slice (some ⟨bv, 0, none⟩) k vc, .slice pA pn pc]), (q14, 9, [.string ⟨#[65, 66, 49]⟩, .string ⟨#[65, 66, 50]⟩, .string ⟨#[90, 90, 57]⟩]), (q17, 161, [.int .i64 0, .string ⟨#[]⟩, .string ⟨#[]⟩])] [⟨.slice pA pn pc, 161, 3, pn, pl.flatMap plEnc⟩, ⟨.slice (some ⟨bv, 0, none⟩) k vc, 158, 2, k, vl.flatMap vhEnc⟩, ⟨.slice sA sn sc, 168, 15, sn, sl.flatMap stEnc⟩] [fun wy => SlT csEnc 2 170 wy cA 4 cl] := by
    intro q14 q17
    rw [hW]
    refine wa1 1 rfl ?_
    refine wl_buildSlice (e := 3) (cs := [.int .i64 0, .int .i64 0, .int .i64 50, .int .i64 100, .int .i64 200, .int .i64 1000]) rfl (by kernel_rfl) rfl fun g13 => ?_
    refine wl_nil ?_
    refine nw 19 156155 (fun _ hm => ⟨hm.bl 2, hm.bl 1, hm.fa 0, hm.ownI 0 rfl, hm.ownI 1 rfl, hm.ownI 2 rfl, trivial⟩) fun z => ?_
    refine wa1 2 rfl ?_
    refine wl_got (γ := Int) (val := fun v => .int .i64 v) (φ := fun v => v ∈ ([0, 0, 50, 100, 200, 1000] : List Int)) rfl cb34 rfl rfl rfl rfl (fun wx hm => (pick_any [0, 0, 50, 100, 200, 1000] _ _ _ wx B sb _ hm.k (by omega) (by simp) (by simp) (hm.blkI 0 rfl) (hm.neRow 0 rfl rfl))) fun k2 hk2 => ?_
    have bk2 : 0 ≤ k2 ∧ k2 ≤ 1000 := mem_rng hk2 (by decide)
    have bk20 := bk2.1
    have bk21 := bk2.2
    clear bk2
    refine wl_nil ?_
    refine nw 19 156159 (fun _ hm => ⟨hm.bl 2, hm.bl 1, hm.fa 0, hm.ownI 0 rfl, hm.ownI 1 rfl, hm.ownI 2 rfl, trivial⟩) fun z => ?_
    refine wa1 9 rfl ?_
    refine wl_got (γ := Int) (val := fun v => .int .i64 v) (φ := fun v => IsBelow ((k : Nat) : Int) v) rfl cb56 rfl rfl rfl rfl (fun wx hm => (next_any _ wx B sb _ hm.k (by omega) (by omega) (by omega))) fun vj hvj => ?_
    have hj3 := isBelow_lt hvj (by omega)
    obtain ⟨j2, rfl⟩ := Int.eq_ofNat_of_zero_le hj3.1
    have hj2 : j2 < k := by omega
    obtain ⟨q, hq⟩ : ∃ q, vl[j2]? = some q := ⟨_, List.getElem?_eq_getElem (by omega)⟩
    obtain ⟨u0, u1⟩ := q
    have hqB := hvB _ (List.mem_of_getElem? hq)
    have hq0 : u0.size ≤ 1000 := hqB.1
    refine wl_nil ?_
    refine nw 19 156671 (fun _ hm => ⟨hm.bl 2, hm.bl 1, hm.fa 0, hm.ownI 0 rfl, hm.ownI 1 rfl, hm.ownI 2 rfl, trivial⟩) fun z => ?_
    refine wt 10 19 157695 rfl z (ov_index (j := j2) es63 rfl rfl (by omega)) ?_
    refine wt 11 19 159743 rfl z (ov_field fo158_0 rfl rfl) ?_
    refine wt 12 19 163839 rfl z (ov_elem1 (k := 0) (v := .string u0) sc9 rfl (fun _ hm => (SlT.ofOwn vh_len (hm.2.2.2.2.1) hvl)) hq rfl rfl) ?_
    refine wa1 15 rfl ?_
    refine wl_got (γ := ByteArray) (val := fun v => .string v) (φ := fun v => v ∈ ([⟨#[65, 66, 49]⟩, ⟨#[65, 66, 50]⟩, ⟨#[90, 90, 57]⟩] : List ByteArray)) rfl cb57 rfl rfl rfl rfl (fun wx hm => (some_any [⟨#[65, 66, 49]⟩, ⟨#[65, 66, 50]⟩, ⟨#[90, 90, 57]⟩] _ _ _ wx B sb _ hm.k (by omega) (by simp) (by simp) (hm.blkI 3 rfl) (hm.neRow 3 rfl rfl))) fun k15 hk15 => ?_
    have zk15 : k15.size ≤ 100 := mem_sz hk15 (by decide)
    refine wl_nil ?_
    refine nw 19 196607 (fun _ hm => ⟨hm.bl 2, hm.bl 1, hm.fa 0, hm.ownI 0 rfl, hm.ownI 1 rfl, hm.ownI 2 rfl, trivial⟩) fun z => ?_
    refine wt 16 19 262143 rfl z (ov_build (cs := [.int .i64 k2, .string u0, .string k15]) rfl (by kernel_rfl)) ?_
    refine wa1 18 rfl ?_
    refine wl_stores (cs' := [.int .i64 k2, .string u0, .string k15]) 4 rz161 rfl rfl rfl rfl rfl rfl rfl rfl ?_
    refine wl_nil ?_
    refine nw 19 524287 (fun _ hm => ⟨hm.bl 2, hm.bl 1, hm.fa 0, hm.ownI 0 rfl, hm.ownI 1 rfl, hm.ownI 2 rfl, trivial⟩) fun z => ?_
    refine wa_done (by kernel_rfl) ?_
    exact nx_meet (q17, k2, u0, k15) ⟨⟨by dsimp only; omega, by dsimp only; omega⟩, by dsimp only; omega, by dsimp only; omega⟩ ⟨rfl, rfl, rfl, rfl, rfl, rfl, trivial⟩ (fun _ hm => (hm.more rfl (by first | omega | (dsimp only; omega))).pick [4, 2, 1] [0, 1, 2] [0] rfl rfl)
   have J25081 : ∀ (q14 : Nat), W 10 (lb 19 25081) [(0, .pointer (some ⟨sb, 0, none⟩)), (2, .pointer (some ⟨g1, 0, none⟩)), (3, .pointer (some ⟨g2, 0, none⟩)), (49, .int .i64 ((R : Nat) : Int)), (50, .int .i64 ((j : Nat) : Int)), (56, .pointer (some ⟨sb, 0, none⟩)), (60, .slice (some ⟨bv, 0, none⟩) k vc), (61, .pointer (some ⟨sb, 0, none⟩)), (64, .int .i64 ((k : Nat) : Int)), (69, .pointer (some ⟨sb, 0, none⟩)), (70, .slice (some ⟨q14, 0, none⟩) 3 3)] (fun w => Strm 25 w B sb (m + 140 + 10 * j)) [(g1, 66, [.slice none 0 0, .slice none 0 0, .slice none 0 0, .slice none 0 0]), (g2, 66, [.slice sA sn sc, .slice cA 4 cc, .slice (some ⟨bv, 0, none⟩) k vc, .slice pA pn pc]), (q14, 9, [.string ⟨#[65, 66, 49]⟩, .string ⟨#[65, 66, 50]⟩, .string ⟨#[90, 90, 57]⟩])] [⟨.slice pA pn pc, 161, 3, pn, pl.flatMap plEnc⟩, ⟨.slice (some ⟨bv, 0, none⟩) k vc, 158, 2, k, vl.flatMap vhEnc⟩, ⟨.slice sA sn sc, 168, 15, sn, sl.flatMap stEnc⟩] [fun wy => SlT csEnc 2 170 wy cA 4 cl] := by
    intro q14
    rw [hW]
    refine wa_all [1, 17] (by kernel_rfl) rfl ⟨⟨_, rfl, ?_⟩, ⟨_, rfl, ?_⟩, trivial⟩
    ·refine wl_buildSlice (e := 3) (cs := [.int .i64 0, .int .i64 0, .int .i64 50, .int .i64 100, .int .i64 200, .int .i64 1000]) rfl (by kernel_rfl) rfl fun q1 => ?_
     refine wl_nil ?_
     refine nw 19 25083 (fun _ hm => ⟨hm.bl 2, hm.bl 1, hm.fa 0, hm.ownI 0 rfl, hm.ownI 1 rfl, hm.ownI 2 rfl, trivial⟩) fun z => ?_
     have h := J25083 q1 q14
     rw [hW] at h
     refine wa_weak ?_ ?_ h
     ·exact ⟨rfl, rfl, rfl, rfl, rfl, rfl, rfl, rfl, rfl, rfl, rfl, rfl, trivial⟩
     exact fun _ hm => hm.pick [1, 2, 0, 3] [0, 1, 2] [0] rfl rfl
    refine wl_alloc zc161 rfl fun q17 => ?_
    refine wl_nil ?_
    refine nw 19 156153 (fun _ hm => ⟨hm.bl 2, hm.bl 1, hm.fa 0, hm.ownI 0 rfl, hm.ownI 1 rfl, hm.ownI 2 rfl, trivial⟩) fun z => ?_
    have h := T156153 q14 q17
    rw [hW] at h
    refine wa_weak ?_ ?_ h
    ·exact ⟨rfl, rfl, rfl, rfl, rfl, rfl, rfl, rfl, rfl, rfl, rfl, rfl, trivial⟩
    exact fun _ hm => hm.pick [1, 2, 3, 0] [0, 1, 2] [0] rfl rfl
   have J139769 : ∀ (q17 : Nat), W 10 (lb 19 139769) [(0, .pointer (some ⟨sb, 0, none⟩)), (2, .pointer (some ⟨g1, 0, none⟩)), (3, .pointer (some ⟨g2, 0, none⟩)), (6, .pointer (some ⟨q17, 0, none⟩)), (49, .int .i64 ((R : Nat) : Int)), (50, .int .i64 ((j : Nat) : Int)), (56, .pointer (some ⟨sb, 0, none⟩)), (60, .slice (some ⟨bv, 0, none⟩) k vc), (61, .pointer (some ⟨sb, 0, none⟩)), (64, .int .i64 ((k : Nat) : Int)), (69, .pointer (some ⟨sb, 0, none⟩))] (fun w => Strm 25 w B sb (m + 140 + 10 * j)) [(g1, 66, [.slice none 0 0, .slice none 0 0, .slice none 0 0, .slice none 0 0]), (g2, 66, [.slice sA sn sc, .slice cA 4 cc, .slice (some ⟨bv, 0, none⟩) k vc, .slice pA pn pc]), (q17, 161, [.int .i64 0, .string ⟨#[]⟩, .string ⟨#[]⟩])] [⟨.slice pA pn pc, 161, 3, pn, pl.flatMap plEnc⟩, ⟨.slice (some ⟨bv, 0, none⟩) k vc, 158, 2, k, vl.flatMap vhEnc⟩, ⟨.slice sA sn sc, 168, 15, sn, sl.flatMap stEnc⟩] [fun wy => SlT csEnc 2 170 wy cA 4 cl] := by
    intro q17
    rw [hW]
    refine wa_all [1, 14] (by kernel_rfl) rfl ⟨⟨_, rfl, ?_⟩, ⟨_, rfl, ?_⟩, trivial⟩
    ·refine wl_buildSlice (e := 3) (cs := [.int .i64 0, .int .i64 0, .int .i64 50, .int .i64 100, .int .i64 200, .int .i64 1000]) rfl (by kernel_rfl) rfl fun q1 => ?_
     refine wl_nil ?_
     refine nw 19 139771 (fun _ hm => ⟨hm.bl 2, hm.bl 1, hm.fa 0, hm.ownI 0 rfl, hm.ownI 1 rfl, hm.ownI 2 rfl, trivial⟩) fun z => ?_
     have h := J139771 q1 q17
     rw [hW] at h
     refine wa_weak ?_ ?_ h
     ·exact ⟨rfl, rfl, rfl, rfl, rfl, rfl, rfl, rfl, rfl, rfl, rfl, rfl, trivial⟩
     exact fun _ hm => hm.pick [1, 2, 0, 3] [0, 1, 2] [0] rfl rfl
    refine wl_buildSlice (e := 9) (cs := [.string ⟨#[65, 66, 49]⟩, .string ⟨#[65, 66, 50]⟩, .string ⟨#[90, 90, 57]⟩]) rfl (by kernel_rfl) rfl fun q14 => ?_
    refine wl_nil ?_
    refine nw 19 156153 (fun _ hm => ⟨hm.bl 2, hm.bl 1, hm.fa 0, hm.ownI 0 rfl, hm.ownI 1 rfl, hm.ownI 2 rfl, trivial⟩) fun z => ?_
    have h := T156153 q14 q17
    rw [hW] at h
    refine wa_weak ?_ ?_ h
    ·exact ⟨rfl, rfl, rfl, rfl, rfl, rfl, rfl, rfl, rfl, rfl, rfl, rfl, trivial⟩
    exact fun _ hm => hm.pick [1, 2, 0, 3] [0, 1, 2] [0] rfl rfl
   have J8697 : W 11 (lb 19 8697) [(0, .pointer (some ⟨sb, 0, none⟩)), (2, .pointer (some ⟨g1, 0, none⟩)), (3, .pointer (some ⟨g2, 0, none⟩)), (49, .int .i64 ((R : Nat) : Int)), (50, .int .i64 ((j : Nat) : Int)), (56, .pointer (some ⟨sb, 0, none⟩)), (60, .slice (some ⟨bv, 0, none⟩) k vc), (61, .pointer (some ⟨sb, 0, none⟩)), (64, .int .i64 ((k : Nat) : Int)), (69, .pointer (some ⟨sb, 0, none⟩))] (fun w => Strm 25 w B sb (m + 140 + 10 * j)) [(g1, 66, [.slice none 0 0, .slice none 0 0, .slice none 0 0, .slice none 0 0]), (g2, 66, [.slice sA sn sc, .slice cA 4 cc, .slice (some ⟨bv, 0, none⟩) k vc, .slice pA pn pc])] [⟨.slice pA pn pc, 161, 3, pn, pl.flatMap plEnc⟩, ⟨.slice (some ⟨bv, 0, none⟩) k vc, 158, 2, k, vl.flatMap vhEnc⟩, ⟨.slice sA sn sc, 168, 15, sn, sl.flatMap stEnc⟩] [fun wy => SlT csEnc 2 170 wy cA 4 cl] := by
    skip
    rw [hW]
    refine wa_all [1, 14, 17] (by kernel_rfl) rfl ⟨⟨_, rfl, ?_⟩, ⟨_, rfl, ?_⟩, ⟨_, rfl, ?_⟩, trivial⟩
    ·refine wl_buildSlice (e := 3) (cs := [.int .i64 0, .int .i64 0, .int .i64 50, .int .i64 100, .int .i64 200, .int .i64 1000]) rfl (by kernel_rfl) rfl fun q1 => ?_
     refine wl_nil ?_
     refine nw 19 8699 (fun _ hm => ⟨hm.bl 2, hm.bl 1, hm.fa 0, hm.ownI 0 rfl, hm.ownI 1 rfl, hm.ownI 2 rfl, trivial⟩) fun z => ?_
     have h := J8699 q1
     rw [hW] at h
     refine wa_weak ?_ ?_ h
     ·exact ⟨rfl, rfl, rfl, rfl, rfl, rfl, rfl, rfl, rfl, rfl, rfl, trivial⟩
     exact fun _ hm => hm.pick [1, 2, 0] [0, 1, 2] [0] rfl rfl
    ·refine wl_buildSlice (e := 9) (cs := [.string ⟨#[65, 66, 49]⟩, .string ⟨#[65, 66, 50]⟩, .string ⟨#[90, 90, 57]⟩]) rfl (by kernel_rfl) rfl fun q14 => ?_
     refine wl_nil ?_
     refine nw 19 25081 (fun _ hm => ⟨hm.bl 2, hm.bl 1, hm.fa 0, hm.ownI 0 rfl, hm.ownI 1 rfl, hm.ownI 2 rfl, trivial⟩) fun z => ?_
     have h := J25081 q14
     rw [hW] at h
     refine wa_weak ?_ ?_ h
     ·exact ⟨rfl, rfl, rfl, rfl, rfl, rfl, rfl, rfl, rfl, rfl, rfl, trivial⟩
     exact fun _ hm => hm.pick [1, 2, 0] [0, 1, 2] [0] rfl rfl
    refine wl_alloc zc161 rfl fun q17 => ?_
    refine wl_nil ?_
    refine nw 19 139769 (fun _ hm => ⟨hm.bl 2, hm.bl 1, hm.fa 0, hm.ownI 0 rfl, hm.ownI 1 rfl, hm.ownI 2 rfl, trivial⟩) fun z => ?_
    have h := J139769 q17
    rw [hW] at h
    refine wa_weak ?_ ?_ h
    ·exact ⟨rfl, rfl, rfl, rfl, rfl, rfl, rfl, rfl, rfl, rfl, rfl, trivial⟩
    exact fun _ hm => hm.pick [1, 2, 0] [0, 1, 2] [0] rfl rfl
   rw [hW]
   have h := J8697 
   rw [hW] at h
   refine wa_weak ?_ ?_ h
   ·exact ⟨rfl, rfl, rfl, rfl, rfl, rfl, rfl, rfl, rfl, rfl, trivial⟩
   exact fun _ hm => hm.pick [1, 0] [0, 1, 2] [0] rfl rfl
  rintro ⟨g6, pf, pv, pp⟩ hinv
  replace hinv : PlB ⟨pf, pv, pp⟩ := hinv
  dsimp only
  have hpp : PlB ⟨pf, pv, pp⟩ := hinv
  refine gw_cut (γ := Option Addr × Nat) (I := (fun g => True)) (S' := (fun g => [(0, .pointer (some ⟨sb, 0, none⟩)), (2, .pointer (some ⟨g1, 0, none⟩)), (3, .pointer (some ⟨g2, 0, none⟩)), (7, .slice g.1 (pn + 1) g.2), (49, .int .i64 ((R : Nat) : Int)), (50, .int .i64 ((j : Nat) : Int))])) (K' := (fun g => fun w => Strm 25 w B sb (m + 140 + 10 * j + 9))) (L' := (fun g => [(g6, 161, [.int .i64 pf, .string pv, .string pp]), (g2, 66, [.slice sA sn sc, .slice cA 4 cc, .slice (some ⟨bv, 0, none⟩) k vc, .slice pA pn pc]), (g1, 66, [.slice none 0 0, .slice none 0 0, .slice none 0 0, .slice none 0 0])])) (O' := (fun g => [⟨.slice g.1 (pn + 1) g.2, 161, 3, pn + 1, (pl ++ [(⟨pf, pv, pp⟩ : Pl)]).flatMap plEnc⟩, ⟨.slice pA pn pc, 161, 3, pn, pl.flatMap plEnc⟩, ⟨.slice (some ⟨bv, 0, none⟩) k vc, 158, 2, k, vl.flatMap vhEnc⟩, ⟨.slice sA sn sc, 168, 15, sn, sl.flatMap stEnc⟩])) (X' := (fun g => [fun wy => SlT csEnc 2 170 wy cA 4 cl])) ?_ ?_
  ·refine gd (fun wz => Blk wz g6 161 [.int .i64 pf, .string pv, .string pp] ∧ Blk wz g2 66 [.slice sA sn sc, .slice cA 4 cc, .slice (some ⟨bv, 0, none⟩) k vc, .slice pA pn pc] ∧ Blk wz g1 66 [.slice none 0 0, .slice none 0 0, .slice none 0 0, .slice none 0 0] ∧ (fun wy => SlT csEnc 2 170 wy cA 4 cl) wz ∧ True) mixed (fun _ hm => ⟨hm.bl 0, hm.bl 1, hm.bl 2, hm.fa 0, trivial⟩) fun z => ?_
   refine wt 0 7 1 rfl z (ov_field fo66_3 rfl rfl) ?_
   refine wt 1 7 3 rfl z (ov_load sc64 rfl (fun _ hm => hm.2.1) rfl) ?_
   refine wt 3 7 11 rfl z (ov_loads rz161 rfl (fun _ hm => hm.1) rfl rfl) ?_
   refine wa_all [2, 4] (by kernel_rfl) rfl ⟨⟨_, rfl, ?_⟩, ⟨_, rfl, ?_⟩, trivial⟩
   ·refine wl_callgo (γ := Option Addr × Nat) (val := (fun g => .slice g.1 pn g.2)) (φ := (fun g => True)) (fun g => ⟨.slice g.1 pn g.2, 161, 3, pn, pl.flatMap plEnc⟩) rfl cb209 rfl rfl (fun wx hm => (clonePlates_all pl pA pn pc wx (SlT.ofOwn pl_len (hm.ownI 0 rfl) hpl) (own_shape (hm.ownI 0 rfl)) (by omega)).mono fun _ _ ⟨A, c, he, ho, hg⟩ => ⟨(A, c), he, trivial, ho, hg⟩) ?_
    rintro ⟨A3, c3⟩ hphi
    dsimp only at hphi ⊢
    refine wl_nil ?_
    refine nw 7 15 (fun _ hm => ⟨hm.bl 0, hm.bl 1, hm.bl 2, hm.fa 0, trivial⟩) fun z => ?_
    refine wa1 4 rfl ?_
    refine wl_buildSlice (e := 161) (cs := [.int .i64 pf, .string pv, .string pp]) rfl (by kernel_rfl) rfl fun g14 => ?_
    refine wl_nil ?_
    refine nw 7 31 (fun _ hm => ⟨hm.bl 1, hm.bl 2, hm.bl 3, hm.fa 0, trivial⟩) fun z => ?_
    refine wa1 5 rfl ?_
    refine wl_append (news := [.int .i64 pf, .string pv, .string pp]) 0 0 ap64 rfl rfl rfl rfl rfl rfl rfl (by omega) (by unfold maxLen; omega) rfl rfl fun v2 hv2 => ?_
    refine wl_look (R := ∃ A cc, v2 = .slice A (pn + 1) cc) (fun wx hm => own_slice (hm.ownI 0 rfl)) ?_
    rintro ⟨A4, c4, rfl⟩
    refine wl_nil ?_
    refine nw 7 63 (fun _ hm => ⟨hm.bl 1, hm.bl 2, hm.bl 3, hm.fa 0, trivial⟩) fun z => ?_
    refine wt 6 7 127 rfl z (ov_assign rfl) ?_
    refine wa_done (by kernel_rfl) ?_
    have hxs : pl.flatMap plEnc ++ ([.int .i64 pf, .string pv, .string pp] : List Value) = (pl ++ [(⟨pf, pv, pp⟩ : Pl)]).flatMap plEnc := by simp [plEnc]
    rw [hxs]
    exact nx_meet (A4, c4) trivial ⟨rfl, rfl, rfl, rfl, rfl, rfl, trivial⟩ (fun _ hm => hm.pick [1, 2, 3] [0, 1, 2, 3] [0] rfl rfl)
   refine wl_buildSlice (e := 161) (cs := [.int .i64 pf, .string pv, .string pp]) rfl (by kernel_rfl) rfl fun g15 => ?_
   refine wl_nil ?_
   refine nw 7 27 (fun _ hm => ⟨hm.bl 1, hm.bl 2, hm.bl 3, hm.fa 0, trivial⟩) fun z => ?_
   refine wa1 2 rfl ?_
   refine wl_callgo (γ := Option Addr × Nat) (val := (fun g => .slice g.1 pn g.2)) (φ := (fun g => True)) (fun g => ⟨.slice g.1 pn g.2, 161, 3, pn, pl.flatMap plEnc⟩) rfl cb209 rfl rfl (fun wx hm => (clonePlates_all pl pA pn pc wx (SlT.ofOwn pl_len (hm.ownI 0 rfl) hpl) (own_shape (hm.ownI 0 rfl)) (by omega)).mono fun _ _ ⟨A, c, he, ho, hg⟩ => ⟨(A, c), he, trivial, ho, hg⟩) ?_
   rintro ⟨A3, c3⟩ hphi
   dsimp only at hphi ⊢
   refine wl_nil ?_
   refine nw 7 31 (fun _ hm => ⟨hm.bl 1, hm.bl 2, hm.bl 3, hm.fa 0, trivial⟩) fun z => ?_
   refine wa1 5 rfl ?_
   refine wl_append (news := [.int .i64 pf, .string pv, .string pp]) 0 0 ap64 rfl rfl rfl rfl rfl rfl rfl (by omega) (by unfold maxLen; omega) rfl rfl fun v2 hv2 => ?_
   refine wl_look (R := ∃ A cc, v2 = .slice A (pn + 1) cc) (fun wx hm => own_slice (hm.ownI 0 rfl)) ?_
   rintro ⟨A4, c4, rfl⟩
   refine wl_nil ?_
   refine nw 7 63 (fun _ hm => ⟨hm.bl 1, hm.bl 2, hm.bl 3, hm.fa 0, trivial⟩) fun z => ?_
   refine wt 6 7 127 rfl z (ov_assign rfl) ?_
   refine wa_done (by kernel_rfl) ?_
   have hxs : pl.flatMap plEnc ++ ([.int .i64 pf, .string pv, .string pp] : List Value) = (pl ++ [(⟨pf, pv, pp⟩ : Pl)]).flatMap plEnc := by simp [plEnc]
   rw [hxs]
   exact nx_meet (A4, c4) trivial ⟨rfl, rfl, rfl, rfl, rfl, rfl, trivial⟩ (fun _ hm => hm.pick [1, 2, 3] [0, 1, 2, 3] [0] rfl rfl)
  rintro ⟨qA, qc⟩ hinv
  replace hinv : True := hinv
  dsimp only
  have huB : ∀ x ∈ pl ++ [(⟨pf, pv, pp⟩ : Pl)], PlB x := all_snoc hpB hpp
  have hul : (pl ++ [(⟨pf, pv, pp⟩ : Pl)]).length = pn + 1 := by simp [hpl]
  obtain ⟨us, hus⟩ : ∃ z, z = pl ++ [(⟨pf, pv, pp⟩ : Pl)] := ⟨_, rfl⟩
  rw [← hus] at huB hul
  rw [← hus]
  refine gw_look (R := ∃ g, qA = some ⟨g, 0, none⟩) (fun wx hm => own_addr (hm.ownI 0 rfl) (by omega)) ?_
  rintro ⟨g5, rfl⟩
  refine ct_ rfl (sr_ (mv_ rfl ?_))
  refine wl_callr (v := .tuple #[]) (xs' := (isort rfLt us).flatMap plEnc) 0 rfl rfl rfl cb210 rfl rfl (fun wx hm => (sort_rf us g5 (pn + 1) qc _ wx (hm.ownI 0 rfl) hul (by omega) huB)) ?_
  obtain ⟨zs, hzs⟩ : ∃ z, z = isort rfLt us := ⟨_, rfl⟩
  rw [← hzs]
  have hzB : ∀ x ∈ zs, PlB x := fun x hx => huB x (by rw [hzs] at hx; exact isort_mem.1 hx)
  have hzl : zs.length = pn + 1 := by rw [hzs, isort_len]; exact hul
  obtain ⟨FE, hFE⟩ : ∃ z, z = fleetE sl cl vl zs := ⟨_, rfl⟩
  refine nn_ (sr_ ?_)
  refine wl_ov (ov_loads rz66 rfl (fun _ hm => hm.blkI 1 rfl) rfl rfl) rfl ?_
  refine wl_alloc zc66 rfl fun g16 => ?_
  refine wl_stores (cs' := [.slice sA sn sc, .slice cA 4 cc, .slice (some ⟨bv, 0, none⟩) k vc, .slice pA pn pc]) 0 rz66 rfl rfl rfl rfl rfl rfl rfl rfl ?_
  refine nn_ (sr_ (mv_ rfl (fd_ fo66_3 rfl rfl ?_)))
  refine wl_store 0 sc64 rfl rfl rfl rfl rfl rfl ?_
  refine nn_ (sr_ ?_)
  refine wl_ov (ov_loads rz66 rfl (fun _ hm => hm.blkI 0 rfl) rfl rfl) rfl ?_
  refine wl_callv (v := .int .i64 FE) rfl cb37 rfl rfl (fun wx hm => (by rw [hFE]; exact fleetFault_any sl cl vl zs sA cA (some ⟨bv, 0, none⟩) (some ⟨g5, 0, none⟩) sn sc 4 cc k vc (pn + 1) qc wx (SlT.ofOwnL stEnc_lenL (fun x hx => stB_ok (hsB x hx)) (hm.ownI 3 rfl) hsl) (hm.fact 0 rfl) (SlT.ofOwn vh_len (hm.ownI 2 rfl) hvl) (SlT.ofOwn pl_len (hm.ownI 0 rfl) hzl) (fun x hx => stB_ok (hsB x hx)) hcok (fun x hx => vhB_ok (hvB x hx)) (fun x hx => plB_ok (hzB x hx)) (by omega) (by omega) (by omega) (by omega) (own_cap (hm.ownI 0 rfl)))) ?_
  refine wl_ov (ov_eql rfl rfl) rfl (nn_ ?_)
  refine gw_cond rfl (fun hh => ?_) (fun hh => ?_)
  ·have hfe : FE = 0 := by simpa using hh
   clear hh
   refine gw_region ?_
   refine wl_ov (ov_loads rz66 rfl (fun _ hm => hm.blkI 0 rfl) rfl rfl) rfl ?_
   refine wl_stores (cs' := [.slice sA sn sc, .slice cA 4 cc, .slice (some ⟨bv, 0, none⟩) k vc, .slice (some ⟨g5, 0, none⟩) (pn + 1) qc]) 2 rz66 rfl rfl rfl rfl rfl rfl rfl rfl ?_
   refine wl_nil (nx_blk_nrm (nx_then (gw_region (ad_ rfl rfl (mv_ rfl (wl_nil ?_))))))
   exact nx_round (j + 1, some ⟨g5, 0, none⟩, pn + 1, qc, zs) ⟨by dsimp only; omega, by dsimp only; omega, hzl, hzB, hFE.symm.trans hfe⟩ (by dsimp only; omega) ⟨rfl, rfl, rfl, rfl, (some_int (by omega)), trivial⟩ (fun _ hm => (hm.more rfl (by first | omega | (dsimp only; omega))).pick [2, 3] [0, 2, 3] [0] rfl rfl)
  have hfe : ¬ (FE = 0) := by simpa using hh
  clear hh
  refine gw_skip (nx_blk_nrm (nx_then (gw_region (ad_ rfl rfl (mv_ rfl (wl_nil ?_))))))
  exact nx_round (j + 1, pA, pn, pc, pl) ⟨by dsimp only; omega, by dsimp only; omega, hpl, hpB, hfz⟩ (by dsimp only; omega) ⟨rfl, rfl, rfl, rfl, (some_int (by omega)), trivial⟩ (fun _ hm => (hm.more rfl (by first | omega | (dsimp only; omega))).pick [2, 3] [1, 2, 3] [0] rfl rfl)
 have hj : ¬ (((j : Nat) : Int) < ((R : Nat) : Int)) := by simpa using hh
 clear hh
 refine gw_exit ?_
 refine nx_then_exit (nx_then_exit ?_)
 refine nx_blk_here ?_
 refine nx_then (sr_ ?_)
 refine wl_ov (ov_loads rz66 rfl (fun _ hm => hm.blkI 0 rfl) rfl rfl) rfl ?_
 refine wl_stores (cs' := [.slice sA sn sc, .slice cA 4 cc, .slice vA k vc, .slice pA pn pc]) 1 rz66 rfl rfl rfl rfl rfl rfl rfl rfl ?_
 refine nn_ ?_
 refine gw_ret ?_
 refine nx_retc 1 rfl rz66 rfl rfl rfl fun wx hm => ?_
 exact ⟨sA, cA, vA, pA, sn, sc, cc, k, vc, pn, pc, sl, cl, vl, pl, rfl, ⟨⟨⟨hsl, hsB, hs1, hs3⟩, ⟨hcl4, hcok⟩, ⟨hvl, hvB, by omega⟩, ⟨hpl, hpB, by omega⟩⟩, hfz⟩, hm.k.more (by omega), hm.g, (hm.ownI 2 rfl), (hm.ownI 1 rfl), (hm.ownI 0 rfl), (hm.fact 0 rfl)⟩
theorem rightFleet_any (w : World) (B sb m : Nat) (hS : Strm 25 w B sb m) (hm : m ≤ 100000000) :
    Calls Tryz.prog 124 #[.pointer (some ⟨sb, 0, none⟩)] w (fun e w' => ∃ (sA cA vA pA : Option Addr) (sn sc cc vn vc pn pc : Nat) (sl : List St) (cl : List Cs) (vl : List Vh) (pl : List Pl), e = .returned (.agg #[.slice sA sn sc, .slice cA 4 cc, .slice vA vn vc, .slice pA pn pc]) ∧ RfOk sl cl vl pl sn vn pn ∧ Strm 25 w' B sb (m + 300) ∧ w.grownBy w' (some sb) ∧ w'.ownsRow w.heap.size 168 15 (.slice sA sn sc) sn (sl.flatMap stEnc) ∧ w'.ownsRow w.heap.size 158 2 (.slice vA vn vc) vn (vl.flatMap vhEnc) ∧ w'.ownsRow w.heap.size 161 3 (.slice pA pn pc) pn (pl.flatMap plEnc) ∧ SlT csEnc 2 170 w' cA 4 cl) :=
  (rightFleet_anyF w B sb m hS hm).mono fun _ _ ⟨sA, cA, vA, pA, sn, sc, cc, vn, vc, pn, pc, sl, cl, vl, pl, he, ⟨hok, _⟩, h⟩ => ⟨sA, cA, vA, pA, sn, sc, cc, vn, vc, pn, pc, sl, cl, vl, pl, he, hok, h⟩
end Go.Proofs.YtnpcbfllnkiopaaGreatDoor
