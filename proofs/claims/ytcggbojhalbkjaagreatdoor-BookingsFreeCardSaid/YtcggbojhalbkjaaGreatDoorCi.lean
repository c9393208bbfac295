/- Above, Steps, StepsOf; the generators of classes. -/
import Derived.Test.YtcggbojhalbkjaaGreatDoorCl
import Derived.Test.YtcggbojhalbkjaaGreatDoorGb
import Derived.Test.YtcggbojhalbkjaaGreatDoorSv
import Derived.Test.YtcggbojhalbkjaaGreatDoorSe
namespace Go.Proofs.YtcggbojhalbkjaaGreatDoor
open Go.RowKit

theorem ixP_shift {α : Type} {p : α → Bool} : ∀ (l : List α) (k : Nat), ixP p l (k + 1) = if ixP p l k < 0 then -1 else ixP p l k + 1
  | [], k => rfl
  | x :: r, k => by
    unfold ixP
    by_cases h : p x = true
    · rw [if_pos h, if_pos h, if_neg (by omega)]; rfl
    · rw [if_neg h, if_neg h, ixP_shift r (k + 1)]
theorem stepsV_eq {l : List Cs} {a b : ByteArray} (hc : Closed l) (hl : loopB l l.length = false) : ixP (fun y => b.toList == y.toList) (a :: pathN l (l.length + 1) a) 0 = stepsV l a b := by
  rw [path_same hc hl]
  show (if (b.toList == a.toList) = true then ((0 : Nat) : Int) else ixP (fun y => b.toList == y.toList) (pathN l l.length a) 1) = _
  unfold stepsV
  by_cases h : a.toList = b.toList
  · rw [if_pos (by rw [h]; exact beq_self_eq_true _), if_pos h]; rfl
  · rw [if_neg (by simp; exact fun e => h e.symm), if_neg h, ixP_shift]
theorem keysE_one (l : List Cs) (a : ByteArray) : keysE l [a] = firstE [classesE l, whenE (decide (ixP (csP a) l 0 < 0)) 8] := by
  unfold keysE firstE
  by_cases h : classesE l = 0
  · rw [if_neg (by rw [h]; decide), if_pos h]
    cases h2 : decide (ixP (csP a) l 0 < 0) <;> simp [h2, whenE, firstE]
  · rw [if_pos h, if_neg h]
theorem keysE_two (l : List Cs) (a b : ByteArray) : keysE l [a, b] = firstE [keysE l [a], whenE (decide (ixP (csP b) l 0 < 0)) 8] := by
  rw [keysE_one]
  unfold keysE
  by_cases h : classesE l = 0
  · rw [if_neg (by rw [h]; decide), h]
    cases h2 : decide (ixP (csP a) l 0 < 0) <;> cases h3 : decide (ixP (csP b) l 0 < 0) <;> simp only [List.any_cons, List.any_nil, h2, h3] <;> rfl
  · rw [if_pos h]
    have e : firstE [classesE l, whenE (decide (ixP (csP a) l 0 < 0)) 8] = classesE l := by unfold firstE; rw [if_neg h]
    rw [e]; unfold firstE; rw [if_neg h]
theorem stepsV_bound (l : List Cs) (a b : ByteArray) : -1 ≤ stepsV l a b ∧ stepsV l a b ≤ (l.length : Int) := by
  have h1 := ixP_bound (p := fun y => b.toList == y.toList) (pathN l l.length a)
  have h2 := pathN_len l l.length a
  unfold stepsV
  split
  · omega
  · split <;> omega
theorem cs_mem {l : List Cs} {x : Cs} {j : Nat} (h : ∀ y ∈ l, CsOk y) (hx : CsOk x) : ∀ y ∈ l.set j x, CsOk y := fun y hy => by
  rcases List.mem_or_eq_of_mem_set hy with hy | rfl
  · exact h y hy
  · exact hx

set_option maxRecDepth 100000 in
set_option maxHeartbeats 400000 in
theorem gclasses_any (w : World) (B sb m : Nat) (hS : Strm 25 w B sb m) (hm : m ≤ 100000000000) :
    Calls Tryz.prog 149 #[.pointer (some ⟨sb, 0, none⟩)] w (fun e w' => ∃ (A : Option Addr) (c : Nat) (l : List Cs), e = .returned (.slice A 4 c) ∧ w'.ownsRow w.heap.size 135 2 (.slice A 4 c) 4 (l.flatMap csEnc) ∧ l.length = 4 ∧ (∀ x ∈ l, CsOk x) ∧ Strm 25 w' B sb (m + 20) ∧ w.grownBy w' (some sb)) := by
  refine gw_enter ⟨35, w, (some sb), []⟩ Tryz.func149 rfl Tryz.ntmps149 rfl (memS (X := []) hS allF_nil allL_nil) ?_
  refine gw_seq ?_
  refine gw_region ?_
  refine wl_ov (ov_assign rfl) rfl ?_
  refine wl_nil ?_
  refine nx_then ?_
  refine gw_seq ?_
  refine gw_region ?_
  refine wl_ov (ov_build (cs := [.string ⟨#[98, 105, 103]⟩, .string ⟨#[]⟩]) rfl (by kernel_rfl)) rfl ?_
  refine wl_ov (ov_build (cs := [.string ⟨#[109, 97, 120, 105]⟩, .string ⟨#[]⟩]) rfl (by kernel_rfl)) rfl ?_
  refine wl_ov (ov_build (cs := [.string ⟨#[109, 105, 100, 105]⟩, .string ⟨#[]⟩]) rfl (by kernel_rfl)) rfl ?_
  refine wl_ov (ov_build (cs := [.string ⟨#[109, 105, 110, 105]⟩, .string ⟨#[]⟩]) rfl (by kernel_rfl)) rfl ?_
  refine wl_buildSlice (e := 135) (cs := [.string ⟨#[98, 105, 103]⟩, .string ⟨#[]⟩, .string ⟨#[109, 97, 120, 105]⟩, .string ⟨#[]⟩, .string ⟨#[109, 105, 100, 105]⟩, .string ⟨#[]⟩, .string ⟨#[109, 105, 110, 105]⟩, .string ⟨#[]⟩]) rfl (by kernel_rfl) rfl fun g1 => ?_
  refine wl_ov (ov_assign rfl) rfl ?_
  refine wl_nil ?_
  refine nx_then ?_
  refine gw_seq ?_
  refine gw_seq ?_
  refine gw_region ?_
  refine wl_ov (ov_move rfl) rfl ?_
  refine wl_ov (ov_len es50 rfl) rfl ?_
  refine wl_set 11 (v' := .int .i64 4) rfl rfl ?_
  refine wl_ov (ov_move rfl) rfl ?_
  refine wl_nil ?_
  refine nx_then ?_
  refine gw_block ?_
  refine gw_toOwn (sz := 2) (n := 4) 0 [] rfl rfl rfl (by unfold maxLen; omega) ?_
  refine gw_loop (γ := Nat × List Cs) (fun (g : Nat × List Cs) => g.1 ≤ 4 ∧ g.2.length = 4 ∧ (∀ x ∈ g.2, CsOk x)) (fun (g : Nat × List Cs) => [(0, .pointer (some ⟨sb, 0, none⟩)), (2, .slice none 0 0), (3, .slice (some ⟨g1, 0, none⟩) 4 4), (11, .int .i64 4), (12, .int .i64 ((g.1 : Nat) : Int))]) (fun (g : Nat × List Cs) => fun w => Strm 25 w B sb (m + 2 * g.1)) (fun (g : Nat × List Cs) => []) (fun (g : Nat × List Cs) => [⟨.slice (some ⟨g1, 0, none⟩) 4 4, 135, 2, 4, g.2.flatMap csEnc⟩]) (fun (g : Nat × List Cs) => []) (fun (g : Nat × List Cs) => 4 - g.1) (0, [⟨⟨#[98, 105, 103]⟩, ⟨#[]⟩⟩, ⟨⟨#[109, 97, 120, 105]⟩, ⟨#[]⟩⟩, ⟨⟨#[109, 105, 100, 105]⟩, ⟨#[]⟩⟩, ⟨⟨#[109, 105, 110, 105]⟩, ⟨#[]⟩⟩]) ⟨Nat.zero_le _, rfl, by simp [CsOk] <;> decide⟩ ⟨rfl, rfl, rfl, rfl, rfl, trivial⟩ (fun _ hm => (hm.more rfl (by first | omega | (dsimp only; omega))).pick [] [0] [] rfl rfl) ?_
  rintro ⟨i, l⟩ hinv
  replace hinv : i ≤ 4 ∧ l.length = 4 ∧ (∀ x ∈ l, CsOk x) := hinv
  dsimp only
  refine gw_seq ?_
  refine gw_region ?_
  obtain ⟨hi0, hl4, hok⟩ := hinv
  refine wl_ov (ov_lss rfl rfl) rfl ?_
  refine wl_nil ?_
  refine nx_then ?_
  refine gw_seq ?_
  refine gw_cond rfl (fun hh => ?_) (fun hh => ?_)
  · have hi : ((i : Nat) : Int) < 4 := by simpa using hh
    clear hh
    refine gw_skip ?_
    refine nx_then ?_
    refine gw_seq ?_
    refine gw_block ?_
    refine gw_seq ?_
    refine gw_region ?_
    refine wl_ov (ov_move rfl) rfl ?_
    refine wl_ov (ov_assign rfl) rfl ?_
    refine wl_nil ?_
    refine nx_then ?_
    refine gw_seq ?_
    refine gw_region ?_
    refine wl_ov (ov_move rfl) rfl ?_
    refine wl_ov (ov_gtr rfl rfl) rfl ?_
    refine wl_ov (ov_move rfl) rfl ?_
    rcases Bool.eq_false_or_eq_true (decide (0 < ((i : Nat) : Int))) with h0 | h0
    · refine wl_set 17 rfl (congrArg Value.bool h0) ?_
      have h0 := of_decide_eq_true h0
      refine wl_guard_on rfl rfl rfl ?_
      refine wl_ov (ov_move rfl) rfl ?_
      refine wl_guard_on rfl rfl rfl ?_
      refine wl_got (γ := Bool) (val := fun v => .bool v) (φ := fun v => True) rfl cb83 rfl rfl rfl rfl (fun wx hm => ((flip_any _ wx B sb _ hm.k (by omega) (by omega) (by omega)).mono fun _ _ ⟨v, he, hS, hg⟩ => ⟨v, trivial, he, hS, hg⟩)) fun f2 _ => ?_
      refine wl_guard_on rfl rfl rfl ?_
      refine wl_ov (ov_un_not rfl) rfl ?_
      refine wl_ov (ov_pick_t rfl rfl) rfl ?_
      refine wl_nil ?_
      refine nx_then ?_
      refine gw_cond rfl (fun hh => ?_) (fun hh => ?_)
      · have hf : f2 = false := by simpa using hh
        clear hh
        refine gw_region ?_
        refine wl_ov (ov_move rfl) rfl ?_
        refine wl_ov (ov_move rfl) rfl ?_
        refine wl_ov (ov_move rfl) rfl ?_
        refine wl_ov (ov_move rfl) rfl ?_
        refine wl_ov (ov_move rfl) rfl ?_
        refine wl_got (γ := Int) (val := fun v => .int .i64 v) (φ := fun v => IsBelow ((i : Nat) : Int) v) rfl cb82 rfl rfl rfl rfl (fun wx hm => (next_any _ wx B sb _ hm.k (by omega) (by omega) (by omega))) fun vj hvj => ?_
        have hj := isBelow_lt hvj (by omega)
        obtain ⟨j, rfl⟩ := Int.eq_ofNat_of_zero_le hj.1
        have hji : j < 4 := by omega
        obtain ⟨y, hy⟩ : ∃ y, l[j]? = some y := ⟨_, List.getElem?_eq_getElem (by omega)⟩
        obtain ⟨z, hz⟩ : ∃ z, l[i]? = some z := ⟨_, List.getElem?_eq_getElem (by omega)⟩
        obtain ⟨y0, y1⟩ := y
        obtain ⟨z0, z1⟩ := z
        obtain ⟨hy0, hy1⟩ := hok _ (List.mem_of_getElem? hy)
        obtain ⟨hz0, hz1⟩ := hok _ (List.mem_of_getElem? hz)
        refine wl_ov (ov_index (j := j) es50 rfl rfl (by omega)) rfl ?_
        refine wl_ov (ov_field fo135_0 rfl rfl) rfl ?_
        refine wl_ov (ov_elem1 (k := 0) (v := .string y0) sc9 rfl (fun _ hm => (SlT.ofOwn cs_len (hm.ownI 0 rfl) hl4)) hy rfl rfl) rfl ?_
        refine wl_ov (ov_index (j := i) es50 rfl rfl (by omega)) rfl ?_
        refine wl_ov (ov_field fo135_1 rfl rfl) rfl ?_
        refine wl_storeE (l := l) (j := i) (r := 1) (el := ⟨z0, z1⟩) (el' := ⟨z0, y0⟩) 0 sc9 rfl rfl rfl rfl cs_len rfl hz hl4 (by decide) rfl rfl ?_
        refine wl_nil ?_
        refine nx_blk_nrm ?_
        refine nx_then ?_
        refine gw_region ?_
        refine wl_ov (ov_add rfl rfl (by omega) (by omega)) rfl ?_
        refine wl_ov (ov_move rfl) rfl ?_
        refine wl_nil ?_
        exact nx_round (i + 1, l.set i ⟨z0, y0⟩) ⟨by dsimp only; omega, by simp [hl4], cs_mem hok ⟨hz0, hy0⟩⟩ (by dsimp only; omega) ⟨rfl, rfl, rfl, rfl, (some_int (by omega)), trivial⟩ (fun _ hm => (hm.more rfl (by first | omega | (dsimp only; omega))).pick [] [0] [] rfl rfl)
      · have hf : f2 = true := by simpa using hh
        clear hh
        refine gw_skip ?_
        refine nx_blk_nrm ?_
        refine nx_then ?_
        refine gw_region ?_
        refine wl_ov (ov_add rfl rfl (by omega) (by omega)) rfl ?_
        refine wl_ov (ov_move rfl) rfl ?_
        refine wl_nil ?_
        exact nx_round (i + 1, l) ⟨by dsimp only; omega, hl4, hok⟩ (by dsimp only; omega) ⟨rfl, rfl, rfl, rfl, (some_int (by omega)), trivial⟩ (fun _ hm => (hm.more rfl (by first | omega | (dsimp only; omega))).pick [] [0] [] rfl rfl)
    · refine wl_set 17 rfl (congrArg Value.bool h0) ?_
      refine wl_guard_off rfl rfl rfl (by decide) rfl ?_
      refine wl_guard_off rfl rfl rfl (by decide) rfl ?_
      refine wl_guard_off rfl rfl rfl (by decide) rfl ?_
      refine wl_ov (ov_pick_f rfl rfl) rfl ?_
      refine wl_nil ?_
      refine nx_then ?_
      refine gw_cond rfl (fun hh => by cases hh) (fun _ => ?_)
      refine gw_skip ?_
      refine nx_blk_nrm ?_
      refine nx_then ?_
      refine gw_region ?_
      refine wl_ov (ov_add rfl rfl (by omega) (by omega)) rfl ?_
      refine wl_ov (ov_move rfl) rfl ?_
      refine wl_nil ?_
      exact nx_round (i + 1, l) ⟨by dsimp only; omega, hl4, hok⟩ (by dsimp only; omega) ⟨rfl, rfl, rfl, rfl, (some_int (by omega)), trivial⟩ (fun _ hm => (hm.more rfl (by first | omega | (dsimp only; omega))).pick [] [0] [] rfl rfl)
  · have hi : ¬ (((i : Nat) : Int) < 4) := by simpa using hh
    clear hh
    refine gw_exit ?_
    refine nx_then_exit ?_
    refine nx_then_exit ?_
    refine nx_blk_here ?_
    refine nx_then ?_
    refine gw_seq ?_
    refine gw_region ?_
    refine wl_ov (ov_move rfl) rfl ?_
    refine wl_ov (ov_assign rfl) rfl ?_
    refine wl_nil ?_
    refine nx_then ?_
    refine gw_ret ?_
    refine nx_ret1 rfl rfl fun wx hm => ?_
    exact ⟨_, 4, l, rfl, hm.ownI 0 rfl, hl4, hok, hm.k.more (by omega), hm.g⟩

theorem mem5 {x a b c d e : ByteArray} (h : x ∈ [a, b, c, d, e]) : x = a ∨ x = b ∨ x = c ∨ x = d ∨ x = e := by simpa using h
set_option maxRecDepth 100000 in
set_option maxHeartbeats 4000000 in
theorem ganyClasses_any (w : World) (B sb m : Nat) (hS : Strm 25 w B sb m) (hm : m ≤ 100000000000) :
    Calls Tryz.prog 77 #[.pointer (some ⟨sb, 0, none⟩)] w (fun e w' => ∃ (A : Option Addr) (c : Nat) (l : List Cs), e = .returned (.slice A 4 c) ∧ w'.ownsRow w.heap.size 135 2 (.slice A 4 c) 4 (l.flatMap csEnc) ∧ l.length = 4 ∧ (∀ x ∈ l, CsOk x) ∧ Strm 25 w' B sb (m + 40) ∧ w.grownBy w' (some sb)) := by
  refine gw_enter ⟨44, w, (some sb), []⟩ Tryz.func77 rfl Tryz.ntmps77 rfl (memS (X := []) hS allF_nil allL_nil) ?_
  refine gw_seq ?_
  refine gw_region ?_
  refine wl_ov (ov_assign rfl) rfl ?_
  refine wl_nil ?_
  refine nx_then ?_
  refine gw_seq ?_
  refine gw_region ?_
  refine wl_ov (ov_move rfl) rfl ?_
  refine wl_callgs (γ := Option Addr × Nat × List Cs) (val := (fun (g : Option Addr × Nat × List Cs) => .slice g.1 4 g.2.1)) (φ := (fun (g : Option Addr × Nat × List Cs) => g.2.2.length = 4 ∧ (∀ x ∈ g.2.2, CsOk x))) (m' := m + 20) (fun (g : Option Addr × Nat × List Cs) => ⟨.slice g.1 4 g.2.1, 135, 2, 4, g.2.2.flatMap csEnc⟩) rfl cb149 rfl rfl rfl rfl (fun wx hm => (gclasses_any wx B sb _ hm.k (by omega)).mono fun _ _ ⟨A, c, l, he, ho, hl, hok, hS, hg⟩ => ⟨(A, c, l), he, ⟨hl, hok⟩, hS, hg, ho⟩) ?_
  rintro ⟨A, c, l⟩ hphi
  dsimp only at hphi ⊢
  obtain ⟨hl4, hok⟩ := hphi
  refine wl_ov (ov_assign rfl) rfl ?_
  refine wl_nil ?_
  refine nx_then ?_
  refine gw_seq ?_
  refine gw_seq ?_
  refine gw_region ?_
  refine wl_ov (ov_move rfl) rfl ?_
  refine wl_got (γ := Bool) (val := fun v => .bool v) (φ := fun v => True) rfl cb83 rfl rfl rfl rfl (fun wx hm => ((flip_any _ wx B sb _ hm.k (by omega) (by omega) (by omega)).mono fun _ _ ⟨v, he, hS, hg⟩ => ⟨v, trivial, he, hS, hg⟩)) fun f1 _ => ?_
  refine wl_nil ?_
  refine nx_then ?_
  refine gw_cond rfl (fun hh => ?_) (fun hh => ?_)
  · have hf : f1 = true := by simpa using hh
    clear hh
    refine gw_seq ?_
    refine gw_region ?_
    refine wl_look (R := ∃ g, A = some ⟨g, 0, none⟩) (fun wx hm => own_addr (hm.ownI 0 rfl) (by omega)) ?_
    rintro ⟨bo, rfl⟩
    refine wl_ov (ov_move rfl) rfl ?_
    refine wl_ov (ov_move rfl) rfl ?_
    refine wl_ov (ov_move rfl) rfl ?_
    refine wl_ov (ov_len es50 rfl) rfl ?_
    refine wl_set 12 (v' := .int .i64 4) rfl rfl ?_
    refine wl_got (γ := Int) (val := fun v => .int .i64 v) (φ := fun v => IsBelow 4 v) rfl cb82 rfl rfl rfl rfl (fun wx hm => (next_any _ wx B sb _ hm.k (by omega) (by omega) (by omega))) fun vj hvj => ?_
    have hj := isBelow_lt hvj (by omega)
    obtain ⟨j, rfl⟩ := Int.eq_ofNat_of_zero_le hj.1
    have hji : j < 4 := by omega
    obtain ⟨y, hy⟩ : ∃ y, l[j]? = some y := ⟨_, List.getElem?_eq_getElem (by omega)⟩
    obtain ⟨y0, y1⟩ := y
    obtain ⟨hy0, hy1⟩ := hok _ (List.mem_of_getElem? hy)
    have hy0 : y0.size ≤ 1000000 := hy0
    have hy1 : y1.size ≤ 1000000 := hy1
    refine wl_ov (ov_index (j := j) es50 rfl rfl (by omega)) rfl ?_
    refine wl_ov (ov_assign rfl) rfl ?_
    refine wl_nil ?_
    refine nx_then ?_
    refine gw_draw (fun wz => True) mixed ?_
    refine wa_take 0 rfl (by kernel_rfl) (by kernel_rfl) (by kernel_rfl) (listed' := #[true, false, false, false, false, false, false, false, false, false, false, false, false, false, false, false, false, false, false, false, false, false, false, false, false, false, false, false, false, false]) rfl (fun _ _ _ h => h) (fun _ _ => trivial) (ov_move rfl) rfl ?_
    refine wa_take 1 rfl (by kernel_rfl) (by kernel_rfl) (by kernel_rfl) (listed' := #[true, true, false, false, false, false, false, false, false, false, false, false, false, false, false, false, false, false, false, false, false, false, false, false, false, false, false, false, false, false]) rfl (fun _ _ _ h => h) (fun _ _ => trivial) (ov_move rfl) rfl ?_
    refine wa_take 2 rfl (by kernel_rfl) (by kernel_rfl) (by kernel_rfl) (listed' := #[true, true, true, false, false, false, false, false, false, false, false, false, false, false, false, false, false, false, false, false, false, false, false, false, false, false, false, false, false, false]) rfl (fun _ _ _ h => h) (fun _ _ => trivial) (ov_move rfl) rfl ?_
    refine wa_take 3 rfl (by kernel_rfl) (by kernel_rfl) (by kernel_rfl) (listed' := #[true, true, true, true, false, false, false, false, false, false, false, false, false, false, false, false, false, false, false, false, false, false, false, false, false, false, false, false, false, false]) rfl (fun _ _ _ h => h) (fun _ _ => trivial) (ov_move rfl) rfl ?_
    refine wa_take 4 rfl (by kernel_rfl) (by kernel_rfl) (by kernel_rfl) (listed' := #[true, true, true, true, true, false, false, false, false, false, false, false, false, false, false, false, false, false, false, false, false, false, false, false, false, false, false, false, false, false]) rfl (fun _ _ _ h => h) (fun _ _ => trivial) (ov_nilcheck rfl) rfl ?_
    refine wa_take 5 rfl (by kernel_rfl) (by kernel_rfl) (by kernel_rfl) (listed' := #[true, true, true, true, true, true, false, false, false, false, false, false, false, false, false, false, false, false, false, false, false, false, false, false, false, false, false, false, false, false]) rfl (fun _ _ _ h => h) (fun _ _ => trivial) (ov_field fo135_0 rfl rfl) rfl ?_
    refine wa_take 7 rfl (by kernel_rfl) (by kernel_rfl) (by kernel_rfl) (listed' := #[true, true, true, true, true, true, false, true, false, false, false, false, false, false, false, false, false, false, false, false, false, false, false, false, false, false, false, false, false, false]) rfl (fun _ _ _ h => h) (fun _ _ => trivial) (ov_move rfl) rfl ?_
    refine wa_take 8 rfl (by kernel_rfl) (by kernel_rfl) (by kernel_rfl) (listed' := #[true, true, true, true, true, true, false, true, true, false, false, false, false, false, false, false, false, false, false, false, false, false, false, false, false, false, false, false, false, false]) rfl (fun _ _ _ h => h) (fun _ _ => trivial) (ov_nilcheck rfl) rfl ?_
    refine wa_take 9 rfl (by kernel_rfl) (by kernel_rfl) (by kernel_rfl) (listed' := #[true, true, true, true, true, true, false, true, true, true, false, false, false, false, false, false, false, false, false, false, false, false, false, false, false, false, false, false, false, false]) rfl (fun _ _ _ h => h) (fun _ _ => trivial) (ov_field fo135_0 rfl rfl) rfl ?_
    refine wa_take 13 rfl (by kernel_rfl) (by kernel_rfl) (by kernel_rfl) (listed' := #[true, true, true, true, true, true, false, true, true, true, false, false, false, true, false, false, false, false, false, false, false, false, false, false, false, false, false, false, false, false]) rfl (fun _ _ _ h => h) (fun _ _ => trivial) (ov_move rfl) rfl ?_
    refine wa_take 14 rfl (by kernel_rfl) (by kernel_rfl) (by kernel_rfl) (listed' := #[true, true, true, true, true, true, false, true, true, true, false, false, false, true, true, false, false, false, false, false, false, false, false, false, false, false, false, false, false, false]) rfl (fun _ _ _ h => h) (fun _ _ => trivial) (ov_move rfl) rfl ?_
    refine wa_take 15 rfl (by kernel_rfl) (by kernel_rfl) (by kernel_rfl) (listed' := #[true, true, true, true, true, true, false, true, true, true, false, false, false, true, true, true, false, false, false, false, false, false, false, false, false, false, false, false, false, false]) rfl (fun _ _ _ h => h) (fun _ _ => trivial) (ov_nilcheck rfl) rfl ?_
    refine wa_take 16 rfl (by kernel_rfl) (by kernel_rfl) (by kernel_rfl) (listed' := #[true, true, true, true, true, true, false, true, true, true, false, false, false, true, true, true, true, false, false, false, false, false, false, false, false, false, false, false, false, false]) rfl (fun _ _ _ h => h) (fun _ _ => trivial) (ov_field fo135_1 rfl rfl) rfl ?_
    refine wa_take 18 rfl (by kernel_rfl) (by kernel_rfl) (by kernel_rfl) (listed' := #[true, true, true, true, true, true, false, true, true, true, false, false, false, true, true, true, true, false, true, false, false, false, false, false, false, false, false, false, false, false]) rfl (fun _ _ _ h => h) (fun _ _ => trivial) (ov_move rfl) rfl ?_
    refine wa_take 19 rfl (by kernel_rfl) (by kernel_rfl) (by kernel_rfl) (listed' := #[true, true, true, true, true, true, false, true, true, true, false, false, false, true, true, true, true, false, true, true, false, false, false, false, false, false, false, false, false, false]) rfl (fun _ _ _ h => h) (fun _ _ => trivial) (ov_nilcheck rfl) rfl ?_
    refine wa_take 20 rfl (by kernel_rfl) (by kernel_rfl) (by kernel_rfl) (listed' := #[true, true, true, true, true, true, false, true, true, true, false, false, false, true, true, true, true, false, true, true, true, false, false, false, false, false, false, false, false, false]) rfl (fun _ _ _ h => h) (fun _ _ => trivial) (ov_field fo135_0 rfl rfl) rfl ?_
    refine wa_open fun W hW => ?_
    have T2097151 : ∀ (q11 : Nat) (k12 : ByteArray) (hk12 : k12 ∈ ([y0, y0, ⟨#[]⟩, ⟨#[65]⟩, ⟨#[122, 101, 100]⟩] : List ByteArray)), W 9 #[true, true, true, true, true, true, true, true, true, true, true, true, true, true, true, true, true, true, true, true, true, false, false, false, false, false, false, false, false, false] [(0, .pointer (some ⟨sb, 0, none⟩)), (2, .slice none 0 0), (3, .slice (some ⟨bo, 0, none⟩) 4 c), (4, .pointer (some ⟨bo, 0 + j * 2, none⟩)), (5, .pointer (some ⟨sb, 0, none⟩)), (6, .slice (some ⟨bo, 0, none⟩) 4 c), (7, .pointer (some ⟨sb, 0, none⟩)), (8, .bool f1), (9, .slice (some ⟨bo, 0, none⟩) 4 c), (10, .pointer (some ⟨sb, 0, none⟩)), (11, .slice (some ⟨bo, 0, none⟩) 4 c), (12, .int .i64 4), (13, .int .i64 ((j : Nat) : Int)), (14, .pointer (some ⟨bo, 0 + j * 2, none⟩)), (15, .pointer (some ⟨bo, 0 + j * 2, none⟩)), (16, .pointer (some ⟨bo, 0 + j * 2, none⟩)), (17, .pointer (some ⟨sb, 0, none⟩)), (18, .pointer (some ⟨bo, 0 + j * 2, none⟩)), (19, .pointer (some ⟨bo, 0 + j * 2, none⟩)), (20, .pointer (some ⟨bo, 0 + j * 2 + 0, none⟩)), (21, .string y0), (22, .pointer (some ⟨bo, 0 + j * 2, none⟩)), (23, .pointer (some ⟨bo, 0 + j * 2, none⟩)), (24, .pointer (some ⟨bo, 0 + j * 2 + 0, none⟩)), (25, .string y0), (26, .slice (some ⟨q11, 0, none⟩) 5 5), (27, .string k12), (28, .pointer (some ⟨sb, 0, none⟩)), (29, .pointer (some ⟨bo, 0 + j * 2, none⟩)), (30, .pointer (some ⟨bo, 0 + j * 2, none⟩)), (31, .pointer (some ⟨bo, 0 + j * 2 + 1, none⟩)), (32, .string y1), (33, .pointer (some ⟨bo, 0 + j * 2, none⟩)), (34, .pointer (some ⟨bo, 0 + j * 2, none⟩)), (35, .pointer (some ⟨bo, 0 + j * 2 + 0, none⟩))] (fun w => Strm 25 w B sb (m + 20 + 1 + 1 + 1)) [(q11, 9, [.string y0, .string y0, .string ⟨#[]⟩, .string ⟨#[65]⟩, .string ⟨#[122, 101, 100]⟩])] [⟨.slice (some ⟨bo, 0, none⟩) 4 c, 135, 2, 4, l.flatMap csEnc⟩] [] := by
      intro q11 k12 hk12
      rw [hW]
      refine wa_all [21] (by kernel_rfl) rfl ⟨⟨_, rfl, ?_⟩, trivial⟩
      refine wl_ov (ov_elem1 (k := 0) (v := .string y0) sc9 rfl (fun _ hm => (SlT.ofOwn cs_len (hm.ownI 0 rfl) hl4)) hy rfl rfl) rfl ?_
      refine wl_nil ?_
      refine nx_wa0 (listed' := #[true, true, true, true, true, true, true, true, true, true, true, true, true, true, true, true, true, true, true, true, true, true, false, false, false, false, false, false, false, false]) rfl (fun _ _ => trivial) ?_
      refine wa_all [22] (by kernel_rfl) rfl ⟨⟨_, rfl, ?_⟩, trivial⟩
      refine wl_buildSlice (e := 9) (cs := [.string y1, .string ⟨#[109, 105, 110, 105]⟩, .string ⟨#[110, 111, 110, 101]⟩, .string ⟨#[65]⟩, .string y0]) rfl (by kernel_rfl) rfl fun q22 => ?_
      refine wl_nil ?_
      refine nx_wa0 (listed' := #[true, true, true, true, true, true, true, true, true, true, true, true, true, true, true, true, true, true, true, true, true, true, true, false, false, false, false, false, false, false]) rfl (fun _ _ => trivial) ?_
      refine wa_all [23] (by kernel_rfl) rfl ⟨⟨_, rfl, ?_⟩, trivial⟩
      refine wl_got (γ := ByteArray) (val := fun v => .string v) (φ := fun v => v ∈ ([y1, ⟨#[109, 105, 110, 105]⟩, ⟨#[110, 111, 110, 101]⟩, ⟨#[65]⟩, y0] : List ByteArray)) rfl cb48 rfl rfl rfl rfl (fun wx hm => (some_any [y1, ⟨#[109, 105, 110, 105]⟩, ⟨#[110, 111, 110, 101]⟩, ⟨#[65]⟩, y0] _ _ _ wx B sb _ hm.k (by omega) (by simp) (by simp) (hm.blkI 0 rfl) (hm.neRow 0 rfl rfl))) fun k23 hk23 => ?_
      refine wl_nil ?_
      refine nx_wa0 (listed' := #[true, true, true, true, true, true, true, true, true, true, true, true, true, true, true, true, true, true, true, true, true, true, true, true, false, false, false, false, false, false]) rfl (fun _ _ => trivial) ?_
      refine wa_take 24 rfl (by kernel_rfl) (by kernel_rfl) (by kernel_rfl) (listed' := #[true, true, true, true, true, true, true, true, true, true, true, true, true, true, true, true, true, true, true, true, true, true, true, true, true, false, false, false, false, false]) rfl (fun _ _ _ h => h) (fun _ _ => trivial) (ov_nilcheck rfl) rfl ?_
      refine wa_take 25 rfl (by kernel_rfl) (by kernel_rfl) (by kernel_rfl) (listed' := #[true, true, true, true, true, true, true, true, true, true, true, true, true, true, true, true, true, true, true, true, true, true, true, true, true, true, false, false, false, false]) rfl (fun _ _ _ h => h) (fun _ _ => trivial) (ov_field fo135_0 rfl rfl) rfl ?_
      refine wa_all [26] (by kernel_rfl) rfl ⟨⟨_, rfl, ?_⟩, trivial⟩
      refine wl_storeE (l := l) (j := j) (r := 0) (el := ⟨y0, y1⟩) (el' := ⟨k12, y1⟩) 0 sc9 rfl rfl rfl rfl cs_len rfl hy hl4 (by decide) rfl rfl ?_
      refine wl_nil ?_
      refine nx_wa0 (listed' := #[true, true, true, true, true, true, true, true, true, true, true, true, true, true, true, true, true, true, true, true, true, true, true, true, true, true, true, false, false, false]) rfl (fun _ _ => trivial) ?_
      refine wa_take 27 rfl (by kernel_rfl) (by kernel_rfl) (by kernel_rfl) (listed' := #[true, true, true, true, true, true, true, true, true, true, true, true, true, true, true, true, true, true, true, true, true, true, true, true, true, true, true, true, false, false]) rfl (fun _ _ _ h => h) (fun _ _ => trivial) (ov_nilcheck rfl) rfl ?_
      refine wa_take 28 rfl (by kernel_rfl) (by kernel_rfl) (by kernel_rfl) (listed' := #[true, true, true, true, true, true, true, true, true, true, true, true, true, true, true, true, true, true, true, true, true, true, true, true, true, true, true, true, true, false]) rfl (fun _ _ _ h => h) (fun _ _ => trivial) (ov_field fo135_1 rfl rfl) rfl ?_
      refine wa_all [29] (by kernel_rfl) rfl ⟨⟨_, rfl, ?_⟩, trivial⟩
      have hy2 : (l.set j ⟨k12, y1⟩)[j]? = some (⟨k12, y1⟩ : Cs) := by rw [List.getElem?_set_self (by omega)]
      have hl42 : (l.set j ⟨k12, y1⟩).length = 4 := by simp [hl4]
      refine wl_storeE (l := (l.set j ⟨k12, y1⟩)) (j := j) (r := 1) (el := ⟨k12, y1⟩) (el' := ⟨k12, k23⟩) 0 sc9 rfl rfl rfl rfl cs_len rfl hy2 hl42 (by decide) rfl rfl ?_
      refine wl_nil ?_
      refine nx_wa0 (listed' := #[true, true, true, true, true, true, true, true, true, true, true, true, true, true, true, true, true, true, true, true, true, true, true, true, true, true, true, true, true, true]) rfl (fun _ _ => trivial) ?_
      refine wa_done (by kernel_rfl) ?_
      refine nx_then ?_
      refine gw_seq ?_
      refine gw_region ?_
      refine wl_ov (ov_move rfl) rfl ?_
      refine wl_ov (ov_assign rfl) rfl ?_
      refine wl_nil ?_
      refine nx_then ?_
      refine gw_ret ?_
      refine nx_ret1 rfl rfl fun wx hm => ?_
      exact ⟨some ⟨bo, 0, none⟩, c, _, rfl, hm.ownI 0 rfl, (by simp [hl4]), cs_mem (cs_mem hok ⟨(show k12.size ≤ 1000000 by rcases mem5 hk12 with h | h | h | h | h <;> rw [h] <;> first | assumption | decide), hy1⟩) ⟨(show k12.size ≤ 1000000 by rcases mem5 hk12 with h | h | h | h | h <;> rw [h] <;> first | assumption | decide), (show k23.size ≤ 1000000 by rcases mem5 hk23 with h | h | h | h | h <;> rw [h] <;> first | assumption | decide)⟩, hm.k.more (by omega), hm.g⟩
    have T4063231 : ∀ (q11 : Nat) (k12 : ByteArray) (hk12 : k12 ∈ ([y0, y0, ⟨#[]⟩, ⟨#[65]⟩, ⟨#[122, 101, 100]⟩] : List ByteArray)), W 9 #[true, true, true, true, true, true, true, true, true, true, true, true, true, true, true, true, true, false, true, true, true, true, false, false, false, false, false, false, false, false] [(0, .pointer (some ⟨sb, 0, none⟩)), (2, .slice none 0 0), (3, .slice (some ⟨bo, 0, none⟩) 4 c), (4, .pointer (some ⟨bo, 0 + j * 2, none⟩)), (5, .pointer (some ⟨sb, 0, none⟩)), (6, .slice (some ⟨bo, 0, none⟩) 4 c), (7, .pointer (some ⟨sb, 0, none⟩)), (8, .bool f1), (9, .slice (some ⟨bo, 0, none⟩) 4 c), (10, .pointer (some ⟨sb, 0, none⟩)), (11, .slice (some ⟨bo, 0, none⟩) 4 c), (12, .int .i64 4), (13, .int .i64 ((j : Nat) : Int)), (14, .pointer (some ⟨bo, 0 + j * 2, none⟩)), (15, .pointer (some ⟨bo, 0 + j * 2, none⟩)), (16, .pointer (some ⟨bo, 0 + j * 2, none⟩)), (17, .pointer (some ⟨sb, 0, none⟩)), (18, .pointer (some ⟨bo, 0 + j * 2, none⟩)), (19, .pointer (some ⟨bo, 0 + j * 2, none⟩)), (20, .pointer (some ⟨bo, 0 + j * 2 + 0, none⟩)), (21, .string y0), (22, .pointer (some ⟨bo, 0 + j * 2, none⟩)), (23, .pointer (some ⟨bo, 0 + j * 2, none⟩)), (24, .pointer (some ⟨bo, 0 + j * 2 + 0, none⟩)), (25, .string y0), (26, .slice (some ⟨q11, 0, none⟩) 5 5), (27, .string k12), (28, .pointer (some ⟨sb, 0, none⟩)), (29, .pointer (some ⟨bo, 0 + j * 2, none⟩)), (30, .pointer (some ⟨bo, 0 + j * 2, none⟩)), (31, .pointer (some ⟨bo, 0 + j * 2 + 1, none⟩)), (33, .pointer (some ⟨bo, 0 + j * 2, none⟩)), (34, .pointer (some ⟨bo, 0 + j * 2, none⟩)), (35, .pointer (some ⟨bo, 0 + j * 2 + 0, none⟩)), (36, .string y0)] (fun w => Strm 25 w B sb (m + 20 + 1 + 1 + 1)) [(q11, 9, [.string y0, .string y0, .string ⟨#[]⟩, .string ⟨#[65]⟩, .string ⟨#[122, 101, 100]⟩])] [⟨.slice (some ⟨bo, 0, none⟩) 4 c, 135, 2, 4, l.flatMap csEnc⟩] [] := by
      intro q11 k12 hk12
      rw [hW]
      refine wa_all [17] (by kernel_rfl) rfl ⟨⟨_, rfl, ?_⟩, trivial⟩
      refine wl_ov (ov_elem1 (k := 1) (v := .string y1) sc9 rfl (fun _ hm => (SlT.ofOwn cs_len (hm.ownI 0 rfl) hl4)) hy rfl rfl) rfl ?_
      refine wl_nil ?_
      refine nx_wa0 (listed' := #[true, true, true, true, true, true, true, true, true, true, true, true, true, true, true, true, true, true, true, true, true, true, false, false, false, false, false, false, false, false]) rfl (fun _ _ => trivial) ?_
      refine wa_all [22] (by kernel_rfl) rfl ⟨⟨_, rfl, ?_⟩, trivial⟩
      refine wl_buildSlice (e := 9) (cs := [.string y1, .string ⟨#[109, 105, 110, 105]⟩, .string ⟨#[110, 111, 110, 101]⟩, .string ⟨#[65]⟩, .string y0]) rfl (by kernel_rfl) rfl fun q22 => ?_
      refine wl_nil ?_
      refine nx_wa0 (listed' := #[true, true, true, true, true, true, true, true, true, true, true, true, true, true, true, true, true, true, true, true, true, true, true, false, false, false, false, false, false, false]) rfl (fun _ _ => trivial) ?_
      refine wa_all [23] (by kernel_rfl) rfl ⟨⟨_, rfl, ?_⟩, trivial⟩
      refine wl_got (γ := ByteArray) (val := fun v => .string v) (φ := fun v => v ∈ ([y1, ⟨#[109, 105, 110, 105]⟩, ⟨#[110, 111, 110, 101]⟩, ⟨#[65]⟩, y0] : List ByteArray)) rfl cb48 rfl rfl rfl rfl (fun wx hm => (some_any [y1, ⟨#[109, 105, 110, 105]⟩, ⟨#[110, 111, 110, 101]⟩, ⟨#[65]⟩, y0] _ _ _ wx B sb _ hm.k (by omega) (by simp) (by simp) (hm.blkI 0 rfl) (hm.neRow 0 rfl rfl))) fun k23 hk23 => ?_
      refine wl_nil ?_
      refine nx_wa0 (listed' := #[true, true, true, true, true, true, true, true, true, true, true, true, true, true, true, true, true, true, true, true, true, true, true, true, false, false, false, false, false, false]) rfl (fun _ _ => trivial) ?_
      refine wa_take 24 rfl (by kernel_rfl) (by kernel_rfl) (by kernel_rfl) (listed' := #[true, true, true, true, true, true, true, true, true, true, true, true, true, true, true, true, true, true, true, true, true, true, true, true, true, false, false, false, false, false]) rfl (fun _ _ _ h => h) (fun _ _ => trivial) (ov_nilcheck rfl) rfl ?_
      refine wa_take 25 rfl (by kernel_rfl) (by kernel_rfl) (by kernel_rfl) (listed' := #[true, true, true, true, true, true, true, true, true, true, true, true, true, true, true, true, true, true, true, true, true, true, true, true, true, true, false, false, false, false]) rfl (fun _ _ _ h => h) (fun _ _ => trivial) (ov_field fo135_0 rfl rfl) rfl ?_
      refine wa_all [26] (by kernel_rfl) rfl ⟨⟨_, rfl, ?_⟩, trivial⟩
      refine wl_storeE (l := l) (j := j) (r := 0) (el := ⟨y0, y1⟩) (el' := ⟨k12, y1⟩) 0 sc9 rfl rfl rfl rfl cs_len rfl hy hl4 (by decide) rfl rfl ?_
      refine wl_nil ?_
      refine nx_wa0 (listed' := #[true, true, true, true, true, true, true, true, true, true, true, true, true, true, true, true, true, true, true, true, true, true, true, true, true, true, true, false, false, false]) rfl (fun _ _ => trivial) ?_
      refine wa_take 27 rfl (by kernel_rfl) (by kernel_rfl) (by kernel_rfl) (listed' := #[true, true, true, true, true, true, true, true, true, true, true, true, true, true, true, true, true, true, true, true, true, true, true, true, true, true, true, true, false, false]) rfl (fun _ _ _ h => h) (fun _ _ => trivial) (ov_nilcheck rfl) rfl ?_
      refine wa_take 28 rfl (by kernel_rfl) (by kernel_rfl) (by kernel_rfl) (listed' := #[true, true, true, true, true, true, true, true, true, true, true, true, true, true, true, true, true, true, true, true, true, true, true, true, true, true, true, true, true, false]) rfl (fun _ _ _ h => h) (fun _ _ => trivial) (ov_field fo135_1 rfl rfl) rfl ?_
      refine wa_all [29] (by kernel_rfl) rfl ⟨⟨_, rfl, ?_⟩, trivial⟩
      have hy2 : (l.set j ⟨k12, y1⟩)[j]? = some (⟨k12, y1⟩ : Cs) := by rw [List.getElem?_set_self (by omega)]
      have hl42 : (l.set j ⟨k12, y1⟩).length = 4 := by simp [hl4]
      refine wl_storeE (l := (l.set j ⟨k12, y1⟩)) (j := j) (r := 1) (el := ⟨k12, y1⟩) (el' := ⟨k12, k23⟩) 0 sc9 rfl rfl rfl rfl cs_len rfl hy2 hl42 (by decide) rfl rfl ?_
      refine wl_nil ?_
      refine nx_wa0 (listed' := #[true, true, true, true, true, true, true, true, true, true, true, true, true, true, true, true, true, true, true, true, true, true, true, true, true, true, true, true, true, true]) rfl (fun _ _ => trivial) ?_
      refine wa_done (by kernel_rfl) ?_
      refine nx_then ?_
      refine gw_seq ?_
      refine gw_region ?_
      refine wl_ov (ov_move rfl) rfl ?_
      refine wl_ov (ov_assign rfl) rfl ?_
      refine wl_nil ?_
      refine nx_then ?_
      refine gw_ret ?_
      refine nx_ret1 rfl rfl fun wx hm => ?_
      exact ⟨some ⟨bo, 0, none⟩, c, _, rfl, hm.ownI 0 rfl, (by simp [hl4]), cs_mem (cs_mem hok ⟨(show k12.size ≤ 1000000 by rcases mem5 hk12 with h | h | h | h | h <;> rw [h] <;> first | assumption | decide), hy1⟩) ⟨(show k12.size ≤ 1000000 by rcases mem5 hk12 with h | h | h | h | h <;> rw [h] <;> first | assumption | decide), (show k23.size ≤ 1000000 by rcases mem5 hk23 with h | h | h | h | h <;> rw [h] <;> first | assumption | decide)⟩, hm.k.more (by omega), hm.g⟩
    have J1966079 : ∀ (q11 : Nat) (k12 : ByteArray) (hk12 : k12 ∈ ([y0, y0, ⟨#[]⟩, ⟨#[65]⟩, ⟨#[122, 101, 100]⟩] : List ByteArray)), W 10 #[true, true, true, true, true, true, true, true, true, true, true, true, true, true, true, true, true, false, true, true, true, false, false, false, false, false, false, false, false, false] [(0, .pointer (some ⟨sb, 0, none⟩)), (2, .slice none 0 0), (3, .slice (some ⟨bo, 0, none⟩) 4 c), (4, .pointer (some ⟨bo, 0 + j * 2, none⟩)), (5, .pointer (some ⟨sb, 0, none⟩)), (6, .slice (some ⟨bo, 0, none⟩) 4 c), (7, .pointer (some ⟨sb, 0, none⟩)), (8, .bool f1), (9, .slice (some ⟨bo, 0, none⟩) 4 c), (10, .pointer (some ⟨sb, 0, none⟩)), (11, .slice (some ⟨bo, 0, none⟩) 4 c), (12, .int .i64 4), (13, .int .i64 ((j : Nat) : Int)), (14, .pointer (some ⟨bo, 0 + j * 2, none⟩)), (15, .pointer (some ⟨bo, 0 + j * 2, none⟩)), (16, .pointer (some ⟨bo, 0 + j * 2, none⟩)), (17, .pointer (some ⟨sb, 0, none⟩)), (18, .pointer (some ⟨bo, 0 + j * 2, none⟩)), (19, .pointer (some ⟨bo, 0 + j * 2, none⟩)), (20, .pointer (some ⟨bo, 0 + j * 2 + 0, none⟩)), (21, .string y0), (22, .pointer (some ⟨bo, 0 + j * 2, none⟩)), (23, .pointer (some ⟨bo, 0 + j * 2, none⟩)), (24, .pointer (some ⟨bo, 0 + j * 2 + 0, none⟩)), (25, .string y0), (26, .slice (some ⟨q11, 0, none⟩) 5 5), (27, .string k12), (28, .pointer (some ⟨sb, 0, none⟩)), (29, .pointer (some ⟨bo, 0 + j * 2, none⟩)), (30, .pointer (some ⟨bo, 0 + j * 2, none⟩)), (31, .pointer (some ⟨bo, 0 + j * 2 + 1, none⟩)), (33, .pointer (some ⟨bo, 0 + j * 2, none⟩)), (34, .pointer (some ⟨bo, 0 + j * 2, none⟩)), (35, .pointer (some ⟨bo, 0 + j * 2 + 0, none⟩))] (fun w => Strm 25 w B sb (m + 20 + 1 + 1 + 1)) [(q11, 9, [.string y0, .string y0, .string ⟨#[]⟩, .string ⟨#[65]⟩, .string ⟨#[122, 101, 100]⟩])] [⟨.slice (some ⟨bo, 0, none⟩) 4 c, 135, 2, 4, l.flatMap csEnc⟩] [] := by
      intro q11 k12 hk12
      rw [hW]
      refine wa_all [17, 21] (by kernel_rfl) rfl ⟨⟨_, rfl, ?_⟩, ⟨_, rfl, ?_⟩, trivial⟩
      · refine wl_ov (ov_elem1 (k := 1) (v := .string y1) sc9 rfl (fun _ hm => (SlT.ofOwn cs_len (hm.ownI 0 rfl) hl4)) hy rfl rfl) rfl ?_
        refine wl_nil ?_
        refine nx_wa0 (listed' := #[true, true, true, true, true, true, true, true, true, true, true, true, true, true, true, true, true, true, true, true, true, false, false, false, false, false, false, false, false, false]) rfl (fun _ _ => trivial) ?_
        have h := T2097151 q11 k12 hk12
        rw [hW] at h
        refine wa_weak ?_ ?_ h
        · exact ⟨rfl, rfl, rfl, rfl, rfl, rfl, rfl, rfl, rfl, rfl, rfl, rfl, rfl, rfl, rfl, rfl, rfl, rfl, rfl, rfl, rfl, rfl, rfl, rfl, rfl, rfl, rfl, rfl, rfl, rfl, rfl, rfl, rfl, rfl, rfl, trivial⟩
        · exact fun _ hm => hm.pick [0] [0] [] rfl rfl
      · refine wl_ov (ov_elem1 (k := 0) (v := .string y0) sc9 rfl (fun _ hm => (SlT.ofOwn cs_len (hm.ownI 0 rfl) hl4)) hy rfl rfl) rfl ?_
        refine wl_nil ?_
        refine nx_wa0 (listed' := #[true, true, true, true, true, true, true, true, true, true, true, true, true, true, true, true, true, false, true, true, true, true, false, false, false, false, false, false, false, false]) rfl (fun _ _ => trivial) ?_
        have h := T4063231 q11 k12 hk12
        rw [hW] at h
        refine wa_weak ?_ ?_ h
        · exact ⟨rfl, rfl, rfl, rfl, rfl, rfl, rfl, rfl, rfl, rfl, rfl, rfl, rfl, rfl, rfl, rfl, rfl, rfl, rfl, rfl, rfl, rfl, rfl, rfl, rfl, rfl, rfl, rfl, rfl, rfl, rfl, rfl, rfl, rfl, rfl, trivial⟩
        · exact fun _ hm => hm.pick [0] [0] [] rfl rfl
    have T4194303 : ∀ (q11 : Nat) (k12 : ByteArray) (hk12 : k12 ∈ ([y0, y0, ⟨#[]⟩, ⟨#[65]⟩, ⟨#[122, 101, 100]⟩] : List ByteArray)), W 8 #[true, true, true, true, true, true, true, true, true, true, true, true, true, true, true, true, true, true, true, true, true, true, false, false, false, false, false, false, false, false] [(0, .pointer (some ⟨sb, 0, none⟩)), (2, .slice none 0 0), (3, .slice (some ⟨bo, 0, none⟩) 4 c), (4, .pointer (some ⟨bo, 0 + j * 2, none⟩)), (5, .pointer (some ⟨sb, 0, none⟩)), (6, .slice (some ⟨bo, 0, none⟩) 4 c), (7, .pointer (some ⟨sb, 0, none⟩)), (8, .bool f1), (9, .slice (some ⟨bo, 0, none⟩) 4 c), (10, .pointer (some ⟨sb, 0, none⟩)), (11, .slice (some ⟨bo, 0, none⟩) 4 c), (12, .int .i64 4), (13, .int .i64 ((j : Nat) : Int)), (14, .pointer (some ⟨bo, 0 + j * 2, none⟩)), (15, .pointer (some ⟨bo, 0 + j * 2, none⟩)), (16, .pointer (some ⟨bo, 0 + j * 2, none⟩)), (17, .pointer (some ⟨sb, 0, none⟩)), (18, .pointer (some ⟨bo, 0 + j * 2, none⟩)), (19, .pointer (some ⟨bo, 0 + j * 2, none⟩)), (20, .pointer (some ⟨bo, 0 + j * 2 + 0, none⟩)), (21, .string y0), (22, .pointer (some ⟨bo, 0 + j * 2, none⟩)), (23, .pointer (some ⟨bo, 0 + j * 2, none⟩)), (24, .pointer (some ⟨bo, 0 + j * 2 + 0, none⟩)), (25, .string y0), (26, .slice (some ⟨q11, 0, none⟩) 5 5), (27, .string k12), (28, .pointer (some ⟨sb, 0, none⟩)), (29, .pointer (some ⟨bo, 0 + j * 2, none⟩)), (30, .pointer (some ⟨bo, 0 + j * 2, none⟩)), (31, .pointer (some ⟨bo, 0 + j * 2 + 1, none⟩)), (32, .string y1), (33, .pointer (some ⟨bo, 0 + j * 2, none⟩)), (34, .pointer (some ⟨bo, 0 + j * 2, none⟩)), (35, .pointer (some ⟨bo, 0 + j * 2 + 0, none⟩)), (36, .string y0)] (fun w => Strm 25 w B sb (m + 20 + 1 + 1 + 1)) [(q11, 9, [.string y0, .string y0, .string ⟨#[]⟩, .string ⟨#[65]⟩, .string ⟨#[122, 101, 100]⟩])] [⟨.slice (some ⟨bo, 0, none⟩) 4 c, 135, 2, 4, l.flatMap csEnc⟩] [] := by
      intro q11 k12 hk12
      rw [hW]
      refine wa_all [22] (by kernel_rfl) rfl ⟨⟨_, rfl, ?_⟩, trivial⟩
      refine wl_buildSlice (e := 9) (cs := [.string y1, .string ⟨#[109, 105, 110, 105]⟩, .string ⟨#[110, 111, 110, 101]⟩, .string ⟨#[65]⟩, .string y0]) rfl (by kernel_rfl) rfl fun q22 => ?_
      refine wl_nil ?_
      refine nx_wa0 (listed' := #[true, true, true, true, true, true, true, true, true, true, true, true, true, true, true, true, true, true, true, true, true, true, true, false, false, false, false, false, false, false]) rfl (fun _ _ => trivial) ?_
      refine wa_all [23] (by kernel_rfl) rfl ⟨⟨_, rfl, ?_⟩, trivial⟩
      refine wl_got (γ := ByteArray) (val := fun v => .string v) (φ := fun v => v ∈ ([y1, ⟨#[109, 105, 110, 105]⟩, ⟨#[110, 111, 110, 101]⟩, ⟨#[65]⟩, y0] : List ByteArray)) rfl cb48 rfl rfl rfl rfl (fun wx hm => (some_any [y1, ⟨#[109, 105, 110, 105]⟩, ⟨#[110, 111, 110, 101]⟩, ⟨#[65]⟩, y0] _ _ _ wx B sb _ hm.k (by omega) (by simp) (by simp) (hm.blkI 0 rfl) (hm.neRow 0 rfl rfl))) fun k23 hk23 => ?_
      refine wl_nil ?_
      refine nx_wa0 (listed' := #[true, true, true, true, true, true, true, true, true, true, true, true, true, true, true, true, true, true, true, true, true, true, true, true, false, false, false, false, false, false]) rfl (fun _ _ => trivial) ?_
      refine wa_take 24 rfl (by kernel_rfl) (by kernel_rfl) (by kernel_rfl) (listed' := #[true, true, true, true, true, true, true, true, true, true, true, true, true, true, true, true, true, true, true, true, true, true, true, true, true, false, false, false, false, false]) rfl (fun _ _ _ h => h) (fun _ _ => trivial) (ov_nilcheck rfl) rfl ?_
      refine wa_take 25 rfl (by kernel_rfl) (by kernel_rfl) (by kernel_rfl) (listed' := #[true, true, true, true, true, true, true, true, true, true, true, true, true, true, true, true, true, true, true, true, true, true, true, true, true, true, false, false, false, false]) rfl (fun _ _ _ h => h) (fun _ _ => trivial) (ov_field fo135_0 rfl rfl) rfl ?_
      refine wa_all [26] (by kernel_rfl) rfl ⟨⟨_, rfl, ?_⟩, trivial⟩
      refine wl_storeE (l := l) (j := j) (r := 0) (el := ⟨y0, y1⟩) (el' := ⟨k12, y1⟩) 0 sc9 rfl rfl rfl rfl cs_len rfl hy hl4 (by decide) rfl rfl ?_
      refine wl_nil ?_
      refine nx_wa0 (listed' := #[true, true, true, true, true, true, true, true, true, true, true, true, true, true, true, true, true, true, true, true, true, true, true, true, true, true, true, false, false, false]) rfl (fun _ _ => trivial) ?_
      refine wa_take 27 rfl (by kernel_rfl) (by kernel_rfl) (by kernel_rfl) (listed' := #[true, true, true, true, true, true, true, true, true, true, true, true, true, true, true, true, true, true, true, true, true, true, true, true, true, true, true, true, false, false]) rfl (fun _ _ _ h => h) (fun _ _ => trivial) (ov_nilcheck rfl) rfl ?_
      refine wa_take 28 rfl (by kernel_rfl) (by kernel_rfl) (by kernel_rfl) (listed' := #[true, true, true, true, true, true, true, true, true, true, true, true, true, true, true, true, true, true, true, true, true, true, true, true, true, true, true, true, true, false]) rfl (fun _ _ _ h => h) (fun _ _ => trivial) (ov_field fo135_1 rfl rfl) rfl ?_
      refine wa_all [29] (by kernel_rfl) rfl ⟨⟨_, rfl, ?_⟩, trivial⟩
      have hy2 : (l.set j ⟨k12, y1⟩)[j]? = some (⟨k12, y1⟩ : Cs) := by rw [List.getElem?_set_self (by omega)]
      have hl42 : (l.set j ⟨k12, y1⟩).length = 4 := by simp [hl4]
      refine wl_storeE (l := (l.set j ⟨k12, y1⟩)) (j := j) (r := 1) (el := ⟨k12, y1⟩) (el' := ⟨k12, k23⟩) 0 sc9 rfl rfl rfl rfl cs_len rfl hy2 hl42 (by decide) rfl rfl ?_
      refine wl_nil ?_
      refine nx_wa0 (listed' := #[true, true, true, true, true, true, true, true, true, true, true, true, true, true, true, true, true, true, true, true, true, true, true, true, true, true, true, true, true, true]) rfl (fun _ _ => trivial) ?_
      refine wa_done (by kernel_rfl) ?_
      refine nx_then ?_
      refine gw_seq ?_
      refine gw_region ?_
      refine wl_ov (ov_move rfl) rfl ?_
      refine wl_ov (ov_assign rfl) rfl ?_
      refine wl_nil ?_
      refine nx_then ?_
      refine gw_ret ?_
      refine nx_ret1 rfl rfl fun wx hm => ?_
      exact ⟨some ⟨bo, 0, none⟩, c, _, rfl, hm.ownI 0 rfl, (by simp [hl4]), cs_mem (cs_mem hok ⟨(show k12.size ≤ 1000000 by rcases mem5 hk12 with h | h | h | h | h <;> rw [h] <;> first | assumption | decide), hy1⟩) ⟨(show k12.size ≤ 1000000 by rcases mem5 hk12 with h | h | h | h | h <;> rw [h] <;> first | assumption | decide), (show k23.size ≤ 1000000 by rcases mem5 hk23 with h | h | h | h | h <;> rw [h] <;> first | assumption | decide)⟩, hm.k.more (by omega), hm.g⟩
    have T8384511 : ∀ (q11 : Nat) (q22 : Nat), W 8 #[true, true, true, true, true, true, true, true, true, true, true, true, false, true, true, true, true, true, true, true, true, true, true, false, false, false, false, false, false, false] [(0, .pointer (some ⟨sb, 0, none⟩)), (2, .slice none 0 0), (3, .slice (some ⟨bo, 0, none⟩) 4 c), (4, .pointer (some ⟨bo, 0 + j * 2, none⟩)), (5, .pointer (some ⟨sb, 0, none⟩)), (6, .slice (some ⟨bo, 0, none⟩) 4 c), (7, .pointer (some ⟨sb, 0, none⟩)), (8, .bool f1), (9, .slice (some ⟨bo, 0, none⟩) 4 c), (10, .pointer (some ⟨sb, 0, none⟩)), (11, .slice (some ⟨bo, 0, none⟩) 4 c), (12, .int .i64 4), (13, .int .i64 ((j : Nat) : Int)), (14, .pointer (some ⟨bo, 0 + j * 2, none⟩)), (15, .pointer (some ⟨bo, 0 + j * 2, none⟩)), (16, .pointer (some ⟨bo, 0 + j * 2, none⟩)), (17, .pointer (some ⟨sb, 0, none⟩)), (18, .pointer (some ⟨bo, 0 + j * 2, none⟩)), (19, .pointer (some ⟨bo, 0 + j * 2, none⟩)), (20, .pointer (some ⟨bo, 0 + j * 2 + 0, none⟩)), (21, .string y0), (22, .pointer (some ⟨bo, 0 + j * 2, none⟩)), (23, .pointer (some ⟨bo, 0 + j * 2, none⟩)), (24, .pointer (some ⟨bo, 0 + j * 2 + 0, none⟩)), (25, .string y0), (26, .slice (some ⟨q11, 0, none⟩) 5 5), (28, .pointer (some ⟨sb, 0, none⟩)), (29, .pointer (some ⟨bo, 0 + j * 2, none⟩)), (30, .pointer (some ⟨bo, 0 + j * 2, none⟩)), (31, .pointer (some ⟨bo, 0 + j * 2 + 1, none⟩)), (32, .string y1), (33, .pointer (some ⟨bo, 0 + j * 2, none⟩)), (34, .pointer (some ⟨bo, 0 + j * 2, none⟩)), (35, .pointer (some ⟨bo, 0 + j * 2 + 0, none⟩)), (36, .string y0), (37, .slice (some ⟨q22, 0, none⟩) 5 5)] (fun w => Strm 25 w B sb (m + 20 + 1 + 1)) [(q11, 9, [.string y0, .string y0, .string ⟨#[]⟩, .string ⟨#[65]⟩, .string ⟨#[122, 101, 100]⟩]), (q22, 9, [.string y1, .string ⟨#[109, 105, 110, 105]⟩, .string ⟨#[110, 111, 110, 101]⟩, .string ⟨#[65]⟩, .string y0])] [⟨.slice (some ⟨bo, 0, none⟩) 4 c, 135, 2, 4, l.flatMap csEnc⟩] [] := by
      intro q11 q22
      rw [hW]
      refine wa_all [12] (by kernel_rfl) rfl ⟨⟨_, rfl, ?_⟩, trivial⟩
      refine wl_got (γ := ByteArray) (val := fun v => .string v) (φ := fun v => v ∈ ([y0, y0, ⟨#[]⟩, ⟨#[65]⟩, ⟨#[122, 101, 100]⟩] : List ByteArray)) rfl cb48 rfl rfl rfl rfl (fun wx hm => (some_any [y0, y0, ⟨#[]⟩, ⟨#[65]⟩, ⟨#[122, 101, 100]⟩] _ _ _ wx B sb _ hm.k (by omega) (by simp) (by simp) (hm.blkI 0 rfl) (hm.neRow 0 rfl rfl))) fun k12 hk12 => ?_
      refine wl_nil ?_
      refine nx_wa0 (listed' := #[true, true, true, true, true, true, true, true, true, true, true, true, true, true, true, true, true, true, true, true, true, true, true, false, false, false, false, false, false, false]) rfl (fun _ _ => trivial) ?_
      refine wa_all [23] (by kernel_rfl) rfl ⟨⟨_, rfl, ?_⟩, trivial⟩
      refine wl_got (γ := ByteArray) (val := fun v => .string v) (φ := fun v => v ∈ ([y1, ⟨#[109, 105, 110, 105]⟩, ⟨#[110, 111, 110, 101]⟩, ⟨#[65]⟩, y0] : List ByteArray)) rfl cb48 rfl rfl rfl rfl (fun wx hm => (some_any [y1, ⟨#[109, 105, 110, 105]⟩, ⟨#[110, 111, 110, 101]⟩, ⟨#[65]⟩, y0] _ _ _ wx B sb _ hm.k (by omega) (by simp) (by simp) (hm.blkI 1 rfl) (hm.neRow 1 rfl rfl))) fun k23 hk23 => ?_
      refine wl_nil ?_
      refine nx_wa0 (listed' := #[true, true, true, true, true, true, true, true, true, true, true, true, true, true, true, true, true, true, true, true, true, true, true, true, false, false, false, false, false, false]) rfl (fun _ _ => trivial) ?_
      refine wa_take 24 rfl (by kernel_rfl) (by kernel_rfl) (by kernel_rfl) (listed' := #[true, true, true, true, true, true, true, true, true, true, true, true, true, true, true, true, true, true, true, true, true, true, true, true, true, false, false, false, false, false]) rfl (fun _ _ _ h => h) (fun _ _ => trivial) (ov_nilcheck rfl) rfl ?_
      refine wa_take 25 rfl (by kernel_rfl) (by kernel_rfl) (by kernel_rfl) (listed' := #[true, true, true, true, true, true, true, true, true, true, true, true, true, true, true, true, true, true, true, true, true, true, true, true, true, true, false, false, false, false]) rfl (fun _ _ _ h => h) (fun _ _ => trivial) (ov_field fo135_0 rfl rfl) rfl ?_
      refine wa_all [26] (by kernel_rfl) rfl ⟨⟨_, rfl, ?_⟩, trivial⟩
      refine wl_storeE (l := l) (j := j) (r := 0) (el := ⟨y0, y1⟩) (el' := ⟨k12, y1⟩) 0 sc9 rfl rfl rfl rfl cs_len rfl hy hl4 (by decide) rfl rfl ?_
      refine wl_nil ?_
      refine nx_wa0 (listed' := #[true, true, true, true, true, true, true, true, true, true, true, true, true, true, true, true, true, true, true, true, true, true, true, true, true, true, true, false, false, false]) rfl (fun _ _ => trivial) ?_
      refine wa_take 27 rfl (by kernel_rfl) (by kernel_rfl) (by kernel_rfl) (listed' := #[true, true, true, true, true, true, true, true, true, true, true, true, true, true, true, true, true, true, true, true, true, true, true, true, true, true, true, true, false, false]) rfl (fun _ _ _ h => h) (fun _ _ => trivial) (ov_nilcheck rfl) rfl ?_
      refine wa_take 28 rfl (by kernel_rfl) (by kernel_rfl) (by kernel_rfl) (listed' := #[true, true, true, true, true, true, true, true, true, true, true, true, true, true, true, true, true, true, true, true, true, true, true, true, true, true, true, true, true, false]) rfl (fun _ _ _ h => h) (fun _ _ => trivial) (ov_field fo135_1 rfl rfl) rfl ?_
      refine wa_all [29] (by kernel_rfl) rfl ⟨⟨_, rfl, ?_⟩, trivial⟩
      have hy2 : (l.set j ⟨k12, y1⟩)[j]? = some (⟨k12, y1⟩ : Cs) := by rw [List.getElem?_set_self (by omega)]
      have hl42 : (l.set j ⟨k12, y1⟩).length = 4 := by simp [hl4]
      refine wl_storeE (l := (l.set j ⟨k12, y1⟩)) (j := j) (r := 1) (el := ⟨k12, y1⟩) (el' := ⟨k12, k23⟩) 0 sc9 rfl rfl rfl rfl cs_len rfl hy2 hl42 (by decide) rfl rfl ?_
      refine wl_nil ?_
      refine nx_wa0 (listed' := #[true, true, true, true, true, true, true, true, true, true, true, true, true, true, true, true, true, true, true, true, true, true, true, true, true, true, true, true, true, true]) rfl (fun _ _ => trivial) ?_
      refine wa_done (by kernel_rfl) ?_
      refine nx_then ?_
      refine gw_seq ?_
      refine gw_region ?_
      refine wl_ov (ov_move rfl) rfl ?_
      refine wl_ov (ov_assign rfl) rfl ?_
      refine wl_nil ?_
      refine nx_then ?_
      refine gw_ret ?_
      refine nx_ret1 rfl rfl fun wx hm => ?_
      exact ⟨some ⟨bo, 0, none⟩, c, _, rfl, hm.ownI 0 rfl, (by simp [hl4]), cs_mem (cs_mem hok ⟨(show k12.size ≤ 1000000 by rcases mem5 hk12 with h | h | h | h | h <;> rw [h] <;> first | assumption | decide), hy1⟩) ⟨(show k12.size ≤ 1000000 by rcases mem5 hk12 with h | h | h | h | h <;> rw [h] <;> first | assumption | decide), (show k23.size ≤ 1000000 by rcases mem5 hk23 with h | h | h | h | h <;> rw [h] <;> first | assumption | decide)⟩, hm.k.more (by omega), hm.g⟩
    have J4190207 : ∀ (q11 : Nat), W 9 #[true, true, true, true, true, true, true, true, true, true, true, true, false, true, true, true, true, true, true, true, true, true, false, false, false, false, false, false, false, false] [(0, .pointer (some ⟨sb, 0, none⟩)), (2, .slice none 0 0), (3, .slice (some ⟨bo, 0, none⟩) 4 c), (4, .pointer (some ⟨bo, 0 + j * 2, none⟩)), (5, .pointer (some ⟨sb, 0, none⟩)), (6, .slice (some ⟨bo, 0, none⟩) 4 c), (7, .pointer (some ⟨sb, 0, none⟩)), (8, .bool f1), (9, .slice (some ⟨bo, 0, none⟩) 4 c), (10, .pointer (some ⟨sb, 0, none⟩)), (11, .slice (some ⟨bo, 0, none⟩) 4 c), (12, .int .i64 4), (13, .int .i64 ((j : Nat) : Int)), (14, .pointer (some ⟨bo, 0 + j * 2, none⟩)), (15, .pointer (some ⟨bo, 0 + j * 2, none⟩)), (16, .pointer (some ⟨bo, 0 + j * 2, none⟩)), (17, .pointer (some ⟨sb, 0, none⟩)), (18, .pointer (some ⟨bo, 0 + j * 2, none⟩)), (19, .pointer (some ⟨bo, 0 + j * 2, none⟩)), (20, .pointer (some ⟨bo, 0 + j * 2 + 0, none⟩)), (21, .string y0), (22, .pointer (some ⟨bo, 0 + j * 2, none⟩)), (23, .pointer (some ⟨bo, 0 + j * 2, none⟩)), (24, .pointer (some ⟨bo, 0 + j * 2 + 0, none⟩)), (25, .string y0), (26, .slice (some ⟨q11, 0, none⟩) 5 5), (28, .pointer (some ⟨sb, 0, none⟩)), (29, .pointer (some ⟨bo, 0 + j * 2, none⟩)), (30, .pointer (some ⟨bo, 0 + j * 2, none⟩)), (31, .pointer (some ⟨bo, 0 + j * 2 + 1, none⟩)), (32, .string y1), (33, .pointer (some ⟨bo, 0 + j * 2, none⟩)), (34, .pointer (some ⟨bo, 0 + j * 2, none⟩)), (35, .pointer (some ⟨bo, 0 + j * 2 + 0, none⟩)), (36, .string y0)] (fun w => Strm 25 w B sb (m + 20 + 1 + 1)) [(q11, 9, [.string y0, .string y0, .string ⟨#[]⟩, .string ⟨#[65]⟩, .string ⟨#[122, 101, 100]⟩])] [⟨.slice (some ⟨bo, 0, none⟩) 4 c, 135, 2, 4, l.flatMap csEnc⟩] [] := by
      intro q11
      rw [hW]
      refine wa_all [12, 22] (by kernel_rfl) rfl ⟨⟨_, rfl, ?_⟩, ⟨_, rfl, ?_⟩, trivial⟩
      · refine wl_got (γ := ByteArray) (val := fun v => .string v) (φ := fun v => v ∈ ([y0, y0, ⟨#[]⟩, ⟨#[65]⟩, ⟨#[122, 101, 100]⟩] : List ByteArray)) rfl cb48 rfl rfl rfl rfl (fun wx hm => (some_any [y0, y0, ⟨#[]⟩, ⟨#[65]⟩, ⟨#[122, 101, 100]⟩] _ _ _ wx B sb _ hm.k (by omega) (by simp) (by simp) (hm.blkI 0 rfl) (hm.neRow 0 rfl rfl))) fun k12 hk12 => ?_
        refine wl_nil ?_
        refine nx_wa0 (listed' := #[true, true, true, true, true, true, true, true, true, true, true, true, true, true, true, true, true, true, true, true, true, true, false, false, false, false, false, false, false, false]) rfl (fun _ _ => trivial) ?_
        have h := T4194303 q11 k12 hk12
        rw [hW] at h
        refine wa_weak ?_ ?_ h
        · exact ⟨rfl, rfl, rfl, rfl, rfl, rfl, rfl, rfl, rfl, rfl, rfl, rfl, rfl, rfl, rfl, rfl, rfl, rfl, rfl, rfl, rfl, rfl, rfl, rfl, rfl, rfl, rfl, rfl, rfl, rfl, rfl, rfl, rfl, rfl, rfl, rfl, trivial⟩
        · exact fun _ hm => hm.pick [0] [0] [] rfl rfl
      · refine wl_buildSlice (e := 9) (cs := [.string y1, .string ⟨#[109, 105, 110, 105]⟩, .string ⟨#[110, 111, 110, 101]⟩, .string ⟨#[65]⟩, .string y0]) rfl (by kernel_rfl) rfl fun q22 => ?_
        refine wl_nil ?_
        refine nx_wa0 (listed' := #[true, true, true, true, true, true, true, true, true, true, true, true, false, true, true, true, true, true, true, true, true, true, true, false, false, false, false, false, false, false]) rfl (fun _ _ => trivial) ?_
        have h := T8384511 q11 q22
        rw [hW] at h
        refine wa_weak ?_ ?_ h
        · exact ⟨rfl, rfl, rfl, rfl, rfl, rfl, rfl, rfl, rfl, rfl, rfl, rfl, rfl, rfl, rfl, rfl, rfl, rfl, rfl, rfl, rfl, rfl, rfl, rfl, rfl, rfl, rfl, rfl, rfl, rfl, rfl, rfl, rfl, rfl, rfl, rfl, trivial⟩
        · exact fun _ hm => hm.pick [1, 0] [0] [] rfl rfl
    have J2093055 : ∀ (q11 : Nat), W 10 #[true, true, true, true, true, true, true, true, true, true, true, true, false, true, true, true, true, true, true, true, true, false, false, false, false, false, false, false, false, false] [(0, .pointer (some ⟨sb, 0, none⟩)), (2, .slice none 0 0), (3, .slice (some ⟨bo, 0, none⟩) 4 c), (4, .pointer (some ⟨bo, 0 + j * 2, none⟩)), (5, .pointer (some ⟨sb, 0, none⟩)), (6, .slice (some ⟨bo, 0, none⟩) 4 c), (7, .pointer (some ⟨sb, 0, none⟩)), (8, .bool f1), (9, .slice (some ⟨bo, 0, none⟩) 4 c), (10, .pointer (some ⟨sb, 0, none⟩)), (11, .slice (some ⟨bo, 0, none⟩) 4 c), (12, .int .i64 4), (13, .int .i64 ((j : Nat) : Int)), (14, .pointer (some ⟨bo, 0 + j * 2, none⟩)), (15, .pointer (some ⟨bo, 0 + j * 2, none⟩)), (16, .pointer (some ⟨bo, 0 + j * 2, none⟩)), (17, .pointer (some ⟨sb, 0, none⟩)), (18, .pointer (some ⟨bo, 0 + j * 2, none⟩)), (19, .pointer (some ⟨bo, 0 + j * 2, none⟩)), (20, .pointer (some ⟨bo, 0 + j * 2 + 0, none⟩)), (21, .string y0), (22, .pointer (some ⟨bo, 0 + j * 2, none⟩)), (23, .pointer (some ⟨bo, 0 + j * 2, none⟩)), (24, .pointer (some ⟨bo, 0 + j * 2 + 0, none⟩)), (25, .string y0), (26, .slice (some ⟨q11, 0, none⟩) 5 5), (28, .pointer (some ⟨sb, 0, none⟩)), (29, .pointer (some ⟨bo, 0 + j * 2, none⟩)), (30, .pointer (some ⟨bo, 0 + j * 2, none⟩)), (31, .pointer (some ⟨bo, 0 + j * 2 + 1, none⟩)), (32, .string y1), (33, .pointer (some ⟨bo, 0 + j * 2, none⟩)), (34, .pointer (some ⟨bo, 0 + j * 2, none⟩)), (35, .pointer (some ⟨bo, 0 + j * 2 + 0, none⟩))] (fun w => Strm 25 w B sb (m + 20 + 1 + 1)) [(q11, 9, [.string y0, .string y0, .string ⟨#[]⟩, .string ⟨#[65]⟩, .string ⟨#[122, 101, 100]⟩])] [⟨.slice (some ⟨bo, 0, none⟩) 4 c, 135, 2, 4, l.flatMap csEnc⟩] [] := by
      intro q11
      rw [hW]
      refine wa_all [12, 21] (by kernel_rfl) rfl ⟨⟨_, rfl, ?_⟩, ⟨_, rfl, ?_⟩, trivial⟩
      · refine wl_got (γ := ByteArray) (val := fun v => .string v) (φ := fun v => v ∈ ([y0, y0, ⟨#[]⟩, ⟨#[65]⟩, ⟨#[122, 101, 100]⟩] : List ByteArray)) rfl cb48 rfl rfl rfl rfl (fun wx hm => (some_any [y0, y0, ⟨#[]⟩, ⟨#[65]⟩, ⟨#[122, 101, 100]⟩] _ _ _ wx B sb _ hm.k (by omega) (by simp) (by simp) (hm.blkI 0 rfl) (hm.neRow 0 rfl rfl))) fun k12 hk12 => ?_
        refine wl_nil ?_
        refine nx_wa0 (listed' := #[true, true, true, true, true, true, true, true, true, true, true, true, true, true, true, true, true, true, true, true, true, false, false, false, false, false, false, false, false, false]) rfl (fun _ _ => trivial) ?_
        have h := T2097151 q11 k12 hk12
        rw [hW] at h
        refine wa_weak ?_ ?_ h
        · exact ⟨rfl, rfl, rfl, rfl, rfl, rfl, rfl, rfl, rfl, rfl, rfl, rfl, rfl, rfl, rfl, rfl, rfl, rfl, rfl, rfl, rfl, rfl, rfl, rfl, rfl, rfl, rfl, rfl, rfl, rfl, rfl, rfl, rfl, rfl, rfl, trivial⟩
        · exact fun _ hm => hm.pick [0] [0] [] rfl rfl
      · refine wl_ov (ov_elem1 (k := 0) (v := .string y0) sc9 rfl (fun _ hm => (SlT.ofOwn cs_len (hm.ownI 0 rfl) hl4)) hy rfl rfl) rfl ?_
        refine wl_nil ?_
        refine nx_wa0 (listed' := #[true, true, true, true, true, true, true, true, true, true, true, true, false, true, true, true, true, true, true, true, true, true, false, false, false, false, false, false, false, false]) rfl (fun _ _ => trivial) ?_
        have h := J4190207 q11
        rw [hW] at h
        refine wa_weak ?_ ?_ h
        · exact ⟨rfl, rfl, rfl, rfl, rfl, rfl, rfl, rfl, rfl, rfl, rfl, rfl, rfl, rfl, rfl, rfl, rfl, rfl, rfl, rfl, rfl, rfl, rfl, rfl, rfl, rfl, rfl, rfl, rfl, rfl, rfl, rfl, rfl, rfl, rfl, trivial⟩
        · exact fun _ hm => hm.pick [0] [0] [] rfl rfl
    have J4059135 : ∀ (q11 : Nat), W 10 #[true, true, true, true, true, true, true, true, true, true, true, true, false, true, true, true, true, false, true, true, true, true, false, false, false, false, false, false, false, false] [(0, .pointer (some ⟨sb, 0, none⟩)), (2, .slice none 0 0), (3, .slice (some ⟨bo, 0, none⟩) 4 c), (4, .pointer (some ⟨bo, 0 + j * 2, none⟩)), (5, .pointer (some ⟨sb, 0, none⟩)), (6, .slice (some ⟨bo, 0, none⟩) 4 c), (7, .pointer (some ⟨sb, 0, none⟩)), (8, .bool f1), (9, .slice (some ⟨bo, 0, none⟩) 4 c), (10, .pointer (some ⟨sb, 0, none⟩)), (11, .slice (some ⟨bo, 0, none⟩) 4 c), (12, .int .i64 4), (13, .int .i64 ((j : Nat) : Int)), (14, .pointer (some ⟨bo, 0 + j * 2, none⟩)), (15, .pointer (some ⟨bo, 0 + j * 2, none⟩)), (16, .pointer (some ⟨bo, 0 + j * 2, none⟩)), (17, .pointer (some ⟨sb, 0, none⟩)), (18, .pointer (some ⟨bo, 0 + j * 2, none⟩)), (19, .pointer (some ⟨bo, 0 + j * 2, none⟩)), (20, .pointer (some ⟨bo, 0 + j * 2 + 0, none⟩)), (21, .string y0), (22, .pointer (some ⟨bo, 0 + j * 2, none⟩)), (23, .pointer (some ⟨bo, 0 + j * 2, none⟩)), (24, .pointer (some ⟨bo, 0 + j * 2 + 0, none⟩)), (25, .string y0), (26, .slice (some ⟨q11, 0, none⟩) 5 5), (28, .pointer (some ⟨sb, 0, none⟩)), (29, .pointer (some ⟨bo, 0 + j * 2, none⟩)), (30, .pointer (some ⟨bo, 0 + j * 2, none⟩)), (31, .pointer (some ⟨bo, 0 + j * 2 + 1, none⟩)), (33, .pointer (some ⟨bo, 0 + j * 2, none⟩)), (34, .pointer (some ⟨bo, 0 + j * 2, none⟩)), (35, .pointer (some ⟨bo, 0 + j * 2 + 0, none⟩)), (36, .string y0)] (fun w => Strm 25 w B sb (m + 20 + 1 + 1)) [(q11, 9, [.string y0, .string y0, .string ⟨#[]⟩, .string ⟨#[65]⟩, .string ⟨#[122, 101, 100]⟩])] [⟨.slice (some ⟨bo, 0, none⟩) 4 c, 135, 2, 4, l.flatMap csEnc⟩] [] := by
      intro q11
      rw [hW]
      refine wa_all [12, 17] (by kernel_rfl) rfl ⟨⟨_, rfl, ?_⟩, ⟨_, rfl, ?_⟩, trivial⟩
      · refine wl_got (γ := ByteArray) (val := fun v => .string v) (φ := fun v => v ∈ ([y0, y0, ⟨#[]⟩, ⟨#[65]⟩, ⟨#[122, 101, 100]⟩] : List ByteArray)) rfl cb48 rfl rfl rfl rfl (fun wx hm => (some_any [y0, y0, ⟨#[]⟩, ⟨#[65]⟩, ⟨#[122, 101, 100]⟩] _ _ _ wx B sb _ hm.k (by omega) (by simp) (by simp) (hm.blkI 0 rfl) (hm.neRow 0 rfl rfl))) fun k12 hk12 => ?_
        refine wl_nil ?_
        refine nx_wa0 (listed' := #[true, true, true, true, true, true, true, true, true, true, true, true, true, true, true, true, true, false, true, true, true, true, false, false, false, false, false, false, false, false]) rfl (fun _ _ => trivial) ?_
        have h := T4063231 q11 k12 hk12
        rw [hW] at h
        refine wa_weak ?_ ?_ h
        · exact ⟨rfl, rfl, rfl, rfl, rfl, rfl, rfl, rfl, rfl, rfl, rfl, rfl, rfl, rfl, rfl, rfl, rfl, rfl, rfl, rfl, rfl, rfl, rfl, rfl, rfl, rfl, rfl, rfl, rfl, rfl, rfl, rfl, rfl, rfl, rfl, trivial⟩
        · exact fun _ hm => hm.pick [0] [0] [] rfl rfl
      · refine wl_ov (ov_elem1 (k := 1) (v := .string y1) sc9 rfl (fun _ hm => (SlT.ofOwn cs_len (hm.ownI 0 rfl) hl4)) hy rfl rfl) rfl ?_
        refine wl_nil ?_
        refine nx_wa0 (listed' := #[true, true, true, true, true, true, true, true, true, true, true, true, false, true, true, true, true, true, true, true, true, true, false, false, false, false, false, false, false, false]) rfl (fun _ _ => trivial) ?_
        have h := J4190207 q11
        rw [hW] at h
        refine wa_weak ?_ ?_ h
        · exact ⟨rfl, rfl, rfl, rfl, rfl, rfl, rfl, rfl, rfl, rfl, rfl, rfl, rfl, rfl, rfl, rfl, rfl, rfl, rfl, rfl, rfl, rfl, rfl, rfl, rfl, rfl, rfl, rfl, rfl, rfl, rfl, rfl, rfl, rfl, rfl, trivial⟩
        · exact fun _ hm => hm.pick [0] [0] [] rfl rfl
    have J1961983 : ∀ (q11 : Nat), W 11 #[true, true, true, true, true, true, true, true, true, true, true, true, false, true, true, true, true, false, true, true, true, false, false, false, false, false, false, false, false, false] [(0, .pointer (some ⟨sb, 0, none⟩)), (2, .slice none 0 0), (3, .slice (some ⟨bo, 0, none⟩) 4 c), (4, .pointer (some ⟨bo, 0 + j * 2, none⟩)), (5, .pointer (some ⟨sb, 0, none⟩)), (6, .slice (some ⟨bo, 0, none⟩) 4 c), (7, .pointer (some ⟨sb, 0, none⟩)), (8, .bool f1), (9, .slice (some ⟨bo, 0, none⟩) 4 c), (10, .pointer (some ⟨sb, 0, none⟩)), (11, .slice (some ⟨bo, 0, none⟩) 4 c), (12, .int .i64 4), (13, .int .i64 ((j : Nat) : Int)), (14, .pointer (some ⟨bo, 0 + j * 2, none⟩)), (15, .pointer (some ⟨bo, 0 + j * 2, none⟩)), (16, .pointer (some ⟨bo, 0 + j * 2, none⟩)), (17, .pointer (some ⟨sb, 0, none⟩)), (18, .pointer (some ⟨bo, 0 + j * 2, none⟩)), (19, .pointer (some ⟨bo, 0 + j * 2, none⟩)), (20, .pointer (some ⟨bo, 0 + j * 2 + 0, none⟩)), (21, .string y0), (22, .pointer (some ⟨bo, 0 + j * 2, none⟩)), (23, .pointer (some ⟨bo, 0 + j * 2, none⟩)), (24, .pointer (some ⟨bo, 0 + j * 2 + 0, none⟩)), (25, .string y0), (26, .slice (some ⟨q11, 0, none⟩) 5 5), (28, .pointer (some ⟨sb, 0, none⟩)), (29, .pointer (some ⟨bo, 0 + j * 2, none⟩)), (30, .pointer (some ⟨bo, 0 + j * 2, none⟩)), (31, .pointer (some ⟨bo, 0 + j * 2 + 1, none⟩)), (33, .pointer (some ⟨bo, 0 + j * 2, none⟩)), (34, .pointer (some ⟨bo, 0 + j * 2, none⟩)), (35, .pointer (some ⟨bo, 0 + j * 2 + 0, none⟩))] (fun w => Strm 25 w B sb (m + 20 + 1 + 1)) [(q11, 9, [.string y0, .string y0, .string ⟨#[]⟩, .string ⟨#[65]⟩, .string ⟨#[122, 101, 100]⟩])] [⟨.slice (some ⟨bo, 0, none⟩) 4 c, 135, 2, 4, l.flatMap csEnc⟩] [] := by
      intro q11
      rw [hW]
      refine wa_all [12, 17, 21] (by kernel_rfl) rfl ⟨⟨_, rfl, ?_⟩, ⟨_, rfl, ?_⟩, ⟨_, rfl, ?_⟩, trivial⟩
      · refine wl_got (γ := ByteArray) (val := fun v => .string v) (φ := fun v => v ∈ ([y0, y0, ⟨#[]⟩, ⟨#[65]⟩, ⟨#[122, 101, 100]⟩] : List ByteArray)) rfl cb48 rfl rfl rfl rfl (fun wx hm => (some_any [y0, y0, ⟨#[]⟩, ⟨#[65]⟩, ⟨#[122, 101, 100]⟩] _ _ _ wx B sb _ hm.k (by omega) (by simp) (by simp) (hm.blkI 0 rfl) (hm.neRow 0 rfl rfl))) fun k12 hk12 => ?_
        refine wl_nil ?_
        refine nx_wa0 (listed' := #[true, true, true, true, true, true, true, true, true, true, true, true, true, true, true, true, true, false, true, true, true, false, false, false, false, false, false, false, false, false]) rfl (fun _ _ => trivial) ?_
        have h := J1966079 q11 k12 hk12
        rw [hW] at h
        refine wa_weak ?_ ?_ h
        · exact ⟨rfl, rfl, rfl, rfl, rfl, rfl, rfl, rfl, rfl, rfl, rfl, rfl, rfl, rfl, rfl, rfl, rfl, rfl, rfl, rfl, rfl, rfl, rfl, rfl, rfl, rfl, rfl, rfl, rfl, rfl, rfl, rfl, rfl, rfl, trivial⟩
        · exact fun _ hm => hm.pick [0] [0] [] rfl rfl
      · refine wl_ov (ov_elem1 (k := 1) (v := .string y1) sc9 rfl (fun _ hm => (SlT.ofOwn cs_len (hm.ownI 0 rfl) hl4)) hy rfl rfl) rfl ?_
        refine wl_nil ?_
        refine nx_wa0 (listed' := #[true, true, true, true, true, true, true, true, true, true, true, true, false, true, true, true, true, true, true, true, true, false, false, false, false, false, false, false, false, false]) rfl (fun _ _ => trivial) ?_
        have h := J2093055 q11
        rw [hW] at h
        refine wa_weak ?_ ?_ h
        · exact ⟨rfl, rfl, rfl, rfl, rfl, rfl, rfl, rfl, rfl, rfl, rfl, rfl, rfl, rfl, rfl, rfl, rfl, rfl, rfl, rfl, rfl, rfl, rfl, rfl, rfl, rfl, rfl, rfl, rfl, rfl, rfl, rfl, rfl, rfl, trivial⟩
        · exact fun _ hm => hm.pick [0] [0] [] rfl rfl
      · refine wl_ov (ov_elem1 (k := 0) (v := .string y0) sc9 rfl (fun _ hm => (SlT.ofOwn cs_len (hm.ownI 0 rfl) hl4)) hy rfl rfl) rfl ?_
        refine wl_nil ?_
        refine nx_wa0 (listed' := #[true, true, true, true, true, true, true, true, true, true, true, true, false, true, true, true, true, false, true, true, true, true, false, false, false, false, false, false, false, false]) rfl (fun _ _ => trivial) ?_
        have h := J4059135 q11
        rw [hW] at h
        refine wa_weak ?_ ?_ h
        · exact ⟨rfl, rfl, rfl, rfl, rfl, rfl, rfl, rfl, rfl, rfl, rfl, rfl, rfl, rfl, rfl, rfl, rfl, rfl, rfl, rfl, rfl, rfl, rfl, rfl, rfl, rfl, rfl, rfl, rfl, rfl, rfl, rfl, rfl, rfl, trivial⟩
        · exact fun _ hm => hm.pick [0] [0] [] rfl rfl
    have T8382463 : ∀ (q22 : Nat), W 9 #[true, true, true, true, true, true, true, true, true, true, true, false, false, true, true, true, true, true, true, true, true, true, true, false, false, false, false, false, false, false] [(0, .pointer (some ⟨sb, 0, none⟩)), (2, .slice none 0 0), (3, .slice (some ⟨bo, 0, none⟩) 4 c), (4, .pointer (some ⟨bo, 0 + j * 2, none⟩)), (5, .pointer (some ⟨sb, 0, none⟩)), (6, .slice (some ⟨bo, 0, none⟩) 4 c), (7, .pointer (some ⟨sb, 0, none⟩)), (8, .bool f1), (9, .slice (some ⟨bo, 0, none⟩) 4 c), (10, .pointer (some ⟨sb, 0, none⟩)), (11, .slice (some ⟨bo, 0, none⟩) 4 c), (12, .int .i64 4), (13, .int .i64 ((j : Nat) : Int)), (14, .pointer (some ⟨bo, 0 + j * 2, none⟩)), (15, .pointer (some ⟨bo, 0 + j * 2, none⟩)), (16, .pointer (some ⟨bo, 0 + j * 2, none⟩)), (17, .pointer (some ⟨sb, 0, none⟩)), (18, .pointer (some ⟨bo, 0 + j * 2, none⟩)), (19, .pointer (some ⟨bo, 0 + j * 2, none⟩)), (20, .pointer (some ⟨bo, 0 + j * 2 + 0, none⟩)), (21, .string y0), (22, .pointer (some ⟨bo, 0 + j * 2, none⟩)), (23, .pointer (some ⟨bo, 0 + j * 2, none⟩)), (24, .pointer (some ⟨bo, 0 + j * 2 + 0, none⟩)), (25, .string y0), (28, .pointer (some ⟨sb, 0, none⟩)), (29, .pointer (some ⟨bo, 0 + j * 2, none⟩)), (30, .pointer (some ⟨bo, 0 + j * 2, none⟩)), (31, .pointer (some ⟨bo, 0 + j * 2 + 1, none⟩)), (32, .string y1), (33, .pointer (some ⟨bo, 0 + j * 2, none⟩)), (34, .pointer (some ⟨bo, 0 + j * 2, none⟩)), (35, .pointer (some ⟨bo, 0 + j * 2 + 0, none⟩)), (36, .string y0), (37, .slice (some ⟨q22, 0, none⟩) 5 5)] (fun w => Strm 25 w B sb (m + 20 + 1 + 1)) [(q22, 9, [.string y1, .string ⟨#[109, 105, 110, 105]⟩, .string ⟨#[110, 111, 110, 101]⟩, .string ⟨#[65]⟩, .string y0])] [⟨.slice (some ⟨bo, 0, none⟩) 4 c, 135, 2, 4, l.flatMap csEnc⟩] [] := by
      intro q22
      rw [hW]
      refine wa_all [11] (by kernel_rfl) rfl ⟨⟨_, rfl, ?_⟩, trivial⟩
      refine wl_buildSlice (e := 9) (cs := [.string y0, .string y0, .string ⟨#[]⟩, .string ⟨#[65]⟩, .string ⟨#[122, 101, 100]⟩]) rfl (by kernel_rfl) rfl fun q11 => ?_
      refine wl_nil ?_
      refine nx_wa0 (listed' := #[true, true, true, true, true, true, true, true, true, true, true, true, false, true, true, true, true, true, true, true, true, true, true, false, false, false, false, false, false, false]) rfl (fun _ _ => trivial) ?_
      refine wa_all [12] (by kernel_rfl) rfl ⟨⟨_, rfl, ?_⟩, trivial⟩
      refine wl_got (γ := ByteArray) (val := fun v => .string v) (φ := fun v => v ∈ ([y0, y0, ⟨#[]⟩, ⟨#[65]⟩, ⟨#[122, 101, 100]⟩] : List ByteArray)) rfl cb48 rfl rfl rfl rfl (fun wx hm => (some_any [y0, y0, ⟨#[]⟩, ⟨#[65]⟩, ⟨#[122, 101, 100]⟩] _ _ _ wx B sb _ hm.k (by omega) (by simp) (by simp) (hm.blkI 0 rfl) (hm.neRow 0 rfl rfl))) fun k12 hk12 => ?_
      refine wl_nil ?_
      refine nx_wa0 (listed' := #[true, true, true, true, true, true, true, true, true, true, true, true, true, true, true, true, true, true, true, true, true, true, true, false, false, false, false, false, false, false]) rfl (fun _ _ => trivial) ?_
      refine wa_all [23] (by kernel_rfl) rfl ⟨⟨_, rfl, ?_⟩, trivial⟩
      refine wl_got (γ := ByteArray) (val := fun v => .string v) (φ := fun v => v ∈ ([y1, ⟨#[109, 105, 110, 105]⟩, ⟨#[110, 111, 110, 101]⟩, ⟨#[65]⟩, y0] : List ByteArray)) rfl cb48 rfl rfl rfl rfl (fun wx hm => (some_any [y1, ⟨#[109, 105, 110, 105]⟩, ⟨#[110, 111, 110, 101]⟩, ⟨#[65]⟩, y0] _ _ _ wx B sb _ hm.k (by omega) (by simp) (by simp) (hm.blkI 1 rfl) (hm.neRow 1 rfl rfl))) fun k23 hk23 => ?_
      refine wl_nil ?_
      refine nx_wa0 (listed' := #[true, true, true, true, true, true, true, true, true, true, true, true, true, true, true, true, true, true, true, true, true, true, true, true, false, false, false, false, false, false]) rfl (fun _ _ => trivial) ?_
      refine wa_take 24 rfl (by kernel_rfl) (by kernel_rfl) (by kernel_rfl) (listed' := #[true, true, true, true, true, true, true, true, true, true, true, true, true, true, true, true, true, true, true, true, true, true, true, true, true, false, false, false, false, false]) rfl (fun _ _ _ h => h) (fun _ _ => trivial) (ov_nilcheck rfl) rfl ?_
      refine wa_take 25 rfl (by kernel_rfl) (by kernel_rfl) (by kernel_rfl) (listed' := #[true, true, true, true, true, true, true, true, true, true, true, true, true, true, true, true, true, true, true, true, true, true, true, true, true, true, false, false, false, false]) rfl (fun _ _ _ h => h) (fun _ _ => trivial) (ov_field fo135_0 rfl rfl) rfl ?_
      refine wa_all [26] (by kernel_rfl) rfl ⟨⟨_, rfl, ?_⟩, trivial⟩
      refine wl_storeE (l := l) (j := j) (r := 0) (el := ⟨y0, y1⟩) (el' := ⟨k12, y1⟩) 0 sc9 rfl rfl rfl rfl cs_len rfl hy hl4 (by decide) rfl rfl ?_
      refine wl_nil ?_
      refine nx_wa0 (listed' := #[true, true, true, true, true, true, true, true, true, true, true, true, true, true, true, true, true, true, true, true, true, true, true, true, true, true, true, false, false, false]) rfl (fun _ _ => trivial) ?_
      refine wa_take 27 rfl (by kernel_rfl) (by kernel_rfl) (by kernel_rfl) (listed' := #[true, true, true, true, true, true, true, true, true, true, true, true, true, true, true, true, true, true, true, true, true, true, true, true, true, true, true, true, false, false]) rfl (fun _ _ _ h => h) (fun _ _ => trivial) (ov_nilcheck rfl) rfl ?_
      refine wa_take 28 rfl (by kernel_rfl) (by kernel_rfl) (by kernel_rfl) (listed' := #[true, true, true, true, true, true, true, true, true, true, true, true, true, true, true, true, true, true, true, true, true, true, true, true, true, true, true, true, true, false]) rfl (fun _ _ _ h => h) (fun _ _ => trivial) (ov_field fo135_1 rfl rfl) rfl ?_
      refine wa_all [29] (by kernel_rfl) rfl ⟨⟨_, rfl, ?_⟩, trivial⟩
      have hy2 : (l.set j ⟨k12, y1⟩)[j]? = some (⟨k12, y1⟩ : Cs) := by rw [List.getElem?_set_self (by omega)]
      have hl42 : (l.set j ⟨k12, y1⟩).length = 4 := by simp [hl4]
      refine wl_storeE (l := (l.set j ⟨k12, y1⟩)) (j := j) (r := 1) (el := ⟨k12, y1⟩) (el' := ⟨k12, k23⟩) 0 sc9 rfl rfl rfl rfl cs_len rfl hy2 hl42 (by decide) rfl rfl ?_
      refine wl_nil ?_
      refine nx_wa0 (listed' := #[true, true, true, true, true, true, true, true, true, true, true, true, true, true, true, true, true, true, true, true, true, true, true, true, true, true, true, true, true, true]) rfl (fun _ _ => trivial) ?_
      refine wa_done (by kernel_rfl) ?_
      refine nx_then ?_
      refine gw_seq ?_
      refine gw_region ?_
      refine wl_ov (ov_move rfl) rfl ?_
      refine wl_ov (ov_assign rfl) rfl ?_
      refine wl_nil ?_
      refine nx_then ?_
      refine gw_ret ?_
      refine nx_ret1 rfl rfl fun wx hm => ?_
      exact ⟨some ⟨bo, 0, none⟩, c, _, rfl, hm.ownI 0 rfl, (by simp [hl4]), cs_mem (cs_mem hok ⟨(show k12.size ≤ 1000000 by rcases mem5 hk12 with h | h | h | h | h <;> rw [h] <;> first | assumption | decide), hy1⟩) ⟨(show k12.size ≤ 1000000 by rcases mem5 hk12 with h | h | h | h | h <;> rw [h] <;> first | assumption | decide), (show k23.size ≤ 1000000 by rcases mem5 hk23 with h | h | h | h | h <;> rw [h] <;> first | assumption | decide)⟩, hm.k.more (by omega), hm.g⟩
    have J4188159 : W 10 #[true, true, true, true, true, true, true, true, true, true, true, false, false, true, true, true, true, true, true, true, true, true, false, false, false, false, false, false, false, false] [(0, .pointer (some ⟨sb, 0, none⟩)), (2, .slice none 0 0), (3, .slice (some ⟨bo, 0, none⟩) 4 c), (4, .pointer (some ⟨bo, 0 + j * 2, none⟩)), (5, .pointer (some ⟨sb, 0, none⟩)), (6, .slice (some ⟨bo, 0, none⟩) 4 c), (7, .pointer (some ⟨sb, 0, none⟩)), (8, .bool f1), (9, .slice (some ⟨bo, 0, none⟩) 4 c), (10, .pointer (some ⟨sb, 0, none⟩)), (11, .slice (some ⟨bo, 0, none⟩) 4 c), (12, .int .i64 4), (13, .int .i64 ((j : Nat) : Int)), (14, .pointer (some ⟨bo, 0 + j * 2, none⟩)), (15, .pointer (some ⟨bo, 0 + j * 2, none⟩)), (16, .pointer (some ⟨bo, 0 + j * 2, none⟩)), (17, .pointer (some ⟨sb, 0, none⟩)), (18, .pointer (some ⟨bo, 0 + j * 2, none⟩)), (19, .pointer (some ⟨bo, 0 + j * 2, none⟩)), (20, .pointer (some ⟨bo, 0 + j * 2 + 0, none⟩)), (21, .string y0), (22, .pointer (some ⟨bo, 0 + j * 2, none⟩)), (23, .pointer (some ⟨bo, 0 + j * 2, none⟩)), (24, .pointer (some ⟨bo, 0 + j * 2 + 0, none⟩)), (25, .string y0), (28, .pointer (some ⟨sb, 0, none⟩)), (29, .pointer (some ⟨bo, 0 + j * 2, none⟩)), (30, .pointer (some ⟨bo, 0 + j * 2, none⟩)), (31, .pointer (some ⟨bo, 0 + j * 2 + 1, none⟩)), (32, .string y1), (33, .pointer (some ⟨bo, 0 + j * 2, none⟩)), (34, .pointer (some ⟨bo, 0 + j * 2, none⟩)), (35, .pointer (some ⟨bo, 0 + j * 2 + 0, none⟩)), (36, .string y0)] (fun w => Strm 25 w B sb (m + 20 + 1 + 1)) [] [⟨.slice (some ⟨bo, 0, none⟩) 4 c, 135, 2, 4, l.flatMap csEnc⟩] [] := by
      skip
      rw [hW]
      refine wa_all [11, 22] (by kernel_rfl) rfl ⟨⟨_, rfl, ?_⟩, ⟨_, rfl, ?_⟩, trivial⟩
      · refine wl_buildSlice (e := 9) (cs := [.string y0, .string y0, .string ⟨#[]⟩, .string ⟨#[65]⟩, .string ⟨#[122, 101, 100]⟩]) rfl (by kernel_rfl) rfl fun q11 => ?_
        refine wl_nil ?_
        refine nx_wa0 (listed' := #[true, true, true, true, true, true, true, true, true, true, true, true, false, true, true, true, true, true, true, true, true, true, false, false, false, false, false, false, false, false]) rfl (fun _ _ => trivial) ?_
        have h := J4190207 q11
        rw [hW] at h
        refine wa_weak ?_ ?_ h
        · exact ⟨rfl, rfl, rfl, rfl, rfl, rfl, rfl, rfl, rfl, rfl, rfl, rfl, rfl, rfl, rfl, rfl, rfl, rfl, rfl, rfl, rfl, rfl, rfl, rfl, rfl, rfl, rfl, rfl, rfl, rfl, rfl, rfl, rfl, rfl, rfl, trivial⟩
        · exact fun _ hm => hm.pick [0] [0] [] rfl rfl
      · refine wl_buildSlice (e := 9) (cs := [.string y1, .string ⟨#[109, 105, 110, 105]⟩, .string ⟨#[110, 111, 110, 101]⟩, .string ⟨#[65]⟩, .string y0]) rfl (by kernel_rfl) rfl fun q22 => ?_
        refine wl_nil ?_
        refine nx_wa0 (listed' := #[true, true, true, true, true, true, true, true, true, true, true, false, false, true, true, true, true, true, true, true, true, true, true, false, false, false, false, false, false, false]) rfl (fun _ _ => trivial) ?_
        have h := T8382463 q22
        rw [hW] at h
        refine wa_weak ?_ ?_ h
        · exact ⟨rfl, rfl, rfl, rfl, rfl, rfl, rfl, rfl, rfl, rfl, rfl, rfl, rfl, rfl, rfl, rfl, rfl, rfl, rfl, rfl, rfl, rfl, rfl, rfl, rfl, rfl, rfl, rfl, rfl, rfl, rfl, rfl, rfl, rfl, rfl, trivial⟩
        · exact fun _ hm => hm.pick [0] [0] [] rfl rfl
    have J2091007 : W 11 #[true, true, true, true, true, true, true, true, true, true, true, false, false, true, true, true, true, true, true, true, true, false, false, false, false, false, false, false, false, false] [(0, .pointer (some ⟨sb, 0, none⟩)), (2, .slice none 0 0), (3, .slice (some ⟨bo, 0, none⟩) 4 c), (4, .pointer (some ⟨bo, 0 + j * 2, none⟩)), (5, .pointer (some ⟨sb, 0, none⟩)), (6, .slice (some ⟨bo, 0, none⟩) 4 c), (7, .pointer (some ⟨sb, 0, none⟩)), (8, .bool f1), (9, .slice (some ⟨bo, 0, none⟩) 4 c), (10, .pointer (some ⟨sb, 0, none⟩)), (11, .slice (some ⟨bo, 0, none⟩) 4 c), (12, .int .i64 4), (13, .int .i64 ((j : Nat) : Int)), (14, .pointer (some ⟨bo, 0 + j * 2, none⟩)), (15, .pointer (some ⟨bo, 0 + j * 2, none⟩)), (16, .pointer (some ⟨bo, 0 + j * 2, none⟩)), (17, .pointer (some ⟨sb, 0, none⟩)), (18, .pointer (some ⟨bo, 0 + j * 2, none⟩)), (19, .pointer (some ⟨bo, 0 + j * 2, none⟩)), (20, .pointer (some ⟨bo, 0 + j * 2 + 0, none⟩)), (21, .string y0), (22, .pointer (some ⟨bo, 0 + j * 2, none⟩)), (23, .pointer (some ⟨bo, 0 + j * 2, none⟩)), (24, .pointer (some ⟨bo, 0 + j * 2 + 0, none⟩)), (25, .string y0), (28, .pointer (some ⟨sb, 0, none⟩)), (29, .pointer (some ⟨bo, 0 + j * 2, none⟩)), (30, .pointer (some ⟨bo, 0 + j * 2, none⟩)), (31, .pointer (some ⟨bo, 0 + j * 2 + 1, none⟩)), (32, .string y1), (33, .pointer (some ⟨bo, 0 + j * 2, none⟩)), (34, .pointer (some ⟨bo, 0 + j * 2, none⟩)), (35, .pointer (some ⟨bo, 0 + j * 2 + 0, none⟩))] (fun w => Strm 25 w B sb (m + 20 + 1 + 1)) [] [⟨.slice (some ⟨bo, 0, none⟩) 4 c, 135, 2, 4, l.flatMap csEnc⟩] [] := by
      skip
      rw [hW]
      refine wa_all [11, 21] (by kernel_rfl) rfl ⟨⟨_, rfl, ?_⟩, ⟨_, rfl, ?_⟩, trivial⟩
      · refine wl_buildSlice (e := 9) (cs := [.string y0, .string y0, .string ⟨#[]⟩, .string ⟨#[65]⟩, .string ⟨#[122, 101, 100]⟩]) rfl (by kernel_rfl) rfl fun q11 => ?_
        refine wl_nil ?_
        refine nx_wa0 (listed' := #[true, true, true, true, true, true, true, true, true, true, true, true, false, true, true, true, true, true, true, true, true, false, false, false, false, false, false, false, false, false]) rfl (fun _ _ => trivial) ?_
        have h := J2093055 q11
        rw [hW] at h
        refine wa_weak ?_ ?_ h
        · exact ⟨rfl, rfl, rfl, rfl, rfl, rfl, rfl, rfl, rfl, rfl, rfl, rfl, rfl, rfl, rfl, rfl, rfl, rfl, rfl, rfl, rfl, rfl, rfl, rfl, rfl, rfl, rfl, rfl, rfl, rfl, rfl, rfl, rfl, rfl, trivial⟩
        · exact fun _ hm => hm.pick [0] [0] [] rfl rfl
      · refine wl_ov (ov_elem1 (k := 0) (v := .string y0) sc9 rfl (fun _ hm => (SlT.ofOwn cs_len (hm.ownI 0 rfl) hl4)) hy rfl rfl) rfl ?_
        refine wl_nil ?_
        refine nx_wa0 (listed' := #[true, true, true, true, true, true, true, true, true, true, true, false, false, true, true, true, true, true, true, true, true, true, false, false, false, false, false, false, false, false]) rfl (fun _ _ => trivial) ?_
        have h := J4188159 
        rw [hW] at h
        refine wa_weak ?_ ?_ h
        · exact ⟨rfl, rfl, rfl, rfl, rfl, rfl, rfl, rfl, rfl, rfl, rfl, rfl, rfl, rfl, rfl, rfl, rfl, rfl, rfl, rfl, rfl, rfl, rfl, rfl, rfl, rfl, rfl, rfl, rfl, rfl, rfl, rfl, rfl, rfl, trivial⟩
        · exact fun _ hm => hm.pick [] [0] [] rfl rfl
    have J4057087 : W 11 #[true, true, true, true, true, true, true, true, true, true, true, false, false, true, true, true, true, false, true, true, true, true, false, false, false, false, false, false, false, false] [(0, .pointer (some ⟨sb, 0, none⟩)), (2, .slice none 0 0), (3, .slice (some ⟨bo, 0, none⟩) 4 c), (4, .pointer (some ⟨bo, 0 + j * 2, none⟩)), (5, .pointer (some ⟨sb, 0, none⟩)), (6, .slice (some ⟨bo, 0, none⟩) 4 c), (7, .pointer (some ⟨sb, 0, none⟩)), (8, .bool f1), (9, .slice (some ⟨bo, 0, none⟩) 4 c), (10, .pointer (some ⟨sb, 0, none⟩)), (11, .slice (some ⟨bo, 0, none⟩) 4 c), (12, .int .i64 4), (13, .int .i64 ((j : Nat) : Int)), (14, .pointer (some ⟨bo, 0 + j * 2, none⟩)), (15, .pointer (some ⟨bo, 0 + j * 2, none⟩)), (16, .pointer (some ⟨bo, 0 + j * 2, none⟩)), (17, .pointer (some ⟨sb, 0, none⟩)), (18, .pointer (some ⟨bo, 0 + j * 2, none⟩)), (19, .pointer (some ⟨bo, 0 + j * 2, none⟩)), (20, .pointer (some ⟨bo, 0 + j * 2 + 0, none⟩)), (21, .string y0), (22, .pointer (some ⟨bo, 0 + j * 2, none⟩)), (23, .pointer (some ⟨bo, 0 + j * 2, none⟩)), (24, .pointer (some ⟨bo, 0 + j * 2 + 0, none⟩)), (25, .string y0), (28, .pointer (some ⟨sb, 0, none⟩)), (29, .pointer (some ⟨bo, 0 + j * 2, none⟩)), (30, .pointer (some ⟨bo, 0 + j * 2, none⟩)), (31, .pointer (some ⟨bo, 0 + j * 2 + 1, none⟩)), (33, .pointer (some ⟨bo, 0 + j * 2, none⟩)), (34, .pointer (some ⟨bo, 0 + j * 2, none⟩)), (35, .pointer (some ⟨bo, 0 + j * 2 + 0, none⟩)), (36, .string y0)] (fun w => Strm 25 w B sb (m + 20 + 1 + 1)) [] [⟨.slice (some ⟨bo, 0, none⟩) 4 c, 135, 2, 4, l.flatMap csEnc⟩] [] := by
      skip
      rw [hW]
      refine wa_all [11, 17] (by kernel_rfl) rfl ⟨⟨_, rfl, ?_⟩, ⟨_, rfl, ?_⟩, trivial⟩
      · refine wl_buildSlice (e := 9) (cs := [.string y0, .string y0, .string ⟨#[]⟩, .string ⟨#[65]⟩, .string ⟨#[122, 101, 100]⟩]) rfl (by kernel_rfl) rfl fun q11 => ?_
        refine wl_nil ?_
        refine nx_wa0 (listed' := #[true, true, true, true, true, true, true, true, true, true, true, true, false, true, true, true, true, false, true, true, true, true, false, false, false, false, false, false, false, false]) rfl (fun _ _ => trivial) ?_
        have h := J4059135 q11
        rw [hW] at h
        refine wa_weak ?_ ?_ h
        · exact ⟨rfl, rfl, rfl, rfl, rfl, rfl, rfl, rfl, rfl, rfl, rfl, rfl, rfl, rfl, rfl, rfl, rfl, rfl, rfl, rfl, rfl, rfl, rfl, rfl, rfl, rfl, rfl, rfl, rfl, rfl, rfl, rfl, rfl, rfl, trivial⟩
        · exact fun _ hm => hm.pick [0] [0] [] rfl rfl
      · refine wl_ov (ov_elem1 (k := 1) (v := .string y1) sc9 rfl (fun _ hm => (SlT.ofOwn cs_len (hm.ownI 0 rfl) hl4)) hy rfl rfl) rfl ?_
        refine wl_nil ?_
        refine nx_wa0 (listed' := #[true, true, true, true, true, true, true, true, true, true, true, false, false, true, true, true, true, true, true, true, true, true, false, false, false, false, false, false, false, false]) rfl (fun _ _ => trivial) ?_
        have h := J4188159 
        rw [hW] at h
        refine wa_weak ?_ ?_ h
        · exact ⟨rfl, rfl, rfl, rfl, rfl, rfl, rfl, rfl, rfl, rfl, rfl, rfl, rfl, rfl, rfl, rfl, rfl, rfl, rfl, rfl, rfl, rfl, rfl, rfl, rfl, rfl, rfl, rfl, rfl, rfl, rfl, rfl, rfl, rfl, trivial⟩
        · exact fun _ hm => hm.pick [] [0] [] rfl rfl
    have J1959935 : W 12 #[true, true, true, true, true, true, true, true, true, true, true, false, false, true, true, true, true, false, true, true, true, false, false, false, false, false, false, false, false, false] [(0, .pointer (some ⟨sb, 0, none⟩)), (2, .slice none 0 0), (3, .slice (some ⟨bo, 0, none⟩) 4 c), (4, .pointer (some ⟨bo, 0 + j * 2, none⟩)), (5, .pointer (some ⟨sb, 0, none⟩)), (6, .slice (some ⟨bo, 0, none⟩) 4 c), (7, .pointer (some ⟨sb, 0, none⟩)), (8, .bool f1), (9, .slice (some ⟨bo, 0, none⟩) 4 c), (10, .pointer (some ⟨sb, 0, none⟩)), (11, .slice (some ⟨bo, 0, none⟩) 4 c), (12, .int .i64 4), (13, .int .i64 ((j : Nat) : Int)), (14, .pointer (some ⟨bo, 0 + j * 2, none⟩)), (15, .pointer (some ⟨bo, 0 + j * 2, none⟩)), (16, .pointer (some ⟨bo, 0 + j * 2, none⟩)), (17, .pointer (some ⟨sb, 0, none⟩)), (18, .pointer (some ⟨bo, 0 + j * 2, none⟩)), (19, .pointer (some ⟨bo, 0 + j * 2, none⟩)), (20, .pointer (some ⟨bo, 0 + j * 2 + 0, none⟩)), (21, .string y0), (22, .pointer (some ⟨bo, 0 + j * 2, none⟩)), (23, .pointer (some ⟨bo, 0 + j * 2, none⟩)), (24, .pointer (some ⟨bo, 0 + j * 2 + 0, none⟩)), (25, .string y0), (28, .pointer (some ⟨sb, 0, none⟩)), (29, .pointer (some ⟨bo, 0 + j * 2, none⟩)), (30, .pointer (some ⟨bo, 0 + j * 2, none⟩)), (31, .pointer (some ⟨bo, 0 + j * 2 + 1, none⟩)), (33, .pointer (some ⟨bo, 0 + j * 2, none⟩)), (34, .pointer (some ⟨bo, 0 + j * 2, none⟩)), (35, .pointer (some ⟨bo, 0 + j * 2 + 0, none⟩))] (fun w => Strm 25 w B sb (m + 20 + 1 + 1)) [] [⟨.slice (some ⟨bo, 0, none⟩) 4 c, 135, 2, 4, l.flatMap csEnc⟩] [] := by
      skip
      rw [hW]
      refine wa_all [11, 17, 21] (by kernel_rfl) rfl ⟨⟨_, rfl, ?_⟩, ⟨_, rfl, ?_⟩, ⟨_, rfl, ?_⟩, trivial⟩
      · refine wl_buildSlice (e := 9) (cs := [.string y0, .string y0, .string ⟨#[]⟩, .string ⟨#[65]⟩, .string ⟨#[122, 101, 100]⟩]) rfl (by kernel_rfl) rfl fun q11 => ?_
        refine wl_nil ?_
        refine nx_wa0 (listed' := #[true, true, true, true, true, true, true, true, true, true, true, true, false, true, true, true, true, false, true, true, true, false, false, false, false, false, false, false, false, false]) rfl (fun _ _ => trivial) ?_
        have h := J1961983 q11
        rw [hW] at h
        refine wa_weak ?_ ?_ h
        · exact ⟨rfl, rfl, rfl, rfl, rfl, rfl, rfl, rfl, rfl, rfl, rfl, rfl, rfl, rfl, rfl, rfl, rfl, rfl, rfl, rfl, rfl, rfl, rfl, rfl, rfl, rfl, rfl, rfl, rfl, rfl, rfl, rfl, rfl, trivial⟩
        · exact fun _ hm => hm.pick [0] [0] [] rfl rfl
      · refine wl_ov (ov_elem1 (k := 1) (v := .string y1) sc9 rfl (fun _ hm => (SlT.ofOwn cs_len (hm.ownI 0 rfl) hl4)) hy rfl rfl) rfl ?_
        refine wl_nil ?_
        refine nx_wa0 (listed' := #[true, true, true, true, true, true, true, true, true, true, true, false, false, true, true, true, true, true, true, true, true, false, false, false, false, false, false, false, false, false]) rfl (fun _ _ => trivial) ?_
        have h := J2091007 
        rw [hW] at h
        refine wa_weak ?_ ?_ h
        · exact ⟨rfl, rfl, rfl, rfl, rfl, rfl, rfl, rfl, rfl, rfl, rfl, rfl, rfl, rfl, rfl, rfl, rfl, rfl, rfl, rfl, rfl, rfl, rfl, rfl, rfl, rfl, rfl, rfl, rfl, rfl, rfl, rfl, rfl, trivial⟩
        · exact fun _ hm => hm.pick [] [0] [] rfl rfl
      · refine wl_ov (ov_elem1 (k := 0) (v := .string y0) sc9 rfl (fun _ hm => (SlT.ofOwn cs_len (hm.ownI 0 rfl) hl4)) hy rfl rfl) rfl ?_
        refine wl_nil ?_
        refine nx_wa0 (listed' := #[true, true, true, true, true, true, true, true, true, true, true, false, false, true, true, true, true, false, true, true, true, true, false, false, false, false, false, false, false, false]) rfl (fun _ _ => trivial) ?_
        have h := J4057087 
        rw [hW] at h
        refine wa_weak ?_ ?_ h
        · exact ⟨rfl, rfl, rfl, rfl, rfl, rfl, rfl, rfl, rfl, rfl, rfl, rfl, rfl, rfl, rfl, rfl, rfl, rfl, rfl, rfl, rfl, rfl, rfl, rfl, rfl, rfl, rfl, rfl, rfl, rfl, rfl, rfl, rfl, trivial⟩
        · exact fun _ hm => hm.pick [] [0] [] rfl rfl
    have T8381439 : ∀ (q22 : Nat), W 10 #[true, true, true, true, true, true, true, true, true, true, false, false, false, true, true, true, true, true, true, true, true, true, true, false, false, false, false, false, false, false] [(0, .pointer (some ⟨sb, 0, none⟩)), (2, .slice none 0 0), (3, .slice (some ⟨bo, 0, none⟩) 4 c), (4, .pointer (some ⟨bo, 0 + j * 2, none⟩)), (5, .pointer (some ⟨sb, 0, none⟩)), (6, .slice (some ⟨bo, 0, none⟩) 4 c), (7, .pointer (some ⟨sb, 0, none⟩)), (8, .bool f1), (9, .slice (some ⟨bo, 0, none⟩) 4 c), (10, .pointer (some ⟨sb, 0, none⟩)), (11, .slice (some ⟨bo, 0, none⟩) 4 c), (12, .int .i64 4), (13, .int .i64 ((j : Nat) : Int)), (14, .pointer (some ⟨bo, 0 + j * 2, none⟩)), (15, .pointer (some ⟨bo, 0 + j * 2, none⟩)), (16, .pointer (some ⟨bo, 0 + j * 2, none⟩)), (17, .pointer (some ⟨sb, 0, none⟩)), (18, .pointer (some ⟨bo, 0 + j * 2, none⟩)), (19, .pointer (some ⟨bo, 0 + j * 2, none⟩)), (20, .pointer (some ⟨bo, 0 + j * 2 + 0, none⟩)), (21, .string y0), (22, .pointer (some ⟨bo, 0 + j * 2, none⟩)), (23, .pointer (some ⟨bo, 0 + j * 2, none⟩)), (24, .pointer (some ⟨bo, 0 + j * 2 + 0, none⟩)), (28, .pointer (some ⟨sb, 0, none⟩)), (29, .pointer (some ⟨bo, 0 + j * 2, none⟩)), (30, .pointer (some ⟨bo, 0 + j * 2, none⟩)), (31, .pointer (some ⟨bo, 0 + j * 2 + 1, none⟩)), (32, .string y1), (33, .pointer (some ⟨bo, 0 + j * 2, none⟩)), (34, .pointer (some ⟨bo, 0 + j * 2, none⟩)), (35, .pointer (some ⟨bo, 0 + j * 2 + 0, none⟩)), (36, .string y0), (37, .slice (some ⟨q22, 0, none⟩) 5 5)] (fun w => Strm 25 w B sb (m + 20 + 1 + 1)) [(q22, 9, [.string y1, .string ⟨#[109, 105, 110, 105]⟩, .string ⟨#[110, 111, 110, 101]⟩, .string ⟨#[65]⟩, .string y0])] [⟨.slice (some ⟨bo, 0, none⟩) 4 c, 135, 2, 4, l.flatMap csEnc⟩] [] := by
      intro q22
      rw [hW]
      refine wa_all [10] (by kernel_rfl) rfl ⟨⟨_, rfl, ?_⟩, trivial⟩
      refine wl_ov (ov_elem1 (k := 0) (v := .string y0) sc9 rfl (fun _ hm => (SlT.ofOwn cs_len (hm.ownI 0 rfl) hl4)) hy rfl rfl) rfl ?_
      refine wl_nil ?_
      refine nx_wa0 (listed' := #[true, true, true, true, true, true, true, true, true, true, true, false, false, true, true, true, true, true, true, true, true, true, true, false, false, false, false, false, false, false]) rfl (fun _ _ => trivial) ?_
      refine wa_all [11] (by kernel_rfl) rfl ⟨⟨_, rfl, ?_⟩, trivial⟩
      refine wl_buildSlice (e := 9) (cs := [.string y0, .string y0, .string ⟨#[]⟩, .string ⟨#[65]⟩, .string ⟨#[122, 101, 100]⟩]) rfl (by kernel_rfl) rfl fun q11 => ?_
      refine wl_nil ?_
      refine nx_wa0 (listed' := #[true, true, true, true, true, true, true, true, true, true, true, true, false, true, true, true, true, true, true, true, true, true, true, false, false, false, false, false, false, false]) rfl (fun _ _ => trivial) ?_
      refine wa_all [12] (by kernel_rfl) rfl ⟨⟨_, rfl, ?_⟩, trivial⟩
      refine wl_got (γ := ByteArray) (val := fun v => .string v) (φ := fun v => v ∈ ([y0, y0, ⟨#[]⟩, ⟨#[65]⟩, ⟨#[122, 101, 100]⟩] : List ByteArray)) rfl cb48 rfl rfl rfl rfl (fun wx hm => (some_any [y0, y0, ⟨#[]⟩, ⟨#[65]⟩, ⟨#[122, 101, 100]⟩] _ _ _ wx B sb _ hm.k (by omega) (by simp) (by simp) (hm.blkI 0 rfl) (hm.neRow 0 rfl rfl))) fun k12 hk12 => ?_
      refine wl_nil ?_
      refine nx_wa0 (listed' := #[true, true, true, true, true, true, true, true, true, true, true, true, true, true, true, true, true, true, true, true, true, true, true, false, false, false, false, false, false, false]) rfl (fun _ _ => trivial) ?_
      refine wa_all [23] (by kernel_rfl) rfl ⟨⟨_, rfl, ?_⟩, trivial⟩
      refine wl_got (γ := ByteArray) (val := fun v => .string v) (φ := fun v => v ∈ ([y1, ⟨#[109, 105, 110, 105]⟩, ⟨#[110, 111, 110, 101]⟩, ⟨#[65]⟩, y0] : List ByteArray)) rfl cb48 rfl rfl rfl rfl (fun wx hm => (some_any [y1, ⟨#[109, 105, 110, 105]⟩, ⟨#[110, 111, 110, 101]⟩, ⟨#[65]⟩, y0] _ _ _ wx B sb _ hm.k (by omega) (by simp) (by simp) (hm.blkI 1 rfl) (hm.neRow 1 rfl rfl))) fun k23 hk23 => ?_
      refine wl_nil ?_
      refine nx_wa0 (listed' := #[true, true, true, true, true, true, true, true, true, true, true, true, true, true, true, true, true, true, true, true, true, true, true, true, false, false, false, false, false, false]) rfl (fun _ _ => trivial) ?_
      refine wa_take 24 rfl (by kernel_rfl) (by kernel_rfl) (by kernel_rfl) (listed' := #[true, true, true, true, true, true, true, true, true, true, true, true, true, true, true, true, true, true, true, true, true, true, true, true, true, false, false, false, false, false]) rfl (fun _ _ _ h => h) (fun _ _ => trivial) (ov_nilcheck rfl) rfl ?_
      refine wa_take 25 rfl (by kernel_rfl) (by kernel_rfl) (by kernel_rfl) (listed' := #[true, true, true, true, true, true, true, true, true, true, true, true, true, true, true, true, true, true, true, true, true, true, true, true, true, true, false, false, false, false]) rfl (fun _ _ _ h => h) (fun _ _ => trivial) (ov_field fo135_0 rfl rfl) rfl ?_
      refine wa_all [26] (by kernel_rfl) rfl ⟨⟨_, rfl, ?_⟩, trivial⟩
      refine wl_storeE (l := l) (j := j) (r := 0) (el := ⟨y0, y1⟩) (el' := ⟨k12, y1⟩) 0 sc9 rfl rfl rfl rfl cs_len rfl hy hl4 (by decide) rfl rfl ?_
      refine wl_nil ?_
      refine nx_wa0 (listed' := #[true, true, true, true, true, true, true, true, true, true, true, true, true, true, true, true, true, true, true, true, true, true, true, true, true, true, true, false, false, false]) rfl (fun _ _ => trivial) ?_
      refine wa_take 27 rfl (by kernel_rfl) (by kernel_rfl) (by kernel_rfl) (listed' := #[true, true, true, true, true, true, true, true, true, true, true, true, true, true, true, true, true, true, true, true, true, true, true, true, true, true, true, true, false, false]) rfl (fun _ _ _ h => h) (fun _ _ => trivial) (ov_nilcheck rfl) rfl ?_
      refine wa_take 28 rfl (by kernel_rfl) (by kernel_rfl) (by kernel_rfl) (listed' := #[true, true, true, true, true, true, true, true, true, true, true, true, true, true, true, true, true, true, true, true, true, true, true, true, true, true, true, true, true, false]) rfl (fun _ _ _ h => h) (fun _ _ => trivial) (ov_field fo135_1 rfl rfl) rfl ?_
      refine wa_all [29] (by kernel_rfl) rfl ⟨⟨_, rfl, ?_⟩, trivial⟩
      have hy2 : (l.set j ⟨k12, y1⟩)[j]? = some (⟨k12, y1⟩ : Cs) := by rw [List.getElem?_set_self (by omega)]
      have hl42 : (l.set j ⟨k12, y1⟩).length = 4 := by simp [hl4]
      refine wl_storeE (l := (l.set j ⟨k12, y1⟩)) (j := j) (r := 1) (el := ⟨k12, y1⟩) (el' := ⟨k12, k23⟩) 0 sc9 rfl rfl rfl rfl cs_len rfl hy2 hl42 (by decide) rfl rfl ?_
      refine wl_nil ?_
      refine nx_wa0 (listed' := #[true, true, true, true, true, true, true, true, true, true, true, true, true, true, true, true, true, true, true, true, true, true, true, true, true, true, true, true, true, true]) rfl (fun _ _ => trivial) ?_
      refine wa_done (by kernel_rfl) ?_
      refine nx_then ?_
      refine gw_seq ?_
      refine gw_region ?_
      refine wl_ov (ov_move rfl) rfl ?_
      refine wl_ov (ov_assign rfl) rfl ?_
      refine wl_nil ?_
      refine nx_then ?_
      refine gw_ret ?_
      refine nx_ret1 rfl rfl fun wx hm => ?_
      exact ⟨some ⟨bo, 0, none⟩, c, _, rfl, hm.ownI 0 rfl, (by simp [hl4]), cs_mem (cs_mem hok ⟨(show k12.size ≤ 1000000 by rcases mem5 hk12 with h | h | h | h | h <;> rw [h] <;> first | assumption | decide), hy1⟩) ⟨(show k12.size ≤ 1000000 by rcases mem5 hk12 with h | h | h | h | h <;> rw [h] <;> first | assumption | decide), (show k23.size ≤ 1000000 by rcases mem5 hk23 with h | h | h | h | h <;> rw [h] <;> first | assumption | decide)⟩, hm.k.more (by omega), hm.g⟩
    have J4187135 : W 11 #[true, true, true, true, true, true, true, true, true, true, false, false, false, true, true, true, true, true, true, true, true, true, false, false, false, false, false, false, false, false] [(0, .pointer (some ⟨sb, 0, none⟩)), (2, .slice none 0 0), (3, .slice (some ⟨bo, 0, none⟩) 4 c), (4, .pointer (some ⟨bo, 0 + j * 2, none⟩)), (5, .pointer (some ⟨sb, 0, none⟩)), (6, .slice (some ⟨bo, 0, none⟩) 4 c), (7, .pointer (some ⟨sb, 0, none⟩)), (8, .bool f1), (9, .slice (some ⟨bo, 0, none⟩) 4 c), (10, .pointer (some ⟨sb, 0, none⟩)), (11, .slice (some ⟨bo, 0, none⟩) 4 c), (12, .int .i64 4), (13, .int .i64 ((j : Nat) : Int)), (14, .pointer (some ⟨bo, 0 + j * 2, none⟩)), (15, .pointer (some ⟨bo, 0 + j * 2, none⟩)), (16, .pointer (some ⟨bo, 0 + j * 2, none⟩)), (17, .pointer (some ⟨sb, 0, none⟩)), (18, .pointer (some ⟨bo, 0 + j * 2, none⟩)), (19, .pointer (some ⟨bo, 0 + j * 2, none⟩)), (20, .pointer (some ⟨bo, 0 + j * 2 + 0, none⟩)), (21, .string y0), (22, .pointer (some ⟨bo, 0 + j * 2, none⟩)), (23, .pointer (some ⟨bo, 0 + j * 2, none⟩)), (24, .pointer (some ⟨bo, 0 + j * 2 + 0, none⟩)), (28, .pointer (some ⟨sb, 0, none⟩)), (29, .pointer (some ⟨bo, 0 + j * 2, none⟩)), (30, .pointer (some ⟨bo, 0 + j * 2, none⟩)), (31, .pointer (some ⟨bo, 0 + j * 2 + 1, none⟩)), (32, .string y1), (33, .pointer (some ⟨bo, 0 + j * 2, none⟩)), (34, .pointer (some ⟨bo, 0 + j * 2, none⟩)), (35, .pointer (some ⟨bo, 0 + j * 2 + 0, none⟩)), (36, .string y0)] (fun w => Strm 25 w B sb (m + 20 + 1 + 1)) [] [⟨.slice (some ⟨bo, 0, none⟩) 4 c, 135, 2, 4, l.flatMap csEnc⟩] [] := by
      skip
      rw [hW]
      refine wa_all [10, 22] (by kernel_rfl) rfl ⟨⟨_, rfl, ?_⟩, ⟨_, rfl, ?_⟩, trivial⟩
      · refine wl_ov (ov_elem1 (k := 0) (v := .string y0) sc9 rfl (fun _ hm => (SlT.ofOwn cs_len (hm.ownI 0 rfl) hl4)) hy rfl rfl) rfl ?_
        refine wl_nil ?_
        refine nx_wa0 (listed' := #[true, true, true, true, true, true, true, true, true, true, true, false, false, true, true, true, true, true, true, true, true, true, false, false, false, false, false, false, false, false]) rfl (fun _ _ => trivial) ?_
        have h := J4188159 
        rw [hW] at h
        refine wa_weak ?_ ?_ h
        · exact ⟨rfl, rfl, rfl, rfl, rfl, rfl, rfl, rfl, rfl, rfl, rfl, rfl, rfl, rfl, rfl, rfl, rfl, rfl, rfl, rfl, rfl, rfl, rfl, rfl, rfl, rfl, rfl, rfl, rfl, rfl, rfl, rfl, rfl, rfl, trivial⟩
        · exact fun _ hm => hm.pick [] [0] [] rfl rfl
      · refine wl_buildSlice (e := 9) (cs := [.string y1, .string ⟨#[109, 105, 110, 105]⟩, .string ⟨#[110, 111, 110, 101]⟩, .string ⟨#[65]⟩, .string y0]) rfl (by kernel_rfl) rfl fun q22 => ?_
        refine wl_nil ?_
        refine nx_wa0 (listed' := #[true, true, true, true, true, true, true, true, true, true, false, false, false, true, true, true, true, true, true, true, true, true, true, false, false, false, false, false, false, false]) rfl (fun _ _ => trivial) ?_
        have h := T8381439 q22
        rw [hW] at h
        refine wa_weak ?_ ?_ h
        · exact ⟨rfl, rfl, rfl, rfl, rfl, rfl, rfl, rfl, rfl, rfl, rfl, rfl, rfl, rfl, rfl, rfl, rfl, rfl, rfl, rfl, rfl, rfl, rfl, rfl, rfl, rfl, rfl, rfl, rfl, rfl, rfl, rfl, rfl, rfl, trivial⟩
        · exact fun _ hm => hm.pick [0] [0] [] rfl rfl
    have J2089983 : W 12 #[true, true, true, true, true, true, true, true, true, true, false, false, false, true, true, true, true, true, true, true, true, false, false, false, false, false, false, false, false, false] [(0, .pointer (some ⟨sb, 0, none⟩)), (2, .slice none 0 0), (3, .slice (some ⟨bo, 0, none⟩) 4 c), (4, .pointer (some ⟨bo, 0 + j * 2, none⟩)), (5, .pointer (some ⟨sb, 0, none⟩)), (6, .slice (some ⟨bo, 0, none⟩) 4 c), (7, .pointer (some ⟨sb, 0, none⟩)), (8, .bool f1), (9, .slice (some ⟨bo, 0, none⟩) 4 c), (10, .pointer (some ⟨sb, 0, none⟩)), (11, .slice (some ⟨bo, 0, none⟩) 4 c), (12, .int .i64 4), (13, .int .i64 ((j : Nat) : Int)), (14, .pointer (some ⟨bo, 0 + j * 2, none⟩)), (15, .pointer (some ⟨bo, 0 + j * 2, none⟩)), (16, .pointer (some ⟨bo, 0 + j * 2, none⟩)), (17, .pointer (some ⟨sb, 0, none⟩)), (18, .pointer (some ⟨bo, 0 + j * 2, none⟩)), (19, .pointer (some ⟨bo, 0 + j * 2, none⟩)), (20, .pointer (some ⟨bo, 0 + j * 2 + 0, none⟩)), (21, .string y0), (22, .pointer (some ⟨bo, 0 + j * 2, none⟩)), (23, .pointer (some ⟨bo, 0 + j * 2, none⟩)), (24, .pointer (some ⟨bo, 0 + j * 2 + 0, none⟩)), (28, .pointer (some ⟨sb, 0, none⟩)), (29, .pointer (some ⟨bo, 0 + j * 2, none⟩)), (30, .pointer (some ⟨bo, 0 + j * 2, none⟩)), (31, .pointer (some ⟨bo, 0 + j * 2 + 1, none⟩)), (32, .string y1), (33, .pointer (some ⟨bo, 0 + j * 2, none⟩)), (34, .pointer (some ⟨bo, 0 + j * 2, none⟩)), (35, .pointer (some ⟨bo, 0 + j * 2 + 0, none⟩))] (fun w => Strm 25 w B sb (m + 20 + 1 + 1)) [] [⟨.slice (some ⟨bo, 0, none⟩) 4 c, 135, 2, 4, l.flatMap csEnc⟩] [] := by
      skip
      rw [hW]
      refine wa_all [10, 21] (by kernel_rfl) rfl ⟨⟨_, rfl, ?_⟩, ⟨_, rfl, ?_⟩, trivial⟩
      · refine wl_ov (ov_elem1 (k := 0) (v := .string y0) sc9 rfl (fun _ hm => (SlT.ofOwn cs_len (hm.ownI 0 rfl) hl4)) hy rfl rfl) rfl ?_
        refine wl_nil ?_
        refine nx_wa0 (listed' := #[true, true, true, true, true, true, true, true, true, true, true, false, false, true, true, true, true, true, true, true, true, false, false, false, false, false, false, false, false, false]) rfl (fun _ _ => trivial) ?_
        have h := J2091007 
        rw [hW] at h
        refine wa_weak ?_ ?_ h
        · exact ⟨rfl, rfl, rfl, rfl, rfl, rfl, rfl, rfl, rfl, rfl, rfl, rfl, rfl, rfl, rfl, rfl, rfl, rfl, rfl, rfl, rfl, rfl, rfl, rfl, rfl, rfl, rfl, rfl, rfl, rfl, rfl, rfl, rfl, trivial⟩
        · exact fun _ hm => hm.pick [] [0] [] rfl rfl
      · refine wl_ov (ov_elem1 (k := 0) (v := .string y0) sc9 rfl (fun _ hm => (SlT.ofOwn cs_len (hm.ownI 0 rfl) hl4)) hy rfl rfl) rfl ?_
        refine wl_nil ?_
        refine nx_wa0 (listed' := #[true, true, true, true, true, true, true, true, true, true, false, false, false, true, true, true, true, true, true, true, true, true, false, false, false, false, false, false, false, false]) rfl (fun _ _ => trivial) ?_
        have h := J4187135 
        rw [hW] at h
        refine wa_weak ?_ ?_ h
        · exact ⟨rfl, rfl, rfl, rfl, rfl, rfl, rfl, rfl, rfl, rfl, rfl, rfl, rfl, rfl, rfl, rfl, rfl, rfl, rfl, rfl, rfl, rfl, rfl, rfl, rfl, rfl, rfl, rfl, rfl, rfl, rfl, rfl, rfl, trivial⟩
        · exact fun _ hm => hm.pick [] [0] [] rfl rfl
    have J4056063 : W 12 #[true, true, true, true, true, true, true, true, true, true, false, false, false, true, true, true, true, false, true, true, true, true, false, false, false, false, false, false, false, false] [(0, .pointer (some ⟨sb, 0, none⟩)), (2, .slice none 0 0), (3, .slice (some ⟨bo, 0, none⟩) 4 c), (4, .pointer (some ⟨bo, 0 + j * 2, none⟩)), (5, .pointer (some ⟨sb, 0, none⟩)), (6, .slice (some ⟨bo, 0, none⟩) 4 c), (7, .pointer (some ⟨sb, 0, none⟩)), (8, .bool f1), (9, .slice (some ⟨bo, 0, none⟩) 4 c), (10, .pointer (some ⟨sb, 0, none⟩)), (11, .slice (some ⟨bo, 0, none⟩) 4 c), (12, .int .i64 4), (13, .int .i64 ((j : Nat) : Int)), (14, .pointer (some ⟨bo, 0 + j * 2, none⟩)), (15, .pointer (some ⟨bo, 0 + j * 2, none⟩)), (16, .pointer (some ⟨bo, 0 + j * 2, none⟩)), (17, .pointer (some ⟨sb, 0, none⟩)), (18, .pointer (some ⟨bo, 0 + j * 2, none⟩)), (19, .pointer (some ⟨bo, 0 + j * 2, none⟩)), (20, .pointer (some ⟨bo, 0 + j * 2 + 0, none⟩)), (21, .string y0), (22, .pointer (some ⟨bo, 0 + j * 2, none⟩)), (23, .pointer (some ⟨bo, 0 + j * 2, none⟩)), (24, .pointer (some ⟨bo, 0 + j * 2 + 0, none⟩)), (28, .pointer (some ⟨sb, 0, none⟩)), (29, .pointer (some ⟨bo, 0 + j * 2, none⟩)), (30, .pointer (some ⟨bo, 0 + j * 2, none⟩)), (31, .pointer (some ⟨bo, 0 + j * 2 + 1, none⟩)), (33, .pointer (some ⟨bo, 0 + j * 2, none⟩)), (34, .pointer (some ⟨bo, 0 + j * 2, none⟩)), (35, .pointer (some ⟨bo, 0 + j * 2 + 0, none⟩)), (36, .string y0)] (fun w => Strm 25 w B sb (m + 20 + 1 + 1)) [] [⟨.slice (some ⟨bo, 0, none⟩) 4 c, 135, 2, 4, l.flatMap csEnc⟩] [] := by
      skip
      rw [hW]
      refine wa_all [10, 17] (by kernel_rfl) rfl ⟨⟨_, rfl, ?_⟩, ⟨_, rfl, ?_⟩, trivial⟩
      · refine wl_ov (ov_elem1 (k := 0) (v := .string y0) sc9 rfl (fun _ hm => (SlT.ofOwn cs_len (hm.ownI 0 rfl) hl4)) hy rfl rfl) rfl ?_
        refine wl_nil ?_
        refine nx_wa0 (listed' := #[true, true, true, true, true, true, true, true, true, true, true, false, false, true, true, true, true, false, true, true, true, true, false, false, false, false, false, false, false, false]) rfl (fun _ _ => trivial) ?_
        have h := J4057087 
        rw [hW] at h
        refine wa_weak ?_ ?_ h
        · exact ⟨rfl, rfl, rfl, rfl, rfl, rfl, rfl, rfl, rfl, rfl, rfl, rfl, rfl, rfl, rfl, rfl, rfl, rfl, rfl, rfl, rfl, rfl, rfl, rfl, rfl, rfl, rfl, rfl, rfl, rfl, rfl, rfl, rfl, trivial⟩
        · exact fun _ hm => hm.pick [] [0] [] rfl rfl
      · refine wl_ov (ov_elem1 (k := 1) (v := .string y1) sc9 rfl (fun _ hm => (SlT.ofOwn cs_len (hm.ownI 0 rfl) hl4)) hy rfl rfl) rfl ?_
        refine wl_nil ?_
        refine nx_wa0 (listed' := #[true, true, true, true, true, true, true, true, true, true, false, false, false, true, true, true, true, true, true, true, true, true, false, false, false, false, false, false, false, false]) rfl (fun _ _ => trivial) ?_
        have h := J4187135 
        rw [hW] at h
        refine wa_weak ?_ ?_ h
        · exact ⟨rfl, rfl, rfl, rfl, rfl, rfl, rfl, rfl, rfl, rfl, rfl, rfl, rfl, rfl, rfl, rfl, rfl, rfl, rfl, rfl, rfl, rfl, rfl, rfl, rfl, rfl, rfl, rfl, rfl, rfl, rfl, rfl, rfl, trivial⟩
        · exact fun _ hm => hm.pick [] [0] [] rfl rfl
    have J1958911 : W 13 #[true, true, true, true, true, true, true, true, true, true, false, false, false, true, true, true, true, false, true, true, true, false, false, false, false, false, false, false, false, false] [(0, .pointer (some ⟨sb, 0, none⟩)), (2, .slice none 0 0), (3, .slice (some ⟨bo, 0, none⟩) 4 c), (4, .pointer (some ⟨bo, 0 + j * 2, none⟩)), (5, .pointer (some ⟨sb, 0, none⟩)), (6, .slice (some ⟨bo, 0, none⟩) 4 c), (7, .pointer (some ⟨sb, 0, none⟩)), (8, .bool f1), (9, .slice (some ⟨bo, 0, none⟩) 4 c), (10, .pointer (some ⟨sb, 0, none⟩)), (11, .slice (some ⟨bo, 0, none⟩) 4 c), (12, .int .i64 4), (13, .int .i64 ((j : Nat) : Int)), (14, .pointer (some ⟨bo, 0 + j * 2, none⟩)), (15, .pointer (some ⟨bo, 0 + j * 2, none⟩)), (16, .pointer (some ⟨bo, 0 + j * 2, none⟩)), (17, .pointer (some ⟨sb, 0, none⟩)), (18, .pointer (some ⟨bo, 0 + j * 2, none⟩)), (19, .pointer (some ⟨bo, 0 + j * 2, none⟩)), (20, .pointer (some ⟨bo, 0 + j * 2 + 0, none⟩)), (21, .string y0), (22, .pointer (some ⟨bo, 0 + j * 2, none⟩)), (23, .pointer (some ⟨bo, 0 + j * 2, none⟩)), (24, .pointer (some ⟨bo, 0 + j * 2 + 0, none⟩)), (28, .pointer (some ⟨sb, 0, none⟩)), (29, .pointer (some ⟨bo, 0 + j * 2, none⟩)), (30, .pointer (some ⟨bo, 0 + j * 2, none⟩)), (31, .pointer (some ⟨bo, 0 + j * 2 + 1, none⟩)), (33, .pointer (some ⟨bo, 0 + j * 2, none⟩)), (34, .pointer (some ⟨bo, 0 + j * 2, none⟩)), (35, .pointer (some ⟨bo, 0 + j * 2 + 0, none⟩))] (fun w => Strm 25 w B sb (m + 20 + 1 + 1)) [] [⟨.slice (some ⟨bo, 0, none⟩) 4 c, 135, 2, 4, l.flatMap csEnc⟩] [] := by
      skip
      rw [hW]
      refine wa_all [10, 17, 21] (by kernel_rfl) rfl ⟨⟨_, rfl, ?_⟩, ⟨_, rfl, ?_⟩, ⟨_, rfl, ?_⟩, trivial⟩
      · refine wl_ov (ov_elem1 (k := 0) (v := .string y0) sc9 rfl (fun _ hm => (SlT.ofOwn cs_len (hm.ownI 0 rfl) hl4)) hy rfl rfl) rfl ?_
        refine wl_nil ?_
        refine nx_wa0 (listed' := #[true, true, true, true, true, true, true, true, true, true, true, false, false, true, true, true, true, false, true, true, true, false, false, false, false, false, false, false, false, false]) rfl (fun _ _ => trivial) ?_
        have h := J1959935 
        rw [hW] at h
        refine wa_weak ?_ ?_ h
        · exact ⟨rfl, rfl, rfl, rfl, rfl, rfl, rfl, rfl, rfl, rfl, rfl, rfl, rfl, rfl, rfl, rfl, rfl, rfl, rfl, rfl, rfl, rfl, rfl, rfl, rfl, rfl, rfl, rfl, rfl, rfl, rfl, rfl, trivial⟩
        · exact fun _ hm => hm.pick [] [0] [] rfl rfl
      · refine wl_ov (ov_elem1 (k := 1) (v := .string y1) sc9 rfl (fun _ hm => (SlT.ofOwn cs_len (hm.ownI 0 rfl) hl4)) hy rfl rfl) rfl ?_
        refine wl_nil ?_
        refine nx_wa0 (listed' := #[true, true, true, true, true, true, true, true, true, true, false, false, false, true, true, true, true, true, true, true, true, false, false, false, false, false, false, false, false, false]) rfl (fun _ _ => trivial) ?_
        have h := J2089983 
        rw [hW] at h
        refine wa_weak ?_ ?_ h
        · exact ⟨rfl, rfl, rfl, rfl, rfl, rfl, rfl, rfl, rfl, rfl, rfl, rfl, rfl, rfl, rfl, rfl, rfl, rfl, rfl, rfl, rfl, rfl, rfl, rfl, rfl, rfl, rfl, rfl, rfl, rfl, rfl, rfl, trivial⟩
        · exact fun _ hm => hm.pick [] [0] [] rfl rfl
      · refine wl_ov (ov_elem1 (k := 0) (v := .string y0) sc9 rfl (fun _ hm => (SlT.ofOwn cs_len (hm.ownI 0 rfl) hl4)) hy rfl rfl) rfl ?_
        refine wl_nil ?_
        refine nx_wa0 (listed' := #[true, true, true, true, true, true, true, true, true, true, false, false, false, true, true, true, true, false, true, true, true, true, false, false, false, false, false, false, false, false]) rfl (fun _ _ => trivial) ?_
        have h := J4056063 
        rw [hW] at h
        refine wa_weak ?_ ?_ h
        · exact ⟨rfl, rfl, rfl, rfl, rfl, rfl, rfl, rfl, rfl, rfl, rfl, rfl, rfl, rfl, rfl, rfl, rfl, rfl, rfl, rfl, rfl, rfl, rfl, rfl, rfl, rfl, rfl, rfl, rfl, rfl, rfl, rfl, trivial⟩
        · exact fun _ hm => hm.pick [] [0] [] rfl rfl
    have T8382399 : ∀ (q22 : Nat), W 10 #[true, true, true, true, true, true, false, true, true, true, true, false, false, true, true, true, true, true, true, true, true, true, true, false, false, false, false, false, false, false] [(0, .pointer (some ⟨sb, 0, none⟩)), (2, .slice none 0 0), (3, .slice (some ⟨bo, 0, none⟩) 4 c), (4, .pointer (some ⟨bo, 0 + j * 2, none⟩)), (5, .pointer (some ⟨sb, 0, none⟩)), (6, .slice (some ⟨bo, 0, none⟩) 4 c), (7, .pointer (some ⟨sb, 0, none⟩)), (8, .bool f1), (9, .slice (some ⟨bo, 0, none⟩) 4 c), (10, .pointer (some ⟨sb, 0, none⟩)), (11, .slice (some ⟨bo, 0, none⟩) 4 c), (12, .int .i64 4), (13, .int .i64 ((j : Nat) : Int)), (14, .pointer (some ⟨bo, 0 + j * 2, none⟩)), (15, .pointer (some ⟨bo, 0 + j * 2, none⟩)), (16, .pointer (some ⟨bo, 0 + j * 2, none⟩)), (17, .pointer (some ⟨sb, 0, none⟩)), (18, .pointer (some ⟨bo, 0 + j * 2, none⟩)), (19, .pointer (some ⟨bo, 0 + j * 2, none⟩)), (20, .pointer (some ⟨bo, 0 + j * 2 + 0, none⟩)), (22, .pointer (some ⟨bo, 0 + j * 2, none⟩)), (23, .pointer (some ⟨bo, 0 + j * 2, none⟩)), (24, .pointer (some ⟨bo, 0 + j * 2 + 0, none⟩)), (25, .string y0), (28, .pointer (some ⟨sb, 0, none⟩)), (29, .pointer (some ⟨bo, 0 + j * 2, none⟩)), (30, .pointer (some ⟨bo, 0 + j * 2, none⟩)), (31, .pointer (some ⟨bo, 0 + j * 2 + 1, none⟩)), (32, .string y1), (33, .pointer (some ⟨bo, 0 + j * 2, none⟩)), (34, .pointer (some ⟨bo, 0 + j * 2, none⟩)), (35, .pointer (some ⟨bo, 0 + j * 2 + 0, none⟩)), (36, .string y0), (37, .slice (some ⟨q22, 0, none⟩) 5 5)] (fun w => Strm 25 w B sb (m + 20 + 1 + 1)) [(q22, 9, [.string y1, .string ⟨#[109, 105, 110, 105]⟩, .string ⟨#[110, 111, 110, 101]⟩, .string ⟨#[65]⟩, .string y0])] [⟨.slice (some ⟨bo, 0, none⟩) 4 c, 135, 2, 4, l.flatMap csEnc⟩] [] := by
      intro q22
      rw [hW]
      refine wa_all [6] (by kernel_rfl) rfl ⟨⟨_, rfl, ?_⟩, trivial⟩
      refine wl_ov (ov_elem1 (k := 0) (v := .string y0) sc9 rfl (fun _ hm => (SlT.ofOwn cs_len (hm.ownI 0 rfl) hl4)) hy rfl rfl) rfl ?_
      refine wl_nil ?_
      refine nx_wa0 (listed' := #[true, true, true, true, true, true, true, true, true, true, true, false, false, true, true, true, true, true, true, true, true, true, true, false, false, false, false, false, false, false]) rfl (fun _ _ => trivial) ?_
      refine wa_all [11] (by kernel_rfl) rfl ⟨⟨_, rfl, ?_⟩, trivial⟩
      refine wl_buildSlice (e := 9) (cs := [.string y0, .string y0, .string ⟨#[]⟩, .string ⟨#[65]⟩, .string ⟨#[122, 101, 100]⟩]) rfl (by kernel_rfl) rfl fun q11 => ?_
      refine wl_nil ?_
      refine nx_wa0 (listed' := #[true, true, true, true, true, true, true, true, true, true, true, true, false, true, true, true, true, true, true, true, true, true, true, false, false, false, false, false, false, false]) rfl (fun _ _ => trivial) ?_
      refine wa_all [12] (by kernel_rfl) rfl ⟨⟨_, rfl, ?_⟩, trivial⟩
      refine wl_got (γ := ByteArray) (val := fun v => .string v) (φ := fun v => v ∈ ([y0, y0, ⟨#[]⟩, ⟨#[65]⟩, ⟨#[122, 101, 100]⟩] : List ByteArray)) rfl cb48 rfl rfl rfl rfl (fun wx hm => (some_any [y0, y0, ⟨#[]⟩, ⟨#[65]⟩, ⟨#[122, 101, 100]⟩] _ _ _ wx B sb _ hm.k (by omega) (by simp) (by simp) (hm.blkI 0 rfl) (hm.neRow 0 rfl rfl))) fun k12 hk12 => ?_
      refine wl_nil ?_
      refine nx_wa0 (listed' := #[true, true, true, true, true, true, true, true, true, true, true, true, true, true, true, true, true, true, true, true, true, true, true, false, false, false, false, false, false, false]) rfl (fun _ _ => trivial) ?_
      refine wa_all [23] (by kernel_rfl) rfl ⟨⟨_, rfl, ?_⟩, trivial⟩
      refine wl_got (γ := ByteArray) (val := fun v => .string v) (φ := fun v => v ∈ ([y1, ⟨#[109, 105, 110, 105]⟩, ⟨#[110, 111, 110, 101]⟩, ⟨#[65]⟩, y0] : List ByteArray)) rfl cb48 rfl rfl rfl rfl (fun wx hm => (some_any [y1, ⟨#[109, 105, 110, 105]⟩, ⟨#[110, 111, 110, 101]⟩, ⟨#[65]⟩, y0] _ _ _ wx B sb _ hm.k (by omega) (by simp) (by simp) (hm.blkI 1 rfl) (hm.neRow 1 rfl rfl))) fun k23 hk23 => ?_
      refine wl_nil ?_
      refine nx_wa0 (listed' := #[true, true, true, true, true, true, true, true, true, true, true, true, true, true, true, true, true, true, true, true, true, true, true, true, false, false, false, false, false, false]) rfl (fun _ _ => trivial) ?_
      refine wa_take 24 rfl (by kernel_rfl) (by kernel_rfl) (by kernel_rfl) (listed' := #[true, true, true, true, true, true, true, true, true, true, true, true, true, true, true, true, true, true, true, true, true, true, true, true, true, false, false, false, false, false]) rfl (fun _ _ _ h => h) (fun _ _ => trivial) (ov_nilcheck rfl) rfl ?_
      refine wa_take 25 rfl (by kernel_rfl) (by kernel_rfl) (by kernel_rfl) (listed' := #[true, true, true, true, true, true, true, true, true, true, true, true, true, true, true, true, true, true, true, true, true, true, true, true, true, true, false, false, false, false]) rfl (fun _ _ _ h => h) (fun _ _ => trivial) (ov_field fo135_0 rfl rfl) rfl ?_
      refine wa_all [26] (by kernel_rfl) rfl ⟨⟨_, rfl, ?_⟩, trivial⟩
      refine wl_storeE (l := l) (j := j) (r := 0) (el := ⟨y0, y1⟩) (el' := ⟨k12, y1⟩) 0 sc9 rfl rfl rfl rfl cs_len rfl hy hl4 (by decide) rfl rfl ?_
      refine wl_nil ?_
      refine nx_wa0 (listed' := #[true, true, true, true, true, true, true, true, true, true, true, true, true, true, true, true, true, true, true, true, true, true, true, true, true, true, true, false, false, false]) rfl (fun _ _ => trivial) ?_
      refine wa_take 27 rfl (by kernel_rfl) (by kernel_rfl) (by kernel_rfl) (listed' := #[true, true, true, true, true, true, true, true, true, true, true, true, true, true, true, true, true, true, true, true, true, true, true, true, true, true, true, true, false, false]) rfl (fun _ _ _ h => h) (fun _ _ => trivial) (ov_nilcheck rfl) rfl ?_
      refine wa_take 28 rfl (by kernel_rfl) (by kernel_rfl) (by kernel_rfl) (listed' := #[true, true, true, true, true, true, true, true, true, true, true, true, true, true, true, true, true, true, true, true, true, true, true, true, true, true, true, true, true, false]) rfl (fun _ _ _ h => h) (fun _ _ => trivial) (ov_field fo135_1 rfl rfl) rfl ?_
      refine wa_all [29] (by kernel_rfl) rfl ⟨⟨_, rfl, ?_⟩, trivial⟩
      have hy2 : (l.set j ⟨k12, y1⟩)[j]? = some (⟨k12, y1⟩ : Cs) := by rw [List.getElem?_set_self (by omega)]
      have hl42 : (l.set j ⟨k12, y1⟩).length = 4 := by simp [hl4]
      refine wl_storeE (l := (l.set j ⟨k12, y1⟩)) (j := j) (r := 1) (el := ⟨k12, y1⟩) (el' := ⟨k12, k23⟩) 0 sc9 rfl rfl rfl rfl cs_len rfl hy2 hl42 (by decide) rfl rfl ?_
      refine wl_nil ?_
      refine nx_wa0 (listed' := #[true, true, true, true, true, true, true, true, true, true, true, true, true, true, true, true, true, true, true, true, true, true, true, true, true, true, true, true, true, true]) rfl (fun _ _ => trivial) ?_
      refine wa_done (by kernel_rfl) ?_
      refine nx_then ?_
      refine gw_seq ?_
      refine gw_region ?_
      refine wl_ov (ov_move rfl) rfl ?_
      refine wl_ov (ov_assign rfl) rfl ?_
      refine wl_nil ?_
      refine nx_then ?_
      refine gw_ret ?_
      refine nx_ret1 rfl rfl fun wx hm => ?_
      exact ⟨some ⟨bo, 0, none⟩, c, _, rfl, hm.ownI 0 rfl, (by simp [hl4]), cs_mem (cs_mem hok ⟨(show k12.size ≤ 1000000 by rcases mem5 hk12 with h | h | h | h | h <;> rw [h] <;> first | assumption | decide), hy1⟩) ⟨(show k12.size ≤ 1000000 by rcases mem5 hk12 with h | h | h | h | h <;> rw [h] <;> first | assumption | decide), (show k23.size ≤ 1000000 by rcases mem5 hk23 with h | h | h | h | h <;> rw [h] <;> first | assumption | decide)⟩, hm.k.more (by omega), hm.g⟩
    have J4188095 : W 11 #[true, true, true, true, true, true, false, true, true, true, true, false, false, true, true, true, true, true, true, true, true, true, false, false, false, false, false, false, false, false] [(0, .pointer (some ⟨sb, 0, none⟩)), (2, .slice none 0 0), (3, .slice (some ⟨bo, 0, none⟩) 4 c), (4, .pointer (some ⟨bo, 0 + j * 2, none⟩)), (5, .pointer (some ⟨sb, 0, none⟩)), (6, .slice (some ⟨bo, 0, none⟩) 4 c), (7, .pointer (some ⟨sb, 0, none⟩)), (8, .bool f1), (9, .slice (some ⟨bo, 0, none⟩) 4 c), (10, .pointer (some ⟨sb, 0, none⟩)), (11, .slice (some ⟨bo, 0, none⟩) 4 c), (12, .int .i64 4), (13, .int .i64 ((j : Nat) : Int)), (14, .pointer (some ⟨bo, 0 + j * 2, none⟩)), (15, .pointer (some ⟨bo, 0 + j * 2, none⟩)), (16, .pointer (some ⟨bo, 0 + j * 2, none⟩)), (17, .pointer (some ⟨sb, 0, none⟩)), (18, .pointer (some ⟨bo, 0 + j * 2, none⟩)), (19, .pointer (some ⟨bo, 0 + j * 2, none⟩)), (20, .pointer (some ⟨bo, 0 + j * 2 + 0, none⟩)), (22, .pointer (some ⟨bo, 0 + j * 2, none⟩)), (23, .pointer (some ⟨bo, 0 + j * 2, none⟩)), (24, .pointer (some ⟨bo, 0 + j * 2 + 0, none⟩)), (25, .string y0), (28, .pointer (some ⟨sb, 0, none⟩)), (29, .pointer (some ⟨bo, 0 + j * 2, none⟩)), (30, .pointer (some ⟨bo, 0 + j * 2, none⟩)), (31, .pointer (some ⟨bo, 0 + j * 2 + 1, none⟩)), (32, .string y1), (33, .pointer (some ⟨bo, 0 + j * 2, none⟩)), (34, .pointer (some ⟨bo, 0 + j * 2, none⟩)), (35, .pointer (some ⟨bo, 0 + j * 2 + 0, none⟩)), (36, .string y0)] (fun w => Strm 25 w B sb (m + 20 + 1 + 1)) [] [⟨.slice (some ⟨bo, 0, none⟩) 4 c, 135, 2, 4, l.flatMap csEnc⟩] [] := by
      skip
      rw [hW]
      refine wa_all [6, 22] (by kernel_rfl) rfl ⟨⟨_, rfl, ?_⟩, ⟨_, rfl, ?_⟩, trivial⟩
      · refine wl_ov (ov_elem1 (k := 0) (v := .string y0) sc9 rfl (fun _ hm => (SlT.ofOwn cs_len (hm.ownI 0 rfl) hl4)) hy rfl rfl) rfl ?_
        refine wl_nil ?_
        refine nx_wa0 (listed' := #[true, true, true, true, true, true, true, true, true, true, true, false, false, true, true, true, true, true, true, true, true, true, false, false, false, false, false, false, false, false]) rfl (fun _ _ => trivial) ?_
        have h := J4188159 
        rw [hW] at h
        refine wa_weak ?_ ?_ h
        · exact ⟨rfl, rfl, rfl, rfl, rfl, rfl, rfl, rfl, rfl, rfl, rfl, rfl, rfl, rfl, rfl, rfl, rfl, rfl, rfl, rfl, rfl, rfl, rfl, rfl, rfl, rfl, rfl, rfl, rfl, rfl, rfl, rfl, rfl, rfl, trivial⟩
        · exact fun _ hm => hm.pick [] [0] [] rfl rfl
      · refine wl_buildSlice (e := 9) (cs := [.string y1, .string ⟨#[109, 105, 110, 105]⟩, .string ⟨#[110, 111, 110, 101]⟩, .string ⟨#[65]⟩, .string y0]) rfl (by kernel_rfl) rfl fun q22 => ?_
        refine wl_nil ?_
        refine nx_wa0 (listed' := #[true, true, true, true, true, true, false, true, true, true, true, false, false, true, true, true, true, true, true, true, true, true, true, false, false, false, false, false, false, false]) rfl (fun _ _ => trivial) ?_
        have h := T8382399 q22
        rw [hW] at h
        refine wa_weak ?_ ?_ h
        · exact ⟨rfl, rfl, rfl, rfl, rfl, rfl, rfl, rfl, rfl, rfl, rfl, rfl, rfl, rfl, rfl, rfl, rfl, rfl, rfl, rfl, rfl, rfl, rfl, rfl, rfl, rfl, rfl, rfl, rfl, rfl, rfl, rfl, rfl, rfl, trivial⟩
        · exact fun _ hm => hm.pick [0] [0] [] rfl rfl
    have J2090943 : W 12 #[true, true, true, true, true, true, false, true, true, true, true, false, false, true, true, true, true, true, true, true, true, false, false, false, false, false, false, false, false, false] [(0, .pointer (some ⟨sb, 0, none⟩)), (2, .slice none 0 0), (3, .slice (some ⟨bo, 0, none⟩) 4 c), (4, .pointer (some ⟨bo, 0 + j * 2, none⟩)), (5, .pointer (some ⟨sb, 0, none⟩)), (6, .slice (some ⟨bo, 0, none⟩) 4 c), (7, .pointer (some ⟨sb, 0, none⟩)), (8, .bool f1), (9, .slice (some ⟨bo, 0, none⟩) 4 c), (10, .pointer (some ⟨sb, 0, none⟩)), (11, .slice (some ⟨bo, 0, none⟩) 4 c), (12, .int .i64 4), (13, .int .i64 ((j : Nat) : Int)), (14, .pointer (some ⟨bo, 0 + j * 2, none⟩)), (15, .pointer (some ⟨bo, 0 + j * 2, none⟩)), (16, .pointer (some ⟨bo, 0 + j * 2, none⟩)), (17, .pointer (some ⟨sb, 0, none⟩)), (18, .pointer (some ⟨bo, 0 + j * 2, none⟩)), (19, .pointer (some ⟨bo, 0 + j * 2, none⟩)), (20, .pointer (some ⟨bo, 0 + j * 2 + 0, none⟩)), (22, .pointer (some ⟨bo, 0 + j * 2, none⟩)), (23, .pointer (some ⟨bo, 0 + j * 2, none⟩)), (24, .pointer (some ⟨bo, 0 + j * 2 + 0, none⟩)), (25, .string y0), (28, .pointer (some ⟨sb, 0, none⟩)), (29, .pointer (some ⟨bo, 0 + j * 2, none⟩)), (30, .pointer (some ⟨bo, 0 + j * 2, none⟩)), (31, .pointer (some ⟨bo, 0 + j * 2 + 1, none⟩)), (32, .string y1), (33, .pointer (some ⟨bo, 0 + j * 2, none⟩)), (34, .pointer (some ⟨bo, 0 + j * 2, none⟩)), (35, .pointer (some ⟨bo, 0 + j * 2 + 0, none⟩))] (fun w => Strm 25 w B sb (m + 20 + 1 + 1)) [] [⟨.slice (some ⟨bo, 0, none⟩) 4 c, 135, 2, 4, l.flatMap csEnc⟩] [] := by
      skip
      rw [hW]
      refine wa_all [6, 21] (by kernel_rfl) rfl ⟨⟨_, rfl, ?_⟩, ⟨_, rfl, ?_⟩, trivial⟩
      · refine wl_ov (ov_elem1 (k := 0) (v := .string y0) sc9 rfl (fun _ hm => (SlT.ofOwn cs_len (hm.ownI 0 rfl) hl4)) hy rfl rfl) rfl ?_
        refine wl_nil ?_
        refine nx_wa0 (listed' := #[true, true, true, true, true, true, true, true, true, true, true, false, false, true, true, true, true, true, true, true, true, false, false, false, false, false, false, false, false, false]) rfl (fun _ _ => trivial) ?_
        have h := J2091007 
        rw [hW] at h
        refine wa_weak ?_ ?_ h
        · exact ⟨rfl, rfl, rfl, rfl, rfl, rfl, rfl, rfl, rfl, rfl, rfl, rfl, rfl, rfl, rfl, rfl, rfl, rfl, rfl, rfl, rfl, rfl, rfl, rfl, rfl, rfl, rfl, rfl, rfl, rfl, rfl, rfl, rfl, trivial⟩
        · exact fun _ hm => hm.pick [] [0] [] rfl rfl
      · refine wl_ov (ov_elem1 (k := 0) (v := .string y0) sc9 rfl (fun _ hm => (SlT.ofOwn cs_len (hm.ownI 0 rfl) hl4)) hy rfl rfl) rfl ?_
        refine wl_nil ?_
        refine nx_wa0 (listed' := #[true, true, true, true, true, true, false, true, true, true, true, false, false, true, true, true, true, true, true, true, true, true, false, false, false, false, false, false, false, false]) rfl (fun _ _ => trivial) ?_
        have h := J4188095 
        rw [hW] at h
        refine wa_weak ?_ ?_ h
        · exact ⟨rfl, rfl, rfl, rfl, rfl, rfl, rfl, rfl, rfl, rfl, rfl, rfl, rfl, rfl, rfl, rfl, rfl, rfl, rfl, rfl, rfl, rfl, rfl, rfl, rfl, rfl, rfl, rfl, rfl, rfl, rfl, rfl, rfl, trivial⟩
        · exact fun _ hm => hm.pick [] [0] [] rfl rfl
    have J4057023 : W 12 #[true, true, true, true, true, true, false, true, true, true, true, false, false, true, true, true, true, false, true, true, true, true, false, false, false, false, false, false, false, false] [(0, .pointer (some ⟨sb, 0, none⟩)), (2, .slice none 0 0), (3, .slice (some ⟨bo, 0, none⟩) 4 c), (4, .pointer (some ⟨bo, 0 + j * 2, none⟩)), (5, .pointer (some ⟨sb, 0, none⟩)), (6, .slice (some ⟨bo, 0, none⟩) 4 c), (7, .pointer (some ⟨sb, 0, none⟩)), (8, .bool f1), (9, .slice (some ⟨bo, 0, none⟩) 4 c), (10, .pointer (some ⟨sb, 0, none⟩)), (11, .slice (some ⟨bo, 0, none⟩) 4 c), (12, .int .i64 4), (13, .int .i64 ((j : Nat) : Int)), (14, .pointer (some ⟨bo, 0 + j * 2, none⟩)), (15, .pointer (some ⟨bo, 0 + j * 2, none⟩)), (16, .pointer (some ⟨bo, 0 + j * 2, none⟩)), (17, .pointer (some ⟨sb, 0, none⟩)), (18, .pointer (some ⟨bo, 0 + j * 2, none⟩)), (19, .pointer (some ⟨bo, 0 + j * 2, none⟩)), (20, .pointer (some ⟨bo, 0 + j * 2 + 0, none⟩)), (22, .pointer (some ⟨bo, 0 + j * 2, none⟩)), (23, .pointer (some ⟨bo, 0 + j * 2, none⟩)), (24, .pointer (some ⟨bo, 0 + j * 2 + 0, none⟩)), (25, .string y0), (28, .pointer (some ⟨sb, 0, none⟩)), (29, .pointer (some ⟨bo, 0 + j * 2, none⟩)), (30, .pointer (some ⟨bo, 0 + j * 2, none⟩)), (31, .pointer (some ⟨bo, 0 + j * 2 + 1, none⟩)), (33, .pointer (some ⟨bo, 0 + j * 2, none⟩)), (34, .pointer (some ⟨bo, 0 + j * 2, none⟩)), (35, .pointer (some ⟨bo, 0 + j * 2 + 0, none⟩)), (36, .string y0)] (fun w => Strm 25 w B sb (m + 20 + 1 + 1)) [] [⟨.slice (some ⟨bo, 0, none⟩) 4 c, 135, 2, 4, l.flatMap csEnc⟩] [] := by
      skip
      rw [hW]
      refine wa_all [6, 17] (by kernel_rfl) rfl ⟨⟨_, rfl, ?_⟩, ⟨_, rfl, ?_⟩, trivial⟩
      · refine wl_ov (ov_elem1 (k := 0) (v := .string y0) sc9 rfl (fun _ hm => (SlT.ofOwn cs_len (hm.ownI 0 rfl) hl4)) hy rfl rfl) rfl ?_
        refine wl_nil ?_
        refine nx_wa0 (listed' := #[true, true, true, true, true, true, true, true, true, true, true, false, false, true, true, true, true, false, true, true, true, true, false, false, false, false, false, false, false, false]) rfl (fun _ _ => trivial) ?_
        have h := J4057087 
        rw [hW] at h
        refine wa_weak ?_ ?_ h
        · exact ⟨rfl, rfl, rfl, rfl, rfl, rfl, rfl, rfl, rfl, rfl, rfl, rfl, rfl, rfl, rfl, rfl, rfl, rfl, rfl, rfl, rfl, rfl, rfl, rfl, rfl, rfl, rfl, rfl, rfl, rfl, rfl, rfl, rfl, trivial⟩
        · exact fun _ hm => hm.pick [] [0] [] rfl rfl
      · refine wl_ov (ov_elem1 (k := 1) (v := .string y1) sc9 rfl (fun _ hm => (SlT.ofOwn cs_len (hm.ownI 0 rfl) hl4)) hy rfl rfl) rfl ?_
        refine wl_nil ?_
        refine nx_wa0 (listed' := #[true, true, true, true, true, true, false, true, true, true, true, false, false, true, true, true, true, true, true, true, true, true, false, false, false, false, false, false, false, false]) rfl (fun _ _ => trivial) ?_
        have h := J4188095 
        rw [hW] at h
        refine wa_weak ?_ ?_ h
        · exact ⟨rfl, rfl, rfl, rfl, rfl, rfl, rfl, rfl, rfl, rfl, rfl, rfl, rfl, rfl, rfl, rfl, rfl, rfl, rfl, rfl, rfl, rfl, rfl, rfl, rfl, rfl, rfl, rfl, rfl, rfl, rfl, rfl, rfl, trivial⟩
        · exact fun _ hm => hm.pick [] [0] [] rfl rfl
    have J1959871 : W 13 #[true, true, true, true, true, true, false, true, true, true, true, false, false, true, true, true, true, false, true, true, true, false, false, false, false, false, false, false, false, false] [(0, .pointer (some ⟨sb, 0, none⟩)), (2, .slice none 0 0), (3, .slice (some ⟨bo, 0, none⟩) 4 c), (4, .pointer (some ⟨bo, 0 + j * 2, none⟩)), (5, .pointer (some ⟨sb, 0, none⟩)), (6, .slice (some ⟨bo, 0, none⟩) 4 c), (7, .pointer (some ⟨sb, 0, none⟩)), (8, .bool f1), (9, .slice (some ⟨bo, 0, none⟩) 4 c), (10, .pointer (some ⟨sb, 0, none⟩)), (11, .slice (some ⟨bo, 0, none⟩) 4 c), (12, .int .i64 4), (13, .int .i64 ((j : Nat) : Int)), (14, .pointer (some ⟨bo, 0 + j * 2, none⟩)), (15, .pointer (some ⟨bo, 0 + j * 2, none⟩)), (16, .pointer (some ⟨bo, 0 + j * 2, none⟩)), (17, .pointer (some ⟨sb, 0, none⟩)), (18, .pointer (some ⟨bo, 0 + j * 2, none⟩)), (19, .pointer (some ⟨bo, 0 + j * 2, none⟩)), (20, .pointer (some ⟨bo, 0 + j * 2 + 0, none⟩)), (22, .pointer (some ⟨bo, 0 + j * 2, none⟩)), (23, .pointer (some ⟨bo, 0 + j * 2, none⟩)), (24, .pointer (some ⟨bo, 0 + j * 2 + 0, none⟩)), (25, .string y0), (28, .pointer (some ⟨sb, 0, none⟩)), (29, .pointer (some ⟨bo, 0 + j * 2, none⟩)), (30, .pointer (some ⟨bo, 0 + j * 2, none⟩)), (31, .pointer (some ⟨bo, 0 + j * 2 + 1, none⟩)), (33, .pointer (some ⟨bo, 0 + j * 2, none⟩)), (34, .pointer (some ⟨bo, 0 + j * 2, none⟩)), (35, .pointer (some ⟨bo, 0 + j * 2 + 0, none⟩))] (fun w => Strm 25 w B sb (m + 20 + 1 + 1)) [] [⟨.slice (some ⟨bo, 0, none⟩) 4 c, 135, 2, 4, l.flatMap csEnc⟩] [] := by
      skip
      rw [hW]
      refine wa_all [6, 17, 21] (by kernel_rfl) rfl ⟨⟨_, rfl, ?_⟩, ⟨_, rfl, ?_⟩, ⟨_, rfl, ?_⟩, trivial⟩
      · refine wl_ov (ov_elem1 (k := 0) (v := .string y0) sc9 rfl (fun _ hm => (SlT.ofOwn cs_len (hm.ownI 0 rfl) hl4)) hy rfl rfl) rfl ?_
        refine wl_nil ?_
        refine nx_wa0 (listed' := #[true, true, true, true, true, true, true, true, true, true, true, false, false, true, true, true, true, false, true, true, true, false, false, false, false, false, false, false, false, false]) rfl (fun _ _ => trivial) ?_
        have h := J1959935 
        rw [hW] at h
        refine wa_weak ?_ ?_ h
        · exact ⟨rfl, rfl, rfl, rfl, rfl, rfl, rfl, rfl, rfl, rfl, rfl, rfl, rfl, rfl, rfl, rfl, rfl, rfl, rfl, rfl, rfl, rfl, rfl, rfl, rfl, rfl, rfl, rfl, rfl, rfl, rfl, rfl, trivial⟩
        · exact fun _ hm => hm.pick [] [0] [] rfl rfl
      · refine wl_ov (ov_elem1 (k := 1) (v := .string y1) sc9 rfl (fun _ hm => (SlT.ofOwn cs_len (hm.ownI 0 rfl) hl4)) hy rfl rfl) rfl ?_
        refine wl_nil ?_
        refine nx_wa0 (listed' := #[true, true, true, true, true, true, false, true, true, true, true, false, false, true, true, true, true, true, true, true, true, false, false, false, false, false, false, false, false, false]) rfl (fun _ _ => trivial) ?_
        have h := J2090943 
        rw [hW] at h
        refine wa_weak ?_ ?_ h
        · exact ⟨rfl, rfl, rfl, rfl, rfl, rfl, rfl, rfl, rfl, rfl, rfl, rfl, rfl, rfl, rfl, rfl, rfl, rfl, rfl, rfl, rfl, rfl, rfl, rfl, rfl, rfl, rfl, rfl, rfl, rfl, rfl, rfl, trivial⟩
        · exact fun _ hm => hm.pick [] [0] [] rfl rfl
      · refine wl_ov (ov_elem1 (k := 0) (v := .string y0) sc9 rfl (fun _ hm => (SlT.ofOwn cs_len (hm.ownI 0 rfl) hl4)) hy rfl rfl) rfl ?_
        refine wl_nil ?_
        refine nx_wa0 (listed' := #[true, true, true, true, true, true, false, true, true, true, true, false, false, true, true, true, true, false, true, true, true, true, false, false, false, false, false, false, false, false]) rfl (fun _ _ => trivial) ?_
        have h := J4057023 
        rw [hW] at h
        refine wa_weak ?_ ?_ h
        · exact ⟨rfl, rfl, rfl, rfl, rfl, rfl, rfl, rfl, rfl, rfl, rfl, rfl, rfl, rfl, rfl, rfl, rfl, rfl, rfl, rfl, rfl, rfl, rfl, rfl, rfl, rfl, rfl, rfl, rfl, rfl, rfl, rfl, trivial⟩
        · exact fun _ hm => hm.pick [] [0] [] rfl rfl
    have J8381375 : ∀ (q22 : Nat), W 11 #[true, true, true, true, true, true, false, true, true, true, false, false, false, true, true, true, true, true, true, true, true, true, true, false, false, false, false, false, false, false] [(0, .pointer (some ⟨sb, 0, none⟩)), (2, .slice none 0 0), (3, .slice (some ⟨bo, 0, none⟩) 4 c), (4, .pointer (some ⟨bo, 0 + j * 2, none⟩)), (5, .pointer (some ⟨sb, 0, none⟩)), (6, .slice (some ⟨bo, 0, none⟩) 4 c), (7, .pointer (some ⟨sb, 0, none⟩)), (8, .bool f1), (9, .slice (some ⟨bo, 0, none⟩) 4 c), (10, .pointer (some ⟨sb, 0, none⟩)), (11, .slice (some ⟨bo, 0, none⟩) 4 c), (12, .int .i64 4), (13, .int .i64 ((j : Nat) : Int)), (14, .pointer (some ⟨bo, 0 + j * 2, none⟩)), (15, .pointer (some ⟨bo, 0 + j * 2, none⟩)), (16, .pointer (some ⟨bo, 0 + j * 2, none⟩)), (17, .pointer (some ⟨sb, 0, none⟩)), (18, .pointer (some ⟨bo, 0 + j * 2, none⟩)), (19, .pointer (some ⟨bo, 0 + j * 2, none⟩)), (20, .pointer (some ⟨bo, 0 + j * 2 + 0, none⟩)), (22, .pointer (some ⟨bo, 0 + j * 2, none⟩)), (23, .pointer (some ⟨bo, 0 + j * 2, none⟩)), (24, .pointer (some ⟨bo, 0 + j * 2 + 0, none⟩)), (28, .pointer (some ⟨sb, 0, none⟩)), (29, .pointer (some ⟨bo, 0 + j * 2, none⟩)), (30, .pointer (some ⟨bo, 0 + j * 2, none⟩)), (31, .pointer (some ⟨bo, 0 + j * 2 + 1, none⟩)), (32, .string y1), (33, .pointer (some ⟨bo, 0 + j * 2, none⟩)), (34, .pointer (some ⟨bo, 0 + j * 2, none⟩)), (35, .pointer (some ⟨bo, 0 + j * 2 + 0, none⟩)), (36, .string y0), (37, .slice (some ⟨q22, 0, none⟩) 5 5)] (fun w => Strm 25 w B sb (m + 20 + 1 + 1)) [(q22, 9, [.string y1, .string ⟨#[109, 105, 110, 105]⟩, .string ⟨#[110, 111, 110, 101]⟩, .string ⟨#[65]⟩, .string y0])] [⟨.slice (some ⟨bo, 0, none⟩) 4 c, 135, 2, 4, l.flatMap csEnc⟩] [] := by
      intro q22
      rw [hW]
      refine wa_all [6, 10] (by kernel_rfl) rfl ⟨⟨_, rfl, ?_⟩, ⟨_, rfl, ?_⟩, trivial⟩
      · refine wl_ov (ov_elem1 (k := 0) (v := .string y0) sc9 rfl (fun _ hm => (SlT.ofOwn cs_len (hm.ownI 0 rfl) hl4)) hy rfl rfl) rfl ?_
        refine wl_nil ?_
        refine nx_wa0 (listed' := #[true, true, true, true, true, true, true, true, true, true, false, false, false, true, true, true, true, true, true, true, true, true, true, false, false, false, false, false, false, false]) rfl (fun _ _ => trivial) ?_
        have h := T8381439 q22
        rw [hW] at h
        refine wa_weak ?_ ?_ h
        · exact ⟨rfl, rfl, rfl, rfl, rfl, rfl, rfl, rfl, rfl, rfl, rfl, rfl, rfl, rfl, rfl, rfl, rfl, rfl, rfl, rfl, rfl, rfl, rfl, rfl, rfl, rfl, rfl, rfl, rfl, rfl, rfl, rfl, rfl, rfl, trivial⟩
        · exact fun _ hm => hm.pick [0] [0] [] rfl rfl
      · refine wl_ov (ov_elem1 (k := 0) (v := .string y0) sc9 rfl (fun _ hm => (SlT.ofOwn cs_len (hm.ownI 0 rfl) hl4)) hy rfl rfl) rfl ?_
        refine wl_nil ?_
        refine nx_wa0 (listed' := #[true, true, true, true, true, true, false, true, true, true, true, false, false, true, true, true, true, true, true, true, true, true, true, false, false, false, false, false, false, false]) rfl (fun _ _ => trivial) ?_
        have h := T8382399 q22
        rw [hW] at h
        refine wa_weak ?_ ?_ h
        · exact ⟨rfl, rfl, rfl, rfl, rfl, rfl, rfl, rfl, rfl, rfl, rfl, rfl, rfl, rfl, rfl, rfl, rfl, rfl, rfl, rfl, rfl, rfl, rfl, rfl, rfl, rfl, rfl, rfl, rfl, rfl, rfl, rfl, rfl, rfl, trivial⟩
        · exact fun _ hm => hm.pick [0] [0] [] rfl rfl
    have J4187071 : W 12 #[true, true, true, true, true, true, false, true, true, true, false, false, false, true, true, true, true, true, true, true, true, true, false, false, false, false, false, false, false, false] [(0, .pointer (some ⟨sb, 0, none⟩)), (2, .slice none 0 0), (3, .slice (some ⟨bo, 0, none⟩) 4 c), (4, .pointer (some ⟨bo, 0 + j * 2, none⟩)), (5, .pointer (some ⟨sb, 0, none⟩)), (6, .slice (some ⟨bo, 0, none⟩) 4 c), (7, .pointer (some ⟨sb, 0, none⟩)), (8, .bool f1), (9, .slice (some ⟨bo, 0, none⟩) 4 c), (10, .pointer (some ⟨sb, 0, none⟩)), (11, .slice (some ⟨bo, 0, none⟩) 4 c), (12, .int .i64 4), (13, .int .i64 ((j : Nat) : Int)), (14, .pointer (some ⟨bo, 0 + j * 2, none⟩)), (15, .pointer (some ⟨bo, 0 + j * 2, none⟩)), (16, .pointer (some ⟨bo, 0 + j * 2, none⟩)), (17, .pointer (some ⟨sb, 0, none⟩)), (18, .pointer (some ⟨bo, 0 + j * 2, none⟩)), (19, .pointer (some ⟨bo, 0 + j * 2, none⟩)), (20, .pointer (some ⟨bo, 0 + j * 2 + 0, none⟩)), (22, .pointer (some ⟨bo, 0 + j * 2, none⟩)), (23, .pointer (some ⟨bo, 0 + j * 2, none⟩)), (24, .pointer (some ⟨bo, 0 + j * 2 + 0, none⟩)), (28, .pointer (some ⟨sb, 0, none⟩)), (29, .pointer (some ⟨bo, 0 + j * 2, none⟩)), (30, .pointer (some ⟨bo, 0 + j * 2, none⟩)), (31, .pointer (some ⟨bo, 0 + j * 2 + 1, none⟩)), (32, .string y1), (33, .pointer (some ⟨bo, 0 + j * 2, none⟩)), (34, .pointer (some ⟨bo, 0 + j * 2, none⟩)), (35, .pointer (some ⟨bo, 0 + j * 2 + 0, none⟩)), (36, .string y0)] (fun w => Strm 25 w B sb (m + 20 + 1 + 1)) [] [⟨.slice (some ⟨bo, 0, none⟩) 4 c, 135, 2, 4, l.flatMap csEnc⟩] [] := by
      skip
      rw [hW]
      refine wa_all [6, 10, 22] (by kernel_rfl) rfl ⟨⟨_, rfl, ?_⟩, ⟨_, rfl, ?_⟩, ⟨_, rfl, ?_⟩, trivial⟩
      · refine wl_ov (ov_elem1 (k := 0) (v := .string y0) sc9 rfl (fun _ hm => (SlT.ofOwn cs_len (hm.ownI 0 rfl) hl4)) hy rfl rfl) rfl ?_
        refine wl_nil ?_
        refine nx_wa0 (listed' := #[true, true, true, true, true, true, true, true, true, true, false, false, false, true, true, true, true, true, true, true, true, true, false, false, false, false, false, false, false, false]) rfl (fun _ _ => trivial) ?_
        have h := J4187135 
        rw [hW] at h
        refine wa_weak ?_ ?_ h
        · exact ⟨rfl, rfl, rfl, rfl, rfl, rfl, rfl, rfl, rfl, rfl, rfl, rfl, rfl, rfl, rfl, rfl, rfl, rfl, rfl, rfl, rfl, rfl, rfl, rfl, rfl, rfl, rfl, rfl, rfl, rfl, rfl, rfl, rfl, trivial⟩
        · exact fun _ hm => hm.pick [] [0] [] rfl rfl
      · refine wl_ov (ov_elem1 (k := 0) (v := .string y0) sc9 rfl (fun _ hm => (SlT.ofOwn cs_len (hm.ownI 0 rfl) hl4)) hy rfl rfl) rfl ?_
        refine wl_nil ?_
        refine nx_wa0 (listed' := #[true, true, true, true, true, true, false, true, true, true, true, false, false, true, true, true, true, true, true, true, true, true, false, false, false, false, false, false, false, false]) rfl (fun _ _ => trivial) ?_
        have h := J4188095 
        rw [hW] at h
        refine wa_weak ?_ ?_ h
        · exact ⟨rfl, rfl, rfl, rfl, rfl, rfl, rfl, rfl, rfl, rfl, rfl, rfl, rfl, rfl, rfl, rfl, rfl, rfl, rfl, rfl, rfl, rfl, rfl, rfl, rfl, rfl, rfl, rfl, rfl, rfl, rfl, rfl, rfl, trivial⟩
        · exact fun _ hm => hm.pick [] [0] [] rfl rfl
      · refine wl_buildSlice (e := 9) (cs := [.string y1, .string ⟨#[109, 105, 110, 105]⟩, .string ⟨#[110, 111, 110, 101]⟩, .string ⟨#[65]⟩, .string y0]) rfl (by kernel_rfl) rfl fun q22 => ?_
        refine wl_nil ?_
        refine nx_wa0 (listed' := #[true, true, true, true, true, true, false, true, true, true, false, false, false, true, true, true, true, true, true, true, true, true, true, false, false, false, false, false, false, false]) rfl (fun _ _ => trivial) ?_
        have h := J8381375 q22
        rw [hW] at h
        refine wa_weak ?_ ?_ h
        · exact ⟨rfl, rfl, rfl, rfl, rfl, rfl, rfl, rfl, rfl, rfl, rfl, rfl, rfl, rfl, rfl, rfl, rfl, rfl, rfl, rfl, rfl, rfl, rfl, rfl, rfl, rfl, rfl, rfl, rfl, rfl, rfl, rfl, rfl, trivial⟩
        · exact fun _ hm => hm.pick [0] [0] [] rfl rfl
    have J2089919 : W 13 #[true, true, true, true, true, true, false, true, true, true, false, false, false, true, true, true, true, true, true, true, true, false, false, false, false, false, false, false, false, false] [(0, .pointer (some ⟨sb, 0, none⟩)), (2, .slice none 0 0), (3, .slice (some ⟨bo, 0, none⟩) 4 c), (4, .pointer (some ⟨bo, 0 + j * 2, none⟩)), (5, .pointer (some ⟨sb, 0, none⟩)), (6, .slice (some ⟨bo, 0, none⟩) 4 c), (7, .pointer (some ⟨sb, 0, none⟩)), (8, .bool f1), (9, .slice (some ⟨bo, 0, none⟩) 4 c), (10, .pointer (some ⟨sb, 0, none⟩)), (11, .slice (some ⟨bo, 0, none⟩) 4 c), (12, .int .i64 4), (13, .int .i64 ((j : Nat) : Int)), (14, .pointer (some ⟨bo, 0 + j * 2, none⟩)), (15, .pointer (some ⟨bo, 0 + j * 2, none⟩)), (16, .pointer (some ⟨bo, 0 + j * 2, none⟩)), (17, .pointer (some ⟨sb, 0, none⟩)), (18, .pointer (some ⟨bo, 0 + j * 2, none⟩)), (19, .pointer (some ⟨bo, 0 + j * 2, none⟩)), (20, .pointer (some ⟨bo, 0 + j * 2 + 0, none⟩)), (22, .pointer (some ⟨bo, 0 + j * 2, none⟩)), (23, .pointer (some ⟨bo, 0 + j * 2, none⟩)), (24, .pointer (some ⟨bo, 0 + j * 2 + 0, none⟩)), (28, .pointer (some ⟨sb, 0, none⟩)), (29, .pointer (some ⟨bo, 0 + j * 2, none⟩)), (30, .pointer (some ⟨bo, 0 + j * 2, none⟩)), (31, .pointer (some ⟨bo, 0 + j * 2 + 1, none⟩)), (32, .string y1), (33, .pointer (some ⟨bo, 0 + j * 2, none⟩)), (34, .pointer (some ⟨bo, 0 + j * 2, none⟩)), (35, .pointer (some ⟨bo, 0 + j * 2 + 0, none⟩))] (fun w => Strm 25 w B sb (m + 20 + 1 + 1)) [] [⟨.slice (some ⟨bo, 0, none⟩) 4 c, 135, 2, 4, l.flatMap csEnc⟩] [] := by
      skip
      rw [hW]
      refine wa_all [6, 10, 21] (by kernel_rfl) rfl ⟨⟨_, rfl, ?_⟩, ⟨_, rfl, ?_⟩, ⟨_, rfl, ?_⟩, trivial⟩
      · refine wl_ov (ov_elem1 (k := 0) (v := .string y0) sc9 rfl (fun _ hm => (SlT.ofOwn cs_len (hm.ownI 0 rfl) hl4)) hy rfl rfl) rfl ?_
        refine wl_nil ?_
        refine nx_wa0 (listed' := #[true, true, true, true, true, true, true, true, true, true, false, false, false, true, true, true, true, true, true, true, true, false, false, false, false, false, false, false, false, false]) rfl (fun _ _ => trivial) ?_
        have h := J2089983 
        rw [hW] at h
        refine wa_weak ?_ ?_ h
        · exact ⟨rfl, rfl, rfl, rfl, rfl, rfl, rfl, rfl, rfl, rfl, rfl, rfl, rfl, rfl, rfl, rfl, rfl, rfl, rfl, rfl, rfl, rfl, rfl, rfl, rfl, rfl, rfl, rfl, rfl, rfl, rfl, rfl, trivial⟩
        · exact fun _ hm => hm.pick [] [0] [] rfl rfl
      · refine wl_ov (ov_elem1 (k := 0) (v := .string y0) sc9 rfl (fun _ hm => (SlT.ofOwn cs_len (hm.ownI 0 rfl) hl4)) hy rfl rfl) rfl ?_
        refine wl_nil ?_
        refine nx_wa0 (listed' := #[true, true, true, true, true, true, false, true, true, true, true, false, false, true, true, true, true, true, true, true, true, false, false, false, false, false, false, false, false, false]) rfl (fun _ _ => trivial) ?_
        have h := J2090943 
        rw [hW] at h
        refine wa_weak ?_ ?_ h
        · exact ⟨rfl, rfl, rfl, rfl, rfl, rfl, rfl, rfl, rfl, rfl, rfl, rfl, rfl, rfl, rfl, rfl, rfl, rfl, rfl, rfl, rfl, rfl, rfl, rfl, rfl, rfl, rfl, rfl, rfl, rfl, rfl, rfl, trivial⟩
        · exact fun _ hm => hm.pick [] [0] [] rfl rfl
      · refine wl_ov (ov_elem1 (k := 0) (v := .string y0) sc9 rfl (fun _ hm => (SlT.ofOwn cs_len (hm.ownI 0 rfl) hl4)) hy rfl rfl) rfl ?_
        refine wl_nil ?_
        refine nx_wa0 (listed' := #[true, true, true, true, true, true, false, true, true, true, false, false, false, true, true, true, true, true, true, true, true, true, false, false, false, false, false, false, false, false]) rfl (fun _ _ => trivial) ?_
        have h := J4187071 
        rw [hW] at h
        refine wa_weak ?_ ?_ h
        · exact ⟨rfl, rfl, rfl, rfl, rfl, rfl, rfl, rfl, rfl, rfl, rfl, rfl, rfl, rfl, rfl, rfl, rfl, rfl, rfl, rfl, rfl, rfl, rfl, rfl, rfl, rfl, rfl, rfl, rfl, rfl, rfl, rfl, trivial⟩
        · exact fun _ hm => hm.pick [] [0] [] rfl rfl
    have J4055999 : W 13 #[true, true, true, true, true, true, false, true, true, true, false, false, false, true, true, true, true, false, true, true, true, true, false, false, false, false, false, false, false, false] [(0, .pointer (some ⟨sb, 0, none⟩)), (2, .slice none 0 0), (3, .slice (some ⟨bo, 0, none⟩) 4 c), (4, .pointer (some ⟨bo, 0 + j * 2, none⟩)), (5, .pointer (some ⟨sb, 0, none⟩)), (6, .slice (some ⟨bo, 0, none⟩) 4 c), (7, .pointer (some ⟨sb, 0, none⟩)), (8, .bool f1), (9, .slice (some ⟨bo, 0, none⟩) 4 c), (10, .pointer (some ⟨sb, 0, none⟩)), (11, .slice (some ⟨bo, 0, none⟩) 4 c), (12, .int .i64 4), (13, .int .i64 ((j : Nat) : Int)), (14, .pointer (some ⟨bo, 0 + j * 2, none⟩)), (15, .pointer (some ⟨bo, 0 + j * 2, none⟩)), (16, .pointer (some ⟨bo, 0 + j * 2, none⟩)), (17, .pointer (some ⟨sb, 0, none⟩)), (18, .pointer (some ⟨bo, 0 + j * 2, none⟩)), (19, .pointer (some ⟨bo, 0 + j * 2, none⟩)), (20, .pointer (some ⟨bo, 0 + j * 2 + 0, none⟩)), (22, .pointer (some ⟨bo, 0 + j * 2, none⟩)), (23, .pointer (some ⟨bo, 0 + j * 2, none⟩)), (24, .pointer (some ⟨bo, 0 + j * 2 + 0, none⟩)), (28, .pointer (some ⟨sb, 0, none⟩)), (29, .pointer (some ⟨bo, 0 + j * 2, none⟩)), (30, .pointer (some ⟨bo, 0 + j * 2, none⟩)), (31, .pointer (some ⟨bo, 0 + j * 2 + 1, none⟩)), (33, .pointer (some ⟨bo, 0 + j * 2, none⟩)), (34, .pointer (some ⟨bo, 0 + j * 2, none⟩)), (35, .pointer (some ⟨bo, 0 + j * 2 + 0, none⟩)), (36, .string y0)] (fun w => Strm 25 w B sb (m + 20 + 1 + 1)) [] [⟨.slice (some ⟨bo, 0, none⟩) 4 c, 135, 2, 4, l.flatMap csEnc⟩] [] := by
      skip
      rw [hW]
      refine wa_all [6, 10, 17] (by kernel_rfl) rfl ⟨⟨_, rfl, ?_⟩, ⟨_, rfl, ?_⟩, ⟨_, rfl, ?_⟩, trivial⟩
      · refine wl_ov (ov_elem1 (k := 0) (v := .string y0) sc9 rfl (fun _ hm => (SlT.ofOwn cs_len (hm.ownI 0 rfl) hl4)) hy rfl rfl) rfl ?_
        refine wl_nil ?_
        refine nx_wa0 (listed' := #[true, true, true, true, true, true, true, true, true, true, false, false, false, true, true, true, true, false, true, true, true, true, false, false, false, false, false, false, false, false]) rfl (fun _ _ => trivial) ?_
        have h := J4056063 
        rw [hW] at h
        refine wa_weak ?_ ?_ h
        · exact ⟨rfl, rfl, rfl, rfl, rfl, rfl, rfl, rfl, rfl, rfl, rfl, rfl, rfl, rfl, rfl, rfl, rfl, rfl, rfl, rfl, rfl, rfl, rfl, rfl, rfl, rfl, rfl, rfl, rfl, rfl, rfl, rfl, trivial⟩
        · exact fun _ hm => hm.pick [] [0] [] rfl rfl
      · refine wl_ov (ov_elem1 (k := 0) (v := .string y0) sc9 rfl (fun _ hm => (SlT.ofOwn cs_len (hm.ownI 0 rfl) hl4)) hy rfl rfl) rfl ?_
        refine wl_nil ?_
        refine nx_wa0 (listed' := #[true, true, true, true, true, true, false, true, true, true, true, false, false, true, true, true, true, false, true, true, true, true, false, false, false, false, false, false, false, false]) rfl (fun _ _ => trivial) ?_
        have h := J4057023 
        rw [hW] at h
        refine wa_weak ?_ ?_ h
        · exact ⟨rfl, rfl, rfl, rfl, rfl, rfl, rfl, rfl, rfl, rfl, rfl, rfl, rfl, rfl, rfl, rfl, rfl, rfl, rfl, rfl, rfl, rfl, rfl, rfl, rfl, rfl, rfl, rfl, rfl, rfl, rfl, rfl, trivial⟩
        · exact fun _ hm => hm.pick [] [0] [] rfl rfl
      · refine wl_ov (ov_elem1 (k := 1) (v := .string y1) sc9 rfl (fun _ hm => (SlT.ofOwn cs_len (hm.ownI 0 rfl) hl4)) hy rfl rfl) rfl ?_
        refine wl_nil ?_
        refine nx_wa0 (listed' := #[true, true, true, true, true, true, false, true, true, true, false, false, false, true, true, true, true, true, true, true, true, true, false, false, false, false, false, false, false, false]) rfl (fun _ _ => trivial) ?_
        have h := J4187071 
        rw [hW] at h
        refine wa_weak ?_ ?_ h
        · exact ⟨rfl, rfl, rfl, rfl, rfl, rfl, rfl, rfl, rfl, rfl, rfl, rfl, rfl, rfl, rfl, rfl, rfl, rfl, rfl, rfl, rfl, rfl, rfl, rfl, rfl, rfl, rfl, rfl, rfl, rfl, rfl, rfl, trivial⟩
        · exact fun _ hm => hm.pick [] [0] [] rfl rfl
    have J1958847 : W 14 #[true, true, true, true, true, true, false, true, true, true, false, false, false, true, true, true, true, false, true, true, true, false, false, false, false, false, false, false, false, false] [(0, .pointer (some ⟨sb, 0, none⟩)), (2, .slice none 0 0), (3, .slice (some ⟨bo, 0, none⟩) 4 c), (4, .pointer (some ⟨bo, 0 + j * 2, none⟩)), (5, .pointer (some ⟨sb, 0, none⟩)), (6, .slice (some ⟨bo, 0, none⟩) 4 c), (7, .pointer (some ⟨sb, 0, none⟩)), (8, .bool f1), (9, .slice (some ⟨bo, 0, none⟩) 4 c), (10, .pointer (some ⟨sb, 0, none⟩)), (11, .slice (some ⟨bo, 0, none⟩) 4 c), (12, .int .i64 4), (13, .int .i64 ((j : Nat) : Int)), (14, .pointer (some ⟨bo, 0 + j * 2, none⟩)), (15, .pointer (some ⟨bo, 0 + j * 2, none⟩)), (16, .pointer (some ⟨bo, 0 + j * 2, none⟩)), (17, .pointer (some ⟨sb, 0, none⟩)), (18, .pointer (some ⟨bo, 0 + j * 2, none⟩)), (19, .pointer (some ⟨bo, 0 + j * 2, none⟩)), (20, .pointer (some ⟨bo, 0 + j * 2 + 0, none⟩)), (22, .pointer (some ⟨bo, 0 + j * 2, none⟩)), (23, .pointer (some ⟨bo, 0 + j * 2, none⟩)), (24, .pointer (some ⟨bo, 0 + j * 2 + 0, none⟩)), (28, .pointer (some ⟨sb, 0, none⟩)), (29, .pointer (some ⟨bo, 0 + j * 2, none⟩)), (30, .pointer (some ⟨bo, 0 + j * 2, none⟩)), (31, .pointer (some ⟨bo, 0 + j * 2 + 1, none⟩)), (33, .pointer (some ⟨bo, 0 + j * 2, none⟩)), (34, .pointer (some ⟨bo, 0 + j * 2, none⟩)), (35, .pointer (some ⟨bo, 0 + j * 2 + 0, none⟩))] (fun w => Strm 25 w B sb (m + 20 + 1 + 1)) [] [⟨.slice (some ⟨bo, 0, none⟩) 4 c, 135, 2, 4, l.flatMap csEnc⟩] [] := by
      skip
      rw [hW]
      refine wa_all [6, 10, 17, 21] (by kernel_rfl) rfl ⟨⟨_, rfl, ?_⟩, ⟨_, rfl, ?_⟩, ⟨_, rfl, ?_⟩, ⟨_, rfl, ?_⟩, trivial⟩
      · refine wl_ov (ov_elem1 (k := 0) (v := .string y0) sc9 rfl (fun _ hm => (SlT.ofOwn cs_len (hm.ownI 0 rfl) hl4)) hy rfl rfl) rfl ?_
        refine wl_nil ?_
        refine nx_wa0 (listed' := #[true, true, true, true, true, true, true, true, true, true, false, false, false, true, true, true, true, false, true, true, true, false, false, false, false, false, false, false, false, false]) rfl (fun _ _ => trivial) ?_
        have h := J1958911 
        rw [hW] at h
        refine wa_weak ?_ ?_ h
        · exact ⟨rfl, rfl, rfl, rfl, rfl, rfl, rfl, rfl, rfl, rfl, rfl, rfl, rfl, rfl, rfl, rfl, rfl, rfl, rfl, rfl, rfl, rfl, rfl, rfl, rfl, rfl, rfl, rfl, rfl, rfl, rfl, trivial⟩
        · exact fun _ hm => hm.pick [] [0] [] rfl rfl
      · refine wl_ov (ov_elem1 (k := 0) (v := .string y0) sc9 rfl (fun _ hm => (SlT.ofOwn cs_len (hm.ownI 0 rfl) hl4)) hy rfl rfl) rfl ?_
        refine wl_nil ?_
        refine nx_wa0 (listed' := #[true, true, true, true, true, true, false, true, true, true, true, false, false, true, true, true, true, false, true, true, true, false, false, false, false, false, false, false, false, false]) rfl (fun _ _ => trivial) ?_
        have h := J1959871 
        rw [hW] at h
        refine wa_weak ?_ ?_ h
        · exact ⟨rfl, rfl, rfl, rfl, rfl, rfl, rfl, rfl, rfl, rfl, rfl, rfl, rfl, rfl, rfl, rfl, rfl, rfl, rfl, rfl, rfl, rfl, rfl, rfl, rfl, rfl, rfl, rfl, rfl, rfl, rfl, trivial⟩
        · exact fun _ hm => hm.pick [] [0] [] rfl rfl
      · refine wl_ov (ov_elem1 (k := 1) (v := .string y1) sc9 rfl (fun _ hm => (SlT.ofOwn cs_len (hm.ownI 0 rfl) hl4)) hy rfl rfl) rfl ?_
        refine wl_nil ?_
        refine nx_wa0 (listed' := #[true, true, true, true, true, true, false, true, true, true, false, false, false, true, true, true, true, true, true, true, true, false, false, false, false, false, false, false, false, false]) rfl (fun _ _ => trivial) ?_
        have h := J2089919 
        rw [hW] at h
        refine wa_weak ?_ ?_ h
        · exact ⟨rfl, rfl, rfl, rfl, rfl, rfl, rfl, rfl, rfl, rfl, rfl, rfl, rfl, rfl, rfl, rfl, rfl, rfl, rfl, rfl, rfl, rfl, rfl, rfl, rfl, rfl, rfl, rfl, rfl, rfl, rfl, trivial⟩
        · exact fun _ hm => hm.pick [] [0] [] rfl rfl
      · refine wl_ov (ov_elem1 (k := 0) (v := .string y0) sc9 rfl (fun _ hm => (SlT.ofOwn cs_len (hm.ownI 0 rfl) hl4)) hy rfl rfl) rfl ?_
        refine wl_nil ?_
        refine nx_wa0 (listed' := #[true, true, true, true, true, true, false, true, true, true, false, false, false, true, true, true, true, false, true, true, true, true, false, false, false, false, false, false, false, false]) rfl (fun _ _ => trivial) ?_
        have h := J4055999 
        rw [hW] at h
        refine wa_weak ?_ ?_ h
        · exact ⟨rfl, rfl, rfl, rfl, rfl, rfl, rfl, rfl, rfl, rfl, rfl, rfl, rfl, rfl, rfl, rfl, rfl, rfl, rfl, rfl, rfl, rfl, rfl, rfl, rfl, rfl, rfl, rfl, rfl, rfl, rfl, trivial⟩
        · exact fun _ hm => hm.pick [] [0] [] rfl rfl
    rw [hW]
    have h := J1958847 
    rw [hW] at h
    refine wa_weak ?_ ?_ h
    · exact ⟨rfl, rfl, rfl, rfl, rfl, rfl, rfl, rfl, rfl, rfl, rfl, rfl, rfl, rfl, rfl, rfl, rfl, rfl, rfl, rfl, rfl, rfl, rfl, rfl, rfl, rfl, rfl, rfl, rfl, rfl, trivial⟩
    · exact fun _ hm => hm.pick [] [0] [] rfl rfl
  · have hf : f1 = false := by simpa using hh
    clear hh
    refine gw_skip ?_
    refine nx_then ?_
    refine gw_seq ?_
    refine gw_region ?_
    refine wl_ov (ov_move rfl) rfl ?_
    refine wl_ov (ov_assign rfl) rfl ?_
    refine wl_nil ?_
    refine nx_then ?_
    refine gw_ret ?_
    refine nx_ret1 rfl rfl fun wx hm => ?_
    exact ⟨A, c, l, rfl, hm.ownI 0 rfl, hl4, hok, hm.k.more (by omega), hm.g⟩

end Go.Proofs.YtcggbojhalbkjaaGreatDoor
