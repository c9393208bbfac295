/- What a law knows of bookings: booked. -/
import Derived.Test.YtcggbojhalbkjaaGreatDoorSp
import Derived.Test.YtcggbojhalbkjaaGreatDoorSe
namespace Go.Proofs.YtcggbojhalbkjaaGreatDoor
open Go.RowKit

set_option maxRecDepth 100000 in
theorem same_fraction_neq (x0 : Int) (x1 : Int) (w : World) : (binOp .neq 149 (.agg #[.int .i64 x0, .int .i64 x1]) (.agg #[.int .i64 x0, .int .i64 x1])).run Tryz.prog w = .ok (.bool false) w := by
  have hS : Tryz.prog.underlying 149 = some (.struct (Tryz.prog.fieldsOf 149)) := by kernel_rfl
  have hp : Tryz.prog.stoodInHeld 149 = false := by kernel_rfl
  rw [run_neq_struct, show (10000 : Nat) = 9999 + 1 from rfl, run_equalIn_agg w 9999 149 _ _ hS hp]
  simp only [Program.fieldsOf, Tryz.underlying149]
  have u3 := Tryz.underlying3
  clear hS hp
  go_simp
set_option maxRecDepth 100000 in
theorem same_fraction_eql (x0 : Int) (x1 : Int) (w : World) : (binOp .eql 149 (.agg #[.int .i64 x0, .int .i64 x1]) (.agg #[.int .i64 x0, .int .i64 x1])).run Tryz.prog w = .ok (.bool true) w := by
  have hS : Tryz.prog.underlying 149 = some (.struct (Tryz.prog.fieldsOf 149)) := by kernel_rfl
  have hp : Tryz.prog.stoodInHeld 149 = false := by kernel_rfl
  rw [run_eql_struct, show (10000 : Nat) = 9999 + 1 from rfl, run_equalIn_agg w 9999 149 _ _ hS hp]
  simp only [Program.fieldsOf, Tryz.underlying149]
  have u3 := Tryz.underlying3
  clear hS hp
  go_simp
theorem guard_fraction : Tryz.prog.eqGuardType Tryz.prog.depth 149 = false := by kernel_rfl

set_option maxRecDepth 100000 in
set_option maxHeartbeats 400000 in
theorem equal_fraction_any (l : List Fr) (A1 A2 : Option Addr) (n c1 c2 : Nat) (w : World) (h1 : SlT frEnc 2 149 w A1 n l) (h2 : SlT frEnc 2 149 w A2 n l) (hn : n ≤ 1000000) :
    Calls Tryz.prog 100 #[.slice A1 n c1, .slice A2 n c2] w (fun e w' => e = .returned (.bool true) ∧ w.grownBy w' none) := by
  refine gw_enter ⟨26, w, none, []⟩ Tryz.func100 rfl Tryz.ntmps100 rfl (mem0 (X := [SlOld frEnc 2 149 w.heap.size none A1 n l, SlOld frEnc 2 149 w.heap.size none A2 n l]) (allF_cons h1.old (allF_cons h2.old allF_nil)) (allL_cons SlOld.lasts (allL_cons SlOld.lasts allL_nil))) ?_
  refine gw_seq ?_
  refine gw_region ?_
  have hlen := h1.len
  refine wl_ov (ov_assign rfl) rfl ?_
  refine wl_nil ?_
  refine nx_then ?_
  refine gw_seq ?_
  refine gw_seq ?_
  refine gw_region ?_
  refine wl_ov (ov_move rfl) rfl ?_
  refine wl_ov (ov_len es144 rfl) rfl ?_
  refine wl_ov (ov_move rfl) rfl ?_
  refine wl_ov (ov_len es144 rfl) rfl ?_
  refine wl_ov (ov_neq rfl rfl) rfl ?_
  refine wl_set 10 (v' := .bool false) rfl (congrArg Value.bool (by simp)) ?_
  refine wl_nil ?_
  refine nx_then ?_
  refine gw_cond rfl (fun hh => by cases hh) (fun _ => ?_)
  refine gw_skip ?_
  refine nx_then ?_
  refine gw_seq ?_
  refine gw_seq ?_
  refine gw_region ?_
  refine wl_ov (ov_move rfl) rfl ?_
  refine wl_ov (ov_len es144 rfl) rfl ?_
  refine wl_ov (ov_move rfl) rfl ?_
  refine wl_nil ?_
  refine nx_then ?_
  refine gw_block ?_
  refine gw_loop (γ := Nat) (fun (k : Nat) => k ≤ n) (fun (k : Nat) => [(0, .slice A1 n c1), (1, .slice A2 n c2), (12, .int .i64 ((n : Nat) : Int)), (13, .int .i64 ((k : Nat) : Int))]) (fun (k : Nat) => fun _ => True) (fun (k : Nat) => []) (fun (k : Nat) => []) (fun (k : Nat) => [SlOld frEnc 2 149 w.heap.size none A1 n l, SlOld frEnc 2 149 w.heap.size none A2 n l]) (fun (k : Nat) => n - k) 0 (Nat.zero_le _) ⟨rfl, rfl, rfl, rfl, trivial⟩ (fun _ hm => hm.pick [] [] [0, 1] rfl rfl) ?_
  intro k hinv
  replace hinv : k ≤ n := hinv
  refine gw_seq ?_
  refine gw_region ?_
  refine wl_ov (ov_lss rfl rfl) rfl ?_
  refine wl_nil ?_
  refine nx_then ?_
  refine gw_seq ?_
  refine gw_cond rfl (fun hh => ?_) (fun hh => ?_)
  · have hk : ((k : Nat) : Int) < ((n : Nat) : Int) := by simpa using hh
    clear hh
    refine gw_skip ?_
    refine nx_then ?_
    refine gw_seq ?_
    refine gw_block ?_
    refine gw_seq ?_
    refine gw_region ?_
    obtain ⟨b1, o1, hA, _, _⟩ := h1.get (by omega)
    subst hA
    obtain ⟨b2, o2, hA, _, _⟩ := h2.get (by omega)
    subst hA
    obtain ⟨x, hx⟩ : ∃ x, l[k]? = some x := ⟨_, List.getElem?_eq_getElem (by omega)⟩
    obtain ⟨x0, x1⟩ := x
    refine wl_ov (ov_move rfl) rfl ?_
    refine wl_ov (ov_assign rfl) rfl ?_
    refine wl_nil ?_
    refine nx_then ?_
    refine gw_seq ?_
    refine gw_draw (fun wz => (SlOld frEnc 2 149 w.heap.size none (some ⟨b1, o1, none⟩) n l) wz ∧ (SlOld frEnc 2 149 w.heap.size none (some ⟨b2, o2, none⟩) n l) wz ∧ True) mixed ?_
    refine wa_take 0 rfl (by kernel_rfl) (by kernel_rfl) (by kernel_rfl) (listed' := #[true, false, false, false, false, false, false, false, false]) rfl (fun _ _ _ h => h) (fun _ hm => ⟨hm.fact 0 rfl, hm.fact 1 rfl, trivial⟩) (ov_move rfl) rfl ?_
    refine wa_take 1 rfl (by kernel_rfl) (by kernel_rfl) (by kernel_rfl) (listed' := #[true, true, false, false, false, false, false, false, false]) rfl (fun _ _ _ h => h) (fun _ hm => ⟨hm.fact 0 rfl, hm.fact 1 rfl, trivial⟩) (ov_move rfl) rfl ?_
    refine wa_take 2 rfl (by kernel_rfl) (by kernel_rfl) (by kernel_rfl) (listed' := #[true, true, true, false, false, false, false, false, false]) rfl (fun _ _ _ h => h) (fun _ hm => ⟨hm.fact 0 rfl, hm.fact 1 rfl, trivial⟩) (ov_index (j := k) es144 rfl rfl (by omega)) rfl ?_
    refine wa_take 3 rfl (by kernel_rfl) (by kernel_rfl) (by kernel_rfl) (listed' := #[true, true, true, true, false, false, false, false, false]) rfl (fun _ _ _ h => h) (fun _ hm => ⟨hm.fact 0 rfl, hm.fact 1 rfl, trivial⟩) (ov_elem (vs := [.int .i64 x0, .int .i64 x1]) rz149 rfl (fun _ hm => (hm.1).1) hx rfl rfl) rfl ?_
    refine wa_take 4 rfl (by kernel_rfl) (by kernel_rfl) (by kernel_rfl) (listed' := #[true, true, true, true, true, false, false, false, false]) rfl (fun _ _ _ h => h) (fun _ hm => ⟨hm.fact 0 rfl, hm.fact 1 rfl, trivial⟩) (ov_move rfl) rfl ?_
    refine wa_take 5 rfl (by kernel_rfl) (by kernel_rfl) (by kernel_rfl) (listed' := #[true, true, true, true, true, true, false, false, false]) rfl (fun _ _ _ h => h) (fun _ hm => ⟨hm.fact 0 rfl, hm.fact 1 rfl, trivial⟩) (ov_move rfl) rfl ?_
    refine wa_take 6 rfl (by kernel_rfl) (by kernel_rfl) (by kernel_rfl) (listed' := #[true, true, true, true, true, true, true, false, false]) rfl (fun _ _ _ h => h) (fun _ hm => ⟨hm.fact 0 rfl, hm.fact 1 rfl, trivial⟩) (ov_index (j := k) es144 rfl rfl (by omega)) rfl ?_
    refine wa_take 7 rfl (by kernel_rfl) (by kernel_rfl) (by kernel_rfl) (listed' := #[true, true, true, true, true, true, true, true, false]) rfl (fun _ _ _ h => h) (fun _ hm => ⟨hm.fact 0 rfl, hm.fact 1 rfl, trivial⟩) (ov_elem (vs := [.int .i64 x0, .int .i64 x1]) rz149 rfl (fun _ hm => (hm.2.1).1) hx rfl rfl) rfl ?_
    refine wa_take 8 rfl (by kernel_rfl) (by kernel_rfl) (by kernel_rfl) (listed' := #[true, true, true, true, true, true, true, true, true]) rfl (fun _ _ _ h => h) (fun _ hm => ⟨hm.fact 0 rfl, hm.fact 1 rfl, trivial⟩) (ov_bin rfl rfl (cmp_agg guard_fraction (fun wx => same_fraction_neq x0 x1 wx))) rfl ?_
    refine wa_done (by kernel_rfl) ?_
    refine nx_then ?_
    refine gw_cond rfl (fun hh => by cases hh) (fun _ => ?_)
    refine gw_skip ?_
    refine nx_blk_nrm ?_
    refine nx_then ?_
    refine gw_region ?_
    refine wl_ov (ov_add rfl rfl (by omega) (by omega)) rfl ?_
    refine wl_ov (ov_move rfl) rfl ?_
    refine wl_nil ?_
    exact nx_round (k + 1) (by omega) (by omega) ⟨rfl, rfl, rfl, (some_int (by omega)), trivial⟩ (fun _ hm => hm.pick [] [] [0, 1] rfl rfl)
  · have hk : ¬ (((k : Nat) : Int) < ((n : Nat) : Int)) := by simpa using hh
    clear hh
    refine gw_exit ?_
    refine nx_then_exit ?_
    refine nx_then_exit ?_
    refine nx_blk_here ?_
    refine nx_then ?_
    refine gw_seq ?_
    refine gw_region ?_
    refine wl_ov (ov_assign rfl) rfl ?_
    refine wl_nil ?_
    refine nx_then ?_
    refine gw_ret ?_
    refine nx_ret1 rfl rfl fun wx hm => ?_
    exact ⟨rfl, hm.g⟩

def inEnc (z : Int) : List Value := [.int .i64 z]
theorem in_len (z : Int) : (inEnc z).length = 1 := rfl
theorem one_ok : ∀ b ∈ [(⟨⟨#[97]⟩, ⟨#[99]⟩, 0, 1, 0, 50⟩ : Bk)], BkOk b := fun b hb => by
  rw [List.mem_singleton.1 hb]; exact ⟨by decide, by decide⟩
theorem one_zero : oddsE [⟨⟨#[97]⟩, ⟨#[99]⟩, 0, 1, 0, 50⟩] = 0 := by decide +kernel
theorem lowF_50 : lowF 50 100 = ⟨1, 2⟩ := by simp [lowF]

set_option maxRecDepth 100000 in
set_option maxHeartbeats 400000 in
theorem bspread_one (A : Option Addr) (c : Nat) (w : World) (hl : SlT bkEnc 6 142 w A 1 [⟨⟨#[97]⟩, ⟨#[99]⟩, 0, 1, 0, 50⟩]) :
    Calls Tryz.prog 99 #[.slice A 1 c] w (fun e w' => ∃ A2 c2, e = .returned (.tuple #[.slice A2 2 c2, .int .i64 0]) ∧ w.grownBy w' none ∧ SlT frEnc 2 149 w' A2 2 [⟨1, 2⟩, ⟨1, 2⟩]) := by
  refine gw_enter ⟨34, w, none, []⟩ Tryz.func99 rfl Tryz.ntmps99 rfl (mem0 (X := [SlOld bkEnc 6 142 w.heap.size none A 1 [⟨⟨#[97]⟩, ⟨#[99]⟩, 0, 1, 0, 50⟩]]) (allF_cons hl.old allF_nil) (allL_cons SlOld.lasts allL_nil)) ?_
  refine gw_seq ?_
  refine gw_region ?_
  refine wl_ov (ov_assign rfl) rfl ?_
  refine wl_ov (ov_assign rfl) rfl ?_
  refine wl_nil ?_
  refine nx_then ?_
  refine gw_seq ?_
  refine gw_seq ?_
  refine gw_region ?_
  refine wl_ov (ov_move rfl) rfl ?_
  refine wl_callv (v := .int .i64 0) rfl cb161 rfl rfl (fun wx hm => (by rw [← one_zero]; exact checkOdds_any [⟨⟨#[97]⟩, ⟨#[99]⟩, 0, 1, 0, 50⟩] A 1 c wx (hm.fact 0 rfl).1 one_ok (by omega))) ?_
  refine wl_ov (ov_assign rfl) rfl ?_
  refine wl_nil ?_
  refine nx_then ?_
  refine gw_seq ?_
  refine gw_region ?_
  refine wl_ov (ov_move rfl) rfl ?_
  refine wl_ov (ov_neq rfl rfl) rfl ?_
  refine wl_set 13 (v' := .bool false) rfl (congrArg Value.bool (by decide)) ?_
  refine wl_nil ?_
  refine nx_then ?_
  refine gw_cond rfl (fun hh => by cases hh) (fun _ => ?_)
  refine gw_skip ?_
  refine nx_then ?_
  refine gw_seq ?_
  refine gw_region ?_
  refine wl_ov (ov_move rfl) rfl ?_
  refine wl_callgo (γ := Option Addr × Nat) (val := (fun (g : Option Addr × Nat) => .tuple #[.slice g.1 2 g.2, .int .i64 100])) (φ := (fun (g : Option Addr × Nat) => True)) (fun (g : Option Addr × Nat) => ⟨.slice g.1 2 g.2, 3, 1, 2, [.int .i64 50, .int .i64 50]⟩) rfl cb162 rfl rfl (fun wx hm => (spread_one A c wx (hm.fact 0 rfl).1).mono fun _ _ ⟨A2, c2, he, hg, ho⟩ => ⟨(A2, c2), he, trivial, ho, hg⟩) ?_
  rintro ⟨A2, c2⟩ hphi
  dsimp only at hphi ⊢
  clear hphi
  refine wl_look (R := ∃ g, A2 = some ⟨g, 0, none⟩) (fun wx hm => own_addr (hm.ownI 0 rfl) (by omega)) ?_
  rintro ⟨b2, rfl⟩
  refine wl_nilOwn 149 2 ?_
  refine wl_ov (ov_move rfl) rfl ?_
  refine wl_ov (ov_extract rfl rfl) rfl ?_
  refine wl_ov (ov_extract rfl rfl) rfl ?_
  refine wl_ov (ov_assign rfl) rfl ?_
  refine wl_ov (ov_assign rfl) rfl ?_
  refine wl_nil ?_
  refine nx_then ?_
  refine gw_seq ?_
  refine gw_region ?_
  refine wl_ov (ov_assign rfl) rfl ?_
  refine wl_nil ?_
  refine nx_then ?_
  refine gw_seq ?_
  refine gw_seq ?_
  refine gw_region ?_
  refine wl_ov (ov_move rfl) rfl ?_
  refine wl_ov (ov_len es22 rfl) rfl ?_
  refine wl_set 21 (v' := .int .i64 2) rfl rfl ?_
  refine wl_ov (ov_move rfl) rfl ?_
  refine wl_nil ?_
  refine nx_then ?_
  refine gw_block ?_
  refine gw_rounds 4 ?_
  refine gr_next ?_
  refine gw_seq ?_
  refine gw_region ?_
  refine wl_ov (ov_lss rfl rfl) rfl ?_
  refine wl_set 23 (v' := .bool true) rfl (congrArg Value.bool (by decide)) ?_
  refine wl_nil ?_
  refine nx_then ?_
  refine gw_seq ?_
  refine gw_cond rfl (fun _ => ?_) (fun hh => by cases hh)
  refine gw_skip ?_
  refine nx_then ?_
  refine gw_seq ?_
  refine gw_block ?_
  refine gw_seq ?_
  refine gw_region ?_
  refine wl_ov (ov_index (j := 0) es22 rfl rfl (by decide)) rfl ?_
  refine wl_ov (ov_elem1 (k := 0) (v := .int .i64 50) sc3 rfl (fun _ hm => (SlT.ofOwn (l := [50, 50]) in_len (hm.ownI 1 rfl) rfl)) (rfl : [(50 : Int), 50][0]? = some 50) rfl rfl) rfl ?_
  refine wl_ov (ov_assign rfl) rfl ?_
  refine wl_nil ?_
  refine nx_then ?_
  refine gw_region ?_
  refine wl_ov (ov_move rfl) rfl ?_
  refine wl_ov (ov_move rfl) rfl ?_
  refine wl_ov (ov_move rfl) rfl ?_
  refine wl_callv (v := .agg #[.int .i64 1, .int .i64 2]) rfl cb163 rfl rfl (fun wx hm => (by have h := lowest_any 50 100 wx (by omega) (by omega) (by omega); rw [lowF_50] at h; exact h)) ?_
  refine wl_buildSlice (e := 149) (cs := [.int .i64 1, .int .i64 2]) rfl (by kernel_rfl) rfl fun g1 => ?_
  refine wl_append (news := [.int .i64 1, .int .i64 2]) 0 0 ap144 rfl rfl rfl rfl rfl rfl rfl (by decide) (by decide) rfl rfl fun v1 hv1 => ?_
  refine wl_ov (ov_assign rfl) rfl ?_
  refine wl_nil ?_
  refine nx_blk_nrm ?_
  refine nx_then ?_
  refine gw_region ?_
  refine wl_ov (ov_add rfl rfl (by omega) (by omega)) rfl ?_
  refine wl_set 32 (v' := .int .i64 1) rfl rfl ?_
  refine wl_ov (ov_move rfl) rfl ?_
  refine wl_nil ?_
  refine nx_next ?_
  refine gr_next ?_
  refine gw_seq ?_
  refine gw_region ?_
  refine wl_ov (ov_lss rfl rfl) rfl ?_
  refine wl_set 23 (v' := .bool true) rfl (congrArg Value.bool (by decide)) ?_
  refine wl_nil ?_
  refine nx_then ?_
  refine gw_seq ?_
  refine gw_cond rfl (fun _ => ?_) (fun hh => by cases hh)
  refine gw_skip ?_
  refine nx_then ?_
  refine gw_seq ?_
  refine gw_block ?_
  refine gw_seq ?_
  refine gw_region ?_
  refine wl_ov (ov_index (j := 1) es22 rfl rfl (by decide)) rfl ?_
  refine wl_ov (ov_elem1 (k := 0) (v := .int .i64 50) sc3 rfl (fun _ hm => (SlT.ofOwn (l := [50, 50]) in_len (hm.ownI 1 rfl) rfl)) (rfl : [(50 : Int), 50][1]? = some 50) rfl rfl) rfl ?_
  refine wl_ov (ov_assign rfl) rfl ?_
  refine wl_nil ?_
  refine nx_then ?_
  refine gw_region ?_
  refine wl_ov (ov_move rfl) rfl ?_
  refine wl_ov (ov_move rfl) rfl ?_
  refine wl_ov (ov_move rfl) rfl ?_
  refine wl_callv (v := .agg #[.int .i64 1, .int .i64 2]) rfl cb163 rfl rfl (fun wx hm => (by have h := lowest_any 50 100 wx (by omega) (by omega) (by omega); rw [lowF_50] at h; exact h)) ?_
  refine wl_buildSlice (e := 149) (cs := [.int .i64 1, .int .i64 2]) rfl (by kernel_rfl) rfl fun g2 => ?_
  refine wl_append (news := [.int .i64 1, .int .i64 2]) 0 0 ap144 rfl rfl rfl rfl rfl rfl rfl (by decide) (by decide) rfl rfl fun v2 hv2 => ?_
  refine wl_ov (ov_assign rfl) rfl ?_
  refine wl_nil ?_
  refine nx_blk_nrm ?_
  refine nx_then ?_
  refine gw_region ?_
  refine wl_ov (ov_add rfl rfl (by omega) (by omega)) rfl ?_
  refine wl_set 32 (v' := .int .i64 2) rfl rfl ?_
  refine wl_ov (ov_move rfl) rfl ?_
  refine wl_nil ?_
  refine nx_next ?_
  refine gr_next ?_
  refine gw_seq ?_
  refine gw_region ?_
  refine wl_ov (ov_lss rfl rfl) rfl ?_
  refine wl_set 23 (v' := .bool false) rfl (congrArg Value.bool (by decide)) ?_
  refine wl_nil ?_
  refine nx_then ?_
  refine gw_seq ?_
  refine gw_cond rfl (fun hh => by cases hh) (fun _ => ?_)
  refine gw_exit ?_
  refine nx_then_exit ?_
  refine nx_then_exit ?_
  refine nx_blk_here ?_
  refine nx_then ?_
  refine gw_seq ?_
  refine gw_region ?_
  refine wl_ov (ov_move rfl) rfl ?_
  refine wl_ov (ov_assign rfl) rfl ?_
  refine wl_ov (ov_assign rfl) rfl ?_
  refine wl_nil ?_
  refine nx_then ?_
  refine gw_ret ?_
  refine nx_look (R := ∃ A cc, v2 = .slice A (0 + 1 + 1) cc) (fun wx hm => own_slice (hm.ownI 0 rfl)) ?_
  rintro ⟨A3, c3, rfl⟩
  refine nx_ret2 rfl rfl rfl fun wx hm => ?_
  exact ⟨A3, c3, rfl, hm.g, SlT.ofOwn (l := [⟨1, 2⟩, ⟨1, 2⟩]) fr_len (hm.ownI 0 rfl) rfl⟩

set_option maxRecDepth 100000 in
set_option maxHeartbeats 400000 in
theorem booked_any (w : World) : Calls Tryz.prog 28 #[] w (fun e w' => e = .returned (.bool true) ∧ w.grownBy w' none) := by
  refine gw_enter ⟨19, w, none, [149]⟩ Tryz.func28 rfl Tryz.ntmps28 rfl (mem0 (X := []) allF_nil allL_nil) ?_
  refine gw_seq ?_
  refine gw_region ?_
  refine wl_ov (ov_assign rfl) rfl ?_
  refine wl_nil ?_
  refine nx_then ?_
  refine gw_seq ?_
  refine gw_region ?_
  refine wl_ov (ov_build (cs := [.int .i64 0, .int .i64 1]) rfl (by kernel_rfl)) rfl ?_
  refine wl_ov (ov_build (cs := [.string ⟨#[97]⟩, .string ⟨#[99]⟩, .int .i64 0, .int .i64 1, .int .i64 0, .int .i64 50]) rfl (by kernel_rfl)) rfl ?_
  refine wl_buildSlice (e := 142) (cs := [.string ⟨#[97]⟩, .string ⟨#[99]⟩, .int .i64 0, .int .i64 1, .int .i64 0, .int .i64 50]) rfl (by kernel_rfl) rfl fun g1 => ?_
  refine wl_callx (γ := Option Addr × Nat) (val := (fun (g : Option Addr × Nat) => .tuple #[.slice g.1 2 g.2, .int .i64 0])) (φ := (fun (g : Option Addr × Nat) => True)) (Y := (fun (g : Option Addr × Nat) => fun wy => SlT frEnc 2 149 wy g.1 2 [⟨1, 2⟩, ⟨1, 2⟩])) rfl cb99 rfl rfl (fun wx hm => (bspread_one _ _ wx (SlT.ofBlk (l := [⟨⟨#[97]⟩, ⟨#[99]⟩, 0, 1, 0, 50⟩]) bk_len (hm.blkI 0 rfl))).mono fun _ _ ⟨A2, c2, he, hg, hs⟩ => ⟨(A2, c2), he, trivial, hg, hs⟩) (fun _ => SlT.lasts2 rfl) ?_
  rintro ⟨A2, c2⟩ hphi
  dsimp only
  clear hphi
  refine wl_ov (ov_move rfl) rfl ?_
  refine wl_ov (ov_extract rfl rfl) rfl ?_
  refine wl_ov (ov_extract rfl rfl) rfl ?_
  refine wl_ov (ov_assign rfl) rfl ?_
  refine wl_ov (ov_assign rfl) rfl ?_
  refine wl_nil ?_
  refine nx_then ?_
  refine gw_seq ?_
  refine gw_region ?_
  refine wl_ov (ov_move rfl) rfl ?_
  refine wl_ov (ov_eql rfl rfl) rfl ?_
  refine wl_set 11 (v' := .bool true) rfl (congrArg Value.bool (by decide)) ?_
  refine wl_ov (ov_move rfl) rfl ?_
  refine wl_guard_on rfl rfl rfl ?_
  refine wl_ov (ov_move rfl) rfl ?_
  refine wl_guard_on rfl rfl rfl ?_
  refine wl_ov (ov_build (cs := [.int .i64 1, .int .i64 2]) rfl (by kernel_rfl)) rfl ?_
  refine wl_guard_on rfl rfl rfl ?_
  refine wl_ov (ov_build (cs := [.int .i64 1, .int .i64 2]) rfl (by kernel_rfl)) rfl ?_
  refine wl_guard_on rfl rfl rfl ?_
  refine wl_buildSlice (e := 149) (cs := [.int .i64 1, .int .i64 2, .int .i64 1, .int .i64 2]) rfl (by kernel_rfl) rfl fun g2 => ?_
  refine wl_guard_on rfl rfl rfl ?_
  refine wl_callv rfl cb100 rfl rfl (fun wx hm => (equal_fraction_any [⟨1, 2⟩, ⟨1, 2⟩] A2 _ 2 c2 2 wx (hm.fact 0 rfl) (SlT.ofBlk (l := [⟨1, 2⟩, ⟨1, 2⟩]) fr_len (hm.blkI 0 rfl)) (by omega))) ?_
  refine wl_ov (ov_pick_t rfl rfl) rfl ?_
  refine wl_ov (ov_assign rfl) rfl ?_
  refine wl_nil ?_
  refine nx_then ?_
  refine gw_ret ?_
  refine nx_ret1 rfl rfl fun wx hm => ?_
  exact ⟨rfl, hm.g⟩

end Go.Proofs.YtcggbojhalbkjaaGreatDoor
