/- Lowest terms; the odds of one booking; what a law knows of bookings. -/
import Derived.Test.YtcggbojhalbkjaaGreatDoorFm
import Derived.Test.YtcggbojhalbkjaaGreatDoorSj
namespace Go.Proofs.YtcggbojhalbkjaaGreatDoor
open Go.RowKit

structure Fr where
  num : Int
  den : Int
def frEnc (x : Fr) : List Value := [.int .i64 x.num, .int .i64 x.den]
theorem fr_len (x : Fr) : (frEnc x).length = 2 := rfl
/-- The lowest terms of n / d. -/
def lowF (n d : Nat) : Fr := ⟨((n / Nat.gcd n d : Nat) : Int), ((d / Nat.gcd n d : Nat) : Int)⟩
theorem gcd_step {a b g : Nat} (h : Nat.gcd a b = g) : Nat.gcd b (a % b) = g := by
  rw [Nat.gcd_comm, ← Nat.gcd_rec, Nat.gcd_comm]; exact h
def oddsE (l : List Bk) : Int := firstE [formE l, whenE (decide (9 < (l.length : Int))) 2]

set_option maxRecDepth 100000 in
set_option maxHeartbeats 400000 in
theorem lowest_any (n d : Nat) (w : World) (hn : n ≤ 1000000000000000000) (hd : d ≤ 1000000000000000000) (hd0 : 0 < d) :
    Calls Tryz.prog 163 #[.int .i64 ((n : Nat) : Int), .int .i64 ((d : Nat) : Int)] w (fun e w' => e = .returned (.agg #[.int .i64 (lowF n d).num, .int .i64 (lowF n d).den]) ∧ w.grownBy w' none) := by
  refine gw_enter ⟨25, w, none, []⟩ Tryz.func163 rfl Tryz.ntmps163 rfl (mem0 (X := []) allF_nil allL_nil) ?_
  refine gw_seq ?_
  refine gw_region ?_
  refine wl_alloc zc149 rfl fun g1 => ?_
  refine wl_nil ?_
  refine nx_then ?_
  refine gw_seq ?_
  refine gw_region ?_
  refine wl_ov (ov_move rfl) rfl ?_
  refine wl_ov (ov_move rfl) rfl ?_
  refine wl_ov (ov_neg rfl (by omega) (by omega)) rfl ?_
  refine wl_ov (ov_max rfl rfl) rfl ?_
  refine wl_ov (ov_move rfl) rfl ?_
  refine wl_ov (ov_assign rfl) rfl ?_
  refine wl_ov (ov_assign rfl) rfl ?_
  refine wl_nil ?_
  refine nx_then ?_
  refine gw_seq ?_
  refine gw_block ?_
  refine gw_loop (γ := Nat × Nat) (fun (g : Nat × Nat) => Nat.gcd g.1 g.2 = Nat.gcd n d ∧ g.1 ≤ 1000000000000000000 ∧ g.2 ≤ 1000000000000000000) (fun (g : Nat × Nat) => [(0, .int .i64 ((n : Nat) : Int)), (1, .int .i64 ((d : Nat) : Int)), (4, .pointer (some ⟨g1, 0, none⟩)), (5, .int .i64 ((g.1 : Nat) : Int)), (6, .int .i64 ((g.2 : Nat) : Int))]) (fun (g : Nat × Nat) => fun _ => True) (fun (g : Nat × Nat) => [(g1, 149, [.int .i64 0, .int .i64 0])]) (fun (g : Nat × Nat) => []) (fun (g : Nat × Nat) => []) (fun (g : Nat × Nat) => g.2) (n, d) ⟨rfl, by omega, by omega⟩ ⟨rfl, rfl, rfl, (some_int (by omega)), rfl, trivial⟩ (fun _ hm => hm.pick [0] [] [] rfl rfl) ?_
  rintro ⟨a, b⟩ hinv
  replace hinv : Nat.gcd a b = Nat.gcd n d ∧ a ≤ 1000000000000000000 ∧ b ≤ 1000000000000000000 := hinv
  dsimp only
  refine gw_seq ?_
  refine gw_seq ?_
  refine gw_region ?_
  refine wl_ov (ov_move rfl) rfl ?_
  refine wl_ov (ov_neq rfl rfl) rfl ?_
  refine wl_nil ?_
  refine nx_then ?_
  refine gw_cond rfl (fun hh => ?_) (fun hh => ?_)
  · have hb : ¬ (((b : Nat) : Int) = 0) := by simpa using hh
    clear hh
    refine gw_skip ?_
    refine nx_then ?_
    refine gw_block ?_
    have hb0 : 0 < b := by omega
    have hlt := Nat.mod_lt a hb0
    refine gw_draw (fun wz => Blk wz g1 149 [.int .i64 0, .int .i64 0] ∧ True) mixed ?_
    refine wa_take 0 rfl (by kernel_rfl) (by kernel_rfl) (by kernel_rfl) (listed' := #[true, false, false, false, false, false]) rfl (fun _ _ _ h => h) (fun _ hm => ⟨hm.blkI 0 rfl, trivial⟩) (ov_move rfl) rfl ?_
    refine wa_take 1 rfl (by kernel_rfl) (by kernel_rfl) (by kernel_rfl) (listed' := #[true, true, false, false, false, false]) rfl (fun _ _ _ h => h) (fun _ hm => ⟨hm.blkI 0 rfl, trivial⟩) (ov_move rfl) rfl ?_
    refine wa_take 2 rfl (by kernel_rfl) (by kernel_rfl) (by kernel_rfl) (listed' := #[true, true, true, false, false, false]) rfl (fun _ _ _ h => h) (fun _ hm => ⟨hm.blkI 0 rfl, trivial⟩) (ov_move rfl) rfl ?_
    refine wa_take 3 rfl (by kernel_rfl) (by kernel_rfl) (by kernel_rfl) (listed' := #[true, true, true, true, false, false]) rfl (fun _ _ _ h => h) (fun _ hm => ⟨hm.blkI 0 rfl, trivial⟩) (ov_rem rfl rfl (by omega) (by omega) (by omega)) rfl ?_
    refine wa_take 4 rfl (by kernel_rfl) (by kernel_rfl) (by kernel_rfl) (listed' := #[true, true, true, true, true, false]) rfl (fun _ _ _ h => h) (fun _ hm => ⟨hm.blkI 0 rfl, trivial⟩) (ov_assign rfl) rfl ?_
    refine wa_take 5 rfl (by kernel_rfl) (by kernel_rfl) (by kernel_rfl) (listed' := #[true, true, true, true, true, true]) rfl (fun _ _ _ h => h) (fun _ hm => ⟨hm.blkI 0 rfl, trivial⟩) (ov_assign rfl) rfl ?_
    refine wa_done (by kernel_rfl) ?_
    refine nx_blk_nrm ?_
    exact nx_round (b, a % b) ⟨gcd_step hinv.1, by dsimp only; omega, by dsimp only; omega⟩ hlt ⟨rfl, rfl, rfl, rfl, (some_int (Int.natCast_emod a b).symm), trivial⟩ (fun _ hm => hm.pick [0] [] [] rfl rfl)
  · have hb : ((b : Nat) : Int) = 0 := by simpa using hh
    clear hh
    refine gw_exit ?_
    refine nx_then_exit ?_
    refine nx_then_exit ?_
    refine nx_blk_here ?_
    refine nx_then ?_
    refine gw_seq ?_
    have hb0 : b = 0 := by omega
    subst hb0
    have hga : a = Nat.gcd n d := by rw [← hinv.1, Nat.gcd_zero_right]
    have ha0 : 0 < a := by rw [hga]; exact Nat.gcd_pos_of_pos_right n hd0
    refine gw_draw (fun wz => True) mixed ?_
    refine wa_take 0 rfl (by kernel_rfl) (by kernel_rfl) (by kernel_rfl) (listed' := #[true, false, false, false, false, false, false, false]) rfl (fun _ _ _ h => h) (fun _ _ => trivial) (ov_move rfl) rfl ?_
    refine wa_take 1 rfl (by kernel_rfl) (by kernel_rfl) (by kernel_rfl) (listed' := #[true, true, false, false, false, false, false, false]) rfl (fun _ _ _ h => h) (fun _ _ => trivial) (ov_move rfl) rfl ?_
    refine wa_take 2 rfl (by kernel_rfl) (by kernel_rfl) (by kernel_rfl) (listed' := #[true, true, true, false, false, false, false, false]) rfl (fun _ _ _ h => h) (fun _ _ => trivial) (ov_quo rfl rfl (by omega) (by omega) (by omega)) rfl ?_
    refine wa_take 3 rfl (by kernel_rfl) (by kernel_rfl) (by kernel_rfl) (listed' := #[true, true, true, true, false, false, false, false]) rfl (fun _ _ _ h => h) (fun _ _ => trivial) (ov_move rfl) rfl ?_
    refine wa_take 4 rfl (by kernel_rfl) (by kernel_rfl) (by kernel_rfl) (listed' := #[true, true, true, true, true, false, false, false]) rfl (fun _ _ _ h => h) (fun _ _ => trivial) (ov_move rfl) rfl ?_
    refine wa_take 5 rfl (by kernel_rfl) (by kernel_rfl) (by kernel_rfl) (listed' := #[true, true, true, true, true, true, false, false]) rfl (fun _ _ _ h => h) (fun _ _ => trivial) (ov_quo rfl rfl (by omega) (by omega) (by omega)) rfl ?_
    refine wa_take 6 rfl (by kernel_rfl) (by kernel_rfl) (by kernel_rfl) (listed' := #[true, true, true, true, true, true, true, false]) rfl (fun _ _ _ h => h) (fun _ _ => trivial) (ov_build (cs := [.int .i64 (((n : Nat) : Int) / ((a : Nat) : Int)), .int .i64 (((d : Nat) : Int) / ((a : Nat) : Int))]) rfl (by kernel_rfl)) rfl ?_
    refine wa_all [7] (by kernel_rfl) rfl ⟨⟨_, rfl, ?_⟩, trivial⟩
    refine wl_stores (cs' := [.int .i64 (((n : Nat) : Int) / ((a : Nat) : Int)), .int .i64 (((d : Nat) : Int) / ((a : Nat) : Int))]) 0 rz149 rfl rfl rfl rfl rfl rfl rfl rfl ?_
    refine wl_nil ?_
    refine nx_wa0 (listed' := #[true, true, true, true, true, true, true, true]) rfl (fun _ _ => trivial) ?_
    refine wa_done (by kernel_rfl) ?_
    refine nx_then ?_
    refine gw_ret ?_
    refine nx_retc 0 rfl rz149 rfl rfl rfl fun wx hm => ?_
    refine ⟨?_, hm.g⟩
    unfold lowF
    rw [← hga, Int.natCast_ediv, Int.natCast_ediv]

set_option maxRecDepth 100000 in
set_option maxHeartbeats 400000 in
theorem checkOdds_any (l : List Bk) (A : Option Addr) (n c : Nat) (w : World) (hl : SlT bkEnc 6 142 w A n l) (hok : ∀ b ∈ l, BkOk b) (hn : n ≤ 1000000) :
    Calls Tryz.prog 161 #[.slice A n c] w (GotE w (oddsE l)) := by
  refine gw_enter ⟨11, w, none, []⟩ Tryz.func161 rfl Tryz.ntmps161 rfl (mem0 (X := [SlOld bkEnc 6 142 w.heap.size none A n l]) (allF_cons hl.old allF_nil) (allL_cons SlOld.lasts allL_nil)) ?_
  refine gw_seq ?_
  refine gw_region ?_
  have hlen := hl.len
  refine wl_ov (ov_assign rfl) rfl ?_
  refine wl_nil ?_
  refine nx_then ?_
  refine gw_seq ?_
  refine gw_region ?_
  refine wl_ov (ov_move rfl) rfl ?_
  refine wl_callv rfl cb160 rfl rfl (fun wx hm => (formed_any l A n c wx (hm.fact 0 rfl).1 hok hn)) ?_
  refine wl_ov (ov_move rfl) rfl ?_
  refine wl_ov (ov_len es52 rfl) rfl ?_
  refine wl_ov (ov_gtr rfl rfl) rfl ?_
  refine wl_callw rfl cb85 rfl rfl (fun wx hm => (when_any _ _ wx)) ?_
  refine wl_buildSlice (e := 41) (cs := [.int .i64 (formE l), .int .i64 (whenE (decide (9 < ((n : Nat) : Int))) 2)]) rfl (by kernel_rfl) rfl fun g1 => ?_
  refine wl_callw rfl cb58 rfl rfl (fun wx hm => (first_any [formE l, whenE (decide (9 < ((n : Nat) : Int))) 2] _ _ _ wx (hm.blkI 0 rfl) (by simp))) ?_
  refine wl_ov (ov_assign rfl) rfl ?_
  refine wl_nil ?_
  refine nx_then ?_
  refine gw_ret ?_
  refine nx_ret1 rfl rfl fun wx hm => ?_
  exact ⟨ret_int (by unfold oddsE; rw [hlen]), hm.g⟩

set_option maxRecDepth 100000 in
set_option maxHeartbeats 400000 in
theorem spread_one (A : Option Addr) (c : Nat) (w : World) (hl : SlT bkEnc 6 142 w A 1 [⟨⟨#[97]⟩, ⟨#[99]⟩, 0, 1, 0, 50⟩]) :
    Calls Tryz.prog 162 #[.slice A 1 c] w (fun e w' => ∃ A2 c2, e = .returned (.tuple #[.slice A2 2 c2, .int .i64 100]) ∧ w.grownBy w' none ∧ w'.ownsRow w.heap.size 3 1 (.slice A2 2 c2) 2 [.int .i64 50, .int .i64 50]) := by
  refine gw_enter ⟨58, w, none, []⟩ Tryz.func162 rfl Tryz.ntmps162 rfl (mem0 (X := [SlOld bkEnc 6 142 w.heap.size none A 1 [⟨⟨#[97]⟩, ⟨#[99]⟩, 0, 1, 0, 50⟩]]) (allF_cons hl.old allF_nil) (allL_cons SlOld.lasts allL_nil)) ?_
  refine gw_seq ?_
  refine gw_region ?_
  refine wl_ov (ov_assign rfl) rfl ?_
  refine wl_ov (ov_assign rfl) rfl ?_
  refine wl_nil ?_
  refine nx_then ?_
  refine gw_seq ?_
  refine gw_region ?_
  refine wl_buildSlice (e := 3) (cs := [.int .i64 1]) rfl (by kernel_rfl) rfl fun g1 => ?_
  refine wl_ov (ov_assign rfl) rfl ?_
  refine wl_ov (ov_assign rfl) rfl ?_
  refine wl_nil ?_
  refine nx_then ?_
  refine gw_seq ?_
  refine gw_seq ?_
  refine gw_region ?_
  refine wl_ov (ov_move rfl) rfl ?_
  refine wl_ov (ov_len es52 rfl) rfl ?_
  refine wl_set 13 (v' := .int .i64 1) rfl rfl ?_
  refine wl_ov (ov_move rfl) rfl ?_
  refine wl_nil ?_
  refine nx_then ?_
  refine gw_block ?_
  obtain ⟨b, off, hA, _, _⟩ := hl.get (by omega)
  subst hA
  refine gw_rounds 3 ?_
  refine gr_next ?_
  refine gw_seq ?_
  refine gw_region ?_
  refine wl_ov (ov_lss rfl rfl) rfl ?_
  refine wl_set 15 (v' := .bool true) rfl (congrArg Value.bool (by decide)) ?_
  refine wl_nil ?_
  refine nx_then ?_
  refine gw_seq ?_
  refine gw_cond rfl (fun _ => ?_) (fun hh => by cases hh)
  refine gw_skip ?_
  refine nx_then ?_
  refine gw_seq ?_
  refine gw_block ?_
  refine gw_seq ?_
  refine gw_region ?_
  refine wl_ov (ov_index (j := 0) es52 rfl rfl (by omega)) rfl ?_
  refine wl_ov (ov_elem (vs := [.string ⟨#[97]⟩, .string ⟨#[99]⟩, .int .i64 0, .int .i64 1, .int .i64 0, .int .i64 50]) rz142 rfl (fun _ hm => (hm.fact 0 rfl).1) (rfl : [(⟨⟨#[97]⟩, ⟨#[99]⟩, 0, 1, 0, 50⟩ : Bk)][0]? = some ⟨⟨#[97]⟩, ⟨#[99]⟩, 0, 1, 0, 50⟩) rfl rfl) rfl ?_
  refine wl_alloc zc142 rfl fun g2 => ?_
  refine wl_stores (cs' := [.string ⟨#[97]⟩, .string ⟨#[99]⟩, .int .i64 0, .int .i64 1, .int .i64 0, .int .i64 50]) 0 rz142 rfl rfl rfl rfl rfl rfl rfl rfl ?_
  refine wl_nil ?_
  refine nx_then ?_
  refine gw_seq ?_
  refine gw_region ?_
  refine wl_ov (ov_move rfl) rfl ?_
  refine wl_ov (ov_len es22 rfl) rfl ?_
  refine wl_set 19 (v' := .int .i64 1) rfl rfl ?_
  refine wl_ov (ov_add rfl rfl (by omega) (by omega)) rfl ?_
  refine wl_set 20 (v' := .int .i64 2) rfl rfl ?_
  refine wl_makeB (n := 2) (e := 3) (by_ := 8) (z := .int .i64 0) (cs := [.int .i64 0, .int .i64 0]) (by kernel_rfl) (by kernel_rfl) rfl rfl rfl rfl rfl (by kernel_rfl) rfl fun g3 => ?_
  refine wl_ov (ov_assign rfl) rfl ?_
  refine wl_nil ?_
  refine nx_then ?_
  refine gw_seq ?_
  refine gw_seq ?_
  refine gw_region ?_
  refine wl_ov (ov_move rfl) rfl ?_
  refine wl_ov (ov_len es22 rfl) rfl ?_
  refine wl_set 23 (v' := .int .i64 1) rfl rfl ?_
  refine wl_ov (ov_move rfl) rfl ?_
  refine wl_nil ?_
  refine nx_then ?_
  refine gw_block ?_
  refine gw_rounds 3 ?_
  refine gr_next ?_
  refine gw_seq ?_
  refine gw_region ?_
  refine wl_ov (ov_lss rfl rfl) rfl ?_
  refine wl_set 25 (v' := .bool true) rfl (congrArg Value.bool (by decide)) ?_
  refine wl_nil ?_
  refine nx_then ?_
  refine gw_seq ?_
  refine gw_cond rfl (fun _ => ?_) (fun hh => by cases hh)
  refine gw_skip ?_
  refine nx_then ?_
  refine gw_seq ?_
  refine gw_block ?_
  refine gw_seq ?_
  refine gw_region ?_
  refine wl_ov (ov_move rfl) rfl ?_
  refine wl_ov (ov_index (j := 0) es22 rfl rfl (by decide)) rfl ?_
  refine wl_ov (ov_load sc3 rfl (fun _ hm => hm.blkI 2 rfl) rfl) rfl ?_
  refine wl_ov (ov_assign rfl) rfl ?_
  refine wl_ov (ov_assign rfl) rfl ?_
  refine wl_nil ?_
  refine nx_then ?_
  refine gw_seq ?_
  refine gw_draw (fun wz => Blk wz g2 142 [.string ⟨#[97]⟩, .string ⟨#[99]⟩, .int .i64 0, .int .i64 1, .int .i64 0, .int .i64 50] ∧ Blk wz g1 3 [.int .i64 1] ∧ (SlOld bkEnc 6 142 w.heap.size none (some ⟨b, off, none⟩) 1 [⟨⟨#[97]⟩, ⟨#[99]⟩, 0, 1, 0, 50⟩]) wz ∧ True) mixed ?_
  refine wa_take 0 rfl (by kernel_rfl) (by kernel_rfl) (by kernel_rfl) (listed' := #[true, false, false, false, false, false, false, false, false, false, false, false]) rfl (fun _ _ _ h => h) (fun _ hm => ⟨hm.blkI 1 rfl, hm.blkI 2 rfl, hm.fact 0 rfl, trivial⟩) (ov_move rfl) rfl ?_
  refine wa_take 1 rfl (by kernel_rfl) (by kernel_rfl) (by kernel_rfl) (listed' := #[true, true, false, false, false, false, false, false, false, false, false, false]) rfl (fun _ _ _ h => h) (fun _ hm => ⟨hm.blkI 1 rfl, hm.blkI 2 rfl, hm.fact 0 rfl, trivial⟩) (ov_move rfl) rfl ?_
  refine wa_take 2 rfl (by kernel_rfl) (by kernel_rfl) (by kernel_rfl) (listed' := #[true, true, true, false, false, false, false, false, false, false, false, false]) rfl (fun _ _ _ h => h) (fun _ hm => ⟨hm.blkI 1 rfl, hm.blkI 2 rfl, hm.fact 0 rfl, trivial⟩) (ov_index (j := 0) es22 rfl rfl (by decide)) rfl ?_
  refine wa_take 4 rfl (by kernel_rfl) (by kernel_rfl) (by kernel_rfl) (listed' := #[true, true, true, false, true, false, false, false, false, false, false, false]) rfl (fun _ _ _ h => h) (fun _ hm => ⟨hm.blkI 1 rfl, hm.blkI 2 rfl, hm.fact 0 rfl, trivial⟩) (ov_move rfl) rfl ?_
  refine wa_take 5 rfl (by kernel_rfl) (by kernel_rfl) (by kernel_rfl) (listed' := #[true, true, true, false, true, true, false, false, false, false, false, false]) rfl (fun _ _ _ h => h) (fun _ hm => ⟨hm.blkI 1 rfl, hm.blkI 2 rfl, hm.fact 0 rfl, trivial⟩) (ov_field fo142_4 rfl rfl) rfl ?_
  refine wa_take 6 rfl (by kernel_rfl) (by kernel_rfl) (by kernel_rfl) (listed' := #[true, true, true, false, true, true, true, false, false, false, false, false]) rfl (fun _ _ _ h => h) (fun _ hm => ⟨hm.blkI 1 rfl, hm.blkI 2 rfl, hm.fact 0 rfl, trivial⟩) (ov_load sc3 rfl (fun _ hm => hm.1) rfl) rfl ?_
  refine wa_take 7 rfl (by kernel_rfl) (by kernel_rfl) (by kernel_rfl) (listed' := #[true, true, true, false, true, true, true, true, false, false, false, false]) rfl (fun _ _ _ h => h) (fun _ hm => ⟨hm.blkI 1 rfl, hm.blkI 2 rfl, hm.fact 0 rfl, trivial⟩) (ov_sub rfl rfl (by omega) (by omega)) rfl ?_
  refine wa_set 36 (v' := .int .i64 50) rfl rfl ?_
  refine wa_take 8 rfl (by kernel_rfl) (by kernel_rfl) (by kernel_rfl) (listed' := #[true, true, true, false, true, true, true, true, true, false, false, false]) rfl (fun _ _ _ h => h) (fun _ hm => ⟨hm.blkI 1 rfl, hm.blkI 2 rfl, hm.fact 0 rfl, trivial⟩) (ov_mul rfl rfl (by omega) (by omega)) rfl ?_
  refine wa_set 37 (v' := .int .i64 50) rfl rfl ?_
  refine wa_all [3] (by kernel_rfl) rfl ⟨⟨_, rfl, ?_⟩, trivial⟩
  refine wl_ov (ov_load sc3 rfl (fun _ hm => hm.blkI 0 rfl) rfl) rfl ?_
  refine wl_nil ?_
  refine nx_wa0 (listed' := #[true, true, true, true, true, true, true, true, true, false, false, false]) rfl (fun _ hm => ⟨hm.blkI 1 rfl, hm.blkI 2 rfl, hm.fact 0 rfl, trivial⟩) ?_
  refine wa_take 9 rfl (by kernel_rfl) (by kernel_rfl) (by kernel_rfl) (listed' := #[true, true, true, true, true, true, true, true, true, true, false, false]) rfl (fun _ _ _ h => h) (fun _ hm => ⟨hm.blkI 1 rfl, hm.blkI 2 rfl, hm.fact 0 rfl, trivial⟩) (ov_add rfl rfl (by omega) (by omega)) rfl ?_
  refine wa_set 38 (v' := .int .i64 50) rfl rfl ?_
  refine wa_take 10 rfl (by kernel_rfl) (by kernel_rfl) (by kernel_rfl) (listed' := #[true, true, true, true, true, true, true, true, true, true, true, false]) rfl (fun _ _ _ h => h) (fun _ hm => ⟨hm.blkI 1 rfl, hm.blkI 2 rfl, hm.fact 0 rfl, trivial⟩) (ov_index (j := 0) es22 rfl rfl (by decide)) rfl ?_
  refine wa_all [11] (by kernel_rfl) rfl ⟨⟨_, rfl, ?_⟩, trivial⟩
  refine wl_store 0 sc3 rfl rfl rfl rfl rfl rfl ?_
  refine wl_nil ?_
  refine nx_wa0 (listed' := #[true, true, true, true, true, true, true, true, true, true, true, true]) rfl (fun _ hm => ⟨hm.blkI 1 rfl, hm.blkI 2 rfl, hm.fact 0 rfl, trivial⟩) ?_
  refine wa_done (by kernel_rfl) ?_
  refine nx_then ?_
  refine gw_draw (fun wz => Blk wz g2 142 [.string ⟨#[97]⟩, .string ⟨#[99]⟩, .int .i64 0, .int .i64 1, .int .i64 0, .int .i64 50] ∧ Blk wz g1 3 [.int .i64 1] ∧ (SlOld bkEnc 6 142 w.heap.size none (some ⟨b, off, none⟩) 1 [⟨⟨#[97]⟩, ⟨#[99]⟩, 0, 1, 0, 50⟩]) wz ∧ True) mixed ?_
  refine wa_take 0 rfl (by kernel_rfl) (by kernel_rfl) (by kernel_rfl) (listed' := #[true, false, false, false, false, false, false, false, false, false, false, false]) rfl (fun _ _ _ h => h) (fun _ hm => ⟨hm.blkI 1 rfl, hm.blkI 2 rfl, hm.fact 0 rfl, trivial⟩) (ov_move rfl) rfl ?_
  refine wa_take 1 rfl (by kernel_rfl) (by kernel_rfl) (by kernel_rfl) (listed' := #[true, true, false, false, false, false, false, false, false, false, false, false]) rfl (fun _ _ _ h => h) (fun _ hm => ⟨hm.blkI 1 rfl, hm.blkI 2 rfl, hm.fact 0 rfl, trivial⟩) (ov_move rfl) rfl ?_
  refine wa_take 2 rfl (by kernel_rfl) (by kernel_rfl) (by kernel_rfl) (listed' := #[true, true, true, false, false, false, false, false, false, false, false, false]) rfl (fun _ _ _ h => h) (fun _ hm => ⟨hm.blkI 1 rfl, hm.blkI 2 rfl, hm.fact 0 rfl, trivial⟩) (ov_add rfl rfl (by omega) (by omega)) rfl ?_
  refine wa_set 42 (v' := .int .i64 1) rfl rfl ?_
  refine wa_take 3 rfl (by kernel_rfl) (by kernel_rfl) (by kernel_rfl) (listed' := #[true, true, true, true, false, false, false, false, false, false, false, false]) rfl (fun _ _ _ h => h) (fun _ hm => ⟨hm.blkI 1 rfl, hm.blkI 2 rfl, hm.fact 0 rfl, trivial⟩) (ov_index (j := 1) es22 rfl rfl (by decide)) rfl ?_
  refine wa_take 5 rfl (by kernel_rfl) (by kernel_rfl) (by kernel_rfl) (listed' := #[true, true, true, true, false, true, false, false, false, false, false, false]) rfl (fun _ _ _ h => h) (fun _ hm => ⟨hm.blkI 1 rfl, hm.blkI 2 rfl, hm.fact 0 rfl, trivial⟩) (ov_move rfl) rfl ?_
  refine wa_take 6 rfl (by kernel_rfl) (by kernel_rfl) (by kernel_rfl) (listed' := #[true, true, true, true, false, true, true, false, false, false, false, false]) rfl (fun _ _ _ h => h) (fun _ hm => ⟨hm.blkI 1 rfl, hm.blkI 2 rfl, hm.fact 0 rfl, trivial⟩) (ov_field fo142_4 rfl rfl) rfl ?_
  refine wa_take 7 rfl (by kernel_rfl) (by kernel_rfl) (by kernel_rfl) (listed' := #[true, true, true, true, false, true, true, true, false, false, false, false]) rfl (fun _ _ _ h => h) (fun _ hm => ⟨hm.blkI 1 rfl, hm.blkI 2 rfl, hm.fact 0 rfl, trivial⟩) (ov_load sc3 rfl (fun _ hm => hm.1) rfl) rfl ?_
  refine wa_take 8 rfl (by kernel_rfl) (by kernel_rfl) (by kernel_rfl) (listed' := #[true, true, true, true, false, true, true, true, true, false, false, false]) rfl (fun _ _ _ h => h) (fun _ hm => ⟨hm.blkI 1 rfl, hm.blkI 2 rfl, hm.fact 0 rfl, trivial⟩) (ov_mul rfl rfl (by omega) (by omega)) rfl ?_
  refine wa_set 48 (v' := .int .i64 50) rfl rfl ?_
  refine wa_all [4] (by kernel_rfl) rfl ⟨⟨_, rfl, ?_⟩, trivial⟩
  refine wl_ov (ov_load sc3 rfl (fun _ hm => hm.blkI 0 rfl) rfl) rfl ?_
  refine wl_nil ?_
  refine nx_wa0 (listed' := #[true, true, true, true, true, true, true, true, true, false, false, false]) rfl (fun _ hm => ⟨hm.blkI 1 rfl, hm.blkI 2 rfl, hm.fact 0 rfl, trivial⟩) ?_
  refine wa_take 9 rfl (by kernel_rfl) (by kernel_rfl) (by kernel_rfl) (listed' := #[true, true, true, true, true, true, true, true, true, true, false, false]) rfl (fun _ _ _ h => h) (fun _ hm => ⟨hm.blkI 1 rfl, hm.blkI 2 rfl, hm.fact 0 rfl, trivial⟩) (ov_add rfl rfl (by omega) (by omega)) rfl ?_
  refine wa_set 49 (v' := .int .i64 50) rfl rfl ?_
  refine wa_take 10 rfl (by kernel_rfl) (by kernel_rfl) (by kernel_rfl) (listed' := #[true, true, true, true, true, true, true, true, true, true, true, false]) rfl (fun _ _ _ h => h) (fun _ hm => ⟨hm.blkI 1 rfl, hm.blkI 2 rfl, hm.fact 0 rfl, trivial⟩) (ov_index (j := 1) es22 rfl rfl (by decide)) rfl ?_
  refine wa_all [11] (by kernel_rfl) rfl ⟨⟨_, rfl, ?_⟩, trivial⟩
  refine wl_store 0 sc3 rfl rfl rfl rfl rfl rfl ?_
  refine wl_nil ?_
  refine nx_wa0 (listed' := #[true, true, true, true, true, true, true, true, true, true, true, true]) rfl (fun _ hm => ⟨hm.blkI 1 rfl, hm.blkI 2 rfl, hm.fact 0 rfl, trivial⟩) ?_
  refine wa_done (by kernel_rfl) ?_
  refine nx_blk_nrm ?_
  refine nx_then ?_
  refine gw_region ?_
  refine wl_ov (ov_add rfl rfl (by omega) (by omega)) rfl ?_
  refine wl_set 51 (v' := .int .i64 1) rfl rfl ?_
  refine wl_ov (ov_move rfl) rfl ?_
  refine wl_nil ?_
  refine nx_next ?_
  refine gr_next ?_
  refine gw_seq ?_
  refine gw_region ?_
  refine wl_ov (ov_lss rfl rfl) rfl ?_
  refine wl_set 25 (v' := .bool false) rfl (congrArg Value.bool (by decide)) ?_
  refine wl_nil ?_
  refine nx_then ?_
  refine gw_seq ?_
  refine gw_cond rfl (fun hh => by cases hh) (fun _ => ?_)
  refine gw_exit ?_
  refine nx_then_exit ?_
  refine nx_then_exit ?_
  refine nx_blk_here ?_
  refine nx_then ?_
  refine gw_region ?_
  refine wl_ov (ov_move rfl) rfl ?_
  refine wl_ov (ov_move rfl) rfl ?_
  refine wl_ov (ov_mul rfl rfl (by omega) (by omega)) rfl ?_
  refine wl_set 54 (v' := .int .i64 100) rfl rfl ?_
  refine wl_ov (ov_assign rfl) rfl ?_
  refine wl_ov (ov_assign rfl) rfl ?_
  refine wl_nil ?_
  refine nx_blk_nrm ?_
  refine nx_then ?_
  refine gw_region ?_
  refine wl_ov (ov_add rfl rfl (by omega) (by omega)) rfl ?_
  refine wl_set 55 (v' := .int .i64 1) rfl rfl ?_
  refine wl_ov (ov_move rfl) rfl ?_
  refine wl_nil ?_
  refine nx_next ?_
  refine gr_next ?_
  refine gw_seq ?_
  refine gw_region ?_
  refine wl_ov (ov_lss rfl rfl) rfl ?_
  refine wl_set 15 (v' := .bool false) rfl (congrArg Value.bool (by decide)) ?_
  refine wl_nil ?_
  refine nx_then ?_
  refine gw_seq ?_
  refine gw_cond rfl (fun hh => by cases hh) (fun _ => ?_)
  refine gw_exit ?_
  refine nx_then_exit ?_
  refine nx_then_exit ?_
  refine nx_blk_here ?_
  refine nx_then ?_
  refine gw_seq ?_
  refine gw_region ?_
  refine wl_ov (ov_move rfl) rfl ?_
  refine wl_ov (ov_move rfl) rfl ?_
  refine wl_ov (ov_assign rfl) rfl ?_
  refine wl_ov (ov_assign rfl) rfl ?_
  refine wl_nil ?_
  refine nx_then ?_
  refine gw_ret ?_
  refine nx_ret2 rfl rfl rfl fun wx hm => ?_
  exact ⟨_, 2, rfl, hm.g, hm.rowOf 0 rfl rfl (by decide)⟩

end Go.Proofs.YtcggbojhalbkjaaGreatDoor
