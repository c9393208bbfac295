/- The odds by sets: hundred, atMost, SpreadOf, overOf, OverOf, MostOf; Most. -/
import Derived.Test.YtcggbojhalbkjaaDoorOb
import Derived.Test.YtcggbojhalbkjaaDoorOq
import Derived.Test.YtcggbojhalbkjaaDoorBt
import Derived.Test.YtcggbojhalbkjaaDoorSb
import Derived.Shelf.Bits.Mul64
namespace Go.Proofs.YtcggbojhalbkjaaDoor
open Go.RowKit

theorem pow_cast3 (k : Nat) : ((100 ^ k : Nat) : Int) * 100 = ((100 ^ (k + 1) : Nat) : Int) := by rw [Nat.pow_succ, Int.natCast_mul]; rfl
theorem bit_dec (t i : Nat) : decide (((t / 2 ^ i % 2 : Nat) : Int) = 1) = t.testBit i := by
  rw [bit_at]
  cases h : t.testBit i <;> simp
theorem prodA_yes {pl : List Nat} {t i P : Nat} (h : pl[i]? = some P) (hb : t.testBit i = true) : ((prodA pl t i : Nat) : Int) * (P : Int) = ((prodA pl t (i + 1) : Nat) : Int) := by
  have e : prodA pl t (i + 1) = prodA pl t i * (if t.testBit i then pl.getD i 0 else 100 - pl.getD i 0) := rfl
  rw [e, if_pos hb, List.getD_eq_getElem?_getD, h, Int.natCast_mul]; rfl
theorem prodA_no {pl : List Nat} {t i P : Nat} (h : pl[i]? = some P) (hP : P ≤ 100) (hb : t.testBit i = false) : ((prodA pl t i : Nat) : Int) * (100 - (P : Int)) = ((prodA pl t (i + 1) : Nat) : Int) := by
  have e : prodA pl t (i + 1) = prodA pl t i * (if t.testBit i then pl.getD i 0 else 100 - pl.getD i 0) := rfl
  rw [e, if_neg (by rw [hb]; decide), List.getD_eq_getElem?_getD, h, Int.natCast_mul]
  show _ = _ * ((100 - P : Nat) : Int)
  rw [Int.natCast_sub hP]; rfl
theorem popA_yes {t i : Nat} (hb : t.testBit i = true) : popA t (i + 1) = popA t i + 1 := by
  show popA t i + (if t.testBit i then 1 else 0) = _
  rw [hb]; rfl
theorem popA_no {t i : Nat} (hb : t.testBit i = false) : popA t (i + 1) = popA t i := by
  show popA t i + (if t.testBit i then 1 else 0) = _
  rw [hb]; rfl
theorem form_pcs {l : List Bk} (h : formE l = 0) : PcOk l := fun b hb => by
  unfold formE at h
  split at h
  · cases h
  · obtain ⟨q, hq⟩ := scanE_all h b hb
    unfold bookE at hq
    split at hq
    · cases hq
    · split at hq
      · cases hq
      · split at hq
        · cases hq
        · split at hq
          · cases hq
          · split at hq
            · cases hq
            · split at hq
              · cases hq
              · split at hq
                · cases hq
                · split at hq
                  · cases hq
                  · rename_i h8
                    exact inB_iff.1 (by simpa using h8)
theorem sum_takeO {D : List Nat} {k x : Nat} (h : D[k]? = some x) : (D.take (k + 1)).sum = (D.take k).sum + x := by
  rw [List.take_add_one, h, List.sum_append]; simp
theorem pcs_takeO (l : List Bk) (k : Nat) : pcs (l.take k) = (pcs l).take k := by unfold pcs; rw [List.map_take]
theorem mul64_any (x y : Nat) (hx : x < 18446744073709551616) (hy : y < 18446744073709551616) (w : World) :
    Calls Tryd.prog 56 #[.int .u64 (x : Int), .int .u64 (y : Int)] w fun e w' => e = .returned (.tuple #[.int .u64 ((x * y / 18446744073709551616 : Nat) : Int), .int .u64 ((x * y % 18446744073709551616 : Nat) : Int)]) ∧ w.grownBy w' none := by
  have hcon := Any.bits_Mul64 Tryd.lays264 x y hx hy w
  exact hcon.mono fun _ _ ⟨h1, h2⟩ => ⟨h1, by rw [h2]; exact World.grownBy.refl w none⟩

set_option maxRecDepth 100000 in
set_option maxHeartbeats 400000 in
theorem hundred_any (n : Nat) (w : World) (hn : n ≤ 9) :
    Calls Tryd.prog 60 #[.int .i64 ((n : Nat) : Int)] w (fun e w' => e = .returned (.int .i64 ((100 ^ n : Nat) : Int)) ∧ w.grownBy w' none) := by
  refine gw_enter ⟨11, w, none, []⟩ Tryd.func60 rfl Tryd.ntmps60 rfl (mem0 (X := []) allF_nil allL_nil) ?_
  refine gw_seq ?_
  refine gw_region ?_
  refine wl_ov (ov_assign rfl) rfl ?_
  refine wl_nil ?_
  refine nx_then ?_
  refine gw_seq ?_
  refine gw_region ?_
  refine wl_ov (ov_assign rfl) rfl ?_
  refine wl_nil ?_
  refine nx_then ?_
  refine gw_seq ?_
  refine gw_seq ?_
  refine gw_region ?_
  refine wl_ov (ov_move rfl) rfl ?_
  refine wl_ov (ov_move rfl) rfl ?_
  refine wl_nil ?_
  refine nx_then ?_
  refine gw_block ?_
  refine gw_loop (γ := Nat) (fun (k : Nat) => k ≤ n) (fun (k : Nat) => [(2, .int .i64 0), (3, .int .i64 ((100 ^ k : Nat) : Int)), (4, .int .i64 ((n : Nat) : Int)), (5, .int .i64 ((k : Nat) : Int))]) (fun (k : Nat) => fun _ => True) (fun (k : Nat) => []) (fun (k : Nat) => []) (fun (k : Nat) => []) (fun (k : Nat) => n - k) 0 (Nat.zero_le _) ⟨rfl, (some_int rfl), rfl, rfl, trivial⟩ (fun _ hm => hm.pick [] [] [] rfl rfl) ?_
  intro k hinv
  replace hinv : k ≤ n := hinv
  refine gw_seq ?_
  refine gw_region ?_
  refine wl_ov (ov_lss rfl rfl) rfl ?_
  refine wl_nil ?_
  refine nx_then ?_
  refine gw_seq ?_
  refine gw_cond rfl (fun hh => ?_) (fun hh => ?_)
  · have hk : ((k : Nat) : Int) < ((n : Nat) : Int) := by simpa using hh
    clear hh
    refine gw_skip ?_
    refine nx_then ?_
    refine gw_seq ?_
    refine gw_block ?_
    refine gw_region ?_
    obtain ⟨hx1, hx2, hx3⟩ := pow_le k (by omega)
    have hx4 := hx3 (by omega)
    refine wl_ov (ov_move rfl) rfl ?_
    refine wl_ov (ov_mul rfl rfl (by omega) (by omega)) rfl ?_
    refine wl_set 8 (v' := .int .i64 ((100 ^ (k + 1) : Nat) : Int)) rfl (congrArg (Value.int .i64) (pow_cast3 k)) ?_
    refine wl_ov (ov_assign rfl) rfl ?_
    refine wl_nil ?_
    refine nx_blk_nrm ?_
    refine nx_then ?_
    refine gw_region ?_
    refine wl_ov (ov_add rfl rfl (by omega) (by omega)) rfl ?_
    refine wl_ov (ov_move rfl) rfl ?_
    refine wl_nil ?_
    exact nx_round (k + 1) (by omega) (by omega) ⟨rfl, rfl, rfl, (some_int (by omega)), trivial⟩ (fun _ hm => hm.pick [] [] [] rfl rfl)
  · have hk : ¬ (((k : Nat) : Int) < ((n : Nat) : Int)) := by simpa using hh
    clear hh
    refine gw_exit ?_
    refine nx_then_exit ?_
    refine nx_then_exit ?_
    refine nx_blk_here ?_
    refine nx_then ?_
    refine gw_seq ?_
    refine gw_region ?_
    have hkn : k = n := by omega
    subst hkn
    refine wl_ov (ov_move rfl) rfl ?_
    refine wl_ov (ov_assign rfl) rfl ?_
    refine wl_nil ?_
    refine nx_then ?_
    refine gw_ret ?_
    refine nx_ret1 rfl rfl fun wx hm => ?_
    exact ⟨rfl, hm.g⟩

set_option maxRecDepth 100000 in
set_option maxHeartbeats 400000 in
theorem atMost_any (a0 b0 c0 d0 : Nat) (w : World) (hb : 0 < b0) (hd : 0 < d0) (h1 : a0 ≤ 1000000000000000000) (h2 : b0 ≤ 1000000000000000000) (h3 : c0 ≤ 1000000000000000000) (h4 : d0 ≤ 1000000000000000000) :
    Calls Tryd.prog 62 #[.agg #[.int .i64 ((a0 : Nat) : Int), .int .i64 ((b0 : Nat) : Int)], .agg #[.int .i64 ((c0 : Nat) : Int), .int .i64 ((d0 : Nat) : Int)]] w (fun e w' => e = .returned (.bool (decide (a0 * d0 ≤ c0 * b0))) ∧ w.grownBy w' none) := by
  refine gw_enter ⟨51, w, none, []⟩ Tryd.func62 rfl Tryd.ntmps62 rfl (mem0 (X := []) allF_nil allL_nil) ?_
  refine gw_seq ?_
  refine gw_region ?_
  refine wl_box rfl rfl rfl fun g1 => ?_
  refine wl_box rfl rfl rfl fun g2 => ?_
  refine wl_ov (ov_assign rfl) rfl ?_
  refine wl_nil ?_
  refine nx_then ?_
  refine gw_block ?_
  refine gw_loop (γ := Nat × Nat × Nat × Nat) (fun (g : Nat × Nat × Nat × Nat) => (g.1 * g.2.2.2 ≤ g.2.2.1 * g.2.1 ↔ a0 * d0 ≤ c0 * b0) ∧ 0 < g.2.1 ∧ 0 < g.2.2.2 ∧ g.1 ≤ 1000000000000000000 ∧ g.2.1 ≤ 1000000000000000000 ∧ g.2.2.1 ≤ 1000000000000000000 ∧ g.2.2.2 ≤ 1000000000000000000) (fun (g : Nat × Nat × Nat × Nat) => [(2, .pointer (some ⟨g1, 0, none⟩)), (3, .pointer (some ⟨g2, 0, none⟩))]) (fun (g : Nat × Nat × Nat × Nat) => fun _ => True) (fun (g : Nat × Nat × Nat × Nat) => [(g2, 35, [.int .i64 ((g.2.2.1 : Nat) : Int), .int .i64 ((g.2.2.2 : Nat) : Int)]), (g1, 35, [.int .i64 ((g.1 : Nat) : Int), .int .i64 ((g.2.1 : Nat) : Int)])]) (fun (g : Nat × Nat × Nat × Nat) => []) (fun (g : Nat × Nat × Nat × Nat) => []) (fun (g : Nat × Nat × Nat × Nat) => g.2.1 + g.2.2.2) (a0, b0, c0, d0) ⟨Iff.rfl, hb, hd, h1, h2, h3, h4⟩ ⟨rfl, rfl, trivial⟩ (fun _ hm => hm.pick [0, 1] [] [] rfl rfl) ?_
  rintro ⟨a, b, c, d⟩ hinv
  replace hinv : (a * d ≤ c * b ↔ a0 * d0 ≤ c0 * b0) ∧ 0 < b ∧ 0 < d ∧ a ≤ 1000000000000000000 ∧ b ≤ 1000000000000000000 ∧ c ≤ 1000000000000000000 ∧ d ≤ 1000000000000000000 := hinv
  dsimp only
  refine gw_block ?_
  refine gw_seq ?_
  obtain ⟨hi0, hi1, hi2, hi3, hi4, hi5, hi6⟩ := hinv
  have hx := Nat.mod_lt a hi1
  have hy := Nat.mod_lt c hi2
  refine gw_draw (fun wz => Blk wz g2 35 [.int .i64 ((c : Nat) : Int), .int .i64 ((d : Nat) : Int)] ∧ Blk wz g1 35 [.int .i64 ((a : Nat) : Int), .int .i64 ((b : Nat) : Int)] ∧ True) mixed ?_
  refine wa_take 0 rfl (by kernel_rfl) (by kernel_rfl) (by kernel_rfl) (listed' := #[true, false, false, false, false, false, false, false, false, false, false, false]) rfl (fun _ _ _ h => h) (fun _ hm => ⟨hm.blkI 0 rfl, hm.blkI 1 rfl, trivial⟩) (ov_field fo35_0 rfl rfl) rfl ?_
  refine wa_take 1 rfl (by kernel_rfl) (by kernel_rfl) (by kernel_rfl) (listed' := #[true, true, false, false, false, false, false, false, false, false, false, false]) rfl (fun _ _ _ h => h) (fun _ hm => ⟨hm.blkI 0 rfl, hm.blkI 1 rfl, trivial⟩) (ov_load sc3 rfl (fun _ hm => hm.2.1) rfl) rfl ?_
  refine wa_take 2 rfl (by kernel_rfl) (by kernel_rfl) (by kernel_rfl) (listed' := #[true, true, true, false, false, false, false, false, false, false, false, false]) rfl (fun _ _ _ h => h) (fun _ hm => ⟨hm.blkI 0 rfl, hm.blkI 1 rfl, trivial⟩) (ov_field fo35_1 rfl rfl) rfl ?_
  refine wa_take 3 rfl (by kernel_rfl) (by kernel_rfl) (by kernel_rfl) (listed' := #[true, true, true, true, false, false, false, false, false, false, false, false]) rfl (fun _ _ _ h => h) (fun _ hm => ⟨hm.blkI 0 rfl, hm.blkI 1 rfl, trivial⟩) (ov_load sc3 rfl (fun _ hm => hm.2.1) rfl) rfl ?_
  refine wa_take 4 rfl (by kernel_rfl) (by kernel_rfl) (by kernel_rfl) (listed' := #[true, true, true, true, true, false, false, false, false, false, false, false]) rfl (fun _ _ _ h => h) (fun _ hm => ⟨hm.blkI 0 rfl, hm.blkI 1 rfl, trivial⟩) (ov_quo rfl rfl (by omega) (by omega) (by omega)) rfl ?_
  refine wa_set 13 (v' := .int .i64 ((a / b : Nat) : Int)) rfl (congrArg (Value.int .i64) (Int.natCast_ediv a b).symm) ?_
  refine wa_take 5 rfl (by kernel_rfl) (by kernel_rfl) (by kernel_rfl) (listed' := #[true, true, true, true, true, true, false, false, false, false, false, false]) rfl (fun _ _ _ h => h) (fun _ hm => ⟨hm.blkI 0 rfl, hm.blkI 1 rfl, trivial⟩) (ov_field fo35_0 rfl rfl) rfl ?_
  refine wa_take 6 rfl (by kernel_rfl) (by kernel_rfl) (by kernel_rfl) (listed' := #[true, true, true, true, true, true, true, false, false, false, false, false]) rfl (fun _ _ _ h => h) (fun _ hm => ⟨hm.blkI 0 rfl, hm.blkI 1 rfl, trivial⟩) (ov_load sc3 rfl (fun _ hm => hm.1) rfl) rfl ?_
  refine wa_take 7 rfl (by kernel_rfl) (by kernel_rfl) (by kernel_rfl) (listed' := #[true, true, true, true, true, true, true, true, false, false, false, false]) rfl (fun _ _ _ h => h) (fun _ hm => ⟨hm.blkI 0 rfl, hm.blkI 1 rfl, trivial⟩) (ov_field fo35_1 rfl rfl) rfl ?_
  refine wa_take 8 rfl (by kernel_rfl) (by kernel_rfl) (by kernel_rfl) (listed' := #[true, true, true, true, true, true, true, true, true, false, false, false]) rfl (fun _ _ _ h => h) (fun _ hm => ⟨hm.blkI 0 rfl, hm.blkI 1 rfl, trivial⟩) (ov_load sc3 rfl (fun _ hm => hm.1) rfl) rfl ?_
  refine wa_take 9 rfl (by kernel_rfl) (by kernel_rfl) (by kernel_rfl) (listed' := #[true, true, true, true, true, true, true, true, true, true, false, false]) rfl (fun _ _ _ h => h) (fun _ hm => ⟨hm.blkI 0 rfl, hm.blkI 1 rfl, trivial⟩) (ov_quo rfl rfl (by omega) (by omega) (by omega)) rfl ?_
  refine wa_set 18 (v' := .int .i64 ((c / d : Nat) : Int)) rfl (congrArg (Value.int .i64) (Int.natCast_ediv c d).symm) ?_
  refine wa_take 10 rfl (by kernel_rfl) (by kernel_rfl) (by kernel_rfl) (listed' := #[true, true, true, true, true, true, true, true, true, true, true, false]) rfl (fun _ _ _ h => h) (fun _ hm => ⟨hm.blkI 0 rfl, hm.blkI 1 rfl, trivial⟩) (ov_assign rfl) rfl ?_
  refine wa_take 11 rfl (by kernel_rfl) (by kernel_rfl) (by kernel_rfl) (listed' := #[true, true, true, true, true, true, true, true, true, true, true, true]) rfl (fun _ _ _ h => h) (fun _ hm => ⟨hm.blkI 0 rfl, hm.blkI 1 rfl, trivial⟩) (ov_assign rfl) rfl ?_
  refine wa_done (by kernel_rfl) ?_
  refine nx_then ?_
  refine gw_seq ?_
  refine gw_seq ?_
  refine gw_region ?_
  refine wl_ov (ov_move rfl) rfl ?_
  refine wl_ov (ov_move rfl) rfl ?_
  refine wl_ov (ov_neq rfl rfl) rfl ?_
  refine wl_nil ?_
  refine nx_then ?_
  refine gw_cond rfl (fun hh => ?_) (fun hh => ?_)
  · have hq : ¬ (((a / b : Nat) : Int) = ((c / d : Nat) : Int)) := by simpa using hh
    clear hh
    refine gw_seq ?_
    refine gw_region ?_
    refine wl_ov (ov_move rfl) rfl ?_
    refine wl_ov (ov_move rfl) rfl ?_
    refine wl_ov (ov_lss rfl rfl) rfl ?_
    refine wl_ov (ov_assign rfl) rfl ?_
    refine wl_nil ?_
    refine nx_then ?_
    refine gw_ret ?_
    refine nx_then_ret ?_
    refine nx_blk_ret ?_
    refine nx_then_ret ?_
    refine nx_blk_ret ?_
    have hne : a / b ≠ c / d := by omega
    have hle := hi0.symm.trans (most_quo hi1 hi2 hne)
    have hA : decide (a0 * d0 ≤ c0 * b0) = decide (((a / b : Nat) : Int) < ((c / d : Nat) : Int)) := decide_eq_decide.2 (hle.trans ⟨fun x => Int.ofNat_lt.2 x, fun x => Int.ofNat_lt.1 x⟩)
    refine nx_ret1 rfl rfl fun wx hm => ?_
    exact ⟨by rw [hA], hm.g⟩
  · have hq : ((a / b : Nat) : Int) = ((c / d : Nat) : Int) := by simpa using hh
    clear hh
    refine gw_skip ?_
    refine nx_then ?_
    refine gw_seq ?_
    have hst := most_step (a := a) (b := b) (c := c) (d := d) (by omega)
    have hst2 := hi0.symm.trans hst
    refine gw_draw (fun wz => Blk wz g2 35 [.int .i64 ((c : Nat) : Int), .int .i64 ((d : Nat) : Int)] ∧ Blk wz g1 35 [.int .i64 ((a : Nat) : Int), .int .i64 ((b : Nat) : Int)] ∧ True) mixed ?_
    refine wa_take 0 rfl (by kernel_rfl) (by kernel_rfl) (by kernel_rfl) (listed' := #[true, false, false, false, false, false, false, false, false, false, false, false]) rfl (fun _ _ _ h => h) (fun _ hm => ⟨hm.blkI 0 rfl, hm.blkI 1 rfl, trivial⟩) (ov_field fo35_0 rfl rfl) rfl ?_
    refine wa_take 1 rfl (by kernel_rfl) (by kernel_rfl) (by kernel_rfl) (listed' := #[true, true, false, false, false, false, false, false, false, false, false, false]) rfl (fun _ _ _ h => h) (fun _ hm => ⟨hm.blkI 0 rfl, hm.blkI 1 rfl, trivial⟩) (ov_load sc3 rfl (fun _ hm => hm.2.1) rfl) rfl ?_
    refine wa_take 2 rfl (by kernel_rfl) (by kernel_rfl) (by kernel_rfl) (listed' := #[true, true, true, false, false, false, false, false, false, false, false, false]) rfl (fun _ _ _ h => h) (fun _ hm => ⟨hm.blkI 0 rfl, hm.blkI 1 rfl, trivial⟩) (ov_field fo35_1 rfl rfl) rfl ?_
    refine wa_take 3 rfl (by kernel_rfl) (by kernel_rfl) (by kernel_rfl) (listed' := #[true, true, true, true, false, false, false, false, false, false, false, false]) rfl (fun _ _ _ h => h) (fun _ hm => ⟨hm.blkI 0 rfl, hm.blkI 1 rfl, trivial⟩) (ov_load sc3 rfl (fun _ hm => hm.2.1) rfl) rfl ?_
    refine wa_take 4 rfl (by kernel_rfl) (by kernel_rfl) (by kernel_rfl) (listed' := #[true, true, true, true, true, false, false, false, false, false, false, false]) rfl (fun _ _ _ h => h) (fun _ hm => ⟨hm.blkI 0 rfl, hm.blkI 1 rfl, trivial⟩) (ov_rem rfl rfl (by omega) (by omega) (by omega)) rfl ?_
    refine wa_set 29 (v' := .int .i64 ((a % b : Nat) : Int)) rfl (congrArg (Value.int .i64) (Int.natCast_emod a b).symm) ?_
    refine wa_take 5 rfl (by kernel_rfl) (by kernel_rfl) (by kernel_rfl) (listed' := #[true, true, true, true, true, true, false, false, false, false, false, false]) rfl (fun _ _ _ h => h) (fun _ hm => ⟨hm.blkI 0 rfl, hm.blkI 1 rfl, trivial⟩) (ov_field fo35_0 rfl rfl) rfl ?_
    refine wa_take 6 rfl (by kernel_rfl) (by kernel_rfl) (by kernel_rfl) (listed' := #[true, true, true, true, true, true, true, false, false, false, false, false]) rfl (fun _ _ _ h => h) (fun _ hm => ⟨hm.blkI 0 rfl, hm.blkI 1 rfl, trivial⟩) (ov_load sc3 rfl (fun _ hm => hm.1) rfl) rfl ?_
    refine wa_take 7 rfl (by kernel_rfl) (by kernel_rfl) (by kernel_rfl) (listed' := #[true, true, true, true, true, true, true, true, false, false, false, false]) rfl (fun _ _ _ h => h) (fun _ hm => ⟨hm.blkI 0 rfl, hm.blkI 1 rfl, trivial⟩) (ov_field fo35_1 rfl rfl) rfl ?_
    refine wa_take 8 rfl (by kernel_rfl) (by kernel_rfl) (by kernel_rfl) (listed' := #[true, true, true, true, true, true, true, true, true, false, false, false]) rfl (fun _ _ _ h => h) (fun _ hm => ⟨hm.blkI 0 rfl, hm.blkI 1 rfl, trivial⟩) (ov_load sc3 rfl (fun _ hm => hm.1) rfl) rfl ?_
    refine wa_take 9 rfl (by kernel_rfl) (by kernel_rfl) (by kernel_rfl) (listed' := #[true, true, true, true, true, true, true, true, true, true, false, false]) rfl (fun _ _ _ h => h) (fun _ hm => ⟨hm.blkI 0 rfl, hm.blkI 1 rfl, trivial⟩) (ov_rem rfl rfl (by omega) (by omega) (by omega)) rfl ?_
    refine wa_set 34 (v' := .int .i64 ((c % d : Nat) : Int)) rfl (congrArg (Value.int .i64) (Int.natCast_emod c d).symm) ?_
    refine wa_take 10 rfl (by kernel_rfl) (by kernel_rfl) (by kernel_rfl) (listed' := #[true, true, true, true, true, true, true, true, true, true, true, false]) rfl (fun _ _ _ h => h) (fun _ hm => ⟨hm.blkI 0 rfl, hm.blkI 1 rfl, trivial⟩) (ov_assign rfl) rfl ?_
    refine wa_take 11 rfl (by kernel_rfl) (by kernel_rfl) (by kernel_rfl) (listed' := #[true, true, true, true, true, true, true, true, true, true, true, true]) rfl (fun _ _ _ h => h) (fun _ hm => ⟨hm.blkI 0 rfl, hm.blkI 1 rfl, trivial⟩) (ov_assign rfl) rfl ?_
    refine wa_done (by kernel_rfl) ?_
    refine nx_then ?_
    refine gw_seq ?_
    refine gw_seq ?_
    refine gw_region ?_
    refine wl_ov (ov_move rfl) rfl ?_
    refine wl_ov (ov_eql rfl rfl) rfl ?_
    refine wl_ov (ov_move rfl) rfl ?_
    rcases Bool.eq_false_or_eq_true (decide (((a % b : Nat) : Int) = 0)) with h5 | h5
    · refine wl_set 37 rfl (congrArg Value.bool h5) ?_
      have hx0 : a % b = 0 := by have := of_decide_eq_true h5; omega
      have hF : decide (a0 * d0 ≤ c0 * b0) = true := decide_eq_true (hst2.2 (by rw [hx0, Nat.mul_zero]; exact Nat.zero_le _))
      refine wl_guard_off rfl rfl rfl (by decide) rfl ?_
      refine wl_guard_off rfl rfl rfl (by decide) rfl ?_
      refine wl_ov (ov_pick_t rfl rfl) rfl ?_
      refine wl_nil ?_
      refine nx_then ?_
      refine gw_cond rfl (fun _ => ?_) (fun hh => by cases hh)
      refine gw_seq ?_
      refine gw_region ?_
      refine wl_ov (ov_move rfl) rfl ?_
      refine wl_ov (ov_eql rfl rfl) rfl ?_
      refine wl_set 42 (v' := .bool true) rfl (congrArg Value.bool (decide_eq_true (by omega))) ?_
      refine wl_ov (ov_assign rfl) rfl ?_
      refine wl_nil ?_
      refine nx_then ?_
      refine gw_ret ?_
      refine nx_then_ret ?_
      refine nx_blk_ret ?_
      refine nx_then_ret ?_
      refine nx_blk_ret ?_
      refine nx_ret1 rfl rfl fun wx hm => ?_
      exact ⟨by rw [hF], hm.g⟩
    · refine wl_set 37 rfl (congrArg Value.bool h5) ?_
      have hx0 : a % b ≠ 0 := by have := of_decide_eq_false h5; omega
      refine wl_guard_on rfl rfl rfl ?_
      refine wl_ov (ov_move rfl) rfl ?_
      refine wl_guard_on rfl rfl rfl ?_
      refine wl_ov (ov_eql rfl rfl) rfl ?_
      refine wl_ov (ov_pick_f rfl rfl) rfl ?_
      refine wl_nil ?_
      refine nx_then ?_
      refine gw_cond rfl (fun hh => ?_) (fun hh => ?_)
      · have h6 : ((c % d : Nat) : Int) = 0 := by simpa using hh
        clear hh
        refine gw_seq ?_
        refine gw_region ?_
        have hy0 : c % d = 0 := by omega
        have hF : decide (a0 * d0 ≤ c0 * b0) = false := decide_eq_false (fun h => by
          have h7 := hst2.1 h
          rw [hy0, Nat.mul_zero] at h7
          have := Nat.mul_pos hi2 (show 0 < a % b by omega)
          omega)
        refine wl_ov (ov_move rfl) rfl ?_
        refine wl_ov (ov_eql rfl rfl) rfl ?_
        refine wl_set 42 (v' := .bool false) rfl (congrArg Value.bool (decide_eq_false (by omega))) ?_
        refine wl_ov (ov_assign rfl) rfl ?_
        refine wl_nil ?_
        refine nx_then ?_
        refine gw_ret ?_
        refine nx_then_ret ?_
        refine nx_blk_ret ?_
        refine nx_then_ret ?_
        refine nx_blk_ret ?_
        refine nx_ret1 rfl rfl fun wx hm => ?_
        exact ⟨by rw [hF], hm.g⟩
      · have h6 : ¬ (((c % d : Nat) : Int) = 0) := by simpa using hh
        clear hh
        refine gw_skip ?_
        refine nx_then ?_
        refine gw_region ?_
        refine wl_ov (ov_field fo35_1 rfl rfl) rfl ?_
        refine wl_ov (ov_load sc3 rfl (fun _ hm => hm.blkI 0 rfl) rfl) rfl ?_
        refine wl_ov (ov_move rfl) rfl ?_
        refine wl_ov (ov_build (cs := [.int .i64 ((d : Nat) : Int), .int .i64 ((c % d : Nat) : Int)]) rfl (by kernel_rfl)) rfl ?_
        refine wl_ov (ov_field fo35_1 rfl rfl) rfl ?_
        refine wl_ov (ov_load sc3 rfl (fun _ hm => hm.blkI 1 rfl) rfl) rfl ?_
        refine wl_ov (ov_move rfl) rfl ?_
        refine wl_ov (ov_build (cs := [.int .i64 ((b : Nat) : Int), .int .i64 ((a % b : Nat) : Int)]) rfl (by kernel_rfl)) rfl ?_
        refine wl_stores (cs' := [.int .i64 ((d : Nat) : Int), .int .i64 ((c % d : Nat) : Int)]) 1 rz35 rfl rfl rfl rfl rfl rfl rfl rfl ?_
        refine wl_stores (cs' := [.int .i64 ((b : Nat) : Int), .int .i64 ((a % b : Nat) : Int)]) 0 rz35 rfl rfl rfl rfl rfl rfl rfl rfl ?_
        refine wl_nil ?_
        refine nx_blk_nrm ?_
        exact nx_round (d, c % d, b, a % b) ⟨hst2.symm, by dsimp only; omega, by dsimp only; omega, by dsimp only; omega, by dsimp only; omega, by dsimp only; omega, by dsimp only; omega⟩ (by dsimp only; omega) ⟨rfl, rfl, trivial⟩ (fun _ hm => hm.pick [0, 1] [] [] rfl rfl)

set_option maxRecDepth 100000 in
set_option maxHeartbeats 1000000 in
theorem spreadOf_own (l : List Bk) (A : Option Addr) (n c : Nat) (w : World) (hl : SlT bkEnc 6 33 w A n l) (hpc : PcOk l) (hn : n ≤ 9) :
    Calls Tryd.prog 17 #[.slice A n c] w (fun e w' => ∃ A4 c4, e = .returned (.slice A4 (n + 1) c4) ∧ w'.ownsRow w.heap.size 35 2 (.slice A4 (n + 1) c4) (n + 1) (((spreadP (pcs l)).map (fun x => lowF x (100 ^ n))).flatMap frEnc) ∧ w.grownBy w' none) := by
  refine gw_enter ⟨70, w, none, []⟩ Tryd.func17 rfl Tryd.ntmps17 rfl (mem0 (X := [SlOld bkEnc 6 33 w.heap.size none A n l]) (allF_cons hl.old allF_nil) (allL_cons SlOld.lasts allL_nil)) ?_
  refine gw_seq ?_
  refine gw_region ?_
  have hlen := hl.len
  obtain ⟨pl, hpl⟩ : ∃ p, p = pcs l := ⟨_, rfl⟩
  have hp100 : ∀ P ∈ pl, P ≤ 100 := by rw [hpl]; exact pcs_le hpc
  have hpn : pl.length = n := by rw [hpl, pcs_len, hlen]
  rw [← hpl]
  have h2n : 2 ^ n ≤ 512 := Nat.pow_le_pow_right (n := 2) (by decide) hn
  refine wl_ov (ov_assign rfl) rfl ?_
  refine wl_nil ?_
  refine nx_then ?_
  refine gw_seq ?_
  refine gw_region ?_
  refine wl_ov (ov_move rfl) rfl ?_
  refine wl_ov (ov_len es26 rfl) rfl ?_
  refine wl_ov (ov_add rfl rfl (by omega) (by omega)) rfl ?_
  refine wl_set 14 (v' := .int .i64 ((n + 1 : Nat) : Int)) rfl (congrArg (Value.int .i64) (by omega)) ?_
  refine wl_makeO (n := (n + 1)) (sz := 1) (e := 3) (by_ := 8) (z := .int .i64 0) (by kernel_rfl) (by kernel_rfl) rfl rfl (by omega) (by omega) (by omega) (by unfold maxLen; omega) (made_flat (enc := ntEnc) (x := 0) rfl rfl (by decide) (n + 1)) rfl fun g1 => ?_
  refine wl_ov (ov_assign rfl) rfl ?_
  refine wl_nil ?_
  refine nx_then ?_
  refine gw_seq ?_
  refine gw_seq ?_
  refine gw_region ?_
  refine wl_ov (ov_move rfl) rfl ?_
  refine wl_ov (ov_len es26 rfl) rfl ?_
  refine wl_ov (ov_shl1 (n := n) rfl rfl (by omega)) rfl ?_
  refine wl_ov (ov_move rfl) rfl ?_
  refine wl_nil ?_
  refine nx_then ?_
  refine gw_block ?_
  refine gw_loop (γ := Nat × List Nat) (fun (g : Nat × List Nat) => g.1 ≤ 2 ^ n ∧ g.2 = rowA pl n g.1) (fun (g : Nat × List Nat) => [(0, .slice A n c), (2, .slice none 0 0), (3, .slice (some ⟨g1, 0, none⟩) (n + 1) (n + 1)), (18, .int .i64 ((2 ^ n : Nat) : Int)), (19, .int .i64 ((g.1 : Nat) : Int))]) (fun (g : Nat × List Nat) => fun _ => True) (fun (g : Nat × List Nat) => []) (fun (g : Nat × List Nat) => [⟨.slice (some ⟨g1, 0, none⟩) (n + 1) (n + 1), 3, 1, (n + 1), g.2.flatMap ntEnc⟩]) (fun (g : Nat × List Nat) => [SlOld bkEnc 6 33 w.heap.size none A n l]) (fun (g : Nat × List Nat) => 2 ^ n - g.1) (0, List.replicate (n + 1) 0) ⟨Nat.zero_le _, (rowA_zero pl n).symm⟩ ⟨rfl, rfl, rfl, rfl, rfl, trivial⟩ (fun _ hm => hm.pick [] [0] [0] rfl rfl) ?_
  rintro ⟨t, E⟩ hinv
  replace hinv : t ≤ 2 ^ n ∧ E = rowA pl n t := hinv
  dsimp only
  refine gw_seq ?_
  refine gw_region ?_
  obtain ⟨ht0, rfl⟩ := hinv
  refine wl_ov (ov_lss rfl rfl) rfl ?_
  refine wl_nil ?_
  refine nx_then ?_
  refine gw_seq ?_
  refine gw_cond rfl (fun hh => ?_) (fun hh => ?_)
  · have ht : ((t : Nat) : Int) < ((2 ^ n : Nat) : Int) := by simpa using hh
    clear hh
    refine gw_skip ?_
    refine nx_then ?_
    refine gw_seq ?_
    refine gw_block ?_
    refine gw_seq ?_
    refine gw_region ?_
    refine wl_ov (ov_move rfl) rfl ?_
    refine wl_ov (ov_assign rfl) rfl ?_
    refine wl_nil ?_
    refine nx_then ?_
    refine gw_seq ?_
    refine gw_region ?_
    refine wl_ov (ov_assign rfl) rfl ?_
    refine wl_ov (ov_assign rfl) rfl ?_
    refine wl_nil ?_
    refine nx_then ?_
    refine gw_seq ?_
    refine gw_seq ?_
    refine gw_region ?_
    refine wl_ov (ov_move rfl) rfl ?_
    refine wl_ov (ov_len es26 rfl) rfl ?_
    refine wl_ov (ov_move rfl) rfl ?_
    refine wl_nil ?_
    refine nx_then ?_
    refine gw_block ?_
    refine gw_loop (γ := Nat) (fun (i : Nat) => i ≤ n) (fun (i : Nat) => [(0, .slice A n c), (2, .slice none 0 0), (3, .slice (some ⟨g1, 0, none⟩) (n + 1) (n + 1)), (4, .int .i64 ((t : Nat) : Int)), (5, .int .i64 ((prodA pl t i : Nat) : Int)), (6, .int .i64 ((popA t i : Nat) : Int)), (18, .int .i64 ((2 ^ n : Nat) : Int)), (19, .int .i64 ((t : Nat) : Int)), (22, .slice A n c), (23, .int .i64 ((n : Nat) : Int)), (24, .int .i64 ((i : Nat) : Int))]) (fun (i : Nat) => fun _ => True) (fun (i : Nat) => []) (fun (i : Nat) => [⟨.slice (some ⟨g1, 0, none⟩) (n + 1) (n + 1), 3, 1, (n + 1), (rowA pl n t).flatMap ntEnc⟩]) (fun (i : Nat) => [SlOld bkEnc 6 33 w.heap.size none A n l]) (fun (i : Nat) => n - i) 0 (Nat.zero_le _) ⟨rfl, rfl, rfl, rfl, (some_int rfl), (some_int rfl), rfl, rfl, rfl, rfl, rfl, trivial⟩ (fun _ hm => hm.pick [] [0] [0] rfl rfl) ?_
    intro i hinv
    replace hinv : i ≤ n := hinv
    refine gw_seq ?_
    refine gw_region ?_
    refine wl_ov (ov_lss rfl rfl) rfl ?_
    refine wl_nil ?_
    refine nx_then ?_
    refine gw_seq ?_
    refine gw_cond rfl (fun hh => ?_) (fun hh => ?_)
    · have hi : ((i : Nat) : Int) < ((n : Nat) : Int) := by simpa using hh
      clear hh
      refine gw_skip ?_
      refine nx_then ?_
      refine gw_seq ?_
      refine gw_block ?_
      refine gw_seq ?_
      refine gw_region ?_
      obtain ⟨b, off, hA, _, _⟩ := hl.get (by omega)
      subst hA
      obtain ⟨x, hx⟩ : ∃ x, l[i]? = some x := ⟨_, List.getElem?_eq_getElem (by omega)⟩
      have hpx := pcs_at hx
      rw [← hpl] at hpx
      have hod := hpc _ (List.mem_of_getElem? hx)
      obtain ⟨ke, cl, fr, tt, md, od⟩ := x
      obtain ⟨hod0, hod1⟩ : 0 ≤ od ∧ od ≤ 100 := hod
      obtain ⟨P, rfl⟩ := Int.eq_ofNat_of_zero_le hod0
      have hP : P ≤ 100 := by omega
      have hpx : pl[i]? = some P := hpx
      have hpr := prodA_le hp100 t (i + 1) (by omega)
      have hpr0 := prodA_le hp100 t i (by omega)
      obtain ⟨hw1, hw2, _⟩ := pow_le (i + 1) (by omega)
      obtain ⟨hw3, hw4, _⟩ := pow_le i (by omega)
      have htb : t ≤ 1000000 := by omega
      have hdv := Nat.div_le_self t (2 ^ i)
      refine wl_ov (ov_move rfl) rfl ?_
      refine wl_ov (ov_index (j := i) es26 rfl rfl (by omega)) rfl ?_
      refine wl_ov (ov_elem (vs := [.string ke, .string cl, .int .i64 fr, .int .i64 tt, .int .i64 md, .int .i64 ((P : Nat) : Int)]) rz33 rfl (fun _ hm => (hm.fact 0 rfl).1) hx rfl rfl) rfl ?_
      refine wl_alloc zc33 rfl fun g2 => ?_
      refine wl_ov (ov_assign rfl) rfl ?_
      refine wl_stores (cs' := [.string ke, .string cl, .int .i64 fr, .int .i64 tt, .int .i64 md, .int .i64 ((P : Nat) : Int)]) 0 rz33 rfl rfl rfl rfl rfl rfl rfl rfl ?_
      refine wl_nil ?_
      refine nx_then ?_
      refine gw_seq ?_
      refine gw_region ?_
      refine wl_ov (ov_move rfl) rfl ?_
      refine wl_ov (ov_move rfl) rfl ?_
      refine wl_ov (ov_shr (a := t) (n := i) rfl rfl (by omega)) rfl ?_
      refine wl_ov (ov_and1 (a := t / 2 ^ i) rfl rfl (by omega)) rfl ?_
      refine wl_ov (ov_eql rfl rfl) rfl ?_
      refine wl_set 33 (v' := .bool (t.testBit i)) rfl (congrArg Value.bool (bit_dec t i)) ?_
      refine wl_nil ?_
      refine nx_then ?_
      refine gw_cond rfl (fun hh => ?_) (fun hh => ?_)
      · have hb : (t.testBit i) = true := by simpa using hh
        clear hh
        refine gw_seq ?_
        refine gw_region ?_
        have hpy := prodA_yes hpx hb
        have hpo := popA_yes hb
        refine wl_ov (ov_move rfl) rfl ?_
        refine wl_ov (ov_field fo33_4 rfl rfl) rfl ?_
        refine wl_ov (ov_load sc3 rfl (fun _ hm => hm.blkI 0 rfl) rfl) rfl ?_
        refine wl_ov (ov_mul rfl rfl (by rw [hpy]; omega) (by rw [hpy]; omega)) rfl ?_
        refine wl_set 37 (v' := .int .i64 ((prodA pl t (i + 1) : Nat) : Int)) rfl (congrArg (Value.int .i64) hpy) ?_
        refine wl_ov (ov_assign rfl) rfl ?_
        refine wl_nil ?_
        refine nx_then ?_
        refine gw_region ?_
        refine wl_ov (ov_move rfl) rfl ?_
        refine wl_ov (ov_add rfl rfl (by have := popA_le t i; omega) (by have := popA_le t i; omega)) rfl ?_
        refine wl_set 39 (v' := .int .i64 ((popA t (i + 1) : Nat) : Int)) rfl (congrArg (Value.int .i64) (by omega)) ?_
        refine wl_ov (ov_assign rfl) rfl ?_
        refine wl_nil ?_
        refine nx_blk_nrm ?_
        refine nx_then ?_
        refine gw_region ?_
        refine wl_ov (ov_add rfl rfl (by omega) (by omega)) rfl ?_
        refine wl_ov (ov_move rfl) rfl ?_
        refine wl_nil ?_
        exact nx_round (i + 1) (by omega) (by omega) ⟨rfl, rfl, rfl, rfl, rfl, rfl, rfl, rfl, rfl, rfl, (some_int (by omega)), trivial⟩ (fun _ hm => hm.pick [] [0] [0] rfl rfl)
      · have hb : (t.testBit i) = false := by simpa using hh
        clear hh
        refine gw_region ?_
        have hpy := prodA_no hpx hP hb
        have hpo := popA_no hb
        refine wl_ov (ov_move rfl) rfl ?_
        refine wl_ov (ov_field fo33_4 rfl rfl) rfl ?_
        refine wl_ov (ov_load sc3 rfl (fun _ hm => hm.blkI 0 rfl) rfl) rfl ?_
        refine wl_ov (ov_sub rfl rfl (by omega) (by omega)) rfl ?_
        refine wl_ov (ov_mul rfl rfl (by rw [hpy]; omega) (by rw [hpy]; omega)) rfl ?_
        refine wl_set 44 (v' := .int .i64 ((prodA pl t (i + 1) : Nat) : Int)) rfl (congrArg (Value.int .i64) hpy) ?_
        refine wl_ov (ov_assign rfl) rfl ?_
        refine wl_nil ?_
        refine nx_blk_nrm ?_
        refine nx_then ?_
        refine gw_region ?_
        refine wl_ov (ov_add rfl rfl (by omega) (by omega)) rfl ?_
        refine wl_ov (ov_move rfl) rfl ?_
        refine wl_nil ?_
        exact nx_round (i + 1) (by omega) (by omega) ⟨rfl, rfl, rfl, rfl, rfl, (some_int (by rw [hpo])), rfl, rfl, rfl, rfl, (some_int (by omega)), trivial⟩ (fun _ hm => hm.pick [] [0] [0] rfl rfl)
    · have hi : ¬ (((i : Nat) : Int) < ((n : Nat) : Int)) := by simpa using hh
      clear hh
      refine gw_exit ?_
      refine nx_then_exit ?_
      refine nx_then_exit ?_
      refine nx_blk_here ?_
      refine nx_then ?_
      refine gw_region ?_
      have hin : i = n := by omega
      subst hin
      have hpo := popA_le t i
      have hat := rowA_at pl t hpo
      have hrl := rowA_len pl i t
      have hst := rowA_step pl i t
      have hcl := cntA_le hp100 (N := t) (popA t i) (show i ≤ pl.length by omega) (by omega)
      have hpr := prodA_le hp100 t i (by omega)
      obtain ⟨hw1, hw2, _⟩ := pow_le i (by omega)
      refine wl_ov (ov_move rfl) rfl ?_
      refine wl_ov (ov_move rfl) rfl ?_
      refine wl_ov (ov_index (j := popA t i) es22 rfl rfl (by omega)) rfl ?_
      refine wl_ov (ov_elem1 (k := 0) (v := .int .i64 ((cntA pl i t (popA t i) : Nat) : Int)) sc3 rfl (fun _ hm => (SlT.ofOwn nt_len (hm.ownI 0 rfl) hrl)) hat rfl rfl) rfl ?_
      refine wl_ov (ov_move rfl) rfl ?_
      refine wl_ov (ov_add rfl rfl (by omega) (by omega)) rfl ?_
      refine wl_set 51 (v' := .int .i64 ((cntA pl i t (popA t i) + prodA pl t i : Nat) : Int)) rfl (congrArg (Value.int .i64) (by omega)) ?_
      refine wl_ov (ov_index (j := popA t i) es22 rfl rfl (by omega)) rfl ?_
      refine wl_storeE (l := (rowA pl i t)) (j := (popA t i)) (r := 0) (el := (cntA pl i t (popA t i))) (el' := (cntA pl i t (popA t i) + prodA pl t i)) 0 sc3 rfl rfl rfl rfl nt_len rfl hat hrl (by decide) rfl rfl ?_
      rw [hst]
      refine wl_nil ?_
      refine nx_blk_nrm ?_
      refine nx_then ?_
      refine gw_region ?_
      refine wl_ov (ov_add rfl rfl (by omega) (by omega)) rfl ?_
      refine wl_ov (ov_move rfl) rfl ?_
      refine wl_nil ?_
      exact nx_round (t + 1, rowA pl i (t + 1)) ⟨by dsimp only; omega, rfl⟩ (by dsimp only; omega) ⟨rfl, rfl, rfl, rfl, (some_int (by omega)), trivial⟩ (fun _ hm => hm.pick [] [0] [0] rfl rfl)
  · have ht : ¬ (((t : Nat) : Int) < ((2 ^ n : Nat) : Int)) := by simpa using hh
    clear hh
    refine gw_exit ?_
    refine nx_then_exit ?_
    refine nx_then_exit ?_
    refine nx_blk_here ?_
    refine nx_then ?_
    refine gw_seq ?_
    refine gw_region ?_
    have htn : t = 2 ^ n := by omega
    subst htn
    rw [rowA_all hpn]
    have hsum := spreadP_sum hp100 n (by omega)
    rw [show pl.take n = pl from List.take_of_length_le (by omega)] at hsum
    have hDl := spreadP_len pl n (by omega)
    rw [show pl.take n = pl from List.take_of_length_le (by omega)] at hDl
    obtain ⟨hw1, hw2, _⟩ := pow_le n hn
    obtain ⟨W, hW⟩ : ∃ W, W = 100 ^ n := ⟨_, rfl⟩
    obtain ⟨D, hD⟩ : ∃ D, D = spreadP pl := ⟨_, rfl⟩
    rw [← hW] at hsum hw1 hw2 ⊢
    rw [← hD] at hsum hDl ⊢
    refine wl_ov (ov_assign rfl) rfl ?_
    refine wl_nil ?_
    refine nx_then ?_
    refine gw_seq ?_
    refine gw_seq ?_
    refine gw_region ?_
    refine wl_ov (ov_move rfl) rfl ?_
    refine wl_ov (ov_len es22 rfl) rfl ?_
    refine wl_ov (ov_move rfl) rfl ?_
    refine wl_nil ?_
    refine nx_then ?_
    refine gw_block ?_
    refine gw_nilOwn 35 2 ?_
    refine gw_loop (γ := Nat × Value × List Value) (fun (g : Nat × Value × List Value) => g.1 ≤ n + 1 ∧ g.2.2 = ((D.take g.1).map (fun x => lowF x W)).flatMap frEnc) (fun (g : Nat × Value × List Value) => [(0, .slice A n c), (2, .slice none 0 0), (9, g.2.1), (54, .slice (some ⟨g1, 0, none⟩) (n + 1) (n + 1)), (55, .int .i64 ((n + 1 : Nat) : Int)), (56, .int .i64 ((g.1 : Nat) : Int))]) (fun (g : Nat × Value × List Value) => fun _ => True) (fun (g : Nat × Value × List Value) => []) (fun (g : Nat × Value × List Value) => [⟨g.2.1, 35, 2, g.1, g.2.2⟩, ⟨.slice (some ⟨g1, 0, none⟩) (n + 1) (n + 1), 3, 1, (n + 1), D.flatMap ntEnc⟩]) (fun (g : Nat × Value × List Value) => [SlOld bkEnc 6 33 w.heap.size none A n l]) (fun (g : Nat × Value × List Value) => n + 1 - g.1) (0, .slice none 0 0, []) ⟨Nat.zero_le _, rfl⟩ ⟨rfl, rfl, rfl, rfl, rfl, rfl, trivial⟩ (fun _ hm => hm.pick [] [0, 1] [0] rfl rfl) ?_
    rintro ⟨k, v, xs⟩ hinv
    replace hinv : k ≤ n + 1 ∧ xs = ((D.take k).map (fun x => lowF x W)).flatMap frEnc := hinv
    dsimp only
    refine gw_seq ?_
    refine gw_region ?_
    obtain ⟨hk0, rfl⟩ := hinv
    refine wl_ov (ov_lss rfl rfl) rfl ?_
    refine wl_nil ?_
    refine nx_then ?_
    refine gw_seq ?_
    refine gw_cond rfl (fun hh => ?_) (fun hh => ?_)
    · have hk : ((k : Nat) : Int) < ((n + 1 : Nat) : Int) := by simpa using hh
      clear hh
      refine gw_skip ?_
      refine nx_then ?_
      refine gw_seq ?_
      refine gw_block ?_
      refine gw_seq ?_
      refine gw_region ?_
      obtain ⟨x, hx⟩ : ∃ x, D[k]? = some x := ⟨_, List.getElem?_eq_getElem (by omega)⟩
      have h3 := mem_sum_le (List.mem_of_getElem? hx)
      refine wl_ov (ov_index (j := k) es22 rfl rfl (by omega)) rfl ?_
      refine wl_ov (ov_elem1 (k := 0) (v := .int .i64 ((x : Nat) : Int)) sc3 rfl (fun _ hm => (SlT.ofOwn nt_len (hm.ownI 1 rfl) hDl)) hx rfl rfl) rfl ?_
      refine wl_ov (ov_assign rfl) rfl ?_
      refine wl_nil ?_
      refine nx_then ?_
      refine gw_region ?_
      refine wl_ov (ov_move rfl) rfl ?_
      refine wl_ov (ov_move rfl) rfl ?_
      refine wl_ov (ov_move rfl) rfl ?_
      refine wl_ov (ov_len es26 rfl) rfl ?_
      refine wl_callv (v := .int .i64 ((W : Nat) : Int)) rfl cb60 rfl rfl (fun wx hm => (by rw [hW]; exact hundred_any n wx hn)) ?_
      refine wl_callv rfl cb59 rfl rfl (fun wx hm => (rlowest_any x W wx (by omega) (by omega) (by omega))) ?_
      refine wl_buildSlice (e := 35) (cs := [.int .i64 ((lowF x W).num), .int .i64 ((lowF x W).den)]) rfl (by kernel_rfl) rfl fun g3 => ?_
      refine wl_append (news := [.int .i64 ((lowF x W).num), .int .i64 ((lowF x W).den)]) 0 0 ap37 rfl rfl rfl rfl rfl rfl rfl (by omega) (by unfold maxLen; omega) rfl rfl fun v2 hv2 => ?_
      refine wl_ov (ov_assign rfl) rfl ?_
      refine wl_nil ?_
      refine nx_blk_nrm ?_
      refine nx_then ?_
      refine gw_region ?_
      refine wl_ov (ov_add rfl rfl (by omega) (by omega)) rfl ?_
      refine wl_ov (ov_move rfl) rfl ?_
      refine wl_nil ?_
      exact nx_round (k + 1, v2, ((D.take k).map (fun x => lowF x W)).flatMap frEnc ++ ([.int .i64 ((lowF x W).num), .int .i64 ((lowF x W).den)] : List Value)) ⟨by dsimp only; omega, by dsimp only; rw [List.take_add_one, hx]; simp [frEnc]⟩ (by dsimp only; omega) ⟨rfl, rfl, rfl, rfl, rfl, (some_int (by omega)), trivial⟩ (fun _ hm => hm.pick [] [0, 1] [0] rfl rfl)
    · have hk : ¬ (((k : Nat) : Int) < ((n + 1 : Nat) : Int)) := by simpa using hh
      clear hh
      refine gw_exit ?_
      refine nx_then_exit ?_
      refine nx_then_exit ?_
      refine nx_blk_here ?_
      refine nx_then ?_
      refine gw_seq ?_
      refine gw_region ?_
      refine wl_look (R := ∃ A cc, v = .slice A k cc) (fun wx hm => own_slice (hm.ownI 0 rfl)) ?_
      rintro ⟨A4, c4, rfl⟩
      refine wl_ov (ov_move rfl) rfl ?_
      refine wl_ov (ov_assign rfl) rfl ?_
      refine wl_nil ?_
      refine nx_then ?_
      refine gw_ret ?_
      have hkn : k = n + 1 := by omega
      subst hkn
      have hall : D.take (n + 1) = D := List.take_of_length_le (by omega)
      refine nx_ret1 rfl rfl fun wx hm => ?_
      exact ⟨A4, c4, rfl, by rw [← hall]; exact hm.ownI 0 rfl, hm.g⟩

theorem spreadOf_any (l : List Bk) (A : Option Addr) (n c : Nat) (w : World) (hl : SlT bkEnc 6 33 w A n l) (hpc : PcOk l) (hn : n ≤ 9) :
    Calls Tryd.prog 17 #[.slice A n c] w (fun e w' => ∃ A4 c4, e = .returned (.slice A4 (n + 1) c4) ∧ SlT frEnc 2 35 w' A4 (n + 1) ((spreadP (pcs l)).map (fun x => lowF x (100 ^ n))) ∧ w.grownBy w' none) :=
  (spreadOf_own l A n c w hl hpc hn).mono fun _ _ ⟨A4, c4, he, ho, hg⟩ => ⟨A4, c4, he, SlT.ofOwn fr_len ho (by
    have := spreadP_len (pcs l) n (by rw [pcs_len, hl.len]; exact Nat.le_refl _)
    rw [List.take_of_length_le (by rw [pcs_len, hl.len]; exact Nat.le_refl _)] at this
    simp; exact this), hg⟩

end Go.Proofs.YtcggbojhalbkjaaDoor
