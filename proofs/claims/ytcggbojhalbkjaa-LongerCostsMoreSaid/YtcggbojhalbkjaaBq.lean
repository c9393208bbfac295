/- The walk of book.Spread at no bookings. -/
import Derived.Test.YtcggbojhalbkjaaHc
namespace Go.Proofs.Ytcggbojhalbkjaa
open Go.RowKit

set_option maxHeartbeats 400000 in
theorem formed_nil (w : World) : Calls Try.prog 56 #[.slice none 0 0] w (GotE w 0) := by
  go_enter Try.func56, Try.ntmps56
  go_wp2_with fail
  go_loopw [10] (fun i wr => i = .int .i64 0 ∧ wr = w) (fun _ _ => 0)
  case atStart => exact ⟨rfl, rfl⟩
  case round =>
    obtain ⟨rfl, rfl⟩ := hrel
    go_wp2_with fail
    go_ret
    exact ⟨rfl, World.grownBy.refl _ _⟩

set_option maxHeartbeats 400000 in
theorem checkOdds_nil (w : World) : Calls Try.prog 44 #[.slice none 0 0] w (GotE w 0) := by
  go_enter Try.func44, Try.ntmps44
  go_wp2_with fail
  refine (formed_nil _).mono ?_
  rintro e w1 ⟨rfl, hg1⟩
  go_wp2_with fail
  refine (when_any _ _ _).mono ?_
  rintro e w2 ⟨rfl, rfl⟩
  go_wp2_with fail
  refine (first_any [0, whenE false 2] _ _ _ _ (Blk.at_ _ rfl _ _) (by simp)).mono ?_
  rintro e w6 ⟨rfl, rfl⟩
  go_wp2_with fail
  go_ret
  exact ⟨rfl, grow_alloc hg1 _⟩

set_option maxHeartbeats 400000 in
theorem spread_nil (w : World) : Calls Try.prog 45 #[.slice none 0 0] w (fun e w' => ∃ g c, e = .returned (.tuple #[.slice (some ⟨g, 0, none⟩) 1 c, .int .i64 1]) ∧ g < w'.heap.size ∧ w'.cell? ⟨g, 0, none⟩ = some (.int .i64 1) ∧ w.grownBy w' none) := by
  go_enter Try.func45, Try.ntmps45
  go_wp2_with fail
  go_loopw [4, 5, 14] (fun s n i wr => s = .slice (some ⟨w.heap.size, 0, none⟩) 1 1 ∧ n = .int .i64 1 ∧ i = .int .i64 0 ∧ wr = w.alloc (.cells #[.int .i64 1] 3)) (fun _ _ _ _ => 0)
  case atStart => exact ⟨rfl, rfl, rfl, rfl⟩
  case round =>
    obtain ⟨rfl, rfl, rfl, rfl⟩ := hrel
    go_wp2_with fail
    go_ret2
    exact ⟨_, _, rfl, by simp, (Blk.at_ w rfl 3 [.int .i64 1]).cell_of rfl, grow_alloc (World.grownBy.refl _ _) _⟩

theorem info_fr : (Try.prog.info? 94).map (·.size) = some 2 := by kernel_rfl

set_option maxRecDepth 100000 in
set_option maxHeartbeats 400000 in
theorem lowest_one (w : World) : Calls Try.prog 46 #[.int .i64 1, .int .i64 1] w (fun e w' => e = .returned (.agg #[.int .i64 1, .int .i64 1]) ∧ w.grownBy w' none) := by
  go_enter Try.func46, Try.ntmps46
  go_wp2_with fail
  go_loopw [5, 6] (fun a b wr => a = .int .i64 1 ∧ (b = .int .i64 0 ∨ b = .int .i64 1) ∧ w.grownBy wr none ∧ Blk wr w.heap.size 94 [.int .i64 0, .int .i64 0]) (fun _ b _ => (intOf b).toNat)
  case atStart => exact ⟨rfl, .inr rfl, grow_alloc (World.grownBy.refl _ _) _, Blk.at_ w rfl _ _⟩
  case round =>
    obtain ⟨rfl, hk, hgr, hb⟩ := hrel
    rcases hk with rfl | rfl
    · go_wp2_with fail
      refine wp_region_still_tail 7 (by kernel_rfl) (by kernel_rfl) ?_
      change wpStill _ _ (World.drew _) _ _ _
      simp only [List.take_succ_cons, List.take_zero, List.drop_succ_cons, List.drop_zero]
      repeat still_step
      refine wpStill_nil ?_
      change wpList _ _ _ _ _ (World.drew _)
      go_wp2_with (with_reducible refine wpList_store_all rfl 94 (.tmp 4) (.tmp 24) rfl w.heap.size _ _ [.int .i64 1, .int .i64 1] hb.drew rfl rfl 2 info_fr rfl rfl (by simp [Value.oneCell']) ?_
                   intro w2 hb2 hg2)
      refine ret_blk (p := 4) (ty := 94) rfl w.heap.size _ _ _ hb2 rfl Try.underlying94 rfl 2 info_fr rfl rfl ?_
      exact ⟨rfl, grow_own (grow_drew hgr) hg2 (fun k h => by cases h; exact Nat.le_refl _)⟩
    · go_wp2_with fail
      go_quiet (fail)
      go_wp2_with fail
      go_roundw
      case rel => exact ⟨rfl, .inl rfl, grow_drewN hgr _, hb.drewN _⟩
      case measure => simp [intOf]

set_option maxRecDepth 100000 in
set_option maxHeartbeats 1000000 in
theorem bspread_nil (w : World) : Calls Try.prog 24 #[.slice none 0 0] w (fun e w' => ∃ A c, e = .returned (.tuple #[.slice A 1 c, .int .i64 0]) ∧ w.grownBy w' none) := by
  go_enter Try.func24, Try.ntmps24
  go_wp2_with fail
  refine (checkOdds_nil _).mono ?_
  rintro e w1 ⟨rfl, hg1⟩
  go_wp2_with fail
  refine (spread_nil _).mono ?_
  rintro e w2 ⟨g, c, rfl, hlt, hc, hg2⟩
  have hgw : w.grownBy w2 none := grow_trans hg1 hg2
  clear hg1 hg2
  go_wp2_with fail
  go_loopw [7, 22] (fun s i wr => w2.grownBy wr none ∧ ((i = .int .i64 0 ∧ s = .slice none 0 0) ∨ (i = .int .i64 1 ∧ ∃ A c, s = .slice A 1 c))) (fun _ i _ => 1 - (intOf i).toNat)
  case atStart => exact ⟨World.grownBy.refl _ _, .inl ⟨rfl, rfl⟩⟩
  case round =>
    obtain ⟨hgr, hs⟩ := hrel
    rcases hs with ⟨rfl, rfl⟩ | ⟨rfl, A, c', rfl⟩
    · have hc1 : wr.cell? ⟨g, 0, none⟩ = some (.int .i64 1) := (World.cell?_of_block (hgr.block g hlt (by simp))).trans hc
      go_wp2_with fail
      refine (lowest_one _).mono ?_
      rintro e w3 ⟨rfl, hg3⟩
      go_wp2_with fail
      go_roundw
      case rel => exact ⟨grow_drew (grow_alloc (grow_alloc (grow_trans hgr hg3) _) _), .inr ⟨rfl, _, _, rfl⟩⟩
      case measure => simp [intOf]
    · go_wp2_with fail
      go_ret2
      exact ⟨_, _, rfl, grow_trans hgw hgr⟩

end Go.Proofs.Ytcggbojhalbkjaa
