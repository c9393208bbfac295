/- The walk of the generator of a right deal. -/
import Derived.Test.YtmpomocahgcebaaDoorGd
namespace Go.Proofs.YtmpomocahgcebaaDoor
open Go.RowKit

theorem dl_len (d : Dl) : (dlCells d).length = 7 := rfl
theorem dl_one (d : Dl) : ∀ v ∈ dlCells d, v.oneCell' = true := ints_one _

set_option maxRecDepth 100000 in
set_option maxHeartbeats 2000000 in
theorem rightDeal_any (w : World) (B sb m : Nat) (hS : Strm 25 w B sb m) (hm : m ≤ 10000000000) :
    Calls Tryd.prog 21 #[.pointer (some ⟨sb, 0, none⟩)] w (fun e w' => ∃ d : Dl, dealE d = 0 ∧ e = .returned (.agg (dlCells d).toArray) ∧ Strm 25 w' B sb (m + 400) ∧ w.grownBy w' (some sb)) := by
  have hlt := hS.lt
  go_enter Tryd.func21, Tryd.ntmps21
  go_wp2_with fail
  go_loopw [4] (fun i wr => ∃ k : Nat, k ≤ 8 ∧ i = .int .i64 k ∧ Strm 25 wr B sb (m + 40 * k) ∧ w.grownBy wr (some sb) ∧ Blk wr w.heap.size 42 [.int .i64 0, .int .i64 0, .int .i64 0, .int .i64 0, .int .i64 0, .int .i64 0, .int .i64 0]) (fun i _ => 8 - (intOf i).toNat)
  case atStart => exact ⟨0, by omega, rfl, hS.alloc _, grow_alloc (World.grownBy.refl _ _) _, Blk.at_ w rfl _ _⟩
  case round =>
    obtain ⟨k, hk, rfl, hSr, hgr, hbr⟩ := hrel
    have hne : some w.heap.size ≠ some sb := fun h => absurd (Option.some.inj h) (by omega)
    clear hS
    by_cases hk8 : k < 8
    · go_wp2_with fail
      refine (deal_any _ B sb _ hSr (by omega)).mono ?_
      rintro e w1 ⟨d, rfl, hS1, hg1⟩
      have hb1 := hbr.grown hg1 hne
      have hw1 := grow_trans hgr hg1
      have hl1 := hS1.lt
      have hsz := hb1.lt
      clear hSr hbr hgr hg1
      have hnew : Blk (w1.alloc (.cells #[.int .i64 0, .int .i64 0, .int .i64 0, .int .i64 0, .int .i64 0, .int .i64 0, .int .i64 0] 42)) w1.heap.size 42 [.int .i64 0, .int .i64 0, .int .i64 0, .int .i64 0, .int .i64 0, .int .i64 0, .int .i64 0] := Blk.at_ w1 rfl _ _
      go_wp2_with (first
        | (with_reducible refine wpList_store_all rfl 42 (.tmp 3) (.tmp 7) rfl w1.heap.size _ _ (dlCells d) hnew rfl rfl 7 info_dl0 (dl_len d) rfl (dl_one d) ?_; intro w2 hb2 hg2)
        | (with_reducible refine wpList_load_all rfl 42 (.tmp 3) rfl w1.heap.size _ _ _ hb2 rfl Tryd.underlying42 rfl 7 info_dl0 (dl_len d) ?_))
      have hS2 := (hS1.alloc (.cells #[.int .i64 0, .int .i64 0, .int .i64 0, .int .i64 0, .int .i64 0, .int .i64 0, .int .i64 0] 42)).grown hg2 (fun k h => by cases h; omega)
      have hw2 : w.grownBy w2 (some sb) := grow_own (grow_alloc hw1 _) hg2 (fun k h => by cases h; omega)
      have hbr2 := (hb1.alloc (.cells #[.int .i64 0, .int .i64 0, .int .i64 0, .int .i64 0, .int .i64 0, .int .i64 0, .int .i64 0] 42)).grown hg2 (fun h => absurd (Option.some.inj h) (by omega))
      refine (dealFault_any d w2).mono ?_
      rintro e w3 ⟨rfl, hg3⟩
      have hS3 := hS2.grown hg3 (fun k h => by cases h)
      have hw3 := grow_trans hw2 (grow_weak hg3)
      have hbr3 := hbr2.grown hg3 (by simp)
      have hb3 := hb2.grown hg3 (by simp)
      clear hS1 hS2 hw1 hw2 hb1 hb2 hbr2 hnew hg2 hg3
      obtain ⟨E, hE⟩ : ∃ E, E = dealE d := ⟨_, rfl⟩
      rw [← hE]
      have HE := Lib.hid hE
      clear hE
      by_cases h0 : E = 0
      · have H0 := Lib.hid (HE.out.symm.trans h0)
        subst h0
        go_wp2_with (first
          | (with_reducible refine wpList_load_all rfl 42 (.tmp 3) rfl w1.heap.size _ _ _ hb3 rfl Tryd.underlying42 rfl 7 info_dl0 (dl_len d) ?_)
          | (with_reducible refine wpList_store_all rfl 42 (.tmp 2) (.tmp 11) rfl w.heap.size _ _ (dlCells d) hbr3 rfl rfl 7 info_dl0 (dl_len d) rfl (dl_one d) ?_; intro w4 hb4 hg4))
        refine ret_blk (p := 2) (ty := 42) rfl w.heap.size _ _ _ hb4 rfl Tryd.underlying42 rfl 7 info_dl0 (dl_len d) rfl ?_
        exact ⟨d, H0.out, rfl, (hS3.grown hg4 (fun k h => by cases h; omega)).more (by omega), grow_own hw3 hg4 (fun k h => by cases h; omega)⟩
      · have hq : (E == 0) = false := by simpa using h0
        clear h0
        go_wp2_with fail
        go_roundw
        case rel => exact ⟨k + 1, by omega, by go_num, hS3.more (by omega), hw3, hbr3⟩
        case measure => simp [intOf]; omega
    · go_wp2_with (with_reducible refine wpList_store_all rfl 42 (.tmp 2) (.tmp 13) rfl w.heap.size _ _ [.int .i64 0, .int .i64 0, .int .i64 0, .int .i64 0, .int .i64 0, .int .i64 0, .int .i64 0] hbr rfl rfl 7 info_dl0 rfl rfl (by simp [Value.oneCell']) ?_; intro w4 hb4 hg4)
      refine ret_blk (p := 2) (ty := 42) rfl w.heap.size _ _ _ hb4 rfl Tryd.underlying42 rfl 7 info_dl0 rfl rfl ?_
      exact ⟨⟨0, 0, 0, 0, 0, 0, 0⟩, by kernel_rfl, rfl, (hSr.grown hg4 (fun k h => by cases h; omega)).more (by omega), grow_own hgr hg4 (fun k h => by cases h; omega)⟩

end Go.Proofs.YtmpomocahgcebaaDoor
