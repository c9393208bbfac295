/- The walk of the generator of a station. -/
import Derived.Test.YtcggbojhalbkjaaDoorGb
import Derived.Test.YtcggbojhalbkjaaDoorCells
import Derived.Deep.LoopGhost
namespace Go.Proofs.YtcggbojhalbkjaaDoor
open Go.RowKit

set_option maxRecDepth 100000 in
set_option maxHeartbeats 1000000 in
theorem station_any (w : World) (B sb m : Nat) (hS : Strm 25 w B sb m) (hm : m ≤ 100000000000) :
    Calls Tryd.prog 21 #[.pointer (some ⟨sb, 0, none⟩)] w (fun e w' => ∃ (key : ByteArray) (hs : List Int), key.size ≤ 2 ∧ hs.length = 14 ∧ (∀ h ∈ hs, -2000000000000000 ≤ h ∧ h ≤ 2000000000000000) ∧
      e = .returned (.agg (stCells key hs).toArray) ∧ Strm 25 w' B sb (m + 40) ∧ w.grownBy w' (some sb)) := by
  have hlt := hS.lt
  go_enter Tryd.func21, Tryd.ntmps21
  go_wp2_with fail
  refine (some_any [str [115, 49], str [115, 49], str [115, 49], str [115, 49], str [], str [65]] _ _ _ _ B sb m ((hS.alloc _).alloc _) (by omega) (by simp) (by simp) (Blk.at_ _ (by simp) _ _) (by simp; omega)).mono ?_
  rintro e w1 ⟨key, hk, rfl, hS1, hg1⟩
  have hks : key.size ≤ 2 := by simp [str] at hk; rcases hk with rfl | rfl | rfl <;> decide
  go_wp2_with fail
  have hsz := hg1.size
  simp at hsz
  have hb0 : Blk w1 w.heap.size 56 (stCells (str []) (List.replicate 14 0)) := (Blk.at_ w rfl 56 _ |>.alloc _).grown hg1 (by simp; omega)
  have hbx := Blk.at_ w1 rfl 56 (stCells key (List.replicate 14 0))
  have hb0' := hb0.alloc (.cells (stCells key (List.replicate 14 0)).toArray 56)
  have hg2 : w.grownBy (w1.alloc (.cells (stCells key (List.replicate 14 0)).toArray 56)) (some sb) := grow_alloc (grow_trans (grow_alloc (grow_alloc (World.grownBy.refl _ _) _) _) hg1) _
  have hS2 := hS1.alloc (.cells (stCells key (List.replicate 14 0)).toArray 56)
  obtain ⟨xb, hxb⟩ : ∃ xb, xb = w1.heap.size := ⟨_, rfl⟩
  rw [← hxb] at hbx hsz ⊢
  clear hk hS hS1 hg1 hb0 hxb
  go_loopw [10] (fun i wr => ∃ (k : Nat) (hs : List Int), k ≤ 7 ∧ i = .int .i64 k ∧ hs.length = 14 ∧ (∀ h ∈ hs, -2000000000000000 ≤ h ∧ h ≤ 2000000000000000) ∧ Strm 25 wr B sb (m + 1 + 3 * k) ∧ w.grownBy wr (some sb) ∧ Blk wr xb 56 (stCells key hs) ∧ Blk wr w.heap.size 56 (stCells (str []) (List.replicate 14 0))) (fun i _ => 7 - (intOf i).toNat)
  case atStart => exact ⟨0, List.replicate 14 0, by omega, rfl, by simp, by simp, hS2, hg2, hbx, hb0'⟩
  case round =>
    obtain ⟨k, hs, hk, rfl, hl, hb, hSr, hgr, hbr, hb0r⟩ := hrel
    clear hbx hb0' hg2 hS2
    by_cases hk7 : k < 7
    · go_wp2_with fail
      refine (flip_any _ _ B sb _ hSr (by omega) (by omega) (by omega)).mono ?_
      rintro e w2 ⟨fl, rfl, hS2, hg2⟩
      have hbr2 := hbr.grown hg2 (by simp; omega)
      have hb02 := hb0r.grown hg2 (by simp; omega)
      have hgr2 := grow_trans hgr hg2
      clear hSr hbr hb0r hgr hg2
      rcases fl with _ | _
      · go_wp2_with fail
        refine (pick_any [0, 480, 720, 1439] _ _ _ _ B sb _ (hS2.alloc _) (by omega) (by simp) (by simp) (Blk.at_ _ rfl _ _) (by have := hS2.lt; omega)).mono ?_
        rintro e w3 ⟨from_, hf, rfl, hS3, hg3⟩
        have hf : 0 ≤ from_ ∧ from_ ≤ 1439 := by simp at hf; omega
        have hbr3 := (hbr2.alloc _).grown hg3 (by simp; omega)
        have hb03 := (hb02.alloc _).grown hg3 (by simp; omega)
        have hgr3 := grow_trans (grow_alloc hgr2 _) hg3
        clear hS2 hbr2 hb02 hgr2 hg3
        go_wp2_with fail
        all_goals
          refine (pick_any [from_, from_ + 1, _, 1440] _ _ _ _ B sb _ (hS3.alloc _) (by omega) (by simp) (by simp) (Blk.at_ _ rfl _ _) (by have := hS3.lt; omega)).mono ?_
          rintro e w4 ⟨to_, ht, rfl, hS4, hg4⟩
          have ht : 0 ≤ to_ ∧ to_ ≤ 3000 := by simp at ht; omega
          have hbr4 := (hbr3.alloc _).grown hg4 (by simp; omega)
          have hb04 := (hb03.alloc _).grown hg4 (by simp; omega)
          have hgr4 := grow_trans (grow_alloc hgr3 _) hg4
          clear hS3 hbr3 hb03 hgr3 hg4
          go_wp2_with (with_reducible refine wpList_store_blk rfl 31 (.tmp 31) (.tmp 29) rfl xb (1 + k * 2) _ _ ([from_, to_].map (Value.int .i64)) hbr4 rfl rfl 2 info_win (by simp) (by rw [st_len key hs hl]; omega) (ints_one _) ?_)
          · intro w5 hb5 hg5
            have hb5 : Blk w5 xb 56 (stCells key (splice hs (k * 2) [from_, to_])) := by rw [← st_splice]; exact hb5
            have hl5 := splice_length hs (k * 2) [from_, to_] (by simp; omega)
            have hm5 : ∀ h ∈ splice hs (k * 2) [from_, to_], -2000000000000000 ≤ h ∧ h ≤ 2000000000000000 := fun h hh => by
              rcases splice_mem hh with h1 | h1
              · exact hb h h1
              · simp at h1; omega
            have hS5 := hS4.grown hg5 (by simp; omega)
            have hb05 := hb04.grown hg5 (by simp; omega)
            have hgr5 := grow_own hgr4 hg5 (by simp; omega)
            clear hS4 hb04 hgr4 hg5 hbr4
            go_wp2_with fail
            go_roundw
            case rel => exact ⟨k + 1, _, by omega, by go_num, by omega, hm5, hS5.more (by omega), hgr5, hb5, hb05⟩
            case measure => simp [intOf]; omega
      · go_wp2_with fail
        go_roundw
        case rel => exact ⟨k + 1, hs, by omega, by go_num, hl, hb, hS2.more (by omega), hgr2, hbr2, hb02⟩
        case measure => simp [intOf]; omega
    · obtain rfl : k = 7 := by omega
      go_wp2_with fail
      refine (flip_any _ _ B sb _ hSr (by omega) (by omega) (by omega)).mono ?_
      rintro e w2 ⟨fl, rfl, hS2, hg2⟩
      have hbr2 := hbr.grown hg2 (by simp; omega)
      have hb02 := hb0r.grown hg2 (by simp; omega)
      have hgr2 := grow_trans hgr hg2
      clear hSr hbr hb0r hgr hg2
      rcases fl with _ | _
      · skip
        go_wp2_with (first
          | (with_reducible refine wpList_load_all rfl 56 (.tmp 3) rfl xb _ (stCells key hs) _ hbr2 rfl Tryd.underlying56 rfl 15 info_st (st_len _ _ hl) ?_)
          | (with_reducible refine wpList_store_all rfl 56 (.tmp 2) (.tmp 44) rfl w.heap.size _ _ (stCells key hs) hb02 rfl rfl 15 info_st (st_len _ _ hl) (st_len _ _ (by simp)) (st_one _ _) ?_; intro w6 hb6 hg6))
        refine ret_blk rfl w.heap.size 56 (stCells key hs) _ hb6 rfl Tryd.underlying56 rfl 15 info_st (st_len _ _ hl) rfl ?_
        exact ⟨key, hs, hks, hl, hb, rfl, ((hS2).grown hg6 (by simp; omega)).more (by omega), grow_own hgr2 hg6 (by simp)⟩
      · go_wp2_with fail
        refine (next_any _ _ B sb _ hS2 (by omega) (by omega) (by omega)).mono ?_
        rintro e w3 ⟨i, hi, rfl, hS3, hg3⟩
        have hi := isBelow_lt hi (by omega)
        obtain ⟨i, rfl⟩ := Int.eq_ofNat_of_zero_le hi.1
        have hbr3 := hbr2.grown hg3 (by simp; omega)
        have hb03 := hb02.grown hg3 (by simp; omega)
        have hgr3 := grow_trans hgr2 hg3
        clear hS2 hbr2 hb02 hgr2 hg3
        go_wp2_with fail
        refine (odd_any _ _ _ B sb _ hS3 (by omega) (by omega) (by omega) (by omega)).mono ?_
        rintro e w4 ⟨a, ha, rfl, hS4, hg4⟩
        have hbr4 := hbr3.grown hg4 (by simp; omega)
        have hb04 := hb03.grown hg4 (by simp; omega)
        have hgr4 := grow_trans hgr3 hg4
        clear hS3 hbr3 hb03 hgr3 hg4
        go_wp2_with fail
        refine (odd_any _ _ _ B sb _ hS4 (by omega) (by omega) (by omega) (by omega)).mono ?_
        rintro e w5 ⟨b, hb', rfl, hS5, hg5⟩
        have hbr5 := hbr4.grown hg5 (by simp; omega)
        have hb05 := hb04.grown hg5 (by simp; omega)
        have hgr5 := grow_trans hgr4 hg5
        clear hS4 hbr4 hb04 hgr4 hg5
        obtain ⟨hs', hhs⟩ : ∃ hs', hs' = splice hs (i * 2) [a, b] := ⟨_, rfl⟩
        have hl' : hs'.length = 14 := by rw [hhs, splice_length _ _ _ (by simp; omega), hl]
        have hm' : ∀ h ∈ hs', -2000000000000000 ≤ h ∧ h ≤ 2000000000000000 := fun h hh => by
          rw [hhs] at hh
          rcases splice_mem hh with h1 | h1
          · exact hb h h1
          · simp at h1; omega
        have Hhs := Lib.hid hhs; clear hhs
        go_wp2_with (first
          | (with_reducible refine wpList_store_blk rfl 31 (.tmp 43) (.tmp 41) rfl xb (1 + i * 2) _ _ ([a, b].map (Value.int .i64)) hbr5 rfl rfl 2 info_win (by simp) (by rw [st_len key hs hl]; omega) (ints_one _) ?_
             intro wx hbx hgx
             have hbx : Blk wx xb 56 (stCells key hs') := by rw [Hhs.out, ← st_splice]; exact hbx
             have hS6 := hS5.grown hgx (by simp; omega)
             have hb06 := hb05.grown hgx (by simp; omega)
             have hgr6 := grow_own hgr5 hgx (by simp; omega)
             clear hS5 hb05 hgr5 hgx hbr5)
          | (with_reducible refine wpList_load_all rfl 56 (.tmp 3) rfl xb _ (stCells key hs') _ hbx rfl Tryd.underlying56 rfl 15 info_st (st_len _ _ hl') ?_)
          | (with_reducible refine wpList_store_all rfl 56 (.tmp 2) (.tmp 44) rfl w.heap.size _ _ (stCells key hs') hb06 rfl rfl 15 info_st (st_len _ _ hl') (st_len _ _ (by simp)) (st_one _ _) ?_; intro w6 hb6 hg6))
        refine ret_blk rfl w.heap.size 56 (stCells key hs') _ hb6 rfl Tryd.underlying56 rfl 15 info_st (st_len _ _ hl') rfl ?_
        exact ⟨key, hs', hks, hl', hm', rfl, ((hS6).grown hg6 (by simp; omega)).more (by omega), grow_own hgr6 hg6 (by simp)⟩

end Go.Proofs.YtcggbojhalbkjaaDoor
