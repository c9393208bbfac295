/- The walk of the generator of a deal. -/
import Derived.Test.YtmpomocahgcebaaDoorGb
import Derived.Test.YtmpomocahgcebaaDoorDl
namespace Go.Proofs.YtmpomocahgcebaaDoor
open Go.RowKit

theorem info_dl0 : (Tryd.prog.info? 42).map (·.size) = some 7 := by kernel_rfl

set_option maxRecDepth 100000 in
set_option maxHeartbeats 2000000 in
theorem deal_any (w : World) (B sb m : Nat) (hS : Strm 25 w B sb m) (hm : m ≤ 100000000000) :
    Calls Tryd.prog 101 #[.pointer (some ⟨sb, 0, none⟩)] w (fun e w' => ∃ d : Dl, e = .returned (.agg (dlCells d).toArray) ∧ Strm 25 w' B sb (m + 40) ∧ w.grownBy w' (some sb)) := by
  have hlt := hS.lt
  go_enter Tryd.func101, Tryd.ntmps101
  go_wp2_with fail
  have hS0 := hS.alloc (.cells #[.int .i64 0, .int .i64 0, .int .i64 0, .int .i64 0, .int .i64 0, .int .i64 0, .int .i64 0] 42)
  have hb0 : Blk (w.alloc (.cells #[.int .i64 0, .int .i64 0, .int .i64 0, .int .i64 0, .int .i64 0, .int .i64 0, .int .i64 0] 42)) w.heap.size 42 [.int .i64 0, .int .i64 0, .int .i64 0, .int .i64 0, .int .i64 0, .int .i64 0, .int .i64 0] := Blk.at_ w rfl _ _
  have hg0 : w.grownBy (w.alloc (.cells #[.int .i64 0, .int .i64 0, .int .i64 0, .int .i64 0, .int .i64 0, .int .i64 0, .int .i64 0] 42)) (some sb) := grow_alloc (World.grownBy.refl _ _) _
  have hne : some w.heap.size ≠ some sb := fun h => absurd (Option.some.inj h) (by omega)
  have hs1 := hS0.lt
  refine (pick_any [0, 100, 200, 10000] _ _ _ _ B sb _ (hS0.alloc _) (by omega) (by simp) (by simp) (Blk.at_ _ (by simp) _ _) (by omega)).mono ?_
  rintro e w1 ⟨v1, hv1, rfl, hS1, hg1'⟩
  have hb1 := (hb0.alloc _).grown hg1' hne
  have hg1 := grow_trans (grow_alloc hg0 _) hg1'
  clear hS0 hb0 hg0 hg1' hs1 hv1
  go_wp2_with fail
  have hs2 := hS1.lt
  refine (pick_any [0, 2, 30] _ _ _ _ B sb _ (hS1.alloc _) (by omega) (by simp) (by simp) (Blk.at_ _ rfl _ _) (by omega)).mono ?_
  rintro e w2 ⟨v2, hv2, rfl, hS2, hg2'⟩
  have hb2 := (hb1.alloc _).grown hg2' hne
  have hg2 := grow_trans (grow_alloc hg1 _) hg2'
  clear hS1 hb1 hg1 hg2' hs2 hv2
  go_wp2_with fail
  have hs3 := hS2.lt
  refine (pick_any [0, 300, 1000] _ _ _ _ B sb _ (hS2.alloc _) (by omega) (by simp) (by simp) (Blk.at_ _ rfl _ _) (by omega)).mono ?_
  rintro e w3 ⟨v3, hv3, rfl, hS3, hg3'⟩
  have hb3 := (hb2.alloc _).grown hg3' hne
  have hg3 := grow_trans (grow_alloc hg2 _) hg3'
  clear hS2 hb2 hg2 hg3' hs3 hv3
  go_wp2_with fail
  have hs4 := hS3.lt
  refine (pick_any [0, 29, 30, 59, 60] _ _ _ _ B sb _ (hS3.alloc _) (by omega) (by simp) (by simp) (Blk.at_ _ rfl _ _) (by omega)).mono ?_
  rintro e w4 ⟨v4, hv4, rfl, hS4, hg4'⟩
  have hb4 := (hb3.alloc _).grown hg4' hne
  have hg4 := grow_trans (grow_alloc hg3 _) hg4'
  clear hS3 hb3 hg3 hg4' hs4 hv4
  go_wp2_with fail
  have hs5 := hS4.lt
  refine (pick_any [0, 500, 1000, 2000] _ _ _ _ B sb _ (hS4.alloc _) (by omega) (by simp) (by simp) (Blk.at_ _ rfl _ _) (by omega)).mono ?_
  rintro e w5 ⟨v5, hv5, rfl, hS5, hg5'⟩
  have hb5 := (hb4.alloc _).grown hg5' hne
  have hg5 := grow_trans (grow_alloc hg4 _) hg5'
  clear hS4 hb4 hg4 hg5' hs5 hv5
  go_wp2_with fail
  have hs6 := hS5.lt
  refine (pick_any [0, 4000, 5000, 9000] _ _ _ _ B sb _ (hS5.alloc _) (by omega) (by simp) (by simp) (Blk.at_ _ rfl _ _) (by omega)).mono ?_
  rintro e w6 ⟨v6, hv6, rfl, hS6, hg6'⟩
  have hb6 := (hb5.alloc _).grown hg6' hne
  have hg6 := grow_trans (grow_alloc hg5 _) hg6'
  clear hS5 hb5 hg5 hg6' hs6 hv6
  go_wp2_with fail
  have hs7 := hS6.lt
  refine (pick_any [0, 10000, 1000000] _ _ _ _ B sb _ (hS6.alloc _) (by omega) (by simp) (by simp) (Blk.at_ _ rfl _ _) (by omega)).mono ?_
  rintro e w7 ⟨v7, hv7, rfl, hS7, hg7'⟩
  have hb7 := (hb6.alloc _).grown hg7' hne
  have hg7 := grow_trans (grow_alloc hg6 _) hg7'
  clear hS6 hb6 hg6 hg7' hs7 hv7
  go_wp2_with fail
  have hs8 := hS7.lt
  have hbD := Blk.at_ w7 rfl 42 [.int .i64 v1, .int .i64 v2, .int .i64 v3, .int .i64 v4, .int .i64 v5, .int .i64 v6, .int .i64 v7]
  have hbR := hb7.alloc (.cells #[.int .i64 v1, .int .i64 v2, .int .i64 v3, .int .i64 v4, .int .i64 v5, .int .i64 v6, .int .i64 v7] 42)
  have hS7' := hS7.alloc (.cells #[.int .i64 v1, .int .i64 v2, .int .i64 v3, .int .i64 v4, .int .i64 v5, .int .i64 v6, .int .i64 v7] 42)
  have hg7' := grow_alloc hg7 (.cells #[.int .i64 v1, .int .i64 v2, .int .i64 v3, .int .i64 v4, .int .i64 v5, .int .i64 v6, .int .i64 v7] 42)
  refine (flip_any 15 _ B sb _ hS7' (by omega) (by omega) (by omega)).mono ?_
  rintro e w8 ⟨fl, rfl, hS8, hg8⟩
  have hneD : some w7.heap.size ≠ some sb := fun h => absurd (Option.some.inj h) (by omega)
  have hD8 := hbD.grown hg8 hneD
  have hR8 := hbR.grown hg8 hne
  have hw8 := grow_trans hg7' hg8
  have hsz : w.heap.size < w7.heap.size := hb7.lt
  clear hS7 hS7' hbD hbR hb7 hg7 hg7' hg8
  cases fl
  · go_wp2_with (first
      | (with_reducible refine wpList_load_all rfl 42 (.tmp 3) rfl w7.heap.size _ _ _ hD8 rfl Tryd.underlying42 rfl 7 info_dl0 rfl ?_)
      | (with_reducible refine wpList_store_all rfl 42 (.tmp 2) (.tmp 40) rfl w.heap.size _ _ [.int .i64 v1, .int .i64 v2, .int .i64 v3, .int .i64 v4, .int .i64 v5, .int .i64 v6, .int .i64 v7] hR8 rfl rfl 7 info_dl0 rfl rfl (by simp [Value.oneCell']) ?_; intro w9 hR9 hg9))
    refine ret_blk (p := 2) (ty := 42) rfl w.heap.size _ _ _ hR9 rfl Tryd.underlying42 rfl 7 info_dl0 rfl rfl ?_
    exact ⟨⟨v1, v2, v3, v4, v5, v6, v7⟩, rfl, (hS8.grown hg9 (fun k h => by cases h; omega)).more (by omega), grow_own hw8 hg9 (fun k h => by cases h; omega)⟩
  · go_wp2_with fail
    refine (odd_any 0 10000 _ B sb _ hS8 (by omega) (by omega) (by omega) (by omega)).mono ?_
    rintro e w9 ⟨o1, ho1, rfl, hS9, hg9⟩
    go_wp2_with fail
    refine (odd_any 0 1440 _ B sb _ hS9 (by omega) (by omega) (by omega) (by omega)).mono ?_
    rintro e w10 ⟨o2, ho2, rfl, hS10, hg10⟩
    go_wp2_with fail
    refine (odd_any 0 1000000 _ B sb _ hS10 (by omega) (by omega) (by omega) (by omega)).mono ?_
    rintro e w11 ⟨o3, ho3, rfl, hS11, hg11⟩
    go_wp2_with fail
    refine (odd_any 0 1000000 _ B sb _ hS11 (by omega) (by omega) (by omega) (by omega)).mono ?_
    rintro e w12 ⟨o4, ho4, rfl, hS12, hg12⟩
    have hga := grow_trans (grow_trans (grow_trans hg9 hg10) hg11) hg12
    have hD12 := hD8.grown hga hneD
    have hR12 := hR8.grown hga hne
    have hw12 := grow_trans hw8 hga
    have c0 := hD12.cell_of (i := 0) (v := .int .i64 v1) rfl
    have c3 := hD12.cell_of (i := 3) (v := .int .i64 v4) rfl
    have c4 := hD12.cell_of (i := 4) (v := .int .i64 v5) rfl
    have c6 := hD12.cell_of (i := 6) (v := .int .i64 v7) rfl
    have f0 := hD12.frozen 0
    have f3 := hD12.frozen 3
    have f4 := hD12.frozen 4
    have f6 := hD12.frozen 6
    have hDS : Blk ((((w12.setCell ⟨w7.heap.size, 0, none⟩ (.int .i64 o1)).setCell ⟨w7.heap.size, 3, none⟩ (.int .i64 o2)).setCell ⟨w7.heap.size, 4, none⟩ (.int .i64 o3)).setCell ⟨w7.heap.size, 6, none⟩ (.int .i64 o4)) w7.heap.size 42 [.int .i64 o1, .int .i64 v2, .int .i64 v3, .int .i64 o2, .int .i64 o3, .int .i64 v6, .int .i64 o4] := (((hD12.set_ 0 _).set_ 3 _).set_ 4 _).set_ 6 _
    have hRS : Blk ((((w12.setCell ⟨w7.heap.size, 0, none⟩ (.int .i64 o1)).setCell ⟨w7.heap.size, 3, none⟩ (.int .i64 o2)).setCell ⟨w7.heap.size, 4, none⟩ (.int .i64 o3)).setCell ⟨w7.heap.size, 6, none⟩ (.int .i64 o4)) w.heap.size 42 [.int .i64 0, .int .i64 0, .int .i64 0, .int .i64 0, .int .i64 0, .int .i64 0, .int .i64 0] := (((hR12.far (by simp; omega) _).far (by simp; omega) _).far (by simp; omega) _).far (by simp; omega) _
    have hSS : Strm 25 ((((w12.setCell ⟨w7.heap.size, 0, none⟩ (.int .i64 o1)).setCell ⟨w7.heap.size, 3, none⟩ (.int .i64 o2)).setCell ⟨w7.heap.size, 4, none⟩ (.int .i64 o3)).setCell ⟨w7.heap.size, 6, none⟩ (.int .i64 o4)) B sb _ := (((hS12.setCell (by simp; omega) _).setCell (by simp; omega) _).setCell (by simp; omega) _).setCell (by simp; omega) _
    have hwS : w.grownBy ((((w12.setCell ⟨w7.heap.size, 0, none⟩ (.int .i64 o1)).setCell ⟨w7.heap.size, 3, none⟩ (.int .i64 o2)).setCell ⟨w7.heap.size, 4, none⟩ (.int .i64 o3)).setCell ⟨w7.heap.size, 6, none⟩ (.int .i64 o4)) (some sb) := grow_setCell (grow_setCell (grow_setCell (grow_setCell hw12 (.inr (by simp; omega)) _) (.inr (by simp; omega)) _) (.inr (by simp; omega)) _) (.inr (by simp; omega)) _
    clear hD8 hR8 hw8 hS8 hS9 hS10 hS11 hS12 hg9 hg10 hg11 hg12 hga hR12 hw12 ho1 ho2 ho3 ho4
    go_wp2_with (first
      | (with_reducible refine wpList_load_all rfl 42 (.tmp 3) rfl w7.heap.size _ _ _ hDS rfl Tryd.underlying42 rfl 7 info_dl0 rfl ?_)
      | (with_reducible refine wpList_store_all rfl 42 (.tmp 2) (.tmp 40) rfl w.heap.size _ _ [.int .i64 o1, .int .i64 v2, .int .i64 v3, .int .i64 o2, .int .i64 o3, .int .i64 v6, .int .i64 o4] hRS rfl rfl 7 info_dl0 rfl rfl (by simp [Value.oneCell']) ?_; intro w9 hR9 hg9))
    refine ret_blk (p := 2) (ty := 42) rfl w.heap.size _ _ _ hR9 rfl Tryd.underlying42 rfl 7 info_dl0 rfl rfl ?_
    exact ⟨⟨o1, v2, v3, o2, o3, v6, o4⟩, rfl, (hSS.grown hg9 (fun k h => by cases h; omega)).more (by omega), grow_own hwS hg9 (fun k h => by cases h; omega)⟩

end Go.Proofs.YtmpomocahgcebaaDoor
