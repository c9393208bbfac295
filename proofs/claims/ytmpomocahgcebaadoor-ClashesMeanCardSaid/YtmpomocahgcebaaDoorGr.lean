/- The walk of the generator of a reading. -/
import Derived.Test.YtmpomocahgcebaaDoorGt
import Derived.Test.YtmpomocahgcebaaDoorHc
namespace Go.Proofs.YtmpomocahgcebaaDoor
open Go.RowKit

theorem info_rdg : (Tryd.prog.info? 98).map (·.size) = some 4 := by kernel_rfl
theorem rd_one (r : Rd) : ∀ v ∈ rdCells r, v.oneCell' = true := by
  intro v hv
  simp [rdCells] at hv
  rcases hv with rfl | rfl | rfl | rfl <;> rfl
theorem mem_small {xs : List ByteArray} {v : ByteArray} (hv : v ∈ xs) (h : ∀ x ∈ xs, x.size ≤ 100) : v.size ≤ 100 := h v hv

set_option maxRecDepth 100000 in
set_option maxHeartbeats 2000000 in
theorem greading_any (at_ : Int) (w : World) (B sb m : Nat) (hS : Strm 25 w B sb m) (hm : m ≤ 100000000000) (ha0 : -4000000000000000 ≤ at_) (ha1 : at_ ≤ 4000000000000000) :
    Calls Tryd.prog 164 #[.pointer (some ⟨sb, 0, none⟩), .int .i64 at_] w (fun e w' => ∃ r : Rd, RdOk r ∧ e = .returned (.agg (rdCells r).toArray) ∧ Strm 25 w' B sb (m + 10) ∧ w.grownBy w' (some sb)) := by
  have hlt := hS.lt
  go_enter Tryd.func164, Tryd.ntmps164
  go_wp2_with fail
  have hb0 := Blk.at_ w rfl 98 [.int .i64 0, .string ⟨#[]⟩, .int .i64 0, .int .i64 0]
  have hne : some w.heap.size ≠ some sb := fun h => absurd (Option.some.inj h) (by omega)
  refine (some_any [⟨#[115, 49]⟩, ⟨#[115, 49]⟩, ⟨#[115, 50]⟩, ⟨#[115, 51]⟩] _ _ _ _ B sb _ ((hS.alloc _).alloc _) (by omega) (by simp) (by simp) (Blk.at_ (w.alloc _) (by simp) _ _) (by omega)).mono ?_
  rintro e w1 ⟨st, hst, rfl, hS1, hg1'⟩
  have hst1 : st.size ≤ 100 := mem_small hst (by decide)
  have hb1 := (hb0.alloc _).grown hg1' hne
  have hg1 : w.grownBy w1 (some sb) := grow_trans (grow_alloc (grow_alloc (World.grownBy.refl _ _) _) _) hg1'
  clear hS hb0 hg1' hst
  go_wp2_with fail
  have hs1 := hS1.lt
  refine (pick_any [0, 5, 100, 500, 999990, 999999] _ _ _ _ B sb _ (hS1.alloc _) (by omega) (by simp) (by simp) (Blk.at_ _ rfl _ _) (by omega)).mono ?_
  rintro e w2 ⟨me, hme, rfl, hS2, hg2'⟩
  have hb2 := (hb1.alloc _).grown hg2' hne
  have hg2 := grow_trans (grow_alloc hg1 _) hg2'
  clear hS1 hb1 hg1 hg2' hme hs1
  go_wp2_with fail
  refine (range_any 0 8 _ B sb _ hS2 (by omega) (by omega) (by omega) (by omega) (by omega)).mono ?_
  rintro e w3 ⟨fu, hfu, rfl, hS3, hg3'⟩
  have hb3 := hb2.grown hg3' hne
  have hg3 := grow_trans hg2 hg3'
  clear hS2 hb2 hg2 hg3' hfu
  go_wp2_with fail
  have hs3 := hS3.lt
  have hne2 : some w3.heap.size ≠ some sb := fun h => absurd (Option.some.inj h) (by omega)
  refine (flip_any 30 _ B sb _ (hS3.alloc _) (by omega) (by omega) (by omega)).mono ?_
  rintro e w4 ⟨fl, rfl, hS4, hg4'⟩
  have hD := (Blk.at_ w3 rfl 98 [.int .i64 at_, .string st, .int .i64 me, .int .i64 fu]).grown hg4' hne2
  have hR := (hb3.alloc _).grown hg4' hne
  have hg4 := grow_trans (grow_alloc hg3 _) hg4'
  have hlow : w.heap.size < w3.heap.size := hb3.lt
  have hsz4 := hS4.lt
  clear hS3 hb3 hg3 hg4' hs3
  cases fl
  · go_wp2_with (first
      | (with_reducible refine wpList_load_all rfl 98 (.tmp 5) rfl w3.heap.size _ _ _ hD rfl Tryd.underlying98 rfl 4 info_rdg rfl ?_)
      | (with_reducible refine wpList_store_all rfl 98 (.tmp 4) (.tmp 35) rfl w.heap.size _ _ [.int .i64 at_, .string st, .int .i64 me, .int .i64 fu] hR rfl rfl 4 info_rdg rfl rfl (by simp [Value.oneCell']) ?_
         intro w9 hR9 hg9))
    refine ret_blk (p := 4) (ty := 98) rfl w.heap.size _ _ _ hR9 rfl Tryd.underlying98 rfl 4 info_rdg rfl rfl ?_
    exact ⟨⟨at_, st, me, fu⟩, (by show st.size ≤ 1000000; omega), rfl, (hS4.grown hg9 (fun k h => by cases h; omega)).more (by omega), grow_own hg4 hg9 (fun k h => by cases h; omega)⟩
  · go_wp2_with fail
    refine (pick_any [at_, at_ + 1, -1, 5761440] _ _ _ _ B sb _ (hS4.alloc _) (by omega) (by simp) (by simp) (Blk.at_ _ rfl _ _) (by omega)).mono ?_
    rintro e w5 ⟨o1, ho1, rfl, hS5, hg5'⟩
    have hD5 := (hD.alloc _).grown hg5' hne2
    have hR5 := (hR.alloc _).grown hg5' hne
    have hw5 := grow_trans (grow_alloc hg4 _) hg5'
    clear hS4 hD hR hg4 hg5' ho1
    go_wp2_with fail
    have hs5 := hS5.lt
    refine (some_any [⟨#[115, 49]⟩, ⟨#[]⟩, ⟨#[65]⟩] _ _ _ _ B sb _ (hS5.alloc _) (by omega) (by simp) (by simp) (Blk.at_ _ rfl _ _) (by omega)).mono ?_
    rintro e w6 ⟨o2, ho2, rfl, hS6, hg6'⟩
    have ho2s : o2.size ≤ 100 := mem_small ho2 (by decide)
    have hD6 := (hD5.alloc _).grown hg6' hne2
    have hR6 := (hR5.alloc _).grown hg6' hne
    have hw6 := grow_trans (grow_alloc hw5 _) hg6'
    clear hS5 hD5 hR5 hw5 hg6' ho2 hs5
    go_wp2_with fail
    refine (odd_any 0 999999 _ B sb _ hS6 (by omega) (by omega) (by omega) (by omega)).mono ?_
    rintro e w7 ⟨o3, ho3, rfl, hS7, hg7⟩
    go_wp2_with fail
    refine (odd_any 0 8 _ B sb _ hS7 (by omega) (by omega) (by omega) (by omega)).mono ?_
    rintro e w8 ⟨o4, ho4, rfl, hS8, hg8⟩
    have hga := grow_trans hg7 hg8
    have hD8 := hD6.grown hga hne2
    have hR8 := hR6.grown hga hne
    have hw8 := grow_trans hw6 hga
    have c0 := hD8.cell_of (i := 0) (v := .int .i64 at_) rfl
    have c1 := hD8.cell_of (i := 1) (v := .string st) rfl
    have c2 := hD8.cell_of (i := 2) (v := .int .i64 me) rfl
    have c3 := hD8.cell_of (i := 3) (v := .int .i64 fu) rfl
    have f0 := hD8.frozen 0
    have f1 := hD8.frozen 1
    have f2 := hD8.frozen 2
    have f3 := hD8.frozen 3
    have hDS : Blk ((((w8.setCell ⟨w3.heap.size, 0, none⟩ (.int .i64 o1)).setCell ⟨w3.heap.size, 1, none⟩ (.string o2)).setCell ⟨w3.heap.size, 2, none⟩ (.int .i64 o3)).setCell ⟨w3.heap.size, 3, none⟩ (.int .i64 o4)) w3.heap.size 98 [.int .i64 o1, .string o2, .int .i64 o3, .int .i64 o4] := (((hD8.set_ 0 _).set_ 1 _).set_ 2 _).set_ 3 _
    have hRS : Blk ((((w8.setCell ⟨w3.heap.size, 0, none⟩ (.int .i64 o1)).setCell ⟨w3.heap.size, 1, none⟩ (.string o2)).setCell ⟨w3.heap.size, 2, none⟩ (.int .i64 o3)).setCell ⟨w3.heap.size, 3, none⟩ (.int .i64 o4)) w.heap.size 98 [.int .i64 0, .string ⟨#[]⟩, .int .i64 0, .int .i64 0] := (((hR8.far (by simp; omega) _).far (by simp; omega) _).far (by simp; omega) _).far (by simp; omega) _
    have hSS : Strm 25 ((((w8.setCell ⟨w3.heap.size, 0, none⟩ (.int .i64 o1)).setCell ⟨w3.heap.size, 1, none⟩ (.string o2)).setCell ⟨w3.heap.size, 2, none⟩ (.int .i64 o3)).setCell ⟨w3.heap.size, 3, none⟩ (.int .i64 o4)) B sb _ := (((hS8.setCell (by simp; omega) _).setCell (by simp; omega) _).setCell (by simp; omega) _).setCell (by simp; omega) _
    have hwS : w.grownBy ((((w8.setCell ⟨w3.heap.size, 0, none⟩ (.int .i64 o1)).setCell ⟨w3.heap.size, 1, none⟩ (.string o2)).setCell ⟨w3.heap.size, 2, none⟩ (.int .i64 o3)).setCell ⟨w3.heap.size, 3, none⟩ (.int .i64 o4)) (some sb) := grow_setCell (grow_setCell (grow_setCell (grow_setCell hw8 (.inr (by simp; omega)) _) (.inr (by simp; omega)) _) (.inr (by simp; omega)) _) (.inr (by simp; omega)) _
    clear hD8 hR8 hw8 hS6 hS7 hS8 hg7 hg8 hga hR6 hw6 hD6 ho3 ho4
    go_wp2_with (first
      | (with_reducible refine wpList_load_all rfl 98 (.tmp 5) rfl w3.heap.size _ _ _ hDS rfl Tryd.underlying98 rfl 4 info_rdg rfl ?_)
      | (with_reducible refine wpList_store_all rfl 98 (.tmp 4) (.tmp 35) rfl w.heap.size _ _ [.int .i64 o1, .string o2, .int .i64 o3, .int .i64 o4] hRS rfl rfl 4 info_rdg rfl rfl (by simp [Value.oneCell']) ?_; intro w9 hR9 hg9))
    refine ret_blk (p := 4) (ty := 98) rfl w.heap.size _ _ _ hR9 rfl Tryd.underlying98 rfl 4 info_rdg rfl rfl ?_
    exact ⟨⟨o1, o2, o3, o4⟩, (by show o2.size ≤ 1000000; omega), rfl, (hSS.grown hg9 (fun k h => by cases h; omega)).more (by omega), grow_own hwS hg9 (fun k h => by cases h; omega)⟩

end Go.Proofs.YtmpomocahgcebaaDoor
