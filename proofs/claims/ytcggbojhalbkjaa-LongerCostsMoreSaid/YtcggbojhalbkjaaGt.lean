/- The walk of the generator of a time. -/
import Derived.Test.YtcggbojhalbkjaaGb
import Derived.IntWalk
namespace Go.Proofs.Ytcggbojhalbkjaa
open Go.RowKit

theorem info_wn : (Try.prog.info? 30).map (·.size) = some 2 := by kernel_rfl
def Far (v : Int) : Prop := -4000000000000000 ≤ v ∧ v ≤ 4000000000000000
theorem mem_far {xs : List Int} {v : Int} (hv : v ∈ xs) (h : ∀ x ∈ xs, -100000000 ≤ x ∧ x ≤ 100000000) : -100000000 ≤ v ∧ v ≤ 100000000 := h v hv

set_option maxRecDepth 100000 in
set_option maxHeartbeats 2000000 in
theorem gtime_any (w : World) (B sb m : Nat) (hS : Strm 25 w B sb m) (hm : m ≤ 100000000000) :
    Calls Try.prog 6 #[.pointer (some ⟨sb, 0, none⟩)] w (fun e w' => ∃ fr to_ : Int, Far fr ∧ Far to_ ∧ e = .returned (.agg #[.int .i64 fr, .int .i64 to_]) ∧ Strm 25 w' B sb (m + 10) ∧ w.grownBy w' (some sb)) := by
  have hlt := hS.lt
  go_enter Try.func6, Try.ntmps6
  go_wp2_with fail
  have hb0 := Blk.at_ w rfl 30 [.int .i64 0, .int .i64 0]
  have hne : some w.heap.size ≠ some sb := fun h => absurd (Option.some.inj h) (by omega)
  refine (pick_any [0, 0, 700, 5040, 5700, 6480, 6500, 8000, 10079, 20000] _ _ _ _ B sb _ ((hS.alloc _).alloc _) (by omega) (by simp) (by simp) (Blk.at_ (w.alloc _) (by simp) _ _) (by omega)).mono ?_
  rintro e w1 ⟨fr, hfr, rfl, hS1, hg1'⟩
  have hf : -100000000 ≤ fr ∧ fr ≤ 100000000 := mem_far hfr (by decide)
  have hf0 := hf.1
  have hf1 := hf.2
  have hb1 := (hb0.alloc _).grown hg1' hne
  have hg1 : w.grownBy w1 (some sb) := grow_trans (grow_alloc (grow_alloc (World.grownBy.refl _ _) _) _) hg1'
  clear hS hb0 hg1' hfr hf
  go_wp2_with fail
  have hs1 := hS1.lt
  refine (pick_any [1, 59, 60, 61, 300, 1440, 1441, 1500, 2880, 4320, 5850, 7200, 8641, 10080, 11520, 14800, 21600] _ _ _ _ B sb _ (hS1.alloc _) (by omega) (by simp) (by simp) (Blk.at_ _ rfl _ _) (by omega)).mono ?_
  rintro e w2 ⟨v, hv, rfl, hS2, hg2'⟩
  have hf : -100000000 ≤ v ∧ v ≤ 100000000 := mem_far hv (by decide)
  have hv0 := hf.1
  have hv1 := hf.2
  have hb2 := (hb1.alloc _).grown hg2' hne
  have hg2 := grow_trans (grow_alloc hg1 _) hg2'
  clear hS1 hb1 hg1 hg2' hv hf hs1
  go_wp2_with fail
  have hs2 := hS2.lt
  obtain ⟨to_, hto⟩ : ∃ t, t = fr + v := ⟨_, rfl⟩
  rw [← hto]
  have hto0 : -200000000 ≤ to_ := by omega
  have hto1 : to_ ≤ 200000000 := by omega
  clear hto
  have hne2 : some w2.heap.size ≠ some sb := fun h => absurd (Option.some.inj h) (by omega)
  refine (flip_any 15 _ B sb _ (hS2.alloc _) (by omega) (by omega) (by omega)).mono ?_
  rintro e w3 ⟨fl, rfl, hS3, hg3'⟩
  have hD := (Blk.at_ w2 rfl 30 [.int .i64 fr, .int .i64 to_]).grown hg3' hne2
  have hR := (hb2.alloc _).grown hg3' hne
  have hg3 := grow_trans (grow_alloc hg2 _) hg3'
  have hlow : w.heap.size < w2.heap.size := hb2.lt
  have hsz3 := hS3.lt
  clear hS2 hb2 hg2 hg3' hs2 hne2
  cases fl
  · go_wp2_with (first
      | (with_reducible refine wpList_load_all rfl 30 (.tmp 4) rfl w2.heap.size _ _ _ hD rfl Try.underlying30 rfl 2 info_wn rfl ?_)
      | (with_reducible refine wpList_store_all rfl 30 (.tmp 2) (.tmp 23) rfl w.heap.size _ _ [.int .i64 fr, .int .i64 to_] hR rfl rfl 2 info_wn rfl rfl (by simp [Value.oneCell']) ?_
         intro w9 hR9 hg9))
    refine ret_blk (p := 2) (ty := 30) rfl w.heap.size _ _ _ hR9 rfl Try.underlying30 rfl 2 info_wn rfl rfl ?_
    exact ⟨fr, to_, ⟨by omega, by omega⟩, ⟨by omega, by omega⟩, rfl, (hS3.grown hg9 (fun k h => by cases h; omega)).more (by omega), grow_own hg3 hg9 (fun k h => by cases h; omega)⟩
  · go_wp2_with fail
    refine (odd_any 0 1000 _ B sb _ hS3 (by omega) (by omega) (by omega) (by omega)).mono ?_
    rintro e w4 ⟨o1, ho1, rfl, hS4, hg4⟩
    have ho10 := ho1.1
    have ho11 := ho1.2
    have hD4 := hD.grown hg4 (fun h => absurd (Option.some.inj h) (by omega))
    have hR4 := hR.grown hg4 hne
    have hw4 := grow_trans hg3 hg4
    clear hS3 hD hR hg3 hg4 ho1
    go_wp2_with fail
    have hs4 := hS4.lt
    refine (pick_any [0, 1000, 5761439, 5761440, 172800, 173801] _ _ _ _ B sb _ (hS4.alloc _) (by omega) (by simp) (by simp) (Blk.at_ _ rfl _ _) (by omega)).mono ?_
    rintro e w5 ⟨u, hu, rfl, hS5, hg5'⟩
    have hf : -100000000 ≤ u ∧ u ≤ 100000000 := mem_far hu (by decide)
    have hu0 := hf.1
    have hu1 := hf.2
    have hD5 := (hD4.alloc _).grown hg5' (fun h => absurd (Option.some.inj h) (by omega))
    have hR5 := (hR4.alloc _).grown hg5' hne
    have hw5 := grow_trans (grow_alloc hw4 _) hg5'
    clear hS4 hD4 hR4 hw4 hg5' hu hf hs4
    go_wp2_with (first
      | (with_reducible refine wpList_store_all rfl 30 (.tmp 4) (.tmp 22) rfl w2.heap.size _ _ [.int .i64 o1, .int .i64 u] hD5 rfl rfl 2 info_wn rfl rfl (by simp [Value.oneCell']) ?_
         intro w6 hD6 hg6
         have hR6 := hR5.grown hg6 (fun h => absurd (Option.some.inj h) (by omega)))
      | (with_reducible refine wpList_load_all rfl 30 (.tmp 4) rfl w2.heap.size _ _ _ hD6 rfl Try.underlying30 rfl 2 info_wn rfl ?_)
      | (with_reducible refine wpList_store_all rfl 30 (.tmp 2) (.tmp 23) rfl w.heap.size _ _ [.int .i64 o1, .int .i64 u] hR6 rfl rfl 2 info_wn rfl rfl (by simp [Value.oneCell']) ?_
         intro w9 hR9 hg9))
    refine ret_blk (p := 2) (ty := 30) rfl w.heap.size _ _ _ hR9 rfl Try.underlying30 rfl 2 info_wn rfl rfl ?_
    exact ⟨o1, u, ⟨by omega, by omega⟩, ⟨by omega, by omega⟩, rfl, ((hS5.grown hg6 (fun k h => by cases h; omega)).grown hg9 (fun k h => by cases h; omega)).more (by omega), grow_own (grow_own hw5 hg6 (fun k h => by cases h; omega)) hg9 (fun k h => by cases h; omega)⟩

end Go.Proofs.Ytcggbojhalbkjaa
