/- The walk of the law HireStarts. -/
import Derived.Test.YtljnekobfjpfaaaDoorEq
import Derived.Test.YtljnekobfjpfaaaDoorGr
import Derived.Test.YtljnekobfjpfaaaDoorRun
namespace Go.Proofs.YtljnekobfjpfaaaDoor
open Go.RowKit

theorem info_rdl : (Tryd.prog.info? 31).map (·.size) = some 4 := by kernel_rfl

set_option maxRecDepth 100000 in
set_option maxHeartbeats 4000000 in
theorem starts_walk (a0 : Option Addr) (len0 cap0 : Nat) (z0 : List Int) (w : World) (w0 : RowIn w a0 len0 cap0 z0) :
    Calls Tryd.prog 3 #[.slice a0 len0 cap0] w fun e w' => e = .returned (.bool true) ∧ Below w.heap.size w w' := by
  have hS := Strm.start (TS := 25) w0
  clear w0
  go_enter Tryd.func3, Tryd.ntmps3
  go_wp2_with fail
  refine (some_any [⟨#[104, 49]⟩, ⟨#[104, 49]⟩, ⟨#[]⟩, ⟨#[65]⟩] _ _ _ _ w.heap.size w.heap.size _ (hS.alloc _) (by omega) (by simp) (by simp) (Blk.at_ _ (by simp) _ _) (by omega)).mono ?_
  rintro e w1 ⟨key, hkey, rfl, hS1, hg1'⟩
  have hk : key.size ≤ 100 := mem_small hkey (by decide)
  have hg1 : w.grownBy w1 none := grow_own (grow_alloc (grow_alloc (World.grownBy.refl _ _) _) _) hg1' (fun k h => by cases h; exact Nat.le_refl _)
  clear hS hkey hg1'
  go_wp2_with fail
  have hs1 := hS1.lt
  refine (some_any [⟨#[97, 110, 110]⟩, ⟨#[97, 110, 110]⟩, ⟨#[65]⟩] _ _ _ _ w.heap.size w.heap.size _ (hS1.alloc _) (by omega) (by simp) (by simp) (Blk.at_ _ rfl _ _) (by omega)).mono ?_
  rintro e w2 ⟨driver, hdriver, rfl, hS2, hg2'⟩
  have hd : driver.size ≤ 100 := mem_small hdriver (by decide)
  have hg2 := grow_own (grow_alloc hg1 _) hg2' (fun k h => by cases h; exact Nat.le_refl _)
  clear hS1 hg1 hdriver hg2' hs1
  go_wp2_with fail
  have hs2 := hS2.lt
  refine (some_any [⟨#[118, 49]⟩, ⟨#[118, 49]⟩, ⟨#[]⟩] _ _ _ _ w.heap.size w.heap.size _ (hS2.alloc _) (by omega) (by simp) (by simp) (Blk.at_ _ rfl _ _) (by omega)).mono ?_
  rintro e w3 ⟨veh, hveh, rfl, hS3, hg3'⟩
  have hv : veh.size ≤ 100 := mem_small hveh (by decide)
  have hg3 := grow_own (grow_alloc hg2 _) hg3' (fun k h => by cases h; exact Nat.le_refl _)
  clear hS2 hg2 hveh hg3' hs2
  go_wp2_with fail
  refine (gtime_any _ w.heap.size w.heap.size _ hS3 (by omega)).mono ?_
  rintro e w4 ⟨fr, to_, hfr, hto, rfl, hS4, hg4'⟩
  have hf0 := hfr.1
  have hf1 := hfr.2
  have hg4 := grow_own hg3 hg4' (fun k h => by cases h; exact Nat.le_refl _)
  clear hS3 hg3 hg4' hfr hto
  go_wp2_with fail
  have hs4 := hS4.lt
  have hne4 : some w4.heap.size ≠ some w.heap.size := fun h => absurd (Option.some.inj h) (by omega)
  have hW4 := Blk.at_ w4 rfl 28 [.int .i64 fr, .int .i64 to_]
  refine (pick_any [fr, fr, fr, 7] _ _ _ _ w.heap.size w.heap.size _ ((hS4.alloc _).alloc _) (by omega) (by simp) (by simp) (Blk.at_ _ (by simp) _ _) (by simp; omega)).mono ?_
  rintro e w5 ⟨at_, hat, rfl, hS5, hg5'⟩
  have hat0 : -4000000000000000 ≤ at_ ∧ at_ ≤ 4000000000000000 := by
    simp at hat
    rcases hat with rfl | rfl <;> omega
  have hW5 := (hW4.alloc _).grown hg5' hne4
  have hg5 : w.grownBy w5 none := grow_own (grow_alloc (grow_alloc hg4 _) _) hg5' (fun k h => by cases h; exact Nat.le_refl _)
  have ha0 := hat0.1
  have ha1 := hat0.2
  clear hS4 hW4 hg4 hg5' hat hat0
  go_wp2_with fail
  refine (greading_any at_ _ w.heap.size w.heap.size _ hS5 (by omega) ha0 ha1).mono ?_
  rintro e w6 ⟨r, hr, rfl, hS6, hg6'⟩
  have hW6 := hW5.grown hg6' hne4
  have hg6 := grow_own hg5 hg6' (fun k h => by cases h; exact Nat.le_refl _)
  have hs6 := hS6.lt
  have hl46 := hW6.lt
  have Hr := Lib.hid hr
  clear hS5 hW5 hg5 hg6' hr ha0 ha1
  have hnew := Blk.at_ w6 rfl 31 [.int .i64 0, .string ⟨#[]⟩, .int .i64 0, .int .i64 0]
  go_wp2_with (first
    | (with_reducible refine wpList_store_all rfl 31 (.tmp 8) (.tmp 37) rfl w6.heap.size _ _ (rdCells r) hnew rfl rfl 4 info_rdl rfl rfl (rd_one r) ?_
       intro w7 hR7 hg7'
       have hW7 := (hW6.alloc (.cells #[.int .i64 0, .string ⟨#[]⟩, .int .i64 0, .int .i64 0] 31)).grown hg7' (fun h => absurd (Option.some.inj h) (by omega)))
    | (with_reducible refine wpList_load_all rfl 28 (.tmp 7) rfl w4.heap.size _ _ _ hW7 rfl Tryd.underlying28 rfl 2 info_wn rfl ?_)
    | (with_reducible refine wpList_load_all rfl 31 (.tmp 8) rfl w6.heap.size _ _ _ hR7 rfl Tryd.underlying31 rfl 4 info_rdl rfl ?_))
  have hg7 : w.grownBy w7 none := grow_own (grow_alloc hg6 _) hg7' (fun k h => by cases h; omega)
  obtain ⟨E, hE⟩ : ∃ E, hireE ⟨key, driver, fr, to_, [startLeg veh r]⟩ = E := ⟨_, rfl⟩
  have CS := Lib.hid (fun w => (by rw [← hE]; exact start_any key driver fr to_ veh r w (by omega) (by omega) (by omega) Hr.out : Calls Tryd.prog 16 #[.string key, .string driver, .agg #[.int .i64 fr, .int .i64 to_], .string veh, .agg (rdCells r).toArray] w (fun e w' => ∃ A,
      e = .returned (.tuple #[madeV key driver fr to_ A 1 1 E, .int .i64 E]) ∧ SlT lgEnc 9 138 w' A 1 [startLeg veh r] ∧ w.grownBy w' none)))
  have CR := Lib.hid (fun w => (by rw [← hE]; exact startOf_any key driver fr to_ veh r w (by omega) (by omega) (by omega) Hr.out : Calls Tryd.prog 17 #[.string key, .string driver, .agg #[.int .i64 fr, .int .i64 to_], .string veh, .agg (rdCells r).toArray] w (fun e w' => ∃ A,
      e = .returned (.tuple #[madeV key driver fr to_ A 1 1 E, .int .i64 E]) ∧ SlT lgEnc 9 138 w' A 1 [startLeg veh r] ∧ w.grownBy w' none)))
  clear hE hnew hS6 hW6 hg6 hg7' hk hd hv
  refine (CS.out _).mono ?_
  rintro e w8 ⟨A1, rfl, hl8, hg8'⟩
  have hW8 := hW7.grown hg8' (by simp)
  have hR8 := hR7.grown hg8' (by simp)
  have hg8 := grow_trans hg7 hg8'
  have hz8 := hR8.lt
  clear hW7 hR7 hg7 hg8'
  have hnew := Blk.at_ w8 rfl 36 [.string ⟨#[]⟩, .string ⟨#[]⟩, .int .i64 0, .int .i64 0, .slice none 0 0]
  have hN := fun (A : Option Addr) (h : E = 0) => (show madeV key driver fr to_ A 1 1 E = .agg #[.string key, .string driver, .int .i64 fr, .int .i64 to_, .slice A 1 1] by rw [h]; rfl)
  have hM := fun (A : Option Addr) (h : E ≠ 0) => (show madeV key driver fr to_ A 1 1 E = .agg #[.string ⟨#[]⟩, .string ⟨#[]⟩, .int .i64 0, .int .i64 0, .slice none 0 0] by unfold madeV; rw [if_neg h])
  have HN := Lib.hid hN
  have HM := Lib.hid hM
  clear hN hM
  by_cases h0 : E = 0
  · rw [HN.out A1 h0]
    have H0 := Lib.hid h0
    clear h0
    go_wp2_with (first
      | (with_reducible refine wpList_store_all rfl 36 (.tmp 9) (.tmp 45) rfl w8.heap.size _ _ [.string key, .string driver, .int .i64 fr, .int .i64 to_, .slice A1 1 1] hnew rfl rfl 5 info_hr rfl rfl (by simp [Value.oneCell']) ?_
         intro w9 hA9 hg9'
         have hW9 := (hW8.alloc (.cells #[.string ⟨#[]⟩, .string ⟨#[]⟩, .int .i64 0, .int .i64 0, .slice none 0 0] 36)).grown hg9' (fun h => absurd (Option.some.inj h) (by omega))
         have hR9 := (hR8.alloc (.cells #[.string ⟨#[]⟩, .string ⟨#[]⟩, .int .i64 0, .int .i64 0, .slice none 0 0] 36)).grown hg9' (fun h => absurd (Option.some.inj h) (by omega)))
      | (with_reducible refine wpList_load_all rfl 28 (.tmp 7) rfl w4.heap.size _ _ _ hW9 rfl Tryd.underlying28 rfl 2 info_wn rfl ?_)
      | (with_reducible refine wpList_load_all rfl 31 (.tmp 8) rfl w6.heap.size _ _ _ hR9 rfl Tryd.underlying31 rfl 4 info_rdl rfl ?_))
    have hg9 : w.grownBy w9 none := grow_own (grow_alloc hg8 _) hg9' (fun k h => by cases h; omega)
    have hl9 := (hl8.alloc (.cells #[.string ⟨#[]⟩, .string ⟨#[]⟩, .int .i64 0, .int .i64 0, .slice none 0 0] 36)).grown hg9' hnew (by decide)
    clear hnew hW8 hR8 hl8 hg8 hg9'
    refine (CR.out _).mono ?_
    rintro e w10 ⟨A2, rfl, hl10, hg10'⟩
    rw [HN.out A2 H0.out]
    have hA10 := hA9.grown hg10' (by simp)
    have hg10 := grow_trans hg9 hg10'
    have hm10 := hl9.grow0 hg10'
    have hz10 := hA10.lt
    clear hA9 hW9 hR9 hg9 hg10' hl9
    have hnew := Blk.at_ w10 rfl 36 [.string ⟨#[]⟩, .string ⟨#[]⟩, .int .i64 0, .int .i64 0, .slice none 0 0]
    go_wp2_with (first
      | (with_reducible refine wpList_store_all rfl 36 (.tmp 11) (.tmp 54) rfl w10.heap.size _ _ [.string key, .string driver, .int .i64 fr, .int .i64 to_, .slice A2 1 1] hnew rfl rfl 5 info_hr rfl rfl (by simp [Value.oneCell']) ?_
         intro w11 hB11 hg11'
         have hA11 := (hA10.alloc (.cells #[.string ⟨#[]⟩, .string ⟨#[]⟩, .int .i64 0, .int .i64 0, .slice none 0 0] 36)).grown hg11' (fun h => absurd (Option.some.inj h) (by omega))
         have p0 := hA11.cell_of (i := 0) (v := .string key) rfl
         have p1 := hA11.cell_of (i := 1) (v := .string driver) rfl
         have p2 := hA11.cell_of (i := 2) (v := .int .i64 fr) rfl
         have p3 := hA11.cell_of (i := 3) (v := .int .i64 to_) rfl
         have p4 := hA11.cell_of (i := 4) (v := .slice A1 1 1) rfl
         have r0 := hB11.cell_of (i := 0) (v := .string key) rfl
         have r1 := hB11.cell_of (i := 1) (v := .string driver) rfl
         have r2 := hB11.cell_of (i := 2) (v := .int .i64 fr) rfl
         have r3 := hB11.cell_of (i := 3) (v := .int .i64 to_) rfl
         have r4 := hB11.cell_of (i := 4) (v := .slice A2 1 1) rfl))
    have hg11 : w.grownBy w11 none := grow_own (grow_alloc hg10 _) hg11' (fun k h => by cases h; omega)
    have hm11 := (hm10.alloc (.cells #[.string ⟨#[]⟩, .string ⟨#[]⟩, .int .i64 0, .int .i64 0, .slice none 0 0] 36)).grown hg11' hnew (by decide)
    have hl11 := (hl10.alloc (.cells #[.string ⟨#[]⟩, .string ⟨#[]⟩, .int .i64 0, .int .i64 0, .slice none 0 0] 36)).grown hg11' hnew (by decide)
    clear hnew hA10 hg10 hg11' hm10 hl10
    refine (sameHire_any key driver fr to_ [startLeg veh r] A1 A2 1 1 1 _ hm11 hl11 (by omega)).mono ?_
    rintro e w12 ⟨rfl, hg12⟩
    go_wp2_with fail
    refine (hired_any _).mono ?_
    rintro e w13 ⟨rfl, hg13⟩
    go_wp2_with fail
    go_ret
    exact ⟨ret_bool (by simp), below_of_grow (grow_trans (grow_trans hg11 hg12) hg13)⟩
  · rw [HM.out A1 h0]
    have H0 := Lib.hid h0
    clear h0
    go_wp2_with (first
      | (with_reducible refine wpList_store_all rfl 36 (.tmp 9) (.tmp 45) rfl w8.heap.size _ _ [.string ⟨#[]⟩, .string ⟨#[]⟩, .int .i64 0, .int .i64 0, .slice none 0 0] hnew rfl rfl 5 info_hr rfl rfl (by simp [Value.oneCell']) ?_
         intro w9 hA9 hg9'
         have hW9 := (hW8.alloc (.cells #[.string ⟨#[]⟩, .string ⟨#[]⟩, .int .i64 0, .int .i64 0, .slice none 0 0] 36)).grown hg9' (fun h => absurd (Option.some.inj h) (by omega))
         have hR9 := (hR8.alloc (.cells #[.string ⟨#[]⟩, .string ⟨#[]⟩, .int .i64 0, .int .i64 0, .slice none 0 0] 36)).grown hg9' (fun h => absurd (Option.some.inj h) (by omega)))
      | (with_reducible refine wpList_load_all rfl 28 (.tmp 7) rfl w4.heap.size _ _ _ hW9 rfl Tryd.underlying28 rfl 2 info_wn rfl ?_)
      | (with_reducible refine wpList_load_all rfl 31 (.tmp 8) rfl w6.heap.size _ _ _ hR9 rfl Tryd.underlying31 rfl 4 info_rdl rfl ?_))
    have hg9 : w.grownBy w9 none := grow_own (grow_alloc hg8 _) hg9' (fun k h => by cases h; omega)
    clear hnew hW8 hR8 hl8 hg8 hg9'
    refine (CR.out _).mono ?_
    rintro e w10 ⟨A2, rfl, hl10, hg10'⟩
    rw [HM.out A2 H0.out]
    have hA10 := hA9.grown hg10' (by simp)
    have hg10 := grow_trans hg9 hg10'
    have hz10 := hA10.lt
    clear hA9 hW9 hR9 hg9 hg10' hl10
    have hnew := Blk.at_ w10 rfl 36 [.string ⟨#[]⟩, .string ⟨#[]⟩, .int .i64 0, .int .i64 0, .slice none 0 0]
    go_wp2_with (first
      | (with_reducible refine wpList_store_all rfl 36 (.tmp 11) (.tmp 54) rfl w10.heap.size _ _ [.string ⟨#[]⟩, .string ⟨#[]⟩, .int .i64 0, .int .i64 0, .slice none 0 0] hnew rfl rfl 5 info_hr rfl rfl (by simp [Value.oneCell']) ?_
         intro w11 hB11 hg11'
         have hA11 := (hA10.alloc (.cells #[.string ⟨#[]⟩, .string ⟨#[]⟩, .int .i64 0, .int .i64 0, .slice none 0 0] 36)).grown hg11' (fun h => absurd (Option.some.inj h) (by omega))
         have p0 := hA11.cell_of (i := 0) (v := .string ⟨#[]⟩) rfl
         have p1 := hA11.cell_of (i := 1) (v := .string ⟨#[]⟩) rfl
         have p2 := hA11.cell_of (i := 2) (v := .int .i64 0) rfl
         have p3 := hA11.cell_of (i := 3) (v := .int .i64 0) rfl
         have p4 := hA11.cell_of (i := 4) (v := .slice none 0 0) rfl
         have r0 := hB11.cell_of (i := 0) (v := .string ⟨#[]⟩) rfl
         have r1 := hB11.cell_of (i := 1) (v := .string ⟨#[]⟩) rfl
         have r2 := hB11.cell_of (i := 2) (v := .int .i64 0) rfl
         have r3 := hB11.cell_of (i := 3) (v := .int .i64 0) rfl
         have r4 := hB11.cell_of (i := 4) (v := .slice none 0 0) rfl))
    have hg11 : w.grownBy w11 none := grow_own (grow_alloc hg10 _) hg11' (fun k h => by cases h; omega)
    clear hnew hA10 hg10 hg11'
    refine (sameHire_any ⟨#[]⟩ ⟨#[]⟩ 0 0 [] none none 0 0 0 _ (SlT.nil_ _ _) (SlT.nil_ _ _) (by omega)).mono ?_
    rintro e w12 ⟨rfl, hg12⟩
    go_wp2_with fail
    refine (hired_any _).mono ?_
    rintro e w13 ⟨rfl, hg13⟩
    go_wp2_with fail
    go_ret
    exact ⟨ret_bool (by simp), below_of_grow (grow_trans (grow_trans hg11 hg12) hg13)⟩

end Go.Proofs.YtljnekobfjpfaaaDoor
