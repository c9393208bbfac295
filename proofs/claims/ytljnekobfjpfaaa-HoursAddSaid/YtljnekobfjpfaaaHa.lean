/- The walk of the law HoursAdd. -/
import Derived.Test.YtljnekobfjpfaaaRd
import Derived.Test.YtljnekobfjpfaaaGst
import Derived.Test.YtljnekobfjpfaaaHp
import Derived.Test.YtljnekobfjpfaaaRun
namespace Go.Proofs.Ytljnekobfjpfaaa
open Go.RowKit

set_option maxRecDepth 100000 in
set_option maxHeartbeats 2000000 in
theorem hours_walk (a0 : Option Addr) (len0 cap0 : Nat) (z0 : List Int) (w : World) (w0 : RowIn w a0 len0 cap0 z0) :
    Calls Try.prog 3 #[.slice a0 len0 cap0] w fun e w' => e = .returned (.bool true) ∧ Below w.heap.size w w' := by
  have hS := Strm.start (TS := 25) w0
  clear w0
  go_enter Try.func3, Try.ntmps3
  go_wp2_with fail
  refine (station_any _ _ _ _ hS (by omega)).mono ?_
  rintro e w1 ⟨key, hs, hks, hl14, hhb, rfl, hS1, hg1⟩
  have hgw1 : w.grownBy w1 none := grow_own (grow_alloc (World.grownBy.refl _ _) _) hg1 (fun k h => by cases h; exact Nat.le_refl _)
  have hlt := hS1.lt
  have hl := Lib.hid hl14
  have Hhb := Lib.hid hhb
  clear hS hg1 hhb hl14
  have hnew : Blk (w1.alloc (.cells #[.string ⟨#[]⟩, .int .i64 0, .int .i64 0, .int .i64 0, .int .i64 0, .int .i64 0, .int .i64 0, .int .i64 0, .int .i64 0, .int .i64 0, .int .i64 0, .int .i64 0, .int .i64 0, .int .i64 0, .int .i64 0] 30)) w1.heap.size 30 (stCells (⟨#[]⟩ : ByteArray) (List.replicate 14 0)) := Blk.at_ w1 rfl _ _
  go_wp2_with (first
    | (with_reducible refine wpList_store_all rfl 30 (.tmp 4) (.tmp 24) rfl w1.heap.size _ _ (stCells key hs) hnew rfl rfl 15 info_st (st_len _ _ hl.out) (st_len _ _ (by simp)) (st_one _ _) ?_
       intro w2 hb2 hg2))
  have hS2 := (hS1.alloc (.cells #[.string ⟨#[]⟩, .int .i64 0, .int .i64 0, .int .i64 0, .int .i64 0, .int .i64 0, .int .i64 0, .int .i64 0, .int .i64 0, .int .i64 0, .int .i64 0, .int .i64 0, .int .i64 0, .int .i64 0, .int .i64 0] 30)).grown hg2 (fun k h => by cases h; exact hlt)
  have hgw2 : w.grownBy w2 none := grow_own (grow_alloc hgw1 _) hg2 (fun k h => by cases h; exact Nat.le_of_lt hlt)
  have hz : w1.heap.size < w2.heap.size := by have := hg2.size; simp at this; omega
  have hne : some w1.heap.size ≠ some w.heap.size := fun h => absurd (Option.some.inj h) (by omega)
  clear hS1 hnew hg2 hgw1
  refine (range_any 0 30000 _ _ _ _ hS2 (by omega) (by omega) (by omega) (by omega) (by omega)).mono ?_
  rintro e w3 ⟨at_, hat, rfl, hS3, hg3⟩
  have hat0 : 0 ≤ at_ := hat.1
  have hat1 : at_ ≤ 30000 := by omega
  have hb3 := hb2.grown hg3 hne
  have hgw3 : w.grownBy w3 none := grow_own hgw2 hg3 (fun k h => by cases h; exact Nat.le_refl _)
  clear hS2 hat hb2 hg3 hgw2 hz
  go_wp2_with fail
  refine (range_any 0 20000 _ _ _ _ hS3 (by omega) (by omega) (by omega) (by omega) (by omega)).mono ?_
  rintro e w4 ⟨r, hr, rfl, hS4, hg4⟩
  have hr0 : 0 ≤ r := hr.1
  have hr1 : r ≤ 20000 := by omega
  have hb4 := hb3.grown hg4 hne
  have hgw4 : w.grownBy w4 none := grow_own hgw3 hg4 (fun k h => by cases h; exact Nat.le_refl _)
  clear hS3 hr hb3 hg4 hgw3
  go_wp2_with fail
  obtain ⟨T, hT⟩ : ∃ T, T = at_ + r := ⟨_, rfl⟩
  rw [← hT]
  have hlt4 := hS4.lt
  refine (range_any at_ T _ _ _ _ (hS4.alloc _) (by omega) (by omega) (by omega) (by omega) (by omega)).mono ?_
  rintro e w5 ⟨mid, hm, rfl, hS5, hg5⟩
  have hm0 : at_ ≤ mid := hm.1
  have hm1 : mid ≤ T := by omega
  have hT0 : at_ ≤ T := by omega
  have hT1 : T ≤ 50000 := by omega
  have hbs := (hb4.alloc (.cells #[.int .i64 at_, .int .i64 T] 27)).grown hg5 hne
  have hbw := (Blk.at_ w4 rfl 27 [.int .i64 at_, .int .i64 T]).grown hg5 (fun h => absurd (Option.some.inj h) (by omega))
  have hgw5 : w.grownBy w5 none := grow_own (grow_alloc hgw4 _) hg5 (fun k h => by cases h; exact Nat.le_refl _)
  clear hS4 hm hb4 hg5 hgw4 hS5 hT hr0 hr1 hne hlt hlt4
  obtain ⟨X, hX⟩ : ∃ X, X = w1.heap.size := ⟨_, rfl⟩
  obtain ⟨Y, hY⟩ : ∃ Y, Y = w4.heap.size := ⟨_, rfl⟩
  rw [← hX] at hbs ⊢
  rw [← hY] at hbw ⊢
  clear hX hY
  have hok : StOk ⟨key, hs⟩ := ⟨hl.out, by show key.size ≤ _; omega, fun h hh => by have := Hhb.out h hh; omega⟩
  have Hok := Lib.hid hok
  have Hb := Lib.hid (fun h hh => (by have := Hhb.out h hh; omega) : ∀ h ∈ hs, -1000000000000000000 ≤ h ∧ h ≤ 1000000000000000000)
  clear hok Hhb
  have k0 := hbw.cell_of (i := 0) (v := .int .i64 at_) rfl
  have k1 := hbw.cell_of (i := 1) (v := .int .i64 T) rfl
  go_wp2_with (with_reducible refine wpList_load_all rfl 30 (.tmp 4) rfl X _ _ _ hbs rfl Try.underlying30 rfl 15 info_st (st_len _ _ hl.out) ?_)
  refine (openMin_any key hs at_ T _ Hok.out Hb.out).mono ?_
  rintro e w6 ⟨rfl, hg6⟩
  have hbs6 := hbs.grown hg6 (by simp)
  have hbw6 := hbw.grown hg6 (by simp)
  have hgw6 := grow_trans hgw5 hg6
  clear hbs hbw hgw5 hg6 k0 k1
  have k0 := hbw6.cell_of (i := 0) (v := .int .i64 at_) rfl
  have k1 := hbw6.cell_of (i := 1) (v := .int .i64 T) rfl
  go_wp2_with (with_reducible refine wpList_load_all rfl 30 (.tmp 4) rfl X _ _ _ hbs6 rfl Try.underlying30 rfl 15 info_st (st_len _ _ hl.out) ?_)
  refine (openMin_any key hs at_ mid _ Hok.out Hb.out).mono ?_
  rintro e w7 ⟨rfl, hg7⟩
  have hbs7 := hbs6.grown hg7 (by simp)
  have hbw7 := hbw6.grown hg7 (by simp)
  have hgw7 := grow_trans hgw6 hg7
  clear hbs6 hbw6 hgw6 hg7 k0 k1
  have k0 := hbw7.cell_of (i := 0) (v := .int .i64 at_) rfl
  have k1 := hbw7.cell_of (i := 1) (v := .int .i64 T) rfl
  go_wp2_with (with_reducible refine wpList_load_all rfl 30 (.tmp 4) rfl X _ _ _ hbs7 rfl Try.underlying30 rfl 15 info_st (st_len _ _ hl.out) ?_)
  refine (openMin_any key hs mid T _ Hok.out Hb.out).mono ?_
  rintro e w8 ⟨rfl, hg8⟩
  have hbs8 := hbs7.grown hg8 (by simp)
  have hgw8 := grow_trans hgw7 hg8
  clear hbs7 hbw7 hgw7 hg8 k0 k1
  rw [openMinE_eq (s := ⟨key, hs⟩) hat0 hT0 (by omega), openMinE_eq (s := ⟨key, hs⟩) hat0 hm0 (by omega), openMinE_eq (s := ⟨key, hs⟩) (by omega) hm1 (by omega)]
  obtain ⟨E, hE⟩ : ∃ E, E = stationsE [⟨key, hs⟩] := ⟨_, rfl⟩
  rw [← hE]
  have HE := Lib.hid hE
  clear hE
  by_cases h0 : E = 0
  · have HS := Lib.hid (HE.out.symm.trans h0)
    have HA := Lib.hid (openMin_add HS.out hat0 hm0 hm1 (by omega))
    subst h0
    obtain ⟨a, ha⟩ : ∃ a, a = openMinV ⟨key, hs⟩ at_ T := ⟨_, rfl⟩
    obtain ⟨b, hb⟩ : ∃ b, b = openMinV ⟨key, hs⟩ at_ mid := ⟨_, rfl⟩
    obtain ⟨c, hc⟩ : ∃ c, c = openMinV ⟨key, hs⟩ mid T := ⟨_, rfl⟩
    have hbb := openMin_bound (s := ⟨key, hs⟩) hat0 (show mid ≤ 5761440 by omega)
    have hcb := openMin_bound (s := ⟨key, hs⟩) (show 0 ≤ mid by omega) (show T ≤ 5761440 by omega)
    have hA := HA.out
    rw [← ha, ← hb, ← hc] at hA ⊢
    rw [← hb] at hbb
    rw [← hc] at hcb
    have hb0 : 0 ≤ b := hbb.1
    have hb1 : b ≤ 5761440 * 4002 := hbb.2
    have hc0 : 0 ≤ c := hcb.1
    have hc1 : c ≤ 5761440 * 4002 := hcb.2
    clear ha hb hc hbb hcb HA
    subst hA
    go_wp2_with (with_reducible refine wpList_load_all rfl 30 (.tmp 4) rfl X _ _ _ hbs8 rfl Try.underlying30 rfl 15 info_st (st_len _ _ hl.out) ?_)
    refine (nextOpen_any key hs at_ _ Hok.out Hb.out).mono ?_
    rintro e w9 ⟨rfl, hg9⟩
    have hbs9 := hbs8.grown hg9 (by simp)
    have hgw9 := grow_trans hgw8 hg9
    clear hbs8 hgw8 hg9
    obtain ⟨F, hF⟩ : ∃ F, F = nextE ⟨key, hs⟩ at_ := ⟨_, rfl⟩
    obtain ⟨N, hN⟩ : ∃ N, N = nextV ⟨key, hs⟩ at_ := ⟨_, rfl⟩
    rw [← hF, ← hN]
    by_cases hF0 : F = 0
    · have hlaw := next_law HS.out hat0 (by omega) (hF.symm.trans hF0)
      rw [← hN] at hlaw
      have HL := Lib.hid hlaw
      subst hF0
      clear hF hN hlaw
      have cI : ∀ w, Calls Try.prog 11 #[.agg (stCells key hs).toArray, .int .i64 N] w (RetBE w true (isOpenE ⟨key, hs⟩ N)) := fun w => by
        have h := isOpen_any key hs N w Hok.out Hb.out
        rw [HL.out.1] at h
        exact h
      have cM : ∀ w, Calls Try.prog 8 #[.agg (stCells key hs).toArray, .agg #[.int .i64 at_, .int .i64 N]] w (RetIE w 0 (openMinE ⟨key, hs⟩ at_ N)) := fun w => by
        have h := openMin_any key hs at_ N w Hok.out Hb.out
        rw [HL.out.2] at h
        exact h
      have CI := Lib.hid cI
      have CM := Lib.hid cM
      clear cI cM
      go_wp2_with (with_reducible refine wpList_load_all rfl 30 (.tmp 4) rfl X _ _ _ hbs9 rfl Try.underlying30 rfl 15 info_st (st_len _ _ hl.out) ?_)
      refine (CI.out _).mono ?_
      rintro e w10 ⟨rfl, hg10⟩
      have hbs10 := hbs9.grown hg10 (by simp)
      have hgw10 := grow_trans hgw9 hg10
      clear hbs9 hgw9 hg10
      go_wp2_with (with_reducible refine wpList_load_all rfl 30 (.tmp 4) rfl X _ _ _ hbs10 rfl Try.underlying30 rfl 15 info_st (st_len _ _ hl.out) ?_)
      refine (CM.out _).mono ?_
      rintro e w11 ⟨rfl, hg11⟩
      have hgw11 := grow_trans hgw10 hg11
      clear hbs10 hgw10 hg11
      go_wp2_with fail
      refine (ready_any _).mono ?_
      rintro e w12 ⟨rfl, hg12⟩
      go_wp2_with fail
      go_ret
      exact ⟨ret_bool (by simp), below_of_grow (grow_trans hgw11 hg12)⟩
    · have hFq : (F == 0) = false := by simpa using hF0
      clear hF hN hF0
      go_wp2_with fail
      refine (ready_any _).mono ?_
      rintro e w12 ⟨rfl, hg12⟩
      go_wp2_with fail
      go_ret
      exact ⟨ret_bool (by simp), below_of_grow (grow_trans hgw9 hg12)⟩
  · have hne : (E != 0) = true := by simpa using h0
    clear h0
    go_wp2_with fail
    refine (ready_any _).mono ?_
    rintro e w9 ⟨rfl, hg9⟩
    go_wp2_with fail
    go_ret
    exact ⟨ret_bool (by simp), below_of_grow (grow_trans hgw8 hg9)⟩

end Go.Proofs.Ytljnekobfjpfaaa
