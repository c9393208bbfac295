/- The walk of lot.OpenMinutes. -/
import Derived.Test.YtcggbojhalbkjaaDoorLopB
import Derived.Test.YtcggbojhalbkjaaDoorWin
namespace Go.Proofs.YtcggbojhalbkjaaDoor
open Go.RowKit

/-- The minutes of a window on n days from day d on. -/
def minSum (hs : List Int) (a b : Int) : Nat → Int → Int
  | 0, _ => 0
  | n + 1, d => if d * 1440 < b then commonV a b (hourFr hs d) (hourTo hs d) + minSum hs a b n (d + 1) else 0
def openMinE (s : St) (a b : Int) : Int := firstE [stationsE [s], windowE a b]
def openMinV (s : St) (a b : Int) : Int := if openMinE s a b = 0 then minSum s.hs a b 4002 (a / 1440) else 0

theorem windowE_ok {a b : Int} (h : windowE a b = 0) : 0 ≤ a ∧ a ≤ b ∧ b ≤ 5761440 := by
  unfold windowE whenE at h
  cases hb : inB a 0 b
  · simp [hb] at h
  · have := inB_iff.1 hb
    by_cases h2 : 5761440 < b
    · simp [hb, h2] at h
    · omega
theorem common_bound (a b c d : Int) (h0 : 0 ≤ a) (h : b ≤ 5761440) : 0 ≤ commonV a b c d ∧ commonV a b c d ≤ 5761440 := by
  unfold commonV; omega

set_option maxRecDepth 100000 in
set_option maxHeartbeats 2000000 in
theorem openMin_any (key : ByteArray) (hs : List Int) (a b : Int) (w : World) (hok : StOk ⟨key, hs⟩) (hb : ∀ h ∈ hs, -1000000000000000000 ≤ h ∧ h ≤ 1000000000000000000) :
    Calls Tryd.prog 27 #[.agg (stCells key hs).toArray, .agg #[.int .i64 a, .int .i64 b]] w (RetIE w (openMinV ⟨key, hs⟩ a b) (openMinE ⟨key, hs⟩ a b)) := by
  have Hok := Lib.hid hok
  have Hb := Lib.hid hb
  clear hb
  obtain ⟨a0, a1, a2, a3, a4, a5, a6, a7, a8, a9, a10, a11, a12, a13, rfl⟩ := list14 hs hok.1
  clear hok
  show Calls Tryd.prog 27 #[.agg #[.string key, .int .i64 a0, .int .i64 a1, .int .i64 a2, .int .i64 a3, .int .i64 a4, .int .i64 a5, .int .i64 a6, .int .i64 a7, .int .i64 a8, .int .i64 a9, .int .i64 a10, .int .i64 a11, .int .i64 a12, .int .i64 a13], .agg #[.int .i64 a, .int .i64 b]] w _
  go_enter Tryd.func27, Tryd.ntmps27
  go_wp2_with fail
  go_upto_region 1 with fail
  go_cut [6] (fun v wx => v = .int .i64 (openMinE ⟨key, [a0, a1, a2, a3, a4, a5, a6, a7, a8, a9, a10, a11, a12, a13]⟩ a b) ∧ ((w.alloc (.cells #[.string key, .int .i64 a0, .int .i64 a1, .int .i64 a2, .int .i64 a3, .int .i64 a4, .int .i64 a5, .int .i64 a6, .int .i64 a7, .int .i64 a8, .int .i64 a9, .int .i64 a10, .int .i64 a11, .int .i64 a12, .int .i64 a13] 56)).alloc (.cells #[.int .i64 a, .int .i64 b] 31)).grownBy wx none)
  case first =>
    go_region_with (first
      | (go_at_call 66; refine (window_any _ _ _).mono ?_; rintro e w1 ⟨rfl, hg1⟩; have hbx : Blk w1 w.heap.size 56 (stCells key [a0, a1, a2, a3, a4, a5, a6, a7, a8, a9, a10, a11, a12, a13]) := (((Blk.at_ w rfl _ _).alloc _).drewN 1).grown hg1 (by simp); have c0 := hbx.cell_of (i := 0) (v := .string key) rfl; have c1 := hbx.cell_of (i := 1) (v := .int .i64 a0) rfl; have c2 := hbx.cell_of (i := 2) (v := .int .i64 a1) rfl; have c3 := hbx.cell_of (i := 3) (v := .int .i64 a2) rfl; have c4 := hbx.cell_of (i := 4) (v := .int .i64 a3) rfl; have c5 := hbx.cell_of (i := 5) (v := .int .i64 a4) rfl; have c6 := hbx.cell_of (i := 6) (v := .int .i64 a5) rfl; have c7 := hbx.cell_of (i := 7) (v := .int .i64 a6) rfl; have c8 := hbx.cell_of (i := 8) (v := .int .i64 a7) rfl; have c9 := hbx.cell_of (i := 9) (v := .int .i64 a8) rfl; have c10 := hbx.cell_of (i := 10) (v := .int .i64 a9) rfl; have c11 := hbx.cell_of (i := 11) (v := .int .i64 a10) rfl; have c12 := hbx.cell_of (i := 12) (v := .int .i64 a11) rfl; have c13 := hbx.cell_of (i := 13) (v := .int .i64 a12) rfl; have c14 := hbx.cell_of (i := 14) (v := .int .i64 a13) rfl)
      | (go_at_call 63; refine (checkStation_any key [a0, a1, a2, a3, a4, a5, a6, a7, a8, a9, a10, a11, a12, a13] _ _ Hok.out).mono ?_; rintro e w2 ⟨rfl, hg2⟩))
    all_goals (go_wp2_with fail; go_meet; exact ⟨rfl, grow_trans (grow_trans (grow_drew (World.grownBy.refl _ _)) hg1) hg2⟩)
  case rest =>
    obtain ⟨rfl, hg1⟩ := hcut
    obtain ⟨w1, hw1⟩ : ∃ w1 : World, w1 = wc := ⟨_, rfl⟩
    rw [← hw1] at hg1 ⊢
    clear hw1
    obtain ⟨E, hE⟩ : ∃ E, E = openMinE ⟨key, [a0, a1, a2, a3, a4, a5, a6, a7, a8, a9, a10, a11, a12, a13]⟩ a b := ⟨_, rfl⟩
    rw [← hE]
    have HE := Lib.hid hE; clear hE
    have hbox : Blk w1 w.heap.size 56 (stCells key [a0, a1, a2, a3, a4, a5, a6, a7, a8, a9, a10, a11, a12, a13]) := ((Blk.at_ w rfl _ _).alloc _).grown hg1 (by simp)
    have hbow : Blk w1 (w.heap.size + 1) 31 [.int .i64 a, .int .i64 b] := (Blk.at_ (w.alloc _) (by simp) _ _).grown hg1 (by simp)
    have hgw : w.grownBy w1 none := grow_trans (grow_alloc (grow_alloc (World.grownBy.refl _ _) _) _) hg1
    clear hg1
    by_cases h0 : E = 0
    · have hm := windowE_ok (firstE_two (HE.out.symm.trans h0)).2
      have hm1 : 0 ≤ a := hm.1
      have hm2 : b ≤ 5761440 := hm.2.2
      have hV : openMinV ⟨key, [a0, a1, a2, a3, a4, a5, a6, a7, a8, a9, a10, a11, a12, a13]⟩ a b = minSum [a0, a1, a2, a3, a4, a5, a6, a7, a8, a9, a10, a11, a12, a13] a b 4002 (a / 1440) := by
        unfold openMinV
        rw [← HE.out, if_pos h0]
      have HV := Lib.hid hV
      have hab : a ≤ b := hm.2.1
      subst h0
      clear hV hm
      have ha0 := hbow.cell_of (i := 0) (v := .int .i64 a) rfl
      go_wp2_with fail
      go_loopw [7, 8] (fun n d wr => ∃ (n' : Int) (d' : Int) (k : Nat), k + d' = 4002 + a / 1440 ∧ a / 1440 ≤ d' ∧ d' ≤ 4001 ∧ 0 ≤ n' ∧ n' ≤ 5761440 * d' ∧ n = .int .i64 n' ∧ d = .int .i64 d' ∧ openMinV ⟨key, [a0, a1, a2, a3, a4, a5, a6, a7, a8, a9, a10, a11, a12, a13]⟩ a b = n' + minSum [a0, a1, a2, a3, a4, a5, a6, a7, a8, a9, a10, a11, a12, a13] a b k d' ∧ Blk wr w.heap.size 56 (stCells key [a0, a1, a2, a3, a4, a5, a6, a7, a8, a9, a10, a11, a12, a13]) ∧ Blk wr (w.heap.size + 1) 31 [.int .i64 a, .int .i64 b] ∧ w.grownBy wr none) (fun _ d _ => (4002 - intOf d).toNat)
      case atStart => exact ⟨0, a / 1440, 4002, by omega, by omega, by omega, by omega, by omega, rfl, rfl, by rw [HV.out]; omega, hbox, hbow, hgw⟩
      case round =>
        obtain ⟨n', d, k, hk, hd0, hd1, hn0, hn1, rfl, rfl, hN, hbx, hbw, hgr⟩ := hrel
        have HN := Lib.hid hN
        have HK := Lib.hid hk
        clear hN hbox hbow hgw ha0 hk
        have hb1 := hbw.cell_of (i := 1) (v := .int .i64 b) rfl
        by_cases hd : d * 1440 < b
        · have hbd := hour_bound Hb.out (d := d) (by omega) (by omega)
          have hcb := common_bound a b (hourFr [a0, a1, a2, a3, a4, a5, a6, a7, a8, a9, a10, a11, a12, a13] d) (hourTo [a0, a1, a2, a3, a4, a5, a6, a7, a8, a9, a10, a11, a12, a13] d) hm1 hm2
          obtain ⟨c, hc⟩ : ∃ c, c = commonV a b (hourFr [a0, a1, a2, a3, a4, a5, a6, a7, a8, a9, a10, a11, a12, a13] d) (hourTo [a0, a1, a2, a3, a4, a5, a6, a7, a8, a9, a10, a11, a12, a13] d) := ⟨_, rfl⟩
          obtain ⟨k', hk'⟩ : ∃ k', k = k' + 1 := ⟨k - 1, by have := HK.out; omega⟩
          have hS : minSum [a0, a1, a2, a3, a4, a5, a6, a7, a8, a9, a10, a11, a12, a13] a b k d = c + minSum [a0, a1, a2, a3, a4, a5, a6, a7, a8, a9, a10, a11, a12, a13] a b k' (d + 1) := by rw [hk', hc]; simp [minSum, hd]
          rw [← hc] at hcb
          have HS := Lib.hid hS
          have Hc := Lib.hid hc
          have Hk' := Lib.hid hk'
          have hb0 := hbw.cell_of (i := 0) (v := .int .i64 a) rfl
          have c0 := hbx.cell_of (i := 0) (v := .string key) rfl
          have c1 := hbx.cell_of (i := 1) (v := .int .i64 a0) rfl
          have c2 := hbx.cell_of (i := 2) (v := .int .i64 a1) rfl
          have c3 := hbx.cell_of (i := 3) (v := .int .i64 a2) rfl
          have c4 := hbx.cell_of (i := 4) (v := .int .i64 a3) rfl
          have c5 := hbx.cell_of (i := 5) (v := .int .i64 a4) rfl
          have c6 := hbx.cell_of (i := 6) (v := .int .i64 a5) rfl
          have c7 := hbx.cell_of (i := 7) (v := .int .i64 a6) rfl
          have c8 := hbx.cell_of (i := 8) (v := .int .i64 a7) rfl
          have c9 := hbx.cell_of (i := 9) (v := .int .i64 a8) rfl
          have c10 := hbx.cell_of (i := 10) (v := .int .i64 a9) rfl
          have c11 := hbx.cell_of (i := 11) (v := .int .i64 a10) rfl
          have c12 := hbx.cell_of (i := 12) (v := .int .i64 a11) rfl
          have c13 := hbx.cell_of (i := 13) (v := .int .i64 a12) rfl
          have c14 := hbx.cell_of (i := 14) (v := .int .i64 a13) rfl
          clear hS hc hk'
          go_upto_region 8 with fail
          go_region_with (first
            | (go_at_call 65; refine (hours_any key [a0, a1, a2, a3, a4, a5, a6, a7, a8, a9, a10, a11, a12, a13] _ _ rfl (by omega) (by omega) Hb.out).mono ?_; rintro e w2 ⟨rfl, hg2⟩; have hbw2 : Blk w2 (w.heap.size + 1) 31 [.int .i64 a, .int .i64 b] := (hbw.drewN 1).grown hg2 (by simp); have e0 := hbw2.cell_of (i := 0) (v := .int .i64 a) rfl; have e1 := hbw2.cell_of (i := 1) (v := .int .i64 b) rfl)
            | (go_at_call 67; refine (common_any a b _ _ _ (by omega) (by omega) (by omega) (by omega)).mono ?_; rintro e w3 ⟨rfl, hg3⟩; rw [← Hc.out]))
          all_goals
            go_wp2_with fail
            go_roundw
            case rel => exact ⟨n' + c, d + 1, k', by have := HK.out; have := Hk'.out; omega, by omega, by omega, by omega, by omega, rfl, rfl, by rw [HN.out, HS.out]; omega, (hbx.drewN 1).grown (grow_trans hg2 hg3) (by simp), (hbw.drewN 1).grown (grow_trans hg2 hg3) (by simp), grow_trans hgr (grow_trans (grow_trans (grow_drew (World.grownBy.refl _ _)) hg2) hg3)⟩
            case measure => simp [intOf]; omega
        · have hz : minSum [a0, a1, a2, a3, a4, a5, a6, a7, a8, a9, a10, a11, a12, a13] a b k d = 0 := by
            cases k with
            | zero => rfl
            | succ k => simp [minSum, hd]
          have HZ := Lib.hid hz
          clear hz
          go_wp2_with fail
          go_ret2
          exact ⟨ret_ie (by rw [HN.out, HZ.out]; omega) HE.out, hgr⟩
    · have hne : (E != 0) = true := by simpa using h0
      have hV : openMinV ⟨key, [a0, a1, a2, a3, a4, a5, a6, a7, a8, a9, a10, a11, a12, a13]⟩ a b = 0 := by
        unfold openMinV
        rw [← HE.out]; simp [h0]
      have HV := Lib.hid hV
      clear hV h0
      go_wp2_with fail
      go_ret2
      exact ⟨ret_ie HV.out.symm HE.out, hgw⟩

end Go.Proofs.YtcggbojhalbkjaaDoor
