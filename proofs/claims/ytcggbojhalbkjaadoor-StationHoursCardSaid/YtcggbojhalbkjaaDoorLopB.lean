/- The walk of lot.NextOpen. -/
import Derived.Test.YtcggbojhalbkjaaDoorLopA
import Derived.Deep.LoopGhost
namespace Go.Proofs.YtcggbojhalbkjaaDoor
open Go.RowKit

/-- The next opening from day d on; n days are left. -/
def nextFrom (hs : List Int) (at_ : Int) : Nat → Int → Option Int
  | 0, _ => none
  | n + 1, d => if max at_ (hourFr hs d) < hourTo hs d then some (max at_ (hourFr hs d)) else nextFrom hs at_ n (d + 1)
def nextO (s : St) (at_ : Int) : Option Int := if isOpenE s at_ = 0 then nextFrom s.hs at_ (4001 - at_ / 1440).toNat (at_ / 1440) else none
def nextV (s : St) (at_ : Int) : Int := (nextO s at_).getD 0
def nextE (s : St) (at_ : Int) : Int := if isOpenE s at_ = 0 then (if (nextO s at_).isSome then 0 else 8) else isOpenE s at_

theorem hour_bound {hs : List Int} (hb : ∀ h ∈ hs, -1000000000000000000 ≤ h ∧ h ≤ 1000000000000000000) {d : Int} (h0 : 0 ≤ d) (h1 : d ≤ 1000000000) :
    -1100000000000000000 ≤ hourFr hs d ∧ hourFr hs d ≤ 1100000000000000000 ∧ -1100000000000000000 ≤ hourTo hs d ∧ hourTo hs d ≤ 1100000000000000000 := by
  have hA := hs_bound hb ((d % 7).toNat * 2)
  have hB := hs_bound hb ((d % 7).toNat * 2 + 1)
  unfold hourFr hourTo frAt toAt
  omega

set_option maxRecDepth 100000 in
set_option maxHeartbeats 2000000 in
theorem nextOpen_any (key : ByteArray) (hs : List Int) (at_ : Int) (w : World) (hok : StOk ⟨key, hs⟩) (hb : ∀ h ∈ hs, -1000000000000000000 ≤ h ∧ h ≤ 1000000000000000000) :
    Calls Tryd.prog 26 #[.agg (stCells key hs).toArray, .int .i64 at_] w (RetIE w (nextV ⟨key, hs⟩ at_) (nextE ⟨key, hs⟩ at_)) := by
  have Hok := Lib.hid hok
  have Hb := Lib.hid hb
  clear hb
  obtain ⟨a0, a1, a2, a3, a4, a5, a6, a7, a8, a9, a10, a11, a12, a13, rfl⟩ := list14 hs hok.1
  clear hok
  show Calls Tryd.prog 26 #[.agg #[.string key, .int .i64 a0, .int .i64 a1, .int .i64 a2, .int .i64 a3, .int .i64 a4, .int .i64 a5, .int .i64 a6, .int .i64 a7, .int .i64 a8, .int .i64 a9, .int .i64 a10, .int .i64 a11, .int .i64 a12, .int .i64 a13], .int .i64 at_] w _
  go_enter Tryd.func26, Tryd.ntmps26
  go_wp2_with fail
  refine wp_region_still_tail 3 (by kernel_rfl) (by kernel_rfl) ?_
  change wpStill _ _ (World.drew _) _ _ _
  simp only [List.take_succ_cons, List.take_zero, List.drop_succ_cons, List.drop_zero]
  still_step
  still_step
  still_call ((moment_any at_ _).mono fun _ _ h => ⟨h.1, h.2.symm⟩)
  refine wpStill_nil ?_
  change wpList _ _ _ _ _ (World.drew _)
  go_wp2_with fail
  refine (checkStation_any key [a0, a1, a2, a3, a4, a5, a6, a7, a8, a9, a10, a11, a12, a13] _ _ Hok.out).mono ?_
  rintro e w1 ⟨rfl, hg1⟩
  obtain ⟨E, hE⟩ : ∃ E, E = isOpenE ⟨key, [a0, a1, a2, a3, a4, a5, a6, a7, a8, a9, a10, a11, a12, a13]⟩ at_ := ⟨_, rfl⟩
  rw [show firstE [stationsE [⟨key, [a0, a1, a2, a3, a4, a5, a6, a7, a8, a9, a10, a11, a12, a13]⟩], momentE at_] = E from hE.symm]
  have HE := Lib.hid hE; clear hE
  have hbox : Blk w1 w.heap.size 56 (stCells key [a0, a1, a2, a3, a4, a5, a6, a7, a8, a9, a10, a11, a12, a13]) := ((Blk.at_ w rfl _ _).drewN 1).grown hg1 (by simp)
  have hgw : w.grownBy w1 none := grow_trans (grow_drew (grow_alloc (World.grownBy.refl _ _) _)) hg1
  clear hg1
  by_cases h0 : E = 0
  · have hm := momentE_ok (firstE_two (HE.out.symm.trans h0)).2
    have hm1 : 0 ≤ at_ := hm.1
    have hm2 : at_ ≤ 5761439 := hm.2
    have hO : nextO ⟨key, [a0, a1, a2, a3, a4, a5, a6, a7, a8, a9, a10, a11, a12, a13]⟩ at_ = nextFrom [a0, a1, a2, a3, a4, a5, a6, a7, a8, a9, a10, a11, a12, a13] at_ (4001 - at_ / 1440).toNat (at_ / 1440) := by
      unfold nextO
      rw [← HE.out, if_pos h0]
    have HO := Lib.hid hO
    have hE' : nextE ⟨key, [a0, a1, a2, a3, a4, a5, a6, a7, a8, a9, a10, a11, a12, a13]⟩ at_ = if (nextO ⟨key, [a0, a1, a2, a3, a4, a5, a6, a7, a8, a9, a10, a11, a12, a13]⟩ at_).isSome then 0 else 8 := by
      unfold nextE
      rw [← HE.out, if_pos h0]
    have HE' := Lib.hid hE'
    subst h0
    clear hO hm hE'
    go_wp2_with fail
    go_loopw [7] (fun d wr => ∃ d' : Int, at_ / 1440 ≤ d' ∧ d' ≤ 4001 ∧ d = .int .i64 d' ∧ nextO ⟨key, [a0, a1, a2, a3, a4, a5, a6, a7, a8, a9, a10, a11, a12, a13]⟩ at_ = nextFrom [a0, a1, a2, a3, a4, a5, a6, a7, a8, a9, a10, a11, a12, a13] at_ (4001 - d').toNat d' ∧ Blk wr w.heap.size 56 (stCells key [a0, a1, a2, a3, a4, a5, a6, a7, a8, a9, a10, a11, a12, a13]) ∧ w.grownBy wr none) (fun d _ => (4001 - intOf d).toNat)
    case atStart => exact ⟨at_ / 1440, by omega, by omega, rfl, HO.out, hbox, hgw⟩
    case round =>
      obtain ⟨d, hd0, hd1, rfl, hN, hbx, hgr⟩ := hrel
      have HN := Lib.hid hN
      clear hN hbox hgw
      by_cases hd : d ≤ 4000
      · have hbd := hour_bound Hb.out (d := d) (by omega) (by omega)
        go_wp2_with (with_reducible refine wpList_load_all rfl 56 (.tmp 2) rfl w.heap.size _ (stCells key [a0, a1, a2, a3, a4, a5, a6, a7, a8, a9, a10, a11, a12, a13]) _ hbx rfl Tryd.underlying56 rfl 15 info_st rfl ?_)
        refine (hours_any key [a0, a1, a2, a3, a4, a5, a6, a7, a8, a9, a10, a11, a12, a13] _ _ rfl (by omega) (by omega) Hb.out).mono ?_
        rintro e w2 ⟨rfl, hg2⟩
        have hgr2 := grow_trans hgr hg2
        have hbx2 := hbx.grown hg2 (by simp)
        obtain ⟨F, hF⟩ : ∃ F, F = hourFr [a0, a1, a2, a3, a4, a5, a6, a7, a8, a9, a10, a11, a12, a13] d := ⟨_, rfl⟩
        obtain ⟨T, hT⟩ : ∃ T, T = hourTo [a0, a1, a2, a3, a4, a5, a6, a7, a8, a9, a10, a11, a12, a13] d := ⟨_, rfl⟩
        have hn1 : nextFrom [a0, a1, a2, a3, a4, a5, a6, a7, a8, a9, a10, a11, a12, a13] at_ (4001 - d).toNat d = if max at_ F < T then some (max at_ F) else nextFrom [a0, a1, a2, a3, a4, a5, a6, a7, a8, a9, a10, a11, a12, a13] at_ (4001 - (d + 1)).toNat (d + 1) := by
          rw [show (4001 - d).toNat = (4001 - (d + 1)).toNat + 1 by omega, hF, hT]; rfl
        have HN1 := Lib.hid hn1
        rw [← hF, ← hT]
        have HF := Lib.hid hF
        have HT := Lib.hid hT
        clear hn1 hF hT hgr hbx hg2
        by_cases hc : max at_ F < T
        · have hn2 : nextO ⟨key, [a0, a1, a2, a3, a4, a5, a6, a7, a8, a9, a10, a11, a12, a13]⟩ at_ = some (max at_ F) := by rw [HN.out, HN1.out, if_pos hc]
          have HN2 := Lib.hid hn2
          clear hn2
          by_cases hx : at_ < F
          all_goals
            go_wp2_with fail
            go_ret2
            exact ⟨ret_ie (by unfold nextV; rw [HN2.out]; simp <;> omega) (by rw [HE'.out, HN2.out]; rfl), grow_alloc hgr2 _⟩
        · have hn2 : nextO ⟨key, [a0, a1, a2, a3, a4, a5, a6, a7, a8, a9, a10, a11, a12, a13]⟩ at_ = nextFrom [a0, a1, a2, a3, a4, a5, a6, a7, a8, a9, a10, a11, a12, a13] at_ (4001 - (d + 1)).toNat (d + 1) := by rw [HN.out, HN1.out, if_neg hc]
          have HN2 := Lib.hid hn2
          clear hn2
          by_cases hx : at_ < F
          all_goals
            go_wp2_with fail
            go_roundw
            case rel => exact ⟨d + 1, by omega, by omega, rfl, HN2.out, hbx2.alloc _, grow_alloc hgr2 _⟩
            case measure => simp [intOf]; omega
      · have hn2 : nextO ⟨key, [a0, a1, a2, a3, a4, a5, a6, a7, a8, a9, a10, a11, a12, a13]⟩ at_ = none := by rw [HN.out, show (4001 - d).toNat = 0 by omega]; rfl
        have HN2 := Lib.hid hn2
        clear hn2
        go_wp2_with fail
        go_ret2
        exact ⟨ret_ie (by unfold nextV; rw [HN2.out]; rfl) (by rw [HE'.out, HN2.out]; rfl), hgr⟩
  · have hne : (E != 0) = true := by simpa using h0
    have hV : nextV ⟨key, [a0, a1, a2, a3, a4, a5, a6, a7, a8, a9, a10, a11, a12, a13]⟩ at_ = 0 := by
      unfold nextV nextO
      rw [← HE.out]; simp [h0]
    have hE2 : nextE ⟨key, [a0, a1, a2, a3, a4, a5, a6, a7, a8, a9, a10, a11, a12, a13]⟩ at_ = E := by
      unfold nextE
      rw [← HE.out]; simp [h0]
    have HV := Lib.hid hV
    have HE2 := Lib.hid hE2
    clear hV h0 hE2
    go_wp2_with fail
    go_ret2
    exact ⟨ret_ie HV.out.symm HE2.out.symm, hgw⟩

end Go.Proofs.YtcggbojhalbkjaaDoor
