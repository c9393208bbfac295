/- The walk of hire.Late. -/
import Derived.Test.YtljnekobfjpfaaaDoorKl
import Derived.Test.YtljnekobfjpfaaaDoorBm
import Derived.OwnWalk
namespace Go.Proofs.YtljnekobfjpfaaaDoor
open Go.RowKit

def lateE (d : Dl) (h : Hr) : Int := firstE [dealE d, closedE h]
def RetIIE (w : World) (a b E : Int) (e : Ending) (w' : World) : Prop := e = .returned (.tuple #[.int .i64 a, .int .i64 b, .int .i64 E]) ∧ w.grownBy w' none
theorem ret_iie {a b E a' b' E' : Int} (h1 : a = a') (h2 : b = b') (h3 : E = E') : Ending.returned (.tuple #[.int .i64 a', .int .i64 b', .int .i64 E']) = .returned (.tuple #[.int .i64 a, .int .i64 b, .int .i64 E]) := by rw [h1, h2, h3]

set_option maxRecDepth 100000 in
set_option maxHeartbeats 2000000 in
theorem lateF_any (d : Dl) (key driver : ByteArray) (fr to_ : Int) (l : List Lg) (A : Option Addr) (n c : Nat) (w : World) (hl : SlT lgEnc 9 138 w A n l) (hok : HrOk key driver l) (hn : n ≤ 1000) :
    Calls Tryd.prog 77 #[.agg (dlCells d).toArray, .agg #[.string key, .string driver, .int .i64 fr, .int .i64 to_, .slice A n c]] w (RetIIE w (if lateE d ⟨key, driver, fr, to_, l⟩ = 0 then lateN to_ l else 0) (if lateE d ⟨key, driver, fr, to_, l⟩ = 0 then lateC d.grace d.hour d.day (lateN to_ l) else 0) (lateE d ⟨key, driver, fr, to_, l⟩)) := by
  obtain ⟨E, hE⟩ : ∃ E, lateE d ⟨key, driver, fr, to_, l⟩ = E := ⟨_, rfl⟩
  obtain ⟨V, hV⟩ : ∃ V, V = if E = 0 then lateN to_ l else 0 := ⟨_, rfl⟩
  obtain ⟨U, hU⟩ : ∃ U, U = if E = 0 then lateC d.grace d.hour d.day (lateN to_ l) else 0 := ⟨_, rfl⟩
  obtain ⟨DE, hDE⟩ : ∃ DE, dealE d = DE := ⟨_, rfl⟩
  obtain ⟨CE, hCE⟩ : ∃ CE, closedE ⟨key, driver, fr, to_, l⟩ = CE := ⟨_, rfl⟩
  have HV := Lib.hid hV
  have HU := Lib.hid hU
  have HDE := Lib.hid hDE
  have HCE := Lib.hid hCE
  have HE := Lib.hid (show firstE [DE, CE] = E by rw [← hE, ← hDE, ← hCE]; rfl)
  have Hok := Lib.hid hok
  have CD := Lib.hid (fun w => (by rw [← hDE]; exact checkDeal_any d w : Calls Tryd.prog 57 #[.agg (dlCells d).toArray] w (fun e w' => e = .returned (.int .i64 DE) ∧ w.grownBy w' none)))
  have CC := Lib.hid (fun w hl => (by rw [← hCE]; exact checkClosed_any key driver fr to_ l A n c w hl hok hn : Calls Tryd.prog 129 #[.agg #[.string key, .string driver, .int .i64 fr, .int .i64 to_, .slice A n c]] w (GotE w CE)))
  rw [hE, ← hV, ← hU]
  clear hE hV hU hDE hCE hok
  obtain ⟨da, db, dc, dd, df, dg, dh⟩ := d
  show Calls Tryd.prog 77 #[.agg #[.int .i64 da, .int .i64 db, .int .i64 dc, .int .i64 dd, .int .i64 df, .int .i64 dg, .int .i64 dh], .agg #[.string key, .string driver, .int .i64 fr, .int .i64 to_, .slice A n c]] w _
  go_enter Tryd.func77, Tryd.ntmps77
  go_wp2_with fail
  have hD : Blk ((w.alloc (.cells #[.int .i64 da, .int .i64 db, .int .i64 dc, .int .i64 dd, .int .i64 df, .int .i64 dg, .int .i64 dh] 90)).alloc (.cells #[.string key, .string driver, .int .i64 fr, .int .i64 to_, .slice A n c] 36)) w.heap.size 90 [.int .i64 da, .int .i64 db, .int .i64 dc, .int .i64 dd, .int .i64 df, .int .i64 dg, .int .i64 dh] := (Blk.at_ w rfl _ _).alloc _
  have hH : Blk ((w.alloc (.cells #[.int .i64 da, .int .i64 db, .int .i64 dc, .int .i64 dd, .int .i64 df, .int .i64 dg, .int .i64 dh] 90)).alloc (.cells #[.string key, .string driver, .int .i64 fr, .int .i64 to_, .slice A n c] 36)) (w.heap.size + 1) 36 [.string key, .string driver, .int .i64 fr, .int .i64 to_, .slice A n c] := Blk.at_ (w.alloc _) (by simp) _ _
  have hl0 := (hl.alloc (.cells #[.int .i64 da, .int .i64 db, .int .i64 dc, .int .i64 dd, .int .i64 df, .int .i64 dg, .int .i64 dh] 90)).alloc (.cells #[.string key, .string driver, .int .i64 fr, .int .i64 to_, .slice A n c] 36)
  have mk := fun (wx : World) (hD : Blk wx w.heap.size 90 [.int .i64 da, .int .i64 db, .int .i64 dc, .int .i64 dd, .int .i64 df, .int .i64 dg, .int .i64 dh]) (hH : Blk wx (w.heap.size + 1) 36 [.string key, .string driver, .int .i64 fr, .int .i64 to_, .slice A n c]) =>
    And.intro (hD.cell_of (i := 0) (v := .int .i64 da) rfl) (And.intro (hD.cell_of (i := 1) (v := .int .i64 db) rfl) (And.intro (hD.cell_of (i := 2) (v := .int .i64 dc) rfl) (And.intro (hD.cell_of (i := 3) (v := .int .i64 dd) rfl) (And.intro (hD.cell_of (i := 4) (v := .int .i64 df) rfl) (And.intro (hD.cell_of (i := 5) (v := .int .i64 dg) rfl) (And.intro (hD.cell_of (i := 6) (v := .int .i64 dh) rfl)
      (And.intro (hH.cell_of (i := 0) (v := .string key) rfl) (And.intro (hH.cell_of (i := 1) (v := .string driver) rfl) (And.intro (hH.cell_of (i := 2) (v := .int .i64 fr) rfl) (And.intro (hH.cell_of (i := 3) (v := .int .i64 to_) rfl) (hH.cell_of (i := 4) (v := .slice A n c) rfl)))))))))))
  have Mk := Lib.hid mk
  have q0 := mk _ hD.drew hH.drew
  clear mk
  go_upto_region 1 with fail
  go_cut [7] (fun v wx => v = .int .i64 E ∧ ((w.alloc (.cells #[.int .i64 da, .int .i64 db, .int .i64 dc, .int .i64 dd, .int .i64 df, .int .i64 dg, .int .i64 dh] 90)).alloc (.cells #[.string key, .string driver, .int .i64 fr, .int .i64 to_, .slice A n c] 36)).grownBy wx none)
  case first =>
    go_region_held3 (fun wx => wx.cell? ⟨w.heap.size, 0, none⟩ = some (.int .i64 da) ∧ wx.cell? ⟨w.heap.size, 1, none⟩ = some (.int .i64 db) ∧ wx.cell? ⟨w.heap.size, 2, none⟩ = some (.int .i64 dc) ∧ wx.cell? ⟨w.heap.size, 3, none⟩ = some (.int .i64 dd) ∧ wx.cell? ⟨w.heap.size, 4, none⟩ = some (.int .i64 df) ∧ wx.cell? ⟨w.heap.size, 5, none⟩ = some (.int .i64 dg) ∧ wx.cell? ⟨w.heap.size, 6, none⟩ = some (.int .i64 dh) ∧
        wx.cell? ⟨w.heap.size + 1, 0, none⟩ = some (.string key) ∧ wx.cell? ⟨w.heap.size + 1, 1, none⟩ = some (.string driver) ∧ wx.cell? ⟨w.heap.size + 1, 2, none⟩ = some (.int .i64 fr) ∧ wx.cell? ⟨w.heap.size + 1, 3, none⟩ = some (.int .i64 to_) ∧ wx.cell? ⟨w.heap.size + 1, 4, none⟩ = some (.slice A n c))
      (first
        | exact q0
        | exact q1
        | exact q2
        | exact q4 _)
      (first
        | (go_at_call 57; refine (CD.out _).mono ?_; rintro e w2 ⟨rfl, hg2⟩; have hD2 := hD.drew.grown hg2 (by simp); have hH2 := hH.drew.grown hg2 (by simp); have q1 := Mk.out _ hD2 hH2)
        | (go_at_call 129; refine (CC.out _ ((hl0.drewN 1).grow0 hg2)).mono ?_; rintro e w3 ⟨rfl, hg3⟩; have hD3 := hD2.grown hg3 (by simp); have hH3 := hH2.grown hg3 (by simp); have q2 := Mk.out _ hD3 hH3; have q4 := fun o => Mk.out _ (hD3.alloc o) (hH3.alloc o))
        | (go_at_call 96; refine (first_any [DE, CE] _ _ _ _ (Blk.at_ _ rfl _ _) (by simp)).mono ?_; rintro e w6 ⟨rfl, rfl⟩))
    all_goals
      go_wp2_with fail
      go_meet
      exact ⟨ret_val (by rw [HE.out]), grow_alloc (grow_trans (grow_trans (grow_drew (World.grownBy.refl _ _)) hg2) hg3) _⟩
  case rest =>
    obtain ⟨rfl, hg1⟩ := hcut
    obtain ⟨w1, hw1⟩ : ∃ w1 : World, w1 = wc := ⟨_, rfl⟩
    rw [← hw1] at hg1 ⊢
    clear hw1 q0
    have hD1 := hD.grown hg1 (by simp)
    have hH1 := hH.grown hg1 (by simp)
    have hgw : w.grownBy w1 none := grow_trans (grow_alloc (grow_alloc (World.grownBy.refl _ _) _) _) hg1
    clear hg1 hD hH hl0
    by_cases h0 : E = 0
    · have hz2 := firstE_all (HE.out.trans h0)
      have hdl := dealE_ok (HDE.out.trans (hz2 _ (List.mem_cons_self ..)))
      have hcl := closedE_ok (HCE.out.trans (hz2 _ (List.mem_cons_of_mem _ (List.mem_cons_self ..))))
      have hho := hireE_ok hcl.1
      have hto := timeE_ok hho.1
      have Hcl := Lib.hid (closed_num hcl.1 hcl.2)
      have hn0 : 0 < n := by have := hho.2.1; have := hl.len; omega
      have Hdl := Lib.hid hdl
      have Hto := Lib.hid hto
      have HFV := Lib.hid (show V = lateN to_ l by rw [HV.out, if_pos h0])
      have HFU := Lib.hid (show U = lateC dd df dg (lateN to_ l) by rw [HU.out, if_pos h0])
      subst h0
      clear hz2 hdl hcl hho hto
      obtain ⟨N, hN⟩ : ∃ N, N = lateN to_ l := ⟨_, rfl⟩
      obtain ⟨Z, hZ⟩ : ∃ Z, Z = lateC dd df dg (lateN to_ l) := ⟨_, rfl⟩
      have HN := Lib.hid (show V = N by rw [HFV.out, hN])
      have HZ := Lib.hid (show U = Z by rw [HFU.out, hZ])
      have cL : Calls Tryd.prog 132 #[.agg #[.int .i64 da, .int .i64 db, .int .i64 dc, .int .i64 dd, .int .i64 df, .int .i64 dg, .int .i64 dh], .agg #[.string key, .string driver, .int .i64 fr, .int .i64 to_, .slice A n c]] w1 (RetII w1 N Z) := by
        rw [hN, hZ]
        exact late_any ⟨da, db, dc, dd, df, dg, dh⟩ key driver fr to_ l A n c w1 (hl.grow0 hgw) hn0 (by omega) (fun g hg => (Hcl.out g (List.mem_of_getElem? hg)).2) ⟨by have := Hto.out; omega, Hto.out.2.2.1⟩ Hdl.out.2.2.2.2.1 Hdl.out.2.2.2.2.2.1
      have CL := Lib.hid cL
      clear cL hN hZ
      go_wp2_with (first
        | (with_reducible refine wpList_load_all rfl 90 (.tmp 2) rfl w.heap.size _ _ _ hD1 rfl Tryd.underlying90 rfl 7 info_dl rfl ?_)
        | (with_reducible refine wpList_load_all rfl 36 (.tmp 3) rfl (w.heap.size + 1) _ _ _ hH1 rfl Tryd.underlying36 rfl 5 info_hr rfl ?_))
      refine CL.out.mono ?_
      rintro e w4 ⟨rfl, hg4⟩
      go_wp2_with fail
      go_ret3
      exact ⟨ret_iie HN.out HZ.out rfl, grow_trans hgw hg4⟩
    · have hne : (E != 0) = true := by simpa using h0
      have HF := Lib.hid (show V = 0 by rw [HV.out, if_neg h0])
      have HF2 := Lib.hid (show U = 0 by rw [HU.out, if_neg h0])
      clear h0
      go_wp2_with fail
      go_ret3
      exact ⟨ret_iie HF.out HF2.out rfl, hgw⟩

end Go.Proofs.YtljnekobfjpfaaaDoor
