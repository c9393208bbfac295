/- The walk of hire.Bill. -/
import Derived.Test.YtljnekobfjpfaaaDoorBl
namespace Go.Proofs.YtljnekobfjpfaaaDoor
open Go.RowKit

theorem info_dl : (Tryd.prog.info? 90).map (·.size) = some 7 := by kernel_rfl

set_option maxRecDepth 100000 in
set_option maxHeartbeats 4000000 in
theorem bill_any (d : Dl) (key driver : ByteArray) (fr to_ : Int) (l : List Lg) (A : Option Addr) (n c : Nat) (ll : List Ln) (A2 : Option Addr) (n2 c2 : Nat) (w : World)
    (hl : SlT lgEnc 9 138 w A n l) (hok : HrOk key driver l) (hn : n ≤ 1000000) (hll : SlT lnEnc 3 134 w A2 n2 ll) (hlok : ∀ x ∈ ll, LnOk x) (hn2 : n2 ≤ 100000) (hnil : n2 = 0 → A2 = none ∧ c2 = 0) :
    Calls Tryd.prog 86 #[.agg (dlCells d).toArray, .agg #[.string key, .string driver, .int .i64 fr, .int .i64 to_, .slice A n c], .slice A2 n2 c2] w (fun e w' => Below w.heap.size w w' ∧
      ((billE d ⟨key, driver, fr, to_, l⟩ ll ≠ 0 ∧ e = .returned (.tuple #[.slice none 0 0, .int .i64 (billE d ⟨key, driver, fr, to_, l⟩ ll)])) ∨
       (billE d ⟨key, driver, fr, to_, l⟩ ll = 0 ∧ ∃ v, e = .returned (.tuple #[v, .int .i64 0]) ∧ w'.ownsRow w.heap.size 134 3 v (billL d ⟨key, driver, fr, to_, l⟩ ll).length ((billL d ⟨key, driver, fr, to_, l⟩ ll).flatMap lnEnc)))) := by
  obtain ⟨E0, hE0⟩ : ∃ E0, E0 = billE0 d ⟨key, driver, fr, to_, l⟩ ll := ⟨_, rfl⟩
  obtain ⟨E, hE⟩ : ∃ E, E = billE d ⟨key, driver, fr, to_, l⟩ ll := ⟨_, rfl⟩
  obtain ⟨L, hL⟩ : ∃ L, L = billL d ⟨key, driver, fr, to_, l⟩ ll := ⟨_, rfl⟩
  rw [← hE, ← hL]
  have HE0 := Lib.hid hE0
  have HE := Lib.hid hE
  have HL := Lib.hid hL
  have Hok := Lib.hid hok
  have Hlok := Lib.hid hlok
  have hlen := hl.len
  have hlen2 := hll.len
  have Hcase := Lib.hid (show E = if E0 = 0 then (if openB l then 11 else linesE L) else E0 by rw [hE, hE0, hL]; rfl)
  clear hE0 hE hL hok hlok
  obtain ⟨da, db, dc, dd, df, dg, dh⟩ := d
  show Calls Tryd.prog 86 #[.agg #[.int .i64 da, .int .i64 db, .int .i64 dc, .int .i64 dd, .int .i64 df, .int .i64 dg, .int .i64 dh], .agg #[.string key, .string driver, .int .i64 fr, .int .i64 to_, .slice A n c], .slice A2 n2 c2] w _
  go_enter Tryd.func86, Tryd.ntmps86
  go_wp2_with fail
  have hD : Blk ((w.alloc (.cells #[.int .i64 da, .int .i64 db, .int .i64 dc, .int .i64 dd, .int .i64 df, .int .i64 dg, .int .i64 dh] 90)).alloc (.cells #[.string key, .string driver, .int .i64 fr, .int .i64 to_, .slice A n c] 36)) w.heap.size 90 [.int .i64 da, .int .i64 db, .int .i64 dc, .int .i64 dd, .int .i64 df, .int .i64 dg, .int .i64 dh] := (Blk.at_ w rfl _ _).alloc _
  have hH : Blk ((w.alloc (.cells #[.int .i64 da, .int .i64 db, .int .i64 dc, .int .i64 dd, .int .i64 df, .int .i64 dg, .int .i64 dh] 90)).alloc (.cells #[.string key, .string driver, .int .i64 fr, .int .i64 to_, .slice A n c] 36)) (w.heap.size + 1) 36 [.string key, .string driver, .int .i64 fr, .int .i64 to_, .slice A n c] := Blk.at_ (w.alloc _) (by simp) _ _
  have hl0 := (hl.alloc (.cells #[.int .i64 da, .int .i64 db, .int .i64 dc, .int .i64 dd, .int .i64 df, .int .i64 dg, .int .i64 dh] 90)).alloc (.cells #[.string key, .string driver, .int .i64 fr, .int .i64 to_, .slice A n c] 36)
  have hll0 := (hll.alloc (.cells #[.int .i64 da, .int .i64 db, .int .i64 dc, .int .i64 dd, .int .i64 df, .int .i64 dg, .int .i64 dh] 90)).alloc (.cells #[.string key, .string driver, .int .i64 fr, .int .i64 to_, .slice A n c] 36)
  have mk := fun (wx : World) (hD : Blk wx w.heap.size 90 [.int .i64 da, .int .i64 db, .int .i64 dc, .int .i64 dd, .int .i64 df, .int .i64 dg, .int .i64 dh]) (hH : Blk wx (w.heap.size + 1) 36 [.string key, .string driver, .int .i64 fr, .int .i64 to_, .slice A n c]) =>
    And.intro (hD.cell_of (i := 0) (v := .int .i64 da) rfl) (And.intro (hD.cell_of (i := 1) (v := .int .i64 db) rfl) (And.intro (hD.cell_of (i := 2) (v := .int .i64 dc) rfl) (And.intro (hD.cell_of (i := 3) (v := .int .i64 dd) rfl) (And.intro (hD.cell_of (i := 4) (v := .int .i64 df) rfl) (And.intro (hD.cell_of (i := 5) (v := .int .i64 dg) rfl) (And.intro (hD.cell_of (i := 6) (v := .int .i64 dh) rfl)
      (And.intro (hH.cell_of (i := 0) (v := .string key) rfl) (And.intro (hH.cell_of (i := 1) (v := .string driver) rfl) (And.intro (hH.cell_of (i := 2) (v := .int .i64 fr) rfl) (And.intro (hH.cell_of (i := 3) (v := .int .i64 to_) rfl) (hH.cell_of (i := 4) (v := .slice A n c) rfl)))))))))))
  have Mk := Lib.hid mk
  have q0 := mk _ hD.drew hH.drew
  clear mk
  go_upto_region 1 with fail
  go_cut [8] (fun v wx => v = .int .i64 E0 ∧ ((w.alloc (.cells #[.int .i64 da, .int .i64 db, .int .i64 dc, .int .i64 dd, .int .i64 df, .int .i64 dg, .int .i64 dh] 90)).alloc (.cells #[.string key, .string driver, .int .i64 fr, .int .i64 to_, .slice A n c] 36)).grownBy wx none)
  case first =>
    go_region_held3 (fun wx => wx.cell? ⟨w.heap.size, 0, none⟩ = some (.int .i64 da) ∧ wx.cell? ⟨w.heap.size, 1, none⟩ = some (.int .i64 db) ∧ wx.cell? ⟨w.heap.size, 2, none⟩ = some (.int .i64 dc) ∧ wx.cell? ⟨w.heap.size, 3, none⟩ = some (.int .i64 dd) ∧ wx.cell? ⟨w.heap.size, 4, none⟩ = some (.int .i64 df) ∧ wx.cell? ⟨w.heap.size, 5, none⟩ = some (.int .i64 dg) ∧ wx.cell? ⟨w.heap.size, 6, none⟩ = some (.int .i64 dh) ∧
        wx.cell? ⟨w.heap.size + 1, 0, none⟩ = some (.string key) ∧ wx.cell? ⟨w.heap.size + 1, 1, none⟩ = some (.string driver) ∧ wx.cell? ⟨w.heap.size + 1, 2, none⟩ = some (.int .i64 fr) ∧ wx.cell? ⟨w.heap.size + 1, 3, none⟩ = some (.int .i64 to_) ∧ wx.cell? ⟨w.heap.size + 1, 4, none⟩ = some (.slice A n c))
      (first
        | exact q0
        | exact q1
        | exact q2
        | exact q3
        | exact q4 _)
      (first
        | (go_at_call 57; refine (checkDeal_any ⟨da, db, dc, dd, df, dg, dh⟩ _).mono ?_; rintro e w2 ⟨rfl, hg2⟩; have hD2 := hD.drew.grown hg2 (by simp); have hH2 := hH.drew.grown hg2 (by simp); have q1 := Mk.out _ hD2 hH2)
        | (go_at_call 59; refine (check_any key driver fr to_ l A n c _ ((hl0.drewN 1).grow0 hg2) Hok.out hn).mono ?_; rintro e w3 ⟨rfl, hg3⟩; have hD3 := hD2.grown hg3 (by simp); have hH3 := hH2.grown hg3 (by simp); have q2 := Mk.out _ hD3 hH3)
        | (go_at_call 135; refine (checkLines_any ll A2 n2 c2 _ (((hll0.drewN 1).grow0 hg2).grow0 hg3) Hlok.out (by omega)).mono ?_; rintro e w4 ⟨rfl, hg4⟩; have hD4 := hD3.grown hg4 (by simp); have hH4 := hH3.grown hg4 (by simp); have q3 := Mk.out _ hD4 hH4; have q4 := fun o => Mk.out _ (hD4.alloc o) (hH4.alloc o))
        | (go_at_call 96; refine (first_any [dealE ⟨da, db, dc, dd, df, dg, dh⟩, hireE ⟨key, driver, fr, to_, l⟩, linesE ll] _ _ _ _ (Blk.at_ _ rfl _ _) (by simp)).mono ?_; rintro e w6 ⟨rfl, rfl⟩))
    all_goals
      go_wp2_with fail
      go_meet
      exact ⟨ret_val (by rw [HE0.out]; rfl), grow_alloc (grow_trans (grow_trans (grow_trans (grow_drew (World.grownBy.refl _ _)) hg2) hg3) hg4) _⟩
  case rest =>
    obtain ⟨rfl, hg1⟩ := hcut
    obtain ⟨w1, hw1⟩ : ∃ w1 : World, w1 = wc := ⟨_, rfl⟩
    rw [← hw1] at hg1 ⊢
    clear hw1 q0
    have hD1 := hD.grown hg1 (by simp)
    have hH1 := hH.grown hg1 (by simp)
    have hgw : w.grownBy w1 none := grow_trans (grow_alloc (grow_alloc (World.grownBy.refl _ _) _) _) hg1
    clear hg1 hD hH hl0 hll0
    by_cases h0 : E0 = 0
    · have hz3 := firstE_all (HE0.out.symm.trans h0)
      have hdl := dealE_ok (hz3 _ (List.mem_cons_self ..))
      have hhe := hz3 _ (List.mem_cons_of_mem _ (List.mem_cons_self ..))
      have hlo := linesE_ok (hz3 _ (List.mem_cons_of_mem _ (List.mem_cons_of_mem _ (List.mem_singleton.2 rfl))))
      have hho := hireE_ok hhe
      have hto := timeE_ok hho.1
      have Hcl := Lib.hid (closed_num hhe)
      have hn0 : 0 < n := by have := hho.2.1; omega
      have hn20 : n ≤ 20 := by have := hho.2.2.1; omega
      have Hdl := Lib.hid hdl
      have Hto := Lib.hid hto
      have Hcase2 := Lib.hid (show E = if openB l then 11 else linesE L by rw [Hcase.out, if_pos h0])
      obtain ⟨O, hO⟩ : ∃ O, O = openB l := ⟨_, rfl⟩
      rw [← hO] at Hcase2
      have HO := Lib.hid hO
      subst h0
      clear hz3 hdl hhe hlo hho hto hO
      go_wp2_with (with_reducible refine wpList_load_all rfl 36 (.tmp 4) rfl (w.heap.size + 1) _ _ _ hH1 rfl Tryd.underlying36 rfl 5 info_hr rfl ?_)
      refine (open_any key driver fr to_ l A n c w1 (hl.grow0 hgw) hn0 hn).mono ?_
      rintro e w2 ⟨rfl, hg2⟩
      rw [← HO.out]
      have hD2 := hD1.grown hg2 (by simp)
      have hH2 := hH1.grown hg2 (by simp)
      have hgw2 := grow_trans hgw hg2
      clear hD1 hH1 hgw hg2
      cases O
      · have HE2 := Lib.hid (show E = linesE L from Hcase2.out)
        have HO2 := Lib.hid (Hcl.out HO.out.symm)
        have cC : Calls Tryd.prog 136 #[.slice A2 n2 c2] w2 (fun e w' => ∃ A3 c3, e = .returned (.slice A3 n2 c3) ∧ w'.ownsRow w2.heap.size 134 3 (.slice A3 n2 c3) ll.length (ll.flatMap lnEnc) ∧ w2.grownBy w' none) := by
          by_cases hz : n2 = 0
          · obtain ⟨rfl, rfl⟩ := hnil hz
            subst hz
            have hl0 : ll = [] := List.length_eq_zero_iff.1 hlen2
            exact (cloneLines_nil w2).mono fun e w' ⟨h1, h2⟩ => ⟨none, 0, h1, by rw [← h2, hl0]; exact World.ownsRow_nil w2 _ _ 3, by rw [← h2]; exact World.grownBy.refl _ _⟩
          · exact (cloneLines_any ll A2 n2 c2 w2 (hll.grow0 hgw2) (by omega) (by omega)).mono fun e w' ⟨g, c3, h1, h2, h3⟩ => ⟨_, c3, h1, by rw [hlen2]; exact h2.2, h3⟩
        have CC := Lib.hid cC
        clear cC
        go_wp2_with fail
        refine CC.out.mono ?_
        rintro e w3 ⟨A3, c3, rfl, hown3, hg3⟩
        have hs3 := hg3.size
        have hs2 := hH2.lt
        have hD3 := hD2.grown hg3 (by simp)
        have hH3 := hH2.grown hg3 (by simp)
        have hgw3 := grow_trans hgw2 hg3
        clear hg3
        go_wp2_with (first
          | (with_reducible refine wpList_load_all rfl 90 (.tmp 3) rfl w.heap.size _ _ _ (hD3.alloc _) rfl Tryd.underlying90 rfl 7 info_dl rfl ?_)
          | (with_reducible refine wpList_load_all rfl 36 (.tmp 4) rfl (w.heap.size + 1) _ _ _ (hH3.alloc _) rfl Tryd.underlying36 rfl 5 info_hr rfl ?_))
        obtain ⟨C1, hC1⟩ : ∃ C1, C1 = billC1 ⟨da, db, dc, dd, df, dg, dh⟩ ⟨key, driver, fr, to_, l⟩ := ⟨_, rfl⟩
        obtain ⟨C2, hC2⟩ : ∃ C2, C2 = billC2 ⟨da, db, dc, dd, df, dg, dh⟩ ⟨key, driver, fr, to_, l⟩ := ⟨_, rfl⟩
        obtain ⟨C3, hC3⟩ : ∃ C3, C3 = billC3 ⟨da, db, dc, dd, df, dg, dh⟩ ⟨key, driver, fr, to_, l⟩ := ⟨_, rfl⟩
        have HLL := Lib.hid (show L = addLn (addLn (addLn ll ⟨#[108, 97, 116, 101]⟩ C1) ⟨#[100, 105, 115, 116, 97, 110, 99, 101]⟩ C2) ⟨#[102, 117, 101, 108]⟩ C3 by rw [HL.out, hC1, hC2, hC3]; rfl)
        have cL : ∀ w', SlT lgEnc 9 138 w' A n l → Calls Tryd.prog 132 #[.agg #[.int .i64 da, .int .i64 db, .int .i64 dc, .int .i64 dd, .int .i64 df, .int .i64 dg, .int .i64 dh], .agg #[.string key, .string driver, .int .i64 fr, .int .i64 to_, .slice A n c]] w' (RetII w' (lateN to_ l) C1) := fun w' hl' => by
          rw [hC1]
          exact late_any ⟨da, db, dc, dd, df, dg, dh⟩ key driver fr to_ l A n c w' hl' hn0 (by omega) (fun g hg => (HO2.out g (List.mem_of_getElem? hg)).2) ⟨by have := Hto.out; omega, Hto.out.2.2.1⟩ Hdl.out.2.2.2.2.1 Hdl.out.2.2.2.2.2.1
        have CL := Lib.hid cL
        have HC2 := Lib.hid hC2
        have HC3 := Lib.hid hC3
        clear cL hC1 hC2 hC3
        refine (CL.out _ ((hl.grow0 hgw3).alloc _)).mono ?_
        rintro e w4 ⟨rfl, hg4⟩
        have hv4 : VarOwn w4 w2.heap.size w3.heap.size ll := by
          have hv : VarOwn (w3.alloc (.cells #[.slice A3 n2 c3] 125)) w2.heap.size w3.heap.size ll := ⟨.slice A3 n2 c3, heap_alloc_new w3 _, hown3.alloc _, fun h => by
            rcases hown3.2 with ⟨h2, _⟩ | ⟨g, _, _, h2, _, hh, _⟩
            · rw [h2] at h; cases h
            · rw [h2] at h
              have h5 := lt_of_block hh
              have h6 := Option.some.inj (show some g = some w3.heap.size from h)
              omega, hs3⟩
          exact hv.grow hg4
        have hD4 := (hD3.alloc (.cells #[.slice A3 n2 c3] 125)).grown hg4 (by simp)
        have hH4 := (hH3.alloc (.cells #[.slice A3 n2 c3] 125)).grown hg4 (by simp)
        have hb4 := below_of_grow (grow_trans (grow_alloc hgw3 (.cells #[.slice A3 n2 c3] 125)) hg4)
        clear hg4 hown3 hD3 hH3 hgw3 hD2 hH2 hgw2
        go_wp2_with fail
        refine (add_any ⟨#[108, 97, 116, 101]⟩ C1 w2.heap.size w3.heap.size ll w4 hv4 (by omega)).mono ?_
        rintro e w5 ⟨⟨r5, rfl⟩, hv5, hb5⟩
        have hD5 := hD4.below hb5 (by omega)
        have hH5 := hH4.below hb5 (by omega)
        have hbw5 := hb4.trans (hb5.mono (by omega))
        have hl5 := hl.below hbw5
        clear hb4 hb5 hv4 hD4 hH4
        obtain ⟨KM, hKM⟩ : ∃ KM, KM = sumBy kmOf l := ⟨_, rfl⟩
        obtain ⟨MS, hMS⟩ : ∃ MS, MS = sumBy missOf l := ⟨_, rfl⟩
        obtain ⟨DV, hDV⟩ : ∃ DV, DV = daysV fr to_ := ⟨_, rfl⟩
        have hkb := sumBy_bound (l := l) (f := kmOf) (fun x hx => kmOf_bound (HO2.out x hx).1)
        have hmb := sumBy_bound (l := l) (f := missOf) (fun x hx => missOf_bound (HO2.out x hx).1)
        have hdv := Hto.out
        have hdv2 : 0 ≤ DV ∧ DV ≤ 120 := by rw [hDV]; exact ⟨by unfold daysV; omega, hdv.2.2.2⟩
        rw [← hKM] at hkb
        rw [← hMS] at hmb
        have hE2 : C2 = db * max 0 (KM - da * DV) := by rw [HC2.out, hKM, hDV]; rfl
        have hE3 : C3 = dc * MS := by rw [HC3.out, hMS]; rfl
        have cK : ∀ w', SlT lgEnc 9 138 w' A n l → Calls Tryd.prog 130 #[.agg #[.string key, .string driver, .int .i64 fr, .int .i64 to_, .slice A n c]] w' (GotE w' KM) := fun w' hl' => by
          rw [hKM]; exact km_any key driver fr to_ l A n c w' hl' (fun x hx => (HO2.out x hx).1) (by omega)
        have cM : ∀ w', SlT lgEnc 9 138 w' A n l → Calls Tryd.prog 131 #[.agg #[.string key, .string driver, .int .i64 fr, .int .i64 to_, .slice A n c]] w' (GotE w' MS) := fun w' hl' => by
          rw [hMS]; exact missing_any key driver fr to_ l A n c w' hl' (fun x hx => (HO2.out x hx).1) (by omega)
        have cDv : ∀ w', Calls Tryd.prog 138 #[.agg #[.int .i64 fr, .int .i64 to_]] w' (GotE w' DV) := fun w' => by
          rw [hDV]; exact days_any fr to_ w' (by omega) (by omega) (by omega)
        have CK := Lib.hid cK
        have CM := Lib.hid cM
        have CDv := Lib.hid cDv
        have hdd := Hdl.out
        have hda0 : 0 ≤ da := hdd.1.1
        have hda1 : da ≤ 10000 := hdd.1.2
        have hp1 := mul_bound hda0 hda1 hdv2.1 hdv2.2
        have hw1 : IntKind.i64.wrap (da * DV) = da * DV := IntWalk.i64_in _ (by omega)
        have hw2 : IntKind.i64.wrap (KM - da * DV) = KM - da * DV := IntWalk.i64_in _ (by omega)
        have hdb := hdd.2.1
        have hmx0 : 0 ≤ max 0 (KM - da * DV) := by omega
        have hmx1 : max 0 (KM - da * DV) ≤ 20000000 := by omega
        have hdb0 : 0 ≤ db := hdd.2.1.1
        have hdb1 : db ≤ 100000 := hdd.2.1.2
        have hp2 := mul_bound hdb0 hdb1 hmx0 hmx1
        have hdc0 : 0 ≤ dc := hdd.2.2.1.1
        have hdc1 : dc ≤ 100000 := hdd.2.2.1.2
        have hms0 : 0 ≤ MS := by omega
        have hms1 : MS ≤ 160 := by omega
        have hp3 := mul_bound hdc0 hdc1 hms0 hms1
        have hw4 : IntKind.i64.wrap (dc * MS) = dc * MS := IntWalk.i64_in _ (by omega)
        have HE2' := Lib.hid hE2
        have HE3' := Lib.hid hE3
        clear cK cM cDv hKM hMS hDV hkb hmb hdv hdd hp1 hp3 hE2 hE3 hdb
        have mk2 := fun (wx : World) (hD : Blk wx w.heap.size 90 [.int .i64 da, .int .i64 db, .int .i64 dc, .int .i64 dd, .int .i64 df, .int .i64 dg, .int .i64 dh]) (hH : Blk wx (w.heap.size + 1) 36 [.string key, .string driver, .int .i64 fr, .int .i64 to_, .slice A n c]) =>
          And.intro (hD.cell_of (i := 0) (v := .int .i64 da) rfl) (And.intro (hD.cell_of (i := 1) (v := .int .i64 db) rfl) (And.intro (hH.cell_of (i := 0) (v := .string key) rfl) (And.intro (hH.cell_of (i := 1) (v := .string driver) rfl) (And.intro (hH.cell_of (i := 2) (v := .int .i64 fr) rfl) (And.intro (hH.cell_of (i := 3) (v := .int .i64 to_) rfl) (hH.cell_of (i := 4) (v := .slice A n c) rfl))))))
        have Mk2 := Lib.hid mk2
        have q0 := mk2 _ hD5.drew hH5.drew
        clear mk2
        have hlow0 : w.heap.size < w2.heap.size := by omega
        have hlow1 : w.heap.size + 1 < w2.heap.size := by omega
        have hlen6 : (addLn ll ⟨#[108, 97, 116, 101]⟩ C1).length ≤ 1000000 := by have := addLn_len ll ⟨#[108, 97, 116, 101]⟩ C1; omega
        go_wp2_with fail
        go_upto_region 10 with fail
        go_cut [] (fun wx => VarOwn wx w2.heap.size w3.heap.size (addLn (addLn ll ⟨#[108, 97, 116, 101]⟩ C1) ⟨#[100, 105, 115, 116, 97, 110, 99, 101]⟩ C2) ∧ Below w2.heap.size w5 wx)
        case first =>
          by_cases hpos : da * DV < KM
          · have hmx : max 0 (KM - da * DV) = KM - da * DV := by omega
            rw [hmx] at hp2
            have hw3 : IntKind.i64.wrap (db * (KM - da * DV)) = db * (KM - da * DV) := IntWalk.i64_in _ (by omega)
            have HC := Lib.hid (show C2 = db * (KM - da * DV) by rw [HE2'.out, hmx])
            clear hmx hp2 hmx0 hmx1
            go_region_held3 (fun wx => wx.cell? ⟨w.heap.size, 0, none⟩ = some (.int .i64 da) ∧ wx.cell? ⟨w.heap.size, 1, none⟩ = some (.int .i64 db) ∧ wx.cell? ⟨w.heap.size + 1, 0, none⟩ = some (.string key) ∧ wx.cell? ⟨w.heap.size + 1, 1, none⟩ = some (.string driver) ∧ wx.cell? ⟨w.heap.size + 1, 2, none⟩ = some (.int .i64 fr) ∧ wx.cell? ⟨w.heap.size + 1, 3, none⟩ = some (.int .i64 to_) ∧ wx.cell? ⟨w.heap.size + 1, 4, none⟩ = some (.slice A n c))
              (first
                | exact q0
                | exact q1
                | exact q2
                | exact q3)
              (first
                | (go_at_call 130; refine (CK.out _ (hl5.drewN 1)).mono ?_; rintro e w6 ⟨rfl, hg6⟩; have hD6 := hD5.drew.grown hg6 (by simp); have hH6 := hH5.drew.grown hg6 (by simp); have q1 := Mk2.out _ hD6 hH6)
                | (go_at_call 138; refine (CDv.out _).mono ?_; rintro e w7 ⟨rfl, hg7⟩; have hD7 := hD6.grown hg7 (by simp); have hH7 := hH6.grown hg7 (by simp); have q2 := Mk2.out _ hD7 hH7)
                | (go_at_call 137; refine (add_any ⟨#[100, 105, 115, 116, 97, 110, 99, 101]⟩ (db * (KM - da * DV)) w2.heap.size w3.heap.size (addLn ll ⟨#[108, 97, 116, 101]⟩ C1) _ ((hv5.drew.grow hg6).grow hg7) hlen6).mono ?_; rintro e w8 ⟨⟨r8, rfl⟩, hv8, hb8⟩; have hD8 := hD7.below hb8 hlow0; have hH8 := hH7.below hb8 hlow1; have q3 := Mk2.out _ hD8 hH8))
            all_goals
              go_wp2_with fail
              go_meet
              exact ⟨by rw [HC.out]; exact hv8, (below_none (grow_trans (grow_trans (grow_drew (World.grownBy.refl _ _)) hg6) hg7) hv5.size).trans hb8⟩
          · have hmx : max 0 (KM - da * DV) = 0 := by omega
            have hif : (if da * DV < KM then KM - da * DV else 0) = 0 := by rw [if_neg hpos]
            have HC := Lib.hid (show C2 = 0 by rw [HE2'.out, hmx, Int.mul_zero])
            clear hmx hp2 hmx0 hmx1 hpos
            go_region_held3 (fun wx => wx.cell? ⟨w.heap.size, 0, none⟩ = some (.int .i64 da) ∧ wx.cell? ⟨w.heap.size, 1, none⟩ = some (.int .i64 db) ∧ wx.cell? ⟨w.heap.size + 1, 0, none⟩ = some (.string key) ∧ wx.cell? ⟨w.heap.size + 1, 1, none⟩ = some (.string driver) ∧ wx.cell? ⟨w.heap.size + 1, 2, none⟩ = some (.int .i64 fr) ∧ wx.cell? ⟨w.heap.size + 1, 3, none⟩ = some (.int .i64 to_) ∧ wx.cell? ⟨w.heap.size + 1, 4, none⟩ = some (.slice A n c))
              (first
                | exact q0
                | exact q1
                | exact q2
                | exact q3)
              (first
                | (go_at_call 130; refine (CK.out _ (hl5.drewN 1)).mono ?_; rintro e w6 ⟨rfl, hg6⟩; have hD6 := hD5.drew.grown hg6 (by simp); have hH6 := hH5.drew.grown hg6 (by simp); have q1 := Mk2.out _ hD6 hH6)
                | (go_at_call 138; refine (CDv.out _).mono ?_; rintro e w7 ⟨rfl, hg7⟩; have hD7 := hD6.grown hg7 (by simp); have hH7 := hH6.grown hg7 (by simp); have q2 := Mk2.out _ hD7 hH7)
                | (go_at_call 137; refine (add_any ⟨#[100, 105, 115, 116, 97, 110, 99, 101]⟩ 0 w2.heap.size w3.heap.size (addLn ll ⟨#[108, 97, 116, 101]⟩ C1) _ ((hv5.drew.grow hg6).grow hg7) hlen6).mono ?_; rintro e w8 ⟨⟨r8, rfl⟩, hv8, hb8⟩; have hD8 := hD7.below hb8 hlow0; have hH8 := hH7.below hb8 hlow1; have q3 := Mk2.out _ hD8 hH8))
            all_goals
              go_wp2_with fail
              go_meet
              exact ⟨by rw [HC.out]; exact hv8, (below_none (grow_trans (grow_trans (grow_drew (World.grownBy.refl _ _)) hg6) hg7) hv5.size).trans hb8⟩
        case rest =>
          obtain ⟨hv6, hb6⟩ := hcut
          obtain ⟨w6, hw6⟩ : ∃ w6 : World, w6 = wc := ⟨_, rfl⟩
          rw [← hw6] at hv6 hb6 ⊢
          clear hw6 q0 hw1 hw2 hp2 hmx0 hmx1
          have hD6 := hD5.below hb6 hlow0
          have hH6 := hH5.below hb6 hlow1
          have hbw6 := hbw5.trans (hb6.mono (by omega))
          have hl6 := hl.below hbw6
          clear hD5 hH5 hbw5 hl5 hv5 hb6
          have mk3 := fun (wx : World) (hD : Blk wx w.heap.size 90 [.int .i64 da, .int .i64 db, .int .i64 dc, .int .i64 dd, .int .i64 df, .int .i64 dg, .int .i64 dh]) (hH : Blk wx (w.heap.size + 1) 36 [.string key, .string driver, .int .i64 fr, .int .i64 to_, .slice A n c]) =>
            And.intro (hD.cell_of (i := 2) (v := .int .i64 dc) rfl) (And.intro (hH.cell_of (i := 0) (v := .string key) rfl) (And.intro (hH.cell_of (i := 1) (v := .string driver) rfl) (And.intro (hH.cell_of (i := 2) (v := .int .i64 fr) rfl) (And.intro (hH.cell_of (i := 3) (v := .int .i64 to_) rfl) (hH.cell_of (i := 4) (v := .slice A n c) rfl)))))
          have Mk3 := Lib.hid mk3
          have q0 := mk3 _ hD6.drew hH6.drew
          clear mk3
          have hlen7 : (addLn (addLn ll ⟨#[108, 97, 116, 101]⟩ C1) ⟨#[100, 105, 115, 116, 97, 110, 99, 101]⟩ C2).length ≤ 1000000 := by
            have h1 := addLn_len ll ⟨#[108, 97, 116, 101]⟩ C1
            have h2 := addLn_len (addLn ll ⟨#[108, 97, 116, 101]⟩ C1) ⟨#[100, 105, 115, 116, 97, 110, 99, 101]⟩ C2
            omega
          go_upto_region 11 with fail
          go_cut [] (fun wx => VarOwn wx w2.heap.size w3.heap.size L ∧ Below w2.heap.size w6 wx)
          case first =>
            go_region_held3 (fun wx => wx.cell? ⟨w.heap.size, 2, none⟩ = some (.int .i64 dc) ∧ wx.cell? ⟨w.heap.size + 1, 0, none⟩ = some (.string key) ∧ wx.cell? ⟨w.heap.size + 1, 1, none⟩ = some (.string driver) ∧ wx.cell? ⟨w.heap.size + 1, 2, none⟩ = some (.int .i64 fr) ∧ wx.cell? ⟨w.heap.size + 1, 3, none⟩ = some (.int .i64 to_) ∧ wx.cell? ⟨w.heap.size + 1, 4, none⟩ = some (.slice A n c))
              (first
                | exact q0
                | exact q1
                | exact q3)
              (first
                | (go_at_call 131; refine (CM.out _ (hl6.drewN 1)).mono ?_; rintro e w7 ⟨rfl, hg7⟩; have hD7 := hD6.drew.grown hg7 (by simp); have hH7 := hH6.drew.grown hg7 (by simp); have q1 := Mk3.out _ hD7 hH7)
                | (go_at_call 137; refine (add_any ⟨#[102, 117, 101, 108]⟩ (dc * MS) w2.heap.size w3.heap.size (addLn (addLn ll ⟨#[108, 97, 116, 101]⟩ C1) ⟨#[100, 105, 115, 116, 97, 110, 99, 101]⟩ C2) _ (hv6.drew.grow hg7) hlen7).mono ?_; rintro e w8 ⟨⟨r8, rfl⟩, hv8, hb8⟩; have hD8 := hD7.below hb8 hlow0; have hH8 := hH7.below hb8 hlow1; have q3 := Mk3.out _ hD8 hH8))
            all_goals
              go_wp2_with fail
              go_meet
              exact ⟨by rw [HLL.out, HE3'.out]; exact hv8, (below_none (grow_trans (grow_drew (World.grownBy.refl _ _)) hg7) hv6.size).trans hb8⟩
          case rest =>
            obtain ⟨hv7, hb7⟩ := hcut
            obtain ⟨w7, hw7⟩ : ∃ w7 : World, w7 = wc := ⟨_, rfl⟩
            rw [← hw7] at hv7 hb7 ⊢
            clear hw7 q0
            have hbw7 := hbw6.trans (hb7.mono (by omega))
            have hLok : ∀ y ∈ L, LnOk y := by
              rw [HLL.out]
              exact addLn_ok (addLn_ok (addLn_ok Hlok.out (by decide)) (by decide)) (by decide)
            have hLlen : L.length ≤ 1000000 := by
              rw [HLL.out]
              have h3 := addLn_len (addLn (addLn ll ⟨#[108, 97, 116, 101]⟩ C1) ⟨#[100, 105, 115, 116, 97, 110, 99, 101]⟩ C2) ⟨#[102, 117, 101, 108]⟩ C3
              have h1 := addLn_len ll ⟨#[108, 97, 116, 101]⟩ C1
              have h2 := addLn_len (addLn ll ⟨#[108, 97, 116, 101]⟩ C1) ⟨#[100, 105, 115, 116, 97, 110, 99, 101]⟩ C2
              omega
            have HLok := Lib.hid hLok
            clear hD6 hH6 hbw6 hl6 hv6 hb7 hLok
            obtain ⟨A9, c9, hvar, hown, hsl⟩ := hv7.open_
            have hvc := cell_of_one hvar
            have Hown := Lib.hid hown
            clear hown hv7
            go_wp2_with fail
            refine (checkLines_any L A9 L.length c9 w7 hsl HLok.out hLlen).mono ?_
            rintro e w8 ⟨rfl, hg8⟩
            rw [← HE2.out]
            have hvc8 := cell_of_one ((hg8.block w3.heap.size (lt_of_block hvar) (by simp)).trans hvar)
            have hbw8 : Below w.heap.size w w8 := hbw7.trans (below_none hg8 hbw7.size)
            by_cases hE : E = 0
            · subst hE
              go_wp2_with fail
              go_ret2
              exact ⟨hbw8, .slice A9 L.length c9, rfl, ownsRow_base (ownsRow_grow Hown.out hg8) (by omega)⟩
            · have hne : (E != 0) = true := by simpa using hE
              have HN := Lib.hid hE
              clear hE
              go_wp2_with fail
              go_ret2
              exact ⟨hbw8, .inl ⟨HN.out, rfl⟩⟩
      · have HE2 := Lib.hid (show E = 11 from Hcase2.out)
        go_wp2_with fail
        go_ret2
        exact ⟨below_of_grow hgw2, .inl ⟨by rw [HE2.out]; decide, by rw [HE2.out]; rfl⟩⟩
    · have hne : (E0 != 0) = true := by simpa using h0
      have HF := Lib.hid (show E = E0 by rw [Hcase.out, if_neg h0])
      have HN := Lib.hid h0
      clear h0
      go_wp2_with fail
      go_ret2
      exact ⟨below_of_grow hgw, .inl ⟨by rw [HF.out]; exact HN.out, by rw [HF.out]; rfl⟩⟩

end Go.Proofs.YtljnekobfjpfaaaDoor
