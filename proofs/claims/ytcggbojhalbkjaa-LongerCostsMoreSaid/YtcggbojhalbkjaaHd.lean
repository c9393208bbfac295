/- The walk of hire.checkLeg. -/
import Derived.Test.YtcggbojhalbkjaaHc
import Derived.Deep.RegionHeld3
namespace Go.Proofs.Ytcggbojhalbkjaa
open Go.RowKit

theorem info_lg : (Try.prog.info? 98).map (·.size) = some 9 := by kernel_rfl

theorem rd_neq (at_ : Int) (st : ByteArray) (m f : Int) (w : World) :
    (binOp .neq 78 (.agg #[.int .i64 at_, .string st, .int .i64 m, .int .i64 f]) (.agg #[.int .i64 (-1), .string ⟨#[]⟩, .int .i64 0, .int .i64 0])).run Try.prog w = .ok (.bool (rdOut ⟨at_, st, m, f⟩)) w := by
  have hS : Try.prog.underlying 78 = some (.struct (Try.prog.fieldsOf 78)) := by kernel_rfl
  have hp : Try.prog.stoodInHeld 78 = false := by kernel_rfl
  rw [run_neq_struct, show (10000 : Nat) = 9999 + 1 from rfl, run_equalIn_agg w 9999 78 _ _ hS hp]
  simp only [Program.fieldsOf, Try.underlying78]
  have u3 := Try.underlying3
  have u9 := Try.underlying9
  go_simp
  by_cases h1 : at_ = -1 <;> by_cases h2 : st.toList = [] <;> by_cases h3 : m = 0 <;> by_cases h4 : f = 0 <;> simp [rdOut, h1, h2, h3, h4]

theorem firstE_zero (x : Int) : firstE [0, x] = x := by
  simp only [firstE]; split <;> simp_all

theorem legE_stop1 {fr : Int} {p : Option Lg} {last : Bool} {g : Lg} {e : Int} (h : firstE [whenE (!keyB g.veh) 5, readingE g.out] = e) (hne : e ≠ 0) : legE fr p last g = e := by
  unfold legE
  simp only [firstE] at h ⊢
  split
  · rename_i h1
    rw [if_pos h1] at h
    split
    · rename_i h2
      rw [if_pos h2] at h
      exact absurd h.symm hne
    · rename_i h2
      rw [if_neg h2] at h
      exact h
  · rename_i h1
    rw [if_neg h1] at h
    exact h
theorem legE_pass1 {fr : Int} {p : Option Lg} {last : Bool} {g : Lg} (h : firstE [whenE (!keyB g.veh) 5, readingE g.out] = 0) : legE fr p last g = firstE [legPrevE fr p g, legInE last g] := by
  have := firstE_two h
  unfold legE
  rw [this.1, this.2]
  rfl

set_option maxRecDepth 100000 in
set_option maxHeartbeats 1000000 in
theorem checkLeg_any (key driver : ByteArray) (fr to_ : Int) (l : List Lg) (A : Option Addr) (n c i : Nat) (g : Lg) (w : World) (hl : SlT lgEnc 9 98 w A n l) (hi : l[i]? = some g) (hok : ∀ g ∈ l, LgOk g) (hn : n ≤ 1000000) :
    Calls Try.prog 59 #[.agg #[.string key, .string driver, .int .i64 fr, .int .i64 to_, .slice A n c], .int .i64 (i : Int)] w (GotE w (legE fr (prevOf l i) (decide (i + 1 = n)) g)) := by
  have hin : i < n := by have := (List.getElem?_eq_some_iff.1 hi).1; have := hl.len; omega
  obtain ⟨b, off, rfl, hbl, hrg⟩ := hl.get (by omega)
  have hgo := hok g (List.mem_of_getElem? hi)
  have hpv : ∀ q, l[i - 1]? = some q → LgOk q := fun q hq => hok q (List.mem_of_getElem? hq)
  have hr0 := hrg i g hi
  obtain ⟨E1, hE1⟩ : ∃ E, E = firstE [whenE (!keyB g.veh) 5, readingE g.out] := ⟨_, rfl⟩
  have hstop := fun (h : E1 ≠ 0) => legE_stop1 (fr := fr) (p := prevOf l i) (last := decide (i + 1 = n)) hE1.symm h
  have hpass := fun (h : E1 = 0) => legE_pass1 (fr := fr) (p := prevOf l i) (last := decide (i + 1 = n)) (g := g) (hE1.symm.trans h)
  have Hstop := Lib.hid hstop
  have Hpass := Lib.hid hpass
  obtain ⟨R, hR⟩ : ∃ R, R = legE fr (prevOf l i) (decide (i + 1 = n)) g := ⟨_, rfl⟩
  rw [← hR] at Hstop Hpass ⊢
  obtain ⟨veh, ⟨a1, s1, m1, f1⟩, ⟨a2, s2, m2, f2⟩⟩ := g
  have cK : ∀ w, Calls Try.prog 31 #[.string veh] w fun e w' => e = .returned (.bool (keyB veh)) ∧ w' = w := fun w => flipw (isKey_any _ _ (by have := hgo.1; simp at this; omega))
  have hE1' : E1 = firstE [whenE (!keyB veh) 5, readingE ⟨a1, s1, m1, f1⟩] := hE1
  generalize keyB veh = K at cK hE1'
  have hr : w.rangeAt b (off + i * 9) [.string veh, .int .i64 a1, .string s1, .int .i64 m1, .int .i64 f1, .int .i64 a2, .string s2, .int .i64 m2, .int .i64 f2] := hr0
  have ho1 : RdOk ⟨a1, s1, m1, f1⟩ := hgo.2.1
  have ho2 : RdOk ⟨a2, s2, m2, f2⟩ := hgo.2.2
  have CK := Lib.hid cK
  have HE1 := Lib.hid hE1'
  have Hrg := Lib.hid hrg
  have Ho1 := Lib.hid ho1
  have Ho2 := Lib.hid ho2
  have hr' := fun (o : Obj) => (show (w.alloc o).rangeAt b (off + i * 9) [.string veh, .int .i64 a1, .string s1, .int .i64 m1, .int .i64 f1, .int .i64 a2, .string s2, .int .i64 m2, .int .i64 f2] from fun j v hv => (World.cell?_alloc_lt w o _ hbl).trans (hr j v hv))
  clear hstop hpass hE1 hE1' cK hrg ho1 ho2 hr0 hr hgo hR
  go_enter Try.func59, Try.ntmps59
  go_wp2_with (with_reducible refine wpList_load_rng rfl 98 (.tmp 11) rfl b (off + i * 9) rfl _ _ (hr' _) Try.underlying98 rfl 9 info_lg rfl ?_)
  refine wp_region_still_tail 7 (by kernel_rfl) (by kernel_rfl) ?_
  change wpStill _ _ (World.drew _) _ _ _
  simp only [List.take_succ_cons, List.take_zero, List.drop_succ_cons, List.drop_zero]
  repeat still_step
  still_call (CK.out _)
  repeat still_step
  still_call (flipw (when_any _ _ _))
  repeat still_step
  refine wpStill_nil ?_
  change wpList _ _ _ _ _ (World.drew _)
  go_wp2_with fail
  refine (checkReading_any ⟨a1, s1, m1, f1⟩ _ Ho1.out).mono ?_
  rintro e w1 ⟨rfl, hg1⟩
  obtain ⟨R1, hR1⟩ : ∃ R, R = readingE ⟨a1, s1, m1, f1⟩ := ⟨_, rfl⟩
  rw [← hR1] at HE1 ⊢
  clear hR1
  have hz := hg1.size
  simp at hz
  have hb0 : Blk w1 w.heap.size 74 [.string key, .string driver, .int .i64 fr, .int .i64 to_, .slice (some ⟨b, off, none⟩) n c] := (((Blk.at_ w rfl _ _).alloc _).drew).grown hg1 (by simp)
  have hb1 : Blk w1 (w.heap.size + 1) 98 [.string veh, .int .i64 a1, .string s1, .int .i64 m1, .int .i64 f1, .int .i64 a2, .string s2, .int .i64 m2, .int .i64 f2] := ((Blk.at_ (w.alloc _) (by simp) _ _).drew).grown hg1 (by simp)
  have hgw : w.grownBy w1 none := grow_trans (grow_drew (grow_alloc (grow_alloc (World.grownBy.refl _ _) _) _)) hg1
  clear hg1 hr'
  go_wp2_with fail
  refine (first_any [whenE (!K) 5, R1] _ _ _ _ (Blk.at_ _ rfl _ _) (by simp)).mono ?_
  rintro e w2 ⟨rfl, rfl⟩
  rw [← HE1.out]
  obtain ⟨w2, hw2⟩ : ∃ w2, w2 = w1.alloc (.cells (List.map (Value.int .i64) [whenE (!K) 5, R1]).toArray 33) := ⟨_, rfl⟩
  have hg2 : w1.grownBy w2 none := by rw [hw2]; exact grow_alloc (World.grownBy.refl _ _) _
  rw [← hw2]
  have hb0 := hb0.grown hg2 (by simp)
  have hb1 := hb1.grown hg2 (by simp)
  have hgw := grow_trans hgw hg2
  have hz := Nat.lt_of_lt_of_le (show w.heap.size + 1 < w1.heap.size by omega) hg2.size
  clear hw2 hg2
  by_cases hE0 : E1 = 0
  · have hpass := Hpass.out hE0
    have HP := Lib.hid hpass
    subst hE0
    clear hpass
    have h2 := hb0.cell_of (i := 2) (v := .int .i64 fr) rfl
    have h3 := hb0.cell_of (i := 3) (v := .int .i64 to_) rfl
    have h4 := hb0.cell_of (i := 4) (v := .slice (some ⟨b, off, none⟩) n c) rfl
    have g0 := hb1.cell_of (i := 0) (v := .string veh) rfl
    have g1 := hb1.cell_of (i := 1) (v := .int .i64 a1) rfl
    have g2 := hb1.cell_of (i := 2) (v := .string s1) rfl
    have g3 := hb1.cell_of (i := 3) (v := .int .i64 m1) rfl
    have g4 := hb1.cell_of (i := 4) (v := .int .i64 f1) rfl
    have g5 := hb1.cell_of (i := 5) (v := .int .i64 a2) rfl
    have g6 := hb1.cell_of (i := 6) (v := .string s2) rfl
    have g7 := hb1.cell_of (i := 7) (v := .int .i64 m2) rfl
    have g8 := hb1.cell_of (i := 8) (v := .int .i64 f2) rfl
    go_upto_if 27 with fail
    go_cut [] (fun wx => legPrevE fr (prevOf l i) ⟨veh, ⟨a1, s1, m1, f1⟩, ⟨a2, s2, m2, f2⟩⟩ = 0 ∧ w2.grownBy wx none)
    case first =>
      by_cases hi0 : i = 0
      · subst hi0
        have hq : (((0 : Nat) : Int) == 0) = true := rfl
        have hV : legPrevE fr (prevOf l 0) ⟨veh, ⟨a1, s1, m1, f1⟩, ⟨a2, s2, m2, f2⟩⟩ = if a1 = fr then 0 else 7 := rfl
        have HV := Lib.hid hV
        by_cases hf : a1 = fr
        · have hne : (a1 != fr) = false := by simpa using hf
          have HW := Lib.hid (show legPrevE fr (prevOf l 0) ⟨veh, ⟨a1, s1, m1, f1⟩, ⟨a2, s2, m2, f2⟩⟩ = 0 by rw [HV.out, if_pos hf])
          clear hV hf
          go_wp2_with fail
          go_meet
          exact ⟨HW.out, World.grownBy.refl _ _⟩
        · have hne : (a1 != fr) = true := by simpa using hf
          have HW := Lib.hid (show legPrevE fr (prevOf l 0) ⟨veh, ⟨a1, s1, m1, f1⟩, ⟨a2, s2, m2, f2⟩⟩ = 7 by rw [HV.out, if_neg hf])
          clear hV hf
          go_wp2_with fail
          go_ret
          exact ⟨ret_int (by rw [HP.out, HW.out]; rfl), hgw⟩
      · have hq : ((i : Int) == 0) = false := by simpa using hi0
        obtain ⟨⟨qveh, ⟨qa1, qs1, qm1, qf1⟩, ⟨qa2, qs2, qm2, qf2⟩⟩, hq1⟩ : ∃ q, l[i - 1]? = some q := ⟨_, List.getElem?_eq_getElem (by have := (List.getElem?_eq_some_iff.1 hi).1; omega)⟩
        have hpo : prevOf l i = some ⟨qveh, ⟨qa1, qs1, qm1, qf1⟩, ⟨qa2, qs2, qm2, qf2⟩⟩ := by simp [prevOf, hi0, hq1]
        have hrq0 := Hrg.out (i - 1) _ hq1
        have hrq : w.rangeAt b (off + (i - 1) * 9) [.string qveh, .int .i64 qa1, .string qs1, .int .i64 qm1, .int .i64 qf1, .int .i64 qa2, .string qs2, .int .i64 qm2, .int .i64 qf2] := hrq0
        have hki : (i : Int) - 1 = ((i - 1 : Nat) : Int) := by omega
        have hk1n : (i : Int) - 1 < (n : Int) := by omega
        have hr2 := rangeAt_grow hrq hbl hgw
        have hV : legPrevE fr (prevOf l i) ⟨veh, ⟨a1, s1, m1, f1⟩, ⟨a2, s2, m2, f2⟩⟩ = if a1 = qa2 then (if eqS veh qveh then 16 else if eqS s1 qs2 then 0 else 8) else 7 := by rw [hpo]; rfl
        have HV := Lib.hid hV
        clear hV hpo hrq hrq0 hq1 hi0
        go_wp2_with (with_reducible refine wpList_load_rng rfl 98 (.tmp 39) rfl b (off + (i - 1) * 9) rfl _ _ hr2 Try.underlying98 rfl 9 info_lg rfl ?_)
        · go_ret
          rename_i h1
          have h1' : ¬ a1 = qa2 := by simpa using h1
          exact ⟨ret_int (by rw [HP.out, HV.out, if_neg h1']; rfl), grow_alloc hgw _⟩
        · go_ret
          rename_i h1 h2
          have h1' : a1 = qa2 := by simpa using h1
          have h2' : eqS veh qveh = true := h2
          exact ⟨ret_int (by rw [HP.out, HV.out, if_pos h1', if_pos h2']; rfl), grow_alloc hgw _⟩
        · go_ret
          rename_i h1 h2 h3
          have h1' : a1 = qa2 := by simpa using h1
          have h2' : ¬ eqS veh qveh = true := by simpa [eqS] using h2
          have h3' : ¬ eqS s1 qs2 = true := by simpa [eqS] using h3
          exact ⟨ret_int (by rw [HP.out, HV.out, if_pos h1', if_neg h2', if_neg h3']; rfl), grow_alloc hgw _⟩
        · go_meet
          rename_i h1 h2 h3
          have h1' : a1 = qa2 := by simpa using h1
          have h2' : ¬ eqS veh qveh = true := by simpa [eqS] using h2
          have h3' : eqS s1 qs2 = true := by simpa [eqS] using h3
          exact ⟨by rw [HV.out, if_pos h1', if_neg h2', if_pos h3'], grow_alloc (World.grownBy.refl _ _) _⟩
    case rest =>
      obtain ⟨hp0, hg3⟩ := hcut
      obtain ⟨w3, hw3⟩ : ∃ w3 : World, w3 = wc := ⟨_, rfl⟩
      rw [← hw3] at hg3 ⊢
      clear hw3
      have hb0 := hb0.grown hg3 (by simp)
      have hb1 := hb1.grown hg3 (by simp)
      have hgw := grow_trans hgw hg3
      have HR := Lib.hid (show R = firstE [0, legInE (decide (i + 1 = n)) ⟨veh, ⟨a1, s1, m1, f1⟩, ⟨a2, s2, m2, f2⟩⟩] by rw [HP.out, hp0])
      have k4 := hb0.cell_of (i := 4) (v := .slice (some ⟨b, off, none⟩) n c) rfl
      have k1 := hb1.cell_of (i := 1) (v := .int .i64 a1) rfl
      have k5 := hb1.cell_of (i := 5) (v := .int .i64 a2) rfl
      have k6 := hb1.cell_of (i := 6) (v := .string s2) rfl
      have k7 := hb1.cell_of (i := 7) (v := .int .i64 m2) rfl
      have k8 := hb1.cell_of (i := 8) (v := .int .i64 f2) rfl
      clear hp0 HP h2 h3 h4 g0 g1 g2 g3 g4 g5 g6 g7 g8
      by_cases ha : a2 = -1
      · subst ha
        have hq := fun w => rd_neq (-1) s2 m2 f2 w
        obtain ⟨Z, hZ⟩ : ∃ Z, Z = rdOut ⟨-1, s2, m2, f2⟩ := ⟨_, rfl⟩
        rw [← hZ] at hq
        have HZ := Lib.hid hZ
        have hlt : decide ((i : Int) < (n : Int) - 1) = !decide (i + 1 = n) := by
          by_cases hl : i + 1 = n <;> simp [hl] <;> omega
        obtain ⟨L, hL⟩ : ∃ L, L = decide (i + 1 = n) := ⟨_, rfl⟩
        rw [← hL] at hlt HR
        clear hZ hL
        go_wp2_with fail
        refine wp_region_still_tail 12 (by kernel_rfl) (by kernel_rfl) ?_
        change wpStill _ _ (World.drew _) _ _ _
        simp only [List.take_succ_cons, List.take_zero, List.drop_succ_cons, List.drop_zero]
        repeat still_step
        still_call (flipw (when_any _ _ _))
        repeat still_step
        still_call (flipw (when_any _ _ _))
        repeat still_step
        refine wpStill_nil ?_
        change wpList _ _ _ _ _ (World.drew _)
        go_wp2_with fail
        refine (first_any [whenE Z 3, whenE (!L) 11] _ _ _ _ ((Blk.at_ _ rfl _ _).drew) (by simp)).mono ?_
        rintro e w4 ⟨rfl, rfl⟩
        go_wp2_with fail
        go_ret
        refine ⟨ret_int ?_, grow_drew (grow_alloc hgw _)⟩
        rw [HR.out, HZ.out]; simp [legInE, firstE_zero]
      · have hne : (a2 == -1) = false := by simpa using ha
        have hfin := fun (e : Int) (h : e = firstE [readingE ⟨a2, s2, m2, f2⟩, whenE (decide (a2 ≤ a1)) 7]) => (show e = R by rw [HR.out, h]; simp only [legInE, if_neg ha, firstE_zero])
        have Hfin := Lib.hid hfin
        clear hfin
        go_wp2_with fail
        go_region_held3 (fun wx => wx.cell? ⟨w.heap.size + 1, 1, none⟩ = some (.int .i64 a1) ∧ wx.cell? ⟨w.heap.size + 1, 5, none⟩ = some (.int .i64 a2) ∧ wx.cell? ⟨w.heap.size + 1, 6, none⟩ = some (.string s2) ∧ wx.cell? ⟨w.heap.size + 1, 7, none⟩ = some (.int .i64 m2) ∧ wx.cell? ⟨w.heap.size + 1, 8, none⟩ = some (.int .i64 f2))
          (first
            | exact ⟨k1, k5, k6, k7, k8⟩
            | exact q4
            | exact q5 _)
          (first
            | (go_at_call 60; refine (checkReading_any ⟨a2, s2, m2, f2⟩ _ Ho2.out).mono ?_; rintro e w4 ⟨rfl, hg4⟩; have hb2 : Blk w4 (w.heap.size + 1) 98 [.string veh, .int .i64 a1, .string s1, .int .i64 m1, .int .i64 f1, .int .i64 a2, .string s2, .int .i64 m2, .int .i64 f2] := (hb1.drewN 1).grown hg4 (by simp); have q5 := fun o => And.intro ((hb2.alloc o).cell_of (i := 1) (v := .int .i64 a1) rfl) (And.intro ((hb2.alloc o).cell_of (i := 5) (v := .int .i64 a2) rfl) (And.intro ((hb2.alloc o).cell_of (i := 6) (v := .string s2) rfl) (And.intro ((hb2.alloc o).cell_of (i := 7) (v := .int .i64 m2) rfl) ((hb2.alloc o).cell_of (i := 8) (v := .int .i64 f2) rfl)))); have q4 := And.intro (hb2.cell_of (i := 1) (v := .int .i64 a1) rfl) (And.intro (hb2.cell_of (i := 5) (v := .int .i64 a2) rfl) (And.intro (hb2.cell_of (i := 6) (v := .string s2) rfl) (And.intro (hb2.cell_of (i := 7) (v := .int .i64 m2) rfl) (hb2.cell_of (i := 8) (v := .int .i64 f2) rfl)))))
            | (go_at_call 30; refine (when_any _ _ _).mono ?_; rintro e w5 ⟨rfl, rfl⟩)
            | (go_at_call 28; refine (first_any [readingE ⟨a2, s2, m2, f2⟩, whenE (decide (a2 ≤ a1)) 7] _ _ _ _ (Blk.at_ _ rfl _ _) (by simp)).mono ?_; rintro e w6 ⟨rfl, rfl⟩))
        all_goals
          go_wp2_with fail
          go_ret
          exact ⟨ret_int (Hfin.out _ rfl), grow_alloc (grow_trans (grow_drew hgw) hg4) _⟩
  · have hne : (E1 != 0) = true := by simpa using hE0
    have HR := Lib.hid (Hstop.out hE0)
    clear hE0
    go_wp2_with fail
    go_ret
    exact ⟨ret_int HR.out.symm, hgw⟩

end Go.Proofs.Ytcggbojhalbkjaa
