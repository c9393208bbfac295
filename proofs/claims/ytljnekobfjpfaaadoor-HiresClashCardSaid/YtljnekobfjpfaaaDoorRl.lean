/- The walk of the reference's legFault. -/
import Derived.Test.YtljnekobfjpfaaaDoorRt
namespace Go.Proofs.YtljnekobfjpfaaaDoor
open Go.RowKit

set_option maxRecDepth 100000 in
set_option maxHeartbeats 1000000 in
theorem legFault_any (key driver : ByteArray) (fr to_ : Int) (l : List Lg) (A : Option Addr) (n c i : Nat) (g : Lg) (w : World) (hl : SlT lgEnc 9 138 w A n l) (hi : l[i]? = some g) (hok : ∀ g ∈ l, LgOk g) (hn : n ≤ 1000000) :
    Calls Tryd.prog 119 #[.agg #[.string key, .string driver, .int .i64 fr, .int .i64 to_, .slice A n c], .int .i64 (i : Int)] w (GotE w (legE fr (prevOf l i) (decide (i + 1 = n)) g)) := by
  have hin : i < n := by have := (List.getElem?_eq_some_iff.1 hi).1; have := hl.len; omega
  obtain ⟨b, off, rfl, hbl, hrg⟩ := hl.get (by omega)
  have hgo := hok g (List.mem_of_getElem? hi)
  have hr0 := hrg i g hi
  obtain ⟨R, hR⟩ : ∃ R, R = legE fr (prevOf l i) (decide (i + 1 = n)) g := ⟨_, rfl⟩
  rw [← hR]
  obtain ⟨veh, ⟨a1, s1, m1, f1⟩, ⟨a2, s2, m2, f2⟩⟩ := g
  obtain ⟨K, hK⟩ : ∃ K, keyB veh = K := ⟨_, rfl⟩
  obtain ⟨R1, hR1⟩ : ∃ R1, readingE ⟨a1, s1, m1, f1⟩ = R1 := ⟨_, rfl⟩
  obtain ⟨R2, hR2⟩ : ∃ R2, readingE ⟨a2, s2, m2, f2⟩ = R2 := ⟨_, rfl⟩
  have HR0 := Lib.hid (show R = firstE [whenE (!K) 5, R1, legPrevE fr (prevOf l i) ⟨veh, ⟨a1, s1, m1, f1⟩, ⟨a2, s2, m2, f2⟩⟩, legInE (decide (i + 1 = n)) ⟨veh, ⟨a1, s1, m1, f1⟩, ⟨a2, s2, m2, f2⟩⟩] by rw [hR, ← hK, ← hR1]; rfl)
  have HIn := Lib.hid (show a2 ≠ -1 → legInE (decide (i + 1 = n)) ⟨veh, ⟨a1, s1, m1, f1⟩, ⟨a2, s2, m2, f2⟩⟩ = firstE [R2, whenE (decide (a2 ≤ a1)) 7] from fun h => by rw [← hR2]; simp only [legInE, if_neg h])
  have CK := Lib.hid (fun w => (by rw [← hK]; exact key_any _ _ (by have := hgo.1; simp at this; omega) : Calls Tryd.prog 102 #[.string veh] w fun e w' => e = .returned (.bool K) ∧ w.grownBy w' none))
  have C1 := Lib.hid (fun w => (by rw [← hR1]; exact readingFault_any ⟨a1, s1, m1, f1⟩ _ hgo.2.1 : Calls Tryd.prog 145 #[.agg #[.int .i64 a1, .string s1, .int .i64 m1, .int .i64 f1]] w (GotE w R1)))
  have C2 := Lib.hid (fun w => (by rw [← hR2]; exact readingFault_any ⟨a2, s2, m2, f2⟩ _ hgo.2.2 : Calls Tryd.prog 145 #[.agg #[.int .i64 a2, .string s2, .int .i64 m2, .int .i64 f2]] w (GotE w R2)))
  have hr : w.rangeAt b (off + i * 9) [.string veh, .int .i64 a1, .string s1, .int .i64 m1, .int .i64 f1, .int .i64 a2, .string s2, .int .i64 m2, .int .i64 f2] := hr0
  have Hrg := Lib.hid hrg
  have hr' := fun (o : Obj) => (show (w.alloc o).rangeAt b (off + i * 9) [.string veh, .int .i64 a1, .string s1, .int .i64 m1, .int .i64 f1, .int .i64 a2, .string s2, .int .i64 m2, .int .i64 f2] from fun j v hv => (World.cell?_alloc_lt w o _ hbl).trans (hr j v hv))
  clear hrg hr0 hr hgo hR hK hR1 hR2
  go_enter Tryd.func119, Tryd.ntmps119
  go_wp2_with (with_reducible refine wpList_load_rng rfl 138 (.tmp 12) rfl b (off + i * 9) rfl _ _ (hr' _) Tryd.underlying138 rfl 9 info_lg rfl ?_)
  refine (CK.out _).mono ?_
  rintro e w1 ⟨rfl, hg1⟩
  have hb0 : Blk w1 w.heap.size 36 [.string key, .string driver, .int .i64 fr, .int .i64 to_, .slice (some ⟨b, off, none⟩) n c] := ((Blk.at_ w rfl _ _).alloc _).grown hg1 (by simp)
  have hb1 : Blk w1 (w.heap.size + 1) 138 [.string veh, .int .i64 a1, .string s1, .int .i64 m1, .int .i64 f1, .int .i64 a2, .string s2, .int .i64 m2, .int .i64 f2] := (Blk.at_ (w.alloc _) (by simp) _ _).grown hg1 (by simp)
  have hgw : w.grownBy w1 none := grow_trans (grow_alloc (grow_alloc (World.grownBy.refl _ _) _) _) hg1
  clear hg1 hr'
  cases K
  · go_wp2_with fail
    go_ret
    exact ⟨ret_int (by rw [HR0.out]; rfl), hgw⟩
  have g1 := hb1.cell_of (i := 1) (v := .int .i64 a1) rfl
  have g2 := hb1.cell_of (i := 2) (v := .string s1) rfl
  have g3 := hb1.cell_of (i := 3) (v := .int .i64 m1) rfl
  have g4 := hb1.cell_of (i := 4) (v := .int .i64 f1) rfl
  go_wp2_with fail
  refine (C1.out _).mono ?_
  rintro e w2 ⟨rfl, hg2⟩
  have hb0 := hb0.grown hg2 (by simp)
  have hb1 := hb1.grown hg2 (by simp)
  have hgw := grow_trans hgw hg2
  clear hg2 g1 g2 g3 g4
  by_cases hE0 : R1 = 0
  · subst hE0
    have HP := Lib.hid (show R = firstE [legPrevE fr (prevOf l i) ⟨veh, ⟨a1, s1, m1, f1⟩, ⟨a2, s2, m2, f2⟩⟩, legInE (decide (i + 1 = n)) ⟨veh, ⟨a1, s1, m1, f1⟩, ⟨a2, s2, m2, f2⟩⟩] by rw [HR0.out]; rfl)
    have h2 := hb0.cell_of (i := 2) (v := .int .i64 fr) rfl
    have h3 := hb0.cell_of (i := 3) (v := .int .i64 to_) rfl
    have h4 := hb0.cell_of (i := 4) (v := .slice (some ⟨b, off, none⟩) n c) rfl
    have g0 := hb1.cell_of (i := 0) (v := .string veh) rfl
    have g1 := hb1.cell_of (i := 1) (v := .int .i64 a1) rfl
    have g2 := hb1.cell_of (i := 2) (v := .string s1) rfl
    have g3 := hb1.cell_of (i := 3) (v := .int .i64 m1) rfl
    have g4 := hb1.cell_of (i := 4) (v := .int .i64 f1) rfl
    have g5 := hb1.cell_of (i := 5) (v := .int .i64 a2) rfl
    have g6 := hb1.cell_of (i := 6) (v := .string s2) rfl
    have g7 := hb1.cell_of (i := 7) (v := .int .i64 m2) rfl
    have g8 := hb1.cell_of (i := 8) (v := .int .i64 f2) rfl
    have hz2 := hb1.lt
    go_upto_if 25 with fail
    go_cut [] (fun wx => legPrevE fr (prevOf l i) ⟨veh, ⟨a1, s1, m1, f1⟩, ⟨a2, s2, m2, f2⟩⟩ = 0 ∧ w2.grownBy wx none)
    case first =>
      by_cases hi0 : i = 0
      · subst hi0
        have hq : (((0 : Nat) : Int) == 0) = true := rfl
        have hV : legPrevE fr (prevOf l 0) ⟨veh, ⟨a1, s1, m1, f1⟩, ⟨a2, s2, m2, f2⟩⟩ = if a1 = fr then 0 else 7 := rfl
        have HV := Lib.hid hV
        by_cases hf : a1 = fr
        · have hne : (a1 != fr) = false := by simpa using hf
          have HW := Lib.hid (show legPrevE fr (prevOf l 0) ⟨veh, ⟨a1, s1, m1, f1⟩, ⟨a2, s2, m2, f2⟩⟩ = 0 by rw [HV.out, if_pos hf])
          clear hV hf
          go_wp2_with fail
          go_meet
          exact ⟨HW.out, World.grownBy.refl _ _⟩
        · have hne : (a1 != fr) = true := by simpa using hf
          have HW := Lib.hid (show legPrevE fr (prevOf l 0) ⟨veh, ⟨a1, s1, m1, f1⟩, ⟨a2, s2, m2, f2⟩⟩ = 7 by rw [HV.out, if_neg hf])
          clear hV hf
          go_wp2_with fail
          go_ret
          exact ⟨ret_int (by rw [HP.out, HW.out]; rfl), hgw⟩
      · have hq : ((i : Int) == 0) = false := by simpa using hi0
        obtain ⟨⟨qveh, ⟨qa1, qs1, qm1, qf1⟩, ⟨qa2, qs2, qm2, qf2⟩⟩, hq1⟩ : ∃ q, l[i - 1]? = some q := ⟨_, List.getElem?_eq_getElem (by have := (List.getElem?_eq_some_iff.1 hi).1; omega)⟩
        have hpo : prevOf l i = some ⟨qveh, ⟨qa1, qs1, qm1, qf1⟩, ⟨qa2, qs2, qm2, qf2⟩⟩ := by simp [prevOf, hi0, hq1]
        have hrq0 := Hrg.out (i - 1) _ hq1
        have hrq : w.rangeAt b (off + (i - 1) * 9) [.string qveh, .int .i64 qa1, .string qs1, .int .i64 qm1, .int .i64 qf1, .int .i64 qa2, .string qs2, .int .i64 qm2, .int .i64 qf2] := hrq0
        have hki : (i : Int) - 1 = ((i - 1 : Nat) : Int) := by omega
        have hk1n : (i : Int) - 1 < (n : Int) := by omega
        have hr2 := rangeAt_grow hrq hbl hgw
        have hV : legPrevE fr (prevOf l i) ⟨veh, ⟨a1, s1, m1, f1⟩, ⟨a2, s2, m2, f2⟩⟩ = if a1 = qa2 then (if eqS veh qveh then 16 else if eqS s1 qs2 then 0 else 8) else 7 := by rw [hpo]; rfl
        have HV := Lib.hid hV
        clear hV hpo hrq hrq0 hq1 hi0
        go_wp2_with (with_reducible refine wpList_load_rng rfl 138 (.tmp 37) rfl b (off + (i - 1) * 9) rfl _ _ hr2 Tryd.underlying138 rfl 9 info_lg rfl ?_)
        · go_ret
          rename_i h1
          have h1' : ¬ a1 = qa2 := by simpa using h1
          exact ⟨ret_int (by rw [HP.out, HV.out, if_neg h1']; rfl), grow_alloc hgw _⟩
        · go_ret
          rename_i h1 h2
          have h1' : a1 = qa2 := by simpa using h1
          have h2' : eqS veh qveh = true := h2
          exact ⟨ret_int (by rw [HP.out, HV.out, if_pos h1', if_pos h2']; rfl), grow_alloc hgw _⟩
        · go_ret
          rename_i h1 h2 h3
          have h1' : a1 = qa2 := by simpa using h1
          have h2' : ¬ eqS veh qveh = true := by simpa [eqS] using h2
          have h3' : ¬ eqS s1 qs2 = true := by simpa [eqS] using h3
          exact ⟨ret_int (by rw [HP.out, HV.out, if_pos h1', if_neg h2', if_neg h3']; rfl), grow_alloc hgw _⟩
        · go_meet
          rename_i h1 h2 h3
          have h1' : a1 = qa2 := by simpa using h1
          have h2' : ¬ eqS veh qveh = true := by simpa [eqS] using h2
          have h3' : eqS s1 qs2 = true := by simpa [eqS] using h3
          exact ⟨by rw [HV.out, if_pos h1', if_neg h2', if_pos h3'], grow_alloc (World.grownBy.refl _ _) _⟩
    case rest =>
      obtain ⟨hp0, hg3⟩ := hcut
      obtain ⟨w3, hw3⟩ : ∃ w3 : World, w3 = wc := ⟨_, rfl⟩
      rw [← hw3] at hg3 ⊢
      clear hw3
      have hb0 := hb0.grown hg3 (by simp)
      have hb1 := hb1.grown hg3 (by simp)
      have hgw := grow_trans hgw hg3
      have HR := Lib.hid (show R = firstE [0, legInE (decide (i + 1 = n)) ⟨veh, ⟨a1, s1, m1, f1⟩, ⟨a2, s2, m2, f2⟩⟩] by rw [HP.out, hp0])
      have k4 := hb0.cell_of (i := 4) (v := .slice (some ⟨b, off, none⟩) n c) rfl
      have k1 := hb1.cell_of (i := 1) (v := .int .i64 a1) rfl
      have k5 := hb1.cell_of (i := 5) (v := .int .i64 a2) rfl
      have k6 := hb1.cell_of (i := 6) (v := .string s2) rfl
      have k7 := hb1.cell_of (i := 7) (v := .int .i64 m2) rfl
      have k8 := hb1.cell_of (i := 8) (v := .int .i64 f2) rfl
      clear hp0 HP h2 h3 h4 g0 g1 g2 g3 g4 g5 g6 g7 g8
      by_cases ha : a2 = -1
      · subst ha
        have hq := fun w => rd_neq (-1) s2 m2 f2 w
        obtain ⟨Z, hZ⟩ : ∃ Z, Z = rdOut ⟨-1, s2, m2, f2⟩ := ⟨_, rfl⟩
        rw [← hZ] at hq
        have HZ := Lib.hid hZ
        have hlt : decide ((i : Int) < (n : Int) - 1) = !decide (i + 1 = n) := by
          by_cases hl : i + 1 = n <;> simp [hl] <;> omega
        obtain ⟨L, hL⟩ : ∃ L, L = decide (i + 1 = n) := ⟨_, rfl⟩
        rw [← hL] at hlt HR
        clear hZ hL
        cases Z
        · cases L
          all_goals
            go_wp2_with fail
            go_ret
            exact ⟨ret_int (by rw [HR.out]; simp [legInE, firstE_zero, ← HZ.out, whenE]), hgw⟩
        · go_wp2_with fail
          go_ret
          exact ⟨ret_int (by rw [HR.out]; simp [legInE, ← HZ.out, whenE, firstE]), hgw⟩
      · have hne : (a2 == -1) = false := by simpa using ha
        have hfin := HIn.out ha
        rw [hfin, firstE_zero] at HR
        clear hfin ha
        go_wp2_with fail
        refine (C2.out _).mono ?_
        rintro e w4 ⟨rfl, hg4⟩
        have hb4 := hb1.grown hg4 (by simp)
        have q1 := hb4.cell_of (i := 1) (v := .int .i64 a1) rfl
        have q5 := hb4.cell_of (i := 5) (v := .int .i64 a2) rfl
        by_cases h2 : R2 = 0
        · subst h2
          by_cases hle : a2 ≤ a1
          · have HF := Lib.hid (show R = 7 by rw [HR.out, decide_eq_true hle]; rfl)
            go_wp2_with fail
            go_ret
            exact ⟨ret_int HF.out.symm, grow_trans hgw hg4⟩
          · have HF := Lib.hid (show R = 0 by rw [HR.out, decide_eq_false hle]; rfl)
            go_wp2_with fail
            go_ret
            exact ⟨ret_int HF.out.symm, grow_trans hgw hg4⟩
        · have hne2 : (R2 != 0) = true := by simpa using h2
          have HF := Lib.hid (show R = R2 by rw [HR.out]; simp only [firstE]; rw [if_neg h2])
          clear h2
          go_wp2_with fail
          go_ret
          exact ⟨ret_int HF.out.symm, grow_trans hgw hg4⟩
  · have hne : (R1 != 0) = true := by simpa using hE0
    have HF := Lib.hid (show R = R1 by rw [HR0.out]; simp only [whenE, firstE]; simp [hE0])
    clear hE0
    go_wp2_with fail
    go_ret
    exact ⟨ret_int HF.out.symm, hgw⟩

end Go.Proofs.YtljnekobfjpfaaaDoor
