/- Several texts as one: Rl Rh Rm Ro Rp Rq Rc Rd2 Gn Gj -/
import Derived.Test.YtmpomocahgcebaaDoorRt
import Derived.Test.YtmpomocahgcebaaDoorHe
import Derived.Test.YtmpomocahgcebaaDoorHf
import Derived.Test.YtmpomocahgcebaaDoorHh
import Derived.IntWalk
import Derived.Test.YtmpomocahgcebaaDoorKp
import Derived.Test.YtmpomocahgcebaaDoorKg
/- The walk of the reference's legFault. -/
namespace Go.Proofs.YtmpomocahgcebaaDoor
open Go.RowKit

set_option maxRecDepth 100000 in
set_option maxHeartbeats 1000000 in
theorem legFault_any (key driver : ByteArray) (fr to_ : Int) (l : List Lg) (A : Option Addr) (n c i : Nat) (g : Lg) (w : World) (hl : SlT lgEnc 9 100 w A n l) (hi : l[i]? = some g) (hok : ∀ g ∈ l, LgOk g) (hn : n ≤ 1000000) :
    Calls Tryd.prog 168 #[.agg #[.string key, .string driver, .int .i64 fr, .int .i64 to_, .slice A n c], .int .i64 (i : Int)] w (GotE w (legE fr (prevOf l i) (decide (i + 1 = n)) g)) := by
  have hin : i < n := by have := (List.getElem?_eq_some_iff.1 hi).1; have := hl.len; omega
  obtain ⟨b, off, rfl, hbl, hrg⟩ := hl.get (by omega)
  have hgo := hok g (List.mem_of_getElem? hi)
  have hr0 := hrg i g hi
  obtain ⟨R, hR⟩ : ∃ R, R = legE fr (prevOf l i) (decide (i + 1 = n)) g := ⟨_, rfl⟩
  rw [← hR]
  obtain ⟨veh, ⟨a1, s1, m1, f1⟩, ⟨a2, s2, m2, f2⟩⟩ := g
  obtain ⟨K, hK⟩ : ∃ K, keyB veh = K := ⟨_, rfl⟩
  obtain ⟨R1, hR1⟩ : ∃ R1, readingE ⟨a1, s1, m1, f1⟩ = R1 := ⟨_, rfl⟩
  obtain ⟨R2, hR2⟩ : ∃ R2, readingE ⟨a2, s2, m2, f2⟩ = R2 := ⟨_, rfl⟩
  have HR0 := Lib.hid (show R = firstE [whenE (!K) 5, R1, legPrevE fr (prevOf l i) ⟨veh, ⟨a1, s1, m1, f1⟩, ⟨a2, s2, m2, f2⟩⟩, legInE (decide (i + 1 = n)) ⟨veh, ⟨a1, s1, m1, f1⟩, ⟨a2, s2, m2, f2⟩⟩] by rw [hR, ← hK, ← hR1]; rfl)
  have HIn := Lib.hid (show a2 ≠ -1 → legInE (decide (i + 1 = n)) ⟨veh, ⟨a1, s1, m1, f1⟩, ⟨a2, s2, m2, f2⟩⟩ = firstE [R2, whenE (decide (a2 ≤ a1)) 7] from fun h => by rw [← hR2]; simp only [legInE, if_neg h])
  have CK := Lib.hid (fun w => (by rw [← hK]; exact key_any _ _ (by have := hgo.1; simp at this; omega) : Calls Tryd.prog 90 #[.string veh] w fun e w' => e = .returned (.bool K) ∧ w.grownBy w' none))
  have C1 := Lib.hid (fun w => (by rw [← hR1]; exact readingFault_any ⟨a1, s1, m1, f1⟩ _ hgo.2.1 : Calls Tryd.prog 185 #[.agg #[.int .i64 a1, .string s1, .int .i64 m1, .int .i64 f1]] w (GotE w R1)))
  have C2 := Lib.hid (fun w => (by rw [← hR2]; exact readingFault_any ⟨a2, s2, m2, f2⟩ _ hgo.2.2 : Calls Tryd.prog 185 #[.agg #[.int .i64 a2, .string s2, .int .i64 m2, .int .i64 f2]] w (GotE w R2)))
  have hr : w.rangeAt b (off + i * 9) [.string veh, .int .i64 a1, .string s1, .int .i64 m1, .int .i64 f1, .int .i64 a2, .string s2, .int .i64 m2, .int .i64 f2] := hr0
  have Hrg := Lib.hid hrg
  have hr' := fun (o : Obj) => (show (w.alloc o).rangeAt b (off + i * 9) [.string veh, .int .i64 a1, .string s1, .int .i64 m1, .int .i64 f1, .int .i64 a2, .string s2, .int .i64 m2, .int .i64 f2] from fun j v hv => (World.cell?_alloc_lt w o _ hbl).trans (hr j v hv))
  clear hrg hr0 hr hgo hR hK hR1 hR2
  go_enter Tryd.func168, Tryd.ntmps168
  go_wp2_with (with_reducible refine wpList_load_rng rfl 100 (.tmp 12) rfl b (off + i * 9) rfl _ _ (hr' _) Tryd.underlying100 rfl 9 info_lg rfl ?_)
  refine (CK.out _).mono ?_
  rintro e w1 ⟨rfl, hg1⟩
  have hb0 : Blk w1 w.heap.size 95 [.string key, .string driver, .int .i64 fr, .int .i64 to_, .slice (some ⟨b, off, none⟩) n c] := ((Blk.at_ w rfl _ _).alloc _).grown hg1 (by simp)
  have hb1 : Blk w1 (w.heap.size + 1) 100 [.string veh, .int .i64 a1, .string s1, .int .i64 m1, .int .i64 f1, .int .i64 a2, .string s2, .int .i64 m2, .int .i64 f2] := (Blk.at_ (w.alloc _) (by simp) _ _).grown hg1 (by simp)
  have hgw : w.grownBy w1 none := grow_trans (grow_alloc (grow_alloc (World.grownBy.refl _ _) _) _) hg1
  clear hg1 hr'
  cases K
  · go_wp2_with fail
    go_ret
    exact ⟨ret_int (by rw [HR0.out]; rfl), hgw⟩
  have g1 := hb1.cell_of (i := 1) (v := .int .i64 a1) rfl
  have g2 := hb1.cell_of (i := 2) (v := .string s1) rfl
  have g3 := hb1.cell_of (i := 3) (v := .int .i64 m1) rfl
  have g4 := hb1.cell_of (i := 4) (v := .int .i64 f1) rfl
  go_wp2_with fail
  refine (C1.out _).mono ?_
  rintro e w2 ⟨rfl, hg2⟩
  have hb0 := hb0.grown hg2 (by simp)
  have hb1 := hb1.grown hg2 (by simp)
  have hgw := grow_trans hgw hg2
  clear hg2 g1 g2 g3 g4
  by_cases hE0 : R1 = 0
  · subst hE0
    have HP := Lib.hid (show R = firstE [legPrevE fr (prevOf l i) ⟨veh, ⟨a1, s1, m1, f1⟩, ⟨a2, s2, m2, f2⟩⟩, legInE (decide (i + 1 = n)) ⟨veh, ⟨a1, s1, m1, f1⟩, ⟨a2, s2, m2, f2⟩⟩] by rw [HR0.out]; rfl)
    have h2 := hb0.cell_of (i := 2) (v := .int .i64 fr) rfl
    have h3 := hb0.cell_of (i := 3) (v := .int .i64 to_) rfl
    have h4 := hb0.cell_of (i := 4) (v := .slice (some ⟨b, off, none⟩) n c) rfl
    have g0 := hb1.cell_of (i := 0) (v := .string veh) rfl
    have g1 := hb1.cell_of (i := 1) (v := .int .i64 a1) rfl
    have g2 := hb1.cell_of (i := 2) (v := .string s1) rfl
    have g3 := hb1.cell_of (i := 3) (v := .int .i64 m1) rfl
    have g4 := hb1.cell_of (i := 4) (v := .int .i64 f1) rfl
    have g5 := hb1.cell_of (i := 5) (v := .int .i64 a2) rfl
    have g6 := hb1.cell_of (i := 6) (v := .string s2) rfl
    have g7 := hb1.cell_of (i := 7) (v := .int .i64 m2) rfl
    have g8 := hb1.cell_of (i := 8) (v := .int .i64 f2) rfl
    have hz2 := hb1.lt
    go_upto_if 25 with fail
    go_cut [] (fun wx => legPrevE fr (prevOf l i) ⟨veh, ⟨a1, s1, m1, f1⟩, ⟨a2, s2, m2, f2⟩⟩ = 0 ∧ w2.grownBy wx none)
    case first =>
      by_cases hi0 : i = 0
      · subst hi0
        have hq : (((0 : Nat) : Int) == 0) = true := rfl
        have hV : legPrevE fr (prevOf l 0) ⟨veh, ⟨a1, s1, m1, f1⟩, ⟨a2, s2, m2, f2⟩⟩ = if a1 = fr then 0 else 7 := rfl
        have HV := Lib.hid hV
        by_cases hf : a1 = fr
        · have hne : (a1 != fr) = false := by simpa using hf
          have HW := Lib.hid (show legPrevE fr (prevOf l 0) ⟨veh, ⟨a1, s1, m1, f1⟩, ⟨a2, s2, m2, f2⟩⟩ = 0 by rw [HV.out, if_pos hf])
          clear hV hf
          go_wp2_with fail
          go_meet
          exact ⟨HW.out, World.grownBy.refl _ _⟩
        · have hne : (a1 != fr) = true := by simpa using hf
          have HW := Lib.hid (show legPrevE fr (prevOf l 0) ⟨veh, ⟨a1, s1, m1, f1⟩, ⟨a2, s2, m2, f2⟩⟩ = 7 by rw [HV.out, if_neg hf])
          clear hV hf
          go_wp2_with fail
          go_ret
          exact ⟨ret_int (by rw [HP.out, HW.out]; rfl), hgw⟩
      · have hq : ((i : Int) == 0) = false := by simpa using hi0
        obtain ⟨⟨qveh, ⟨qa1, qs1, qm1, qf1⟩, ⟨qa2, qs2, qm2, qf2⟩⟩, hq1⟩ : ∃ q, l[i - 1]? = some q := ⟨_, List.getElem?_eq_getElem (by have := (List.getElem?_eq_some_iff.1 hi).1; omega)⟩
        have hpo : prevOf l i = some ⟨qveh, ⟨qa1, qs1, qm1, qf1⟩, ⟨qa2, qs2, qm2, qf2⟩⟩ := by simp [prevOf, hi0, hq1]
        have hrq0 := Hrg.out (i - 1) _ hq1
        have hrq : w.rangeAt b (off + (i - 1) * 9) [.string qveh, .int .i64 qa1, .string qs1, .int .i64 qm1, .int .i64 qf1, .int .i64 qa2, .string qs2, .int .i64 qm2, .int .i64 qf2] := hrq0
        have hki : (i : Int) - 1 = ((i - 1 : Nat) : Int) := by omega
        have hk1n : (i : Int) - 1 < (n : Int) := by omega
        have hr2 := rangeAt_grow hrq hbl hgw
        have hV : legPrevE fr (prevOf l i) ⟨veh, ⟨a1, s1, m1, f1⟩, ⟨a2, s2, m2, f2⟩⟩ = if a1 = qa2 then (if eqS veh qveh then 16 else if eqS s1 qs2 then 0 else 8) else 7 := by rw [hpo]; rfl
        have HV := Lib.hid hV
        clear hV hpo hrq hrq0 hq1 hi0
        go_wp2_with (with_reducible refine wpList_load_rng rfl 100 (.tmp 37) rfl b (off + (i - 1) * 9) rfl _ _ hr2 Tryd.underlying100 rfl 9 info_lg rfl ?_)
        · go_ret
          rename_i h1
          have h1' : ¬ a1 = qa2 := by simpa using h1
          exact ⟨ret_int (by rw [HP.out, HV.out, if_neg h1']; rfl), grow_alloc hgw _⟩
        · go_ret
          rename_i h1 h2
          have h1' : a1 = qa2 := by simpa using h1
          have h2' : eqS veh qveh = true := h2
          exact ⟨ret_int (by rw [HP.out, HV.out, if_pos h1', if_pos h2']; rfl), grow_alloc hgw _⟩
        · go_ret
          rename_i h1 h2 h3
          have h1' : a1 = qa2 := by simpa using h1
          have h2' : ¬ eqS veh qveh = true := by simpa [eqS] using h2
          have h3' : ¬ eqS s1 qs2 = true := by simpa [eqS] using h3
          exact ⟨ret_int (by rw [HP.out, HV.out, if_pos h1', if_neg h2', if_neg h3']; rfl), grow_alloc hgw _⟩
        · go_meet
          rename_i h1 h2 h3
          have h1' : a1 = qa2 := by simpa using h1
          have h2' : ¬ eqS veh qveh = true := by simpa [eqS] using h2
          have h3' : eqS s1 qs2 = true := by simpa [eqS] using h3
          exact ⟨by rw [HV.out, if_pos h1', if_neg h2', if_pos h3'], grow_alloc (World.grownBy.refl _ _) _⟩
    case rest =>
      obtain ⟨hp0, hg3⟩ := hcut
      obtain ⟨w3, hw3⟩ : ∃ w3 : World, w3 = wc := ⟨_, rfl⟩
      rw [← hw3] at hg3 ⊢
      clear hw3
      have hb0 := hb0.grown hg3 (by simp)
      have hb1 := hb1.grown hg3 (by simp)
      have hgw := grow_trans hgw hg3
      have HR := Lib.hid (show R = firstE [0, legInE (decide (i + 1 = n)) ⟨veh, ⟨a1, s1, m1, f1⟩, ⟨a2, s2, m2, f2⟩⟩] by rw [HP.out, hp0])
      have k4 := hb0.cell_of (i := 4) (v := .slice (some ⟨b, off, none⟩) n c) rfl
      have k1 := hb1.cell_of (i := 1) (v := .int .i64 a1) rfl
      have k5 := hb1.cell_of (i := 5) (v := .int .i64 a2) rfl
      have k6 := hb1.cell_of (i := 6) (v := .string s2) rfl
      have k7 := hb1.cell_of (i := 7) (v := .int .i64 m2) rfl
      have k8 := hb1.cell_of (i := 8) (v := .int .i64 f2) rfl
      clear hp0 HP h2 h3 h4 g0 g1 g2 g3 g4 g5 g6 g7 g8
      by_cases ha : a2 = -1
      · subst ha
        have hq := fun w => rd_neq (-1) s2 m2 f2 w
        obtain ⟨Z, hZ⟩ : ∃ Z, Z = rdOut ⟨-1, s2, m2, f2⟩ := ⟨_, rfl⟩
        rw [← hZ] at hq
        have HZ := Lib.hid hZ
        have hlt : decide ((i : Int) < (n : Int) - 1) = !decide (i + 1 = n) := by
          by_cases hl : i + 1 = n <;> simp [hl] <;> omega
        obtain ⟨L, hL⟩ : ∃ L, L = decide (i + 1 = n) := ⟨_, rfl⟩
        rw [← hL] at hlt HR
        clear hZ hL
        cases Z
        · cases L
          all_goals
            go_wp2_with fail
            go_ret
            exact ⟨ret_int (by rw [HR.out]; simp [legInE, firstE_zero, ← HZ.out, whenE]), hgw⟩
        · go_wp2_with fail
          go_ret
          exact ⟨ret_int (by rw [HR.out]; simp [legInE, ← HZ.out, whenE, firstE]), hgw⟩
      · have hne : (a2 == -1) = false := by simpa using ha
        have hfin := HIn.out ha
        rw [hfin, firstE_zero] at HR
        clear hfin ha
        go_wp2_with fail
        refine (C2.out _).mono ?_
        rintro e w4 ⟨rfl, hg4⟩
        have hb4 := hb1.grown hg4 (by simp)
        have q1 := hb4.cell_of (i := 1) (v := .int .i64 a1) rfl
        have q5 := hb4.cell_of (i := 5) (v := .int .i64 a2) rfl
        by_cases h2 : R2 = 0
        · subst h2
          by_cases hle : a2 ≤ a1
          · have HF := Lib.hid (show R = 7 by rw [HR.out, decide_eq_true hle]; rfl)
            go_wp2_with fail
            go_ret
            exact ⟨ret_int HF.out.symm, grow_trans hgw hg4⟩
          · have HF := Lib.hid (show R = 0 by rw [HR.out, decide_eq_false hle]; rfl)
            go_wp2_with fail
            go_ret
            exact ⟨ret_int HF.out.symm, grow_trans hgw hg4⟩
        · have hne2 : (R2 != 0) = true := by simpa using h2
          have HF := Lib.hid (show R = R2 by rw [HR.out]; simp only [firstE]; rw [if_neg h2])
          clear h2
          go_wp2_with fail
          go_ret
          exact ⟨ret_int HF.out.symm, grow_trans hgw hg4⟩
  · have hne : (R1 != 0) = true := by simpa using hE0
    have HF := Lib.hid (show R = R1 by rw [HR0.out]; simp only [whenE, firstE]; simp [hE0])
    clear hE0
    go_wp2_with fail
    go_ret
    exact ⟨ret_int HF.out.symm, hgw⟩

end Go.Proofs.YtmpomocahgcebaaDoor
/- The walk of the reference's HireFault. -/
namespace Go.Proofs.YtmpomocahgcebaaDoor
open Go.RowKit

theorem firstE5 (T : Int) : firstE [5, T] = 5 := rfl

set_option maxRecDepth 100000 in
set_option maxHeartbeats 2000000 in
theorem hireFault_any (key driver : ByteArray) (fr to_ : Int) (l : List Lg) (A : Option Addr) (n c : Nat) (w : World) (hl : SlT lgEnc 9 100 w A n l) (hok : HrOk key driver l) (hn : n ≤ 1000000) :
    Calls Tryd.prog 122 #[.agg #[.string key, .string driver, .int .i64 fr, .int .i64 to_, .slice A n c]] w (GotE w (hireE ⟨key, driver, fr, to_, l⟩)) := by
  obtain ⟨K, hK⟩ : ∃ K, keyB key = K := ⟨_, rfl⟩
  obtain ⟨D, hD⟩ : ∃ D, keyB driver = D := ⟨_, rfl⟩
  obtain ⟨T, hT⟩ : ∃ T, timeE fr to_ = T := ⟨_, rfl⟩
  have HS1 := Lib.hid (fun (h : firstE [whenE (!K || !D) 5, T] ≠ 0) => hireE_stop (l := l) (key := key) (driver := driver) (fr := fr) (to_ := to_) (e := firstE [whenE (!K || !D) 5, T]) (by rw [hK, hD, hT]) h)
  have HP1 := Lib.hid (fun (h : firstE [whenE (!K || !D) 5, T] = 0) => hireE_pass (l := l) (key := key) (driver := driver) (fr := fr) (to_ := to_) (by rw [hK, hD, hT]; exact h.symm))
  have Hl := Lib.hid hl.len
  have CK := Lib.hid (fun w => (by rw [← hK]; exact key_any _ _ (by have := hok.1; omega) : Calls Tryd.prog 90 #[.string key] w fun e w' => e = .returned (.bool K) ∧ w.grownBy w' none))
  have CD := Lib.hid (fun w => (by rw [← hD]; exact key_any _ _ (by have := hok.2.1; omega) : Calls Tryd.prog 90 #[.string driver] w fun e w' => e = .returned (.bool D) ∧ w.grownBy w' none))
  have CT := Lib.hid (fun w => (by rw [← hT]; exact timeFault_any _ _ _ : Calls Tryd.prog 35 #[.agg #[.int .i64 fr, .int .i64 to_]] w (GotE w T)))
  have Hok := Lib.hid hok.2.2
  obtain ⟨R, hR⟩ : ∃ R, R = hireE ⟨key, driver, fr, to_, l⟩ := ⟨_, rfl⟩
  rw [← hR] at HS1 HP1 ⊢
  clear hK hD hT hR hok
  go_enter Tryd.func122, Tryd.ntmps122
  go_wp2_with fail
  refine (CK.out _).mono ?_
  rintro e w0 ⟨rfl, hg0⟩
  have hb : Blk w0 w.heap.size 95 [.string key, .string driver, .int .i64 fr, .int .i64 to_, .slice A n c] := (Blk.at_ w rfl _ _).grown hg0 (by simp)
  have hgw : w.grownBy w0 none := grow_trans (grow_alloc (World.grownBy.refl _ _) _) hg0
  clear hg0
  cases K
  · have HF := Lib.hid (HS1.out (by show firstE [5, T] ≠ 0; rw [firstE5]; decide))
    go_wp2_with fail
    go_ret
    exact ⟨ret_int (by rw [HF.out]; rfl), hgw⟩
  have k1 := hb.cell_of (i := 1) (v := .string driver) rfl
  go_wp2_with fail
  refine (CD.out _).mono ?_
  rintro e w00 ⟨rfl, hg0⟩
  have hb := hb.grown hg0 (by simp)
  have hgw := grow_trans hgw hg0
  clear hg0 k1
  cases D
  · have HF := Lib.hid (HS1.out (by show firstE [5, T] ≠ 0; rw [firstE5]; decide))
    go_wp2_with fail
    go_ret
    exact ⟨ret_int (by rw [HF.out]; rfl), hgw⟩
  have k2 := hb.cell_of (i := 2) (v := .int .i64 fr) rfl
  have k3 := hb.cell_of (i := 3) (v := .int .i64 to_) rfl
  go_wp2_with fail
  refine (CT.out _).mono ?_
  rintro e w1 ⟨rfl, hg0⟩
  have hb := hb.grown hg0 (by simp)
  have hgw := grow_trans hgw hg0
  clear hg0 k2 k3
  by_cases h0 : T = 0
  · subst h0
    have HP := Lib.hid (HP1.out rfl)
    have k4 := hb.cell_of (i := 4) (v := .slice A n c) rfl
    by_cases hn0 : n = 0
    · have hq : ((n : Int) == 0) = true := by simpa using hn0
      have HF := Lib.hid (show R = 3 by rw [HP.out, if_pos (by rw [Hl.out]; exact hn0)])
      clear hn0
      go_wp2_with fail
      go_ret
      exact ⟨ret_int HF.out.symm, hgw⟩
    · have hq : ((n : Int) == 0) = false := by simpa using hn0
      by_cases h20 : 20 < n
      · have hq2 : decide ((20 : Int) < (n : Int)) = true := by simp; omega
        have hq3 : decide (20 < n) = true := by simpa using h20
        have HF := Lib.hid (show R = 2 by rw [HP.out, if_neg (by rw [Hl.out]; exact hn0), if_pos (by rw [Hl.out]; exact h20)])
        clear hn0
        go_wp2_with fail
        go_ret
        exact ⟨ret_int HF.out.symm, hgw⟩
      · have hq2 : decide ((20 : Int) < (n : Int)) = false := by simp; omega
        have hq3 : decide (20 < n) = false := by simpa using h20
        have HF := Lib.hid (show R = legsE fr l (l.length - 0) by rw [HP.out, if_neg (by rw [Hl.out]; exact hn0), if_neg (by rw [Hl.out]; exact h20)]; rfl)
        clear hn0 HP
        have hn20 : n ≤ 20 := by omega
        go_wp2_with fail
        go_loopw [35] (fun i wr => ∃ k : Nat, k ≤ n ∧ i = .int .i64 k ∧ R = legsE fr l (l.length - k) ∧ w1.grownBy wr none) (fun i _ => n - (intOf i).toNat)
        case atStart => exact ⟨0, Nat.zero_le _, rfl, HF.out, World.grownBy.refl _ _⟩
        case round =>
          obtain ⟨k, hk, rfl, hE, hgr⟩ := hrel
          have HE := Lib.hid hE; clear hE
          by_cases hlt : k < n
          · have hlr := hl.grow0 (grow_trans hgw hgr)
            obtain ⟨g, hg⟩ : ∃ g, l[k]? = some g := ⟨_, List.getElem?_eq_getElem (by have := Hl.out; omega)⟩
            have hat := legs_at (fr := fr) hg
            obtain ⟨E, hEE⟩ : ∃ E, E = legE fr (prevOf l k) (decide (k + 1 = n)) g := ⟨_, rfl⟩
            rw [Hl.out, ← hEE] at hat
            rw [Hl.out] at HE
            have Hat := Lib.hid hat; clear hat
            have HEE := Lib.hid hEE; clear hEE
            have hbr := hb.grown hgr (by simp)
            have c0 := hbr.cell_of (i := 0) (v := .string key) rfl
            have c1 := hbr.cell_of (i := 1) (v := .string driver) rfl
            have c2 := hbr.cell_of (i := 2) (v := .int .i64 fr) rfl
            have c3 := hbr.cell_of (i := 3) (v := .int .i64 to_) rfl
            have c4 := hbr.cell_of (i := 4) (v := .slice A n c) rfl
            have Hg := Lib.hid hg
            clear hg
            go_wp2_with fail
            refine (legFault_any key driver fr to_ l A n c k g wr hlr Hg.out Hok.out hn).mono ?_
            rintro e w2 ⟨rfl, hg2⟩
            rw [← HEE.out]
            by_cases hE0 : E = 0
            · have HN := Lib.hid (show R = legsE fr l (n - (k + 1)) by rw [HE.out, Hat.out, if_pos hE0])
              subst hE0
              go_wp2_with fail
              go_roundw
              case rel => exact ⟨k + 1, by omega, by go_num, by rw [HN.out, Hl.out], grow_trans hgr hg2⟩
              case measure => simp [intOf]; omega
            · have hne : (E != 0) = true := by simpa using hE0
              have HN := Lib.hid (show R = E by rw [HE.out, Hat.out, if_neg hE0])
              clear hE0
              go_wp2_with fail
              go_ret
              exact ⟨ret_int HN.out.symm, grow_trans hgw (grow_trans hgr hg2)⟩
          · have HN := Lib.hid (show R = 0 by rw [HE.out, Hl.out, show n - k = 0 by omega]; rfl)
            go_wp2_with fail
            go_ret
            exact ⟨ret_int HN.out.symm, grow_trans hgw hgr⟩
  · have hne : (T != 0) = true := by simpa using h0
    have HF := Lib.hid (HS1.out (by rw [show whenE (!true || !true) 5 = 0 from rfl, firstE_zero]; exact h0))
    have HF2 := Lib.hid (show R = T by rw [HF.out, show whenE (!true || !true) 5 = 0 from rfl, firstE_zero])
    clear h0
    go_wp2_with fail
    go_ret
    exact ⟨ret_int HF2.out.symm, hgw⟩

end Go.Proofs.YtmpomocahgcebaaDoor
/- The walks of the reference's made, StartOf. -/
namespace Go.Proofs.YtmpomocahgcebaaDoor
open Go.RowKit

set_option maxRecDepth 100000 in
set_option maxHeartbeats 1000000 in
theorem rmade_any (key driver : ByteArray) (fr to_ : Int) (l : List Lg) (A : Option Addr) (n c : Nat) (w : World) (hl : SlT lgEnc 9 100 w A n l) (hok : HrOk key driver l) (hn : n ≤ 1000000) :
    Calls Tryd.prog 181 #[.agg #[.string key, .string driver, .int .i64 fr, .int .i64 to_, .slice A n c]] w (GotVE w (madeV key driver fr to_ A n c (hireE ⟨key, driver, fr, to_, l⟩)) (hireE ⟨key, driver, fr, to_, l⟩)) := by
  obtain ⟨E, hE⟩ : ∃ E, E = hireE ⟨key, driver, fr, to_, l⟩ := ⟨_, rfl⟩
  rw [← hE]
  have HE := Lib.hid hE
  clear hE
  go_enter Tryd.func181, Tryd.ntmps181
  go_wp2_with fail
  refine (hireFault_any key driver fr to_ l A n c _ ((hl.alloc _).alloc _) hok hn).mono ?_
  rintro e w1 ⟨rfl, hg1⟩
  rw [← HE.out]
  have hb1 : Blk w1 (w.heap.size + 1) 95 [.string ⟨#[]⟩, .string ⟨#[]⟩, .int .i64 0, .int .i64 0, .slice none 0 0] := (Blk.at_ (w.alloc _) (by simp) _ _).grown hg1 (by simp)
  have hb0 : Blk w1 w.heap.size 95 [.string key, .string driver, .int .i64 fr, .int .i64 to_, .slice A n c] := ((Blk.at_ w rfl _ _).alloc _).grown hg1 (by simp)
  have hgw : w.grownBy w1 none := grow_trans (grow_alloc (grow_alloc (World.grownBy.refl _ _) _) _) hg1
  have hz : ∀ k, some (w.heap.size + 1) = some k → w.heap.size ≤ k := fun k h => by cases h; omega
  clear hg1
  by_cases h0 : E = 0
  · have HV := Lib.hid (show madeV key driver fr to_ A n c E = .agg #[.string key, .string driver, .int .i64 fr, .int .i64 to_, .slice A n c] by rw [h0]; rfl)
    subst h0
    go_wp2_with (first
      | (with_reducible refine wpList_load_all rfl 95 (.tmp 1) rfl w.heap.size _ _ _ hb0 rfl Tryd.underlying95 rfl 5 info_hr rfl ?_)
      | (with_reducible refine wpList_store_all rfl 95 (.tmp 2) (.tmp 11) rfl (w.heap.size + 1) _ _ [.string key, .string driver, .int .i64 fr, .int .i64 to_, .slice A n c] hb1 rfl rfl 5 info_hr rfl rfl (by simp [Value.oneCell']) ?_
         intro w2 hb2 hg2))
    refine ret_blk_tmp (p := 2) (u := 3) (ty := 95) rfl (w.heap.size + 1) _ _ _ hb2 rfl (.int .i64 0) rfl Tryd.underlying95 rfl 5 info_hr rfl rfl ?_
    exact ⟨by rw [HV.out], grow_own hgw hg2 hz⟩
  · have hne : (E != 0) = true := by simpa using h0
    have HV := Lib.hid (show madeV key driver fr to_ A n c E = .agg #[.string ⟨#[]⟩, .string ⟨#[]⟩, .int .i64 0, .int .i64 0, .slice none 0 0] by unfold madeV; rw [if_neg h0])
    clear h0
    go_wp2_with (first
      | (with_reducible refine wpList_store_all rfl 95 (.tmp 2) (.tmp 9) rfl (w.heap.size + 1) _ _ [.string ⟨#[]⟩, .string ⟨#[]⟩, .int .i64 0, .int .i64 0, .slice none 0 0] hb1 rfl rfl 5 info_hr rfl rfl (by simp [Value.oneCell']) ?_
         intro w2 hb2 hg2))
    refine ret_blk_tmp (p := 2) (u := 3) (ty := 95) rfl (w.heap.size + 1) _ _ _ hb2 rfl (.int .i64 E) rfl Tryd.underlying95 rfl 5 info_hr rfl rfl ?_
    exact ⟨by rw [HV.out], grow_own hgw hg2 hz⟩


set_option maxRecDepth 100000 in
set_option maxHeartbeats 1000000 in
theorem startOf_any (key driver : ByteArray) (fr to_ : Int) (veh : ByteArray) (r : Rd) (w : World) (hk : key.size ≤ 1000000) (hd : driver.size ≤ 1000000) (hv : veh.size ≤ 1000000) (hr : RdOk r) :
    Calls Tryd.prog 163 #[.string key, .string driver, .agg #[.int .i64 fr, .int .i64 to_], .string veh, .agg (rdCells r).toArray] w (fun e w' => ∃ A,
      e = .returned (.tuple #[madeV key driver fr to_ A 1 1 (hireE ⟨key, driver, fr, to_, [startLeg veh r]⟩), .int .i64 (hireE ⟨key, driver, fr, to_, [startLeg veh r]⟩)]) ∧ SlT lgEnc 9 100 w' A 1 [startLeg veh r] ∧ w.grownBy w' none) := by
  obtain ⟨a1, s1, m1, f1⟩ := r
  have hok : HrOk key driver [startLeg veh ⟨a1, s1, m1, f1⟩] := ⟨hk, hd, fun g hg => by
    simp only [List.mem_singleton] at hg
    subst hg
    exact ⟨hv, hr, (by decide : (⟨#[]⟩ : ByteArray).size ≤ 1000000)⟩⟩
  show Calls Tryd.prog 163 #[.string key, .string driver, .agg #[.int .i64 fr, .int .i64 to_], .string veh, .agg #[.int .i64 a1, .string s1, .int .i64 m1, .int .i64 f1]] w _
  have Hok := Lib.hid hok
  clear hok
  obtain ⟨E, hE⟩ : ∃ E, E = hireE ⟨key, driver, fr, to_, [startLeg veh ⟨a1, s1, m1, f1⟩]⟩ := ⟨_, rfl⟩
  rw [← hE]
  have HE := Lib.hid hE
  clear hE
  go_enter Tryd.func163, Tryd.ntmps163
  go_wp2_with fail
  refine (rmade_any key driver fr to_ [startLeg veh ⟨a1, s1, m1, f1⟩] (some ⟨w.heap.size + 3, 0, none⟩) 1 1 _ (SlT.ofBlk (l := [startLeg veh ⟨a1, s1, m1, f1⟩]) lg_len (Blk.at_ _ (by simp) _ _)) Hok.out (by omega)).mono ?_
  rintro e w1 ⟨rfl, hg1⟩
  rw [← HE.out]
  clear HE Hok
  have hb1 : Blk w1 (w.heap.size + 2) 95 [.string ⟨#[]⟩, .string ⟨#[]⟩, .int .i64 0, .int .i64 0, .slice none 0 0] := ((Blk.at_ ((w.alloc _).alloc _) (by simp) _ _).alloc _).grown hg1 (by simp)
  have hl1 : SlT lgEnc 9 100 w1 (some ⟨w.heap.size + 3, 0, none⟩) 1 [startLeg veh ⟨a1, s1, m1, f1⟩] := (SlT.ofBlk (l := [startLeg veh ⟨a1, s1, m1, f1⟩]) lg_len (Blk.at_ (((w.alloc _).alloc _).alloc _) (by simp) _ _)).grow0 hg1
  have hgw : w.grownBy w1 none := grow_trans (grow_alloc (grow_alloc (grow_alloc (grow_alloc (World.grownBy.refl _ _) _) _) _) _) hg1
  have hz : ∀ k, some (w.heap.size + 2) = some k → w.heap.size ≤ k := fun k h => by cases h; omega
  clear hg1
  by_cases h0 : E = 0
  · have hV : madeV key driver fr to_ (some ⟨w.heap.size + 3, 0, none⟩) 1 1 E = .agg #[.string key, .string driver, .int .i64 fr, .int .i64 to_, .slice (some ⟨w.heap.size + 3, 0, none⟩) 1 1] := by rw [h0]; rfl
    rw [hV]
    have HV := Lib.hid hV
    clear h0 hV
    go_wp2_with (first
      | (with_reducible refine wpList_store_all rfl 95 (.tmp 10) (.tmp 22) rfl (w.heap.size + 2) _ _ [.string key, .string driver, .int .i64 fr, .int .i64 to_, .slice (some ⟨w.heap.size + 3, 0, none⟩) 1 1] hb1 rfl rfl 5 info_hr rfl rfl (by simp [Value.oneCell']) ?_
         intro w2 hb2 hg2))
    refine ret_blk_tmp (p := 10) (u := 11) (ty := 95) rfl (w.heap.size + 2) _ _ _ hb2 rfl (.int .i64 E) rfl Tryd.underlying95 rfl 5 info_hr rfl rfl ?_
    exact ⟨some ⟨w.heap.size + 3, 0, none⟩, by rw [HV.out], hl1.grown hg2 hb1 (by decide), grow_own hgw hg2 hz⟩
  · have hV : madeV key driver fr to_ (some ⟨w.heap.size + 3, 0, none⟩) 1 1 E = .agg #[.string ⟨#[]⟩, .string ⟨#[]⟩, .int .i64 0, .int .i64 0, .slice none 0 0] := by unfold madeV; rw [if_neg h0]
    rw [hV]
    have HV := Lib.hid hV
    clear h0 hV
    go_wp2_with (first
      | (with_reducible refine wpList_store_all rfl 95 (.tmp 10) (.tmp 22) rfl (w.heap.size + 2) _ _ [.string ⟨#[]⟩, .string ⟨#[]⟩, .int .i64 0, .int .i64 0, .slice none 0 0] hb1 rfl rfl 5 info_hr rfl rfl (by simp [Value.oneCell']) ?_
         intro w2 hb2 hg2))
    refine ret_blk_tmp (p := 10) (u := 11) (ty := 95) rfl (w.heap.size + 2) _ _ _ hb2 rfl (.int .i64 E) rfl Tryd.underlying95 rfl 5 info_hr rfl rfl ?_
    exact ⟨some ⟨w.heap.size + 3, 0, none⟩, by rw [HV.out], hl1.grown hg2 hb1 (by decide), grow_own hgw hg2 hz⟩

end Go.Proofs.YtmpomocahgcebaaDoor
/- The walks of the reference's IsOpen, and of what CloseOf, ExtendOf hand to changed. -/
namespace Go.Proofs.YtmpomocahgcebaaDoor
open Go.RowKit

set_option maxRecDepth 100000 in
set_option maxHeartbeats 1000000 in
theorem isOpen_any (key driver : ByteArray) (fr to_ : Int) (l : List Lg) (A : Option Addr) (n c : Nat) (w : World) (hl : SlT lgEnc 9 100 w A n l) (hn : n ≤ 1000000) :
    Calls Tryd.prog 194 #[.agg #[.string key, .string driver, .int .i64 fr, .int .i64 to_, .slice A n c]] w (fun e w' => e = .returned (.bool (openB l)) ∧ w.grownBy w' none) := by
  have hlen := hl.len
  by_cases hn0 : n = 0
  · have HO := Lib.hid (show openB l = false by
      have : l = [] := List.length_eq_zero_iff.1 (by omega)
      rw [this]; rfl)
    subst hn0
    clear hlen
    go_enter Tryd.func194, Tryd.ntmps194
    go_wp2_with fail
    go_ret
    exact ⟨ret_bool HO.out.symm, grow_alloc (World.grownBy.refl _ _) _⟩
  · have hp : 0 < n := by omega
    obtain ⟨g, hg⟩ : ∃ g, l[n - 1]? = some g := ⟨_, List.getElem?_eq_getElem (by omega)⟩
    obtain ⟨b, off, rfl, hbl, hrg⟩ := hl.get hp
    have HO := Lib.hid (show openB l = (g.inn.at_ == -1) by unfold openB; rw [hlen, hg])
    obtain ⟨veh, ⟨a1, s1, m1, f1⟩, ⟨a2, s2, m2, f2⟩⟩ := g
    have hr0 := hrg (n - 1) _ hg
    have hc : w.cell? ⟨b, off + (n - 1) * 9 + 5, none⟩ = some (.int .i64 a2) := hr0 5 _ rfl
    have hc2 := fun o => (World.cell?_of_block (a := ⟨b, off + (n - 1) * 9 + 5, none⟩) (Below.heap_alloc w o b hbl)).trans hc
    have hki : (n : Int) - 1 = ((n - 1 : Nat) : Int) := by omega
    have hk1 : (n : Int) - 1 < (n : Int) := by omega
    have hk0 : (0 : Int) ≤ (n : Int) - 1 := by omega
    have hpos : decide (0 < n) = true := by simpa using hp
    clear hr0 hrg hc hg hlen hl hn0
    go_enter Tryd.func194, Tryd.ntmps194
    go_wp2_with fail
    go_ret
    exact ⟨ret_bool HO.out.symm, grow_alloc (World.grownBy.refl _ _) _⟩

set_option maxRecDepth 100000 in
set_option maxHeartbeats 1000000 in
theorem closeFn_any (hb rb g : Nat) (key driver : ByteArray) (fr to_ : Int) (n c : Nat) (r : Rd) (cs : List Value) (w : World) (hH : Blk w hb 95 [.string key, .string driver, .int .i64 fr, .int .i64 to_, .slice (some ⟨g, 0, none⟩) n c]) (hR : Blk w rb 98 (rdCells r))
    (hG : Blk w g 100 cs) (hn0 : 0 < n) (hn : n ≤ 1000000) (hfit : n * 9 ≤ cs.length) :
    Calls Tryd.prog 184 #[.pointer (some ⟨hb, 0, none⟩), .pointer (some ⟨rb, 0, none⟩)] w (fun e w' => (∃ r, e = .returned r) ∧ Blk w' g 100 (splice cs ((n - 1) * 9 + 5) (rdCells r)) ∧ w.grownBy w' (some g)) := by
  have c4 := hH.cell_of (i := 4) (v := .slice (some ⟨g, 0, none⟩) n c) rfl
  obtain ⟨a1, s1, m1, f1⟩ := r
  have r0 := hR.cell_of (i := 0) (v := .int .i64 a1) rfl
  have r1 := hR.cell_of (i := 1) (v := .string s1) rfl
  have r2 := hR.cell_of (i := 2) (v := .int .i64 m1) rfl
  have r3 := hR.cell_of (i := 3) (v := .int .i64 f1) rfl
  have hki : (n : Int) - 1 = ((n - 1 : Nat) : Int) := by omega
  have hk1 : (n : Int) - 1 < (n : Int) := by omega
  have hk0 : (0 : Int) ≤ (n : Int) - 1 := by omega
  have hf : (n - 1) * 9 + 5 + 4 ≤ cs.length := by omega
  have w1 : IntKind.i64.wrap ((n - 1 : Nat) : Int) = ((n - 1 : Nat) : Int) := IntWalk.i64_in _ (by omega)
  have hix : ((n - 1 : Nat) : Int) < (n : Int) := by omega
  have hix2 : n - 1 < n := by omega
  go_enter Tryd.func184, Tryd.ntmps184
  go_wp2_with fail
  refine wp_region_still_tail 13 (by kernel_rfl) (by kernel_rfl) ?_
  change wpStill _ _ (World.drew _) _ _ _
  simp only [List.take_succ_cons, List.take_zero, List.drop_succ_cons, List.drop_zero]
  repeat still_step
  refine wpStill_nil ?_
  change wpList _ _ _ _ _ (World.drew _)
  go_wp2_with (with_reducible refine wpList_store_blk rfl 98 (.tmp 15) (.tmp 13) rfl g ((n - 1) * 9 + 5) _ cs [.int .i64 a1, .string s1, .int .i64 m1, .int .i64 f1] hG.drew rfl rfl 4 info_rd rfl hf (by simp [Value.oneCell']) ?_
               intro w3 hG3 hg3)
  go_end0
  exact ⟨⟨_, rfl⟩, hG3, grow_trans (grow_drew (World.grownBy.refl _ _)) hg3⟩

end Go.Proofs.YtmpomocahgcebaaDoor
/- An element of an owned row is stored anew; the walk of what ExchangeOf hands to changed. -/
namespace Go.Proofs.YtmpomocahgcebaaDoor
open Go.RowKit

theorem splice_app_right {α : Type} (a b : List α) (o : Nat) (vs : List α) : splice (a ++ b) (a.length + o) vs = a ++ splice b o vs := by
  simp [splice, List.take_append, List.drop_append, Nat.add_assoc, List.take_of_length_le, List.drop_of_length_le]
theorem splice_app_left {α : Type} (a b : List α) (o : Nat) (vs : List α) (h : o + vs.length ≤ a.length) : splice (a ++ b) o vs = splice a o vs ++ b := by
  have h1 : o - a.length = 0 := by omega
  have h2 : o + vs.length - a.length = 0 := by omega
  simp [splice, List.take_append, List.drop_append, h1, h2]
theorem flat_set {α : Type} (enc : α → List Value) (k : Nat) (hk : ∀ x, (enc x).length = k) {x y : α} {r : Nat} {vs : List Value} (hy : enc y = splice (enc x) r vs) (hr : r + vs.length ≤ k) :
    ∀ (l : List α) (i : Nat), l[i]? = some x → splice (l.flatMap enc) (i * k + r) vs = (l.set i y).flatMap enc
  | [], i, h => by simp at h
  | z :: t, 0, h => by
    simp at h; subst h
    rw [List.flatMap_cons, Nat.zero_mul, Nat.zero_add, splice_app_left _ _ _ _ (by rw [hk]; exact hr), ← hy, List.set_cons_zero, List.flatMap_cons]
  | z :: t, i + 1, h => by
    have ih := flat_set enc k hk hy hr t i (by simpa using h)
    rw [List.flatMap_cons, show (i + 1) * k + r = (enc z).length + (i * k + r) by rw [hk, Nat.add_mul]; omega, splice_app_right, ih, List.set_cons_succ, List.flatMap_cons]
theorem take_splice {α : Type} (cs : List α) (o m : Nat) (vs : List α) (h : o + vs.length ≤ m) (hm : m ≤ cs.length) : (splice cs o vs).take m = splice (cs.take m) o vs := by
  obtain ⟨a, b, rfl, hl⟩ : ∃ a b, cs = a ++ b ∧ a.length = m := ⟨cs.take m, cs.drop m, (List.take_append_drop m cs).symm, by simp; omega⟩
  have h2 : (splice a o vs).length = m := by rw [splice_length _ _ _ (by rw [hl]; exact h), hl]
  rw [splice_app_left _ _ _ _ (by rw [hl]; exact h), List.take_append_of_le_length (by omega), List.take_of_length_le (by omega), List.take_append_of_le_length (by omega), List.take_of_length_le (by omega)]

/-- One element's cells of an owned row are stored anew: it is owned still, with that element set. -/
theorem OwnT.spliced {α : Type} {enc : α → List Value} {k : Nat} {T : TypeId} {w w' : World} {base g n c : Nat} {l : List α} {cs : List Value} (h : OwnT enc k T w base g n c l) (hk : ∀ x, (enc x).length = k) (hcs : Blk w g T cs)
    {i0 r : Nat} {x y : α} {vs : List Value} (hx : l[i0]? = some x) (hy : enc y = splice (enc x) r vs) (hr : r + vs.length ≤ k) (hn : l.length = n) (hb : Blk w' g T (splice cs (i0 * k + r) vs)) : OwnT enc k T w' base g n c (l.set i0 y) := by
  obtain ⟨h0, h1, h2⟩ := h
  refine ⟨h0, by rw [flat_len enc k hk, List.length_set, hn], ?_⟩
  have hi0 : i0 < n := by have := (List.getElem?_eq_some_iff.1 hx).1; omega
  have hik : i0 * k + k ≤ n * k := by
    have := Nat.mul_le_mul_right k (show i0 + 1 ≤ n by omega)
    rw [Nat.add_mul] at this; omega
  rcases h2 with ⟨h2, _⟩ | ⟨g', cap, cur, hv, hbase, hh, hle2, hcap, hsz, htk⟩
  · cases h2
  · have hv' := hv
    injection hv with hA hn' hc'
    injection hA with hA
    injection hA with hg _ _
    subst hg
    unfold Blk at hcs
    rw [hcs] at hh
    injection hh with hh
    injection hh with hh _ _
    have hcur : cur.toList = cs := by rw [← hh]
    have hlen : n * k ≤ cs.length := by
      have := Nat.mul_le_mul_right k hle2
      rw [← hcur, Array.length_toList]; simp [hsz]; omega
    refine .inr ⟨g, cap, (splice cs (i0 * k + r) vs).toArray, hv', hbase, hb, hle2, hcap, ?_, ?_⟩
    · have : (splice cs (i0 * k + r) vs).length = cs.length := splice_length _ _ _ (by omega)
      rw [List.size_toArray, this, ← hcur, Array.length_toList]; exact hsz
    · show ((splice cs (i0 * k + r) vs).toArray).toList.take (n * k) = _
      rw [hcur] at htk
      rw [List.toList_toArray, take_splice _ _ _ _ (by omega) hlen, htk]
      exact flat_set enc k hk hy hr l i0 hx

end Go.Proofs.YtmpomocahgcebaaDoor
/- The walk of what ExchangeOf hands to changed. -/
namespace Go.Proofs.YtmpomocahgcebaaDoor
open Go.RowKit

/-- A leg is appended to an owned row of legs, in a region that draws its order. -/
theorem step_app_leg {ops : Array Oper} {o : Oper} {a : Act} {w : World} {K : Act → World → Prop} {Q : Exit → Act → World → Prop} {E : Prop} (hgd : o.guard = none) (s x : Operand)
    (ho : o.op = .call { callee := .builtin .append, args := #[s, x], argTypes := #[93, 93] }) (base g n c b : Nat) (l : List Lg) (y : Lg) (hs : a.eval s = .slice (some ⟨g, 0, none⟩) n c) (hown : w.ownsRow base 100 9 (.slice (some ⟨g, 0, none⟩) n c) n (l.flatMap lgEnc))
    (hx : a.eval x = .slice (some ⟨b, 0, none⟩) 1 1) (hnews : ∀ j u, (lgEnc y)[j]? = some u → w.cell? ((⟨b, 0, none⟩ : Addr).add j) = some u) (hn : n ≤ 1000000) (hbase : base ≤ w.heap.size)
    (h : ∀ g4 cap4 w4, w4.ownsRow base 100 9 (.slice (some ⟨g4, 0, none⟩) (n + 1) cap4) (n + 1) (l.flatMap lgEnc ++ lgEnc y) → w.grownBy w4 (some g) → (g4 = g ∨ g4 = w.heap.size) → g4 < w4.heap.size → K (a.put o.dst (.slice (some ⟨g4, 0, none⟩) (n + 1) cap4)) w4) :
    if Region.wanted o (yielded ops a.tmps) = true then Oper.wp Tryd.prog o a w K Q else E := by
  obtain ⟨i0, z0, hi, hz, hsz, hby, hzs⟩ := leg_info
  exact step_append_lies w hgd s x _ ho base 100 i0 z0 9 96 Tryd.underlying93 hi hz hsz hby hzs (by decide) _ n _ hs hown ⟨b, 0, none⟩ 1 1 (lgEnc y) hx (lg_len y) hnews (lg_one y) (by decide) (by unfold maxLen; omega) (by omega) hbase _ rfl
    (fun g4 cap4 w4 h1 h2 h3 h4 => h g4 cap4 w4 h1 h2 (by
      rcases h3 with h3 | h3
      · cases h3; exact .inl rfl
      · exact .inr h3) h4)

set_option maxRecDepth 100000 in
set_option maxHeartbeats 4000000 in
theorem exchangeFn_any (base hb ib vb ob g : Nat) (key driver veh : ByteArray) (fr to_ : Int) (n c : Nat) (r q : Rd) (l : List Lg) (x : Lg) (w : World) (hH : Blk w hb 95 [.string key, .string driver, .int .i64 fr, .int .i64 to_, .slice (some ⟨g, 0, none⟩) n c]) (hI : Blk w ib 98 (rdCells r))
    (hV : Blk w vb 9 [.string veh]) (hO : Blk w ob 98 (rdCells q)) (hG : OwnT lgEnc 9 100 w base g n c l) (hn0 : 0 < n) (hn : n ≤ 1000000) (hx : l[n - 1]? = some x) (hl : l.length = n) (hne : vb ≠ g ∧ ob ≠ g ∧ hb ≠ g) (hbase : hb < base) :
    Calls Tryd.prog 183 #[.pointer (some ⟨hb, 0, none⟩), .pointer (some ⟨ib, 0, none⟩), .pointer (some ⟨vb, 0, none⟩), .pointer (some ⟨ob, 0, none⟩)] w (fun e w' => (∃ r, e = .returned r) ∧
      ∃ g' c', Blk w' hb 95 [.string key, .string driver, .int .i64 fr, .int .i64 to_, .slice (some ⟨g', 0, none⟩) (n + 1) c'] ∧ OwnT lgEnc 9 100 w' base g' (n + 1) c' (l.set (n - 1) ⟨x.veh, x.out, r⟩ ++ [startLeg veh q]) ∧
        (∀ k, k < base → k ≠ hb → w'.heap[k]? = w.heap[k]?) ∧ w'.os = w.os ∧ w'.tape = w.tape ∧ w'.output = w.output ∧ w.heap.size ≤ w'.heap.size) := by
  obtain ⟨cs, hC, hfit, htk⟩ := hG.blk
  have hgl := hG.lt
  have hg0 : base ≤ g := hG.1
  have c4 := hH.cell_of (i := 4) (v := .slice (some ⟨g, 0, none⟩) n c) rfl
  have fz := hH.frozen 4
  obtain ⟨a1, s1, m1, f1⟩ := r
  obtain ⟨a2, s2, m2, f2⟩ := q
  have r0 := hI.cell_of (i := 0) (v := .int .i64 a1) rfl
  have r1 := hI.cell_of (i := 1) (v := .string s1) rfl
  have r2 := hI.cell_of (i := 2) (v := .int .i64 m1) rfl
  have r3 := hI.cell_of (i := 3) (v := .int .i64 f1) rfl
  have hki : (n : Int) - 1 = ((n - 1 : Nat) : Int) := by omega
  have hk1 : (n : Int) - 1 < (n : Int) := by omega
  have hk0 : (0 : Int) ≤ (n : Int) - 1 := by omega
  have hf : (n - 1) * 9 + 5 + 4 ≤ cs.length := by omega
  have w1 : IntKind.i64.wrap ((n - 1 : Nat) : Int) = ((n - 1 : Nat) : Int) := IntWalk.i64_in _ (by omega)
  have hix : ((n - 1 : Nat) : Int) < (n : Int) := by omega
  have hix2 : n - 1 < n := by omega
  obtain ⟨L, hL⟩ : ∃ L, L = l.set (n - 1) ⟨x.veh, x.out, ⟨a1, s1, m1, f1⟩⟩ := ⟨_, rfl⟩
  rw [← hL]
  have HL := Lib.hid hL
  clear hL
  go_enter Tryd.func183, Tryd.ntmps183
  go_wp2_with fail
  refine wp_region_still_tail 13 (by kernel_rfl) (by kernel_rfl) ?_
  change wpStill _ _ (World.drew _) _ _ _
  simp only [List.take_succ_cons, List.take_zero, List.drop_succ_cons, List.drop_zero]
  repeat still_step
  refine wpStill_nil ?_
  change wpList _ _ _ _ _ (World.drew _)
  go_wp2_with (with_reducible refine wpList_store_blk rfl 98 (.tmp 17) (.tmp 15) rfl g ((n - 1) * 9 + 5) _ cs [.int .i64 a1, .string s1, .int .i64 m1, .int .i64 f1] hC.drew rfl rfl 4 info_rd rfl hf (by simp [Value.oneCell']) ?_
               intro w3 hC3 hg3)
  have hg3' : w.grownBy w3 (some g) := grow_trans (grow_drew (World.grownBy.refl _ _)) hg3
  have hH3 := hH.grown hg3' (fun h => absurd (Option.some.inj h) hne.2.2)
  have hV3 := hV.grown hg3' (fun h => absurd (Option.some.inj h) hne.1)
  have hO3 := hO.grown hg3' (fun h => absurd (Option.some.inj h) hne.2.1)
  have hG3 : OwnT lgEnc 9 100 w3 base g n c (l.set (n - 1) ⟨x.veh, x.out, ⟨a1, s1, m1, f1⟩⟩) := hG.spliced lg_len hC hx (r := 5) (vs := [.int .i64 a1, .string s1, .int .i64 m1, .int .i64 f1]) rfl (by simp) hl hC3
  rw [← HL.out] at hG3
  have hlt3 := hG3.lt
  have HG3 := Lib.hid hG3
  have hgl3 : hb < w3.heap.size := hH3.lt
  have hvl3 := hV3.lt
  have hol3 := hO3.lt
  clear hH hI hV hO hG hC hC3 htk hg3 c4 fz r0 r1 r2 r3 hki hk1 hk0 hf w1 hix hix2 hx hl hG3
  have c4 := hH3.cell_of (i := 4) (v := .slice (some ⟨g, 0, none⟩) n c) rfl
  have fz := hH3.frozen 4
  have hnews : ∀ j u, (lgEnc (startLeg veh ⟨a2, s2, m2, f2⟩))[j]? = some u → (w3.alloc (.cells #[.string veh, .int .i64 a2, .string s2, .int .i64 m2, .int .i64 f2, .int .i64 (-1), .string ⟨#[]⟩, .int .i64 0, .int .i64 0] 100)).drew.cell? ((⟨w3.heap.size, 0, none⟩ : Addr).add j) = some u := fun j u hj => by
    have hb := Blk.at_ w3 rfl 100 (lgEnc (startLeg veh ⟨a2, s2, m2, f2⟩))
    have := hb.cell_of hj
    have ha : (⟨w3.heap.size, 0, none⟩ : Addr).add j = ⟨w3.heap.size, j, none⟩ := by
      unfold Addr.add
      split
      · rename_i h; subst h; rfl
      · simp
    rw [ha]; exact this
  have Hnews := Lib.hid hnews
  clear hnews
  go_wp2_with fail
  have p0 := hV3.cell_of (i := 0) (v := .string veh) rfl
  have o0 := hO3.cell_of (i := 0) (v := .int .i64 a2) rfl
  have o1 := hO3.cell_of (i := 1) (v := .string s2) rfl
  have o2 := hO3.cell_of (i := 2) (v := .int .i64 m2) rfl
  have o3 := hO3.cell_of (i := 3) (v := .int .i64 f2) rfl
  have hbs : base ≤ ((w3.alloc (.cells #[.string veh, .int .i64 a2, .string s2, .int .i64 m2, .int .i64 f2, .int .i64 (-1), .string ⟨#[]⟩, .int .i64 0, .int .i64 0] 100)).drew).heap.size := by
    show base ≤ (w3.alloc _).heap.size
    simp; omega
  have Hown3 := Lib.hid (show World.ownsRow ((w3.alloc (.cells #[.string veh, .int .i64 a2, .string s2, .int .i64 m2, .int .i64 f2, .int .i64 (-1), .string ⟨#[]⟩, .int .i64 0, .int .i64 0] 100)).drew) base 100 9 (.slice (some ⟨g, 0, none⟩) n c) n (L.flatMap lgEnc) from (HG3.out.kept (Below.heap_alloc w3 _ g hlt3) (Nat.le_refl _)).2)
  go_region_law (first
      | (refine step_app_leg rfl _ _ rfl base g n c w3.heap.size L (startLeg veh ⟨a2, s2, m2, f2⟩) rfl Hown3.out rfl Hnews.out hn hbs ?_; intro g4 cap4 w4 hown4 hgrow4 hat4 hlt4; have hV4 := ((hV3.alloc _).drew).grown hgrow4 (fun h => absurd (Option.some.inj h) hne.1); have hO4 := ((hO3.alloc _).drew).grown hgrow4 (fun h => absurd (Option.some.inj h) hne.2.1); have hH4 := ((hH3.alloc _).drew).grown hgrow4 (fun h => absurd (Option.some.inj h) hne.2.2); have c4' := hH4.cell_of (i := 4) (v := .slice (some ⟨g, 0, none⟩) n c) rfl; have fz4 := hH4.frozen 4))
  all_goals
    go_wp2_with fail
    go_end0
    have hg4 : base ≤ g4 := by
      rcases hat4 with h | h
      · rw [h]; exact hg0
      · rw [h]; simp; omega
    have hne4 : (Value.slice (some ⟨g4, 0, none⟩) (n + 1) cap4).ownBlock ≠ some hb := fun h => by have e : g4 = hb := Option.some.inj h; omega
    have hgr : w.grownBy w4 (some g) := grow_trans hg3' (grow_trans (grow_drew (grow_alloc (World.grownBy.refl _ _) _)) hgrow4)
    refine ⟨⟨_, rfl⟩, g4, cap4, hH4.set_ 4 _, ⟨hg4, ?_⟩, fun k hk hkb => ?_, hgr.os, hgr.tape, hgr.output, by simpa [World.setCell] using hgr.size⟩
    · have := ownsRow_setCell_other hown4 (a := ⟨hb, 4, none⟩) hne4 (.slice (some ⟨g4, 0, none⟩) (n + 1) cap4)
      rw [List.flatMap_append, show [startLeg veh ⟨a2, s2, m2, f2⟩].flatMap lgEnc = lgEnc (startLeg veh ⟨a2, s2, m2, f2⟩) from by simp]
      exact this
    · exact (Below.heap_setCell w4 _ _ k hkb).trans (hgr.block k (by omega) (fun h => by have e : g = k := (Option.some.inj h).symm; omega))

end Go.Proofs.YtmpomocahgcebaaDoor
/- The walks of the reference's changed (by gen_changed.py). -/
namespace Go.Proofs.YtmpomocahgcebaaDoor
open Go.RowKit

/-- The error of what changed makes of a right hire. -/
def chE (l : List Lg) (x : Int) : Int := bif openB l then x else 11
def exchLegs (l : List Lg) (r : Rd) (veh : ByteArray) (q : Rd) : List Lg := endLegs l r ++ [startLeg veh q]
theorem exch_ok {l : List Lg} {r : Rd} {veh : ByteArray} {q : Rd} (h : ∀ g ∈ l, LgOk g) (hr : RdOk r) (hv : veh.size ≤ 1000000) (hq : RdOk q) : ∀ g ∈ exchLegs l r veh q, LgOk g := by
  intro g hg
  rcases List.mem_append.1 hg with hg | hg
  · exact end_ok h hr g hg
  · rw [List.mem_singleton.1 hg]
    exact ⟨hv, hq, (by decide : (⟨#[]⟩ : ByteArray).size ≤ 1000000)⟩

set_option maxRecDepth 100000 in
set_option maxHeartbeats 2000000 in
theorem changedClose_any (key driver : ByteArray) (fr to_ : Int) (l : List Lg) (A : Option Addr) (n c : Nat) (w : World) (hl : SlT lgEnc 9 100 w A n l) (hok : HrOk key driver l) (hn : n ≤ 1000) (rb : Nat) (r : Rd) (hr : RdOk r) (hR : Blk w rb 98 (rdCells r)) :
    Calls Tryd.prog 182 #[.agg #[.string key, .string driver, .int .i64 fr, .int .i64 to_, .slice A n c], .func (.func 184) #[] #[.pointer (some ⟨rb, 0, none⟩)]] w (fun e w' => w.grownBy w' none ∧
      ∃ A' c', e = .returned (.tuple #[madeV key driver fr to_ A' n c' (chE l (hireE ⟨key, driver, fr, to_, endLegs l r⟩)), .int .i64 (chE l (hireE ⟨key, driver, fr, to_, endLegs l r⟩))]) ∧ (chE l (hireE ⟨key, driver, fr, to_, endLegs l r⟩) = 0 → SlT lgEnc 9 100 w' A' n (endLegs l r))) := by
  obtain ⟨E, hE⟩ : ∃ E, E = chE l (hireE ⟨key, driver, fr, to_, endLegs l r⟩) := ⟨_, rfl⟩
  rw [← hE]
  have HE := Lib.hid hE
  have hlen := hl.len
  have Hok := Lib.hid hok
  have hrl := hR.lt
  have Hr := Lib.hid hr
  clear hr
  clear hE hok
  have hz1 : ∀ k, some (w.heap.size + 1) = some k → w.heap.size ≤ k := fun k h => by cases h; omega
  go_enter Tryd.func182, Tryd.ntmps182
  go_wp2_with fail
  refine (isOpen_any key driver fr to_ l A n c _ ((hl.alloc _).alloc _) (by omega)).mono ?_
  rintro e w1 ⟨rfl, hg1⟩
  have hA1 : Blk w1 w.heap.size 95 [.string key, .string driver, .int .i64 fr, .int .i64 to_, .slice A n c] := ((Blk.at_ w rfl _ _).alloc _).grown hg1 (by simp)
  have hC1 : Blk w1 (w.heap.size + 1) 95 [.string ⟨#[]⟩, .string ⟨#[]⟩, .int .i64 0, .int .i64 0, .slice none 0 0] := (Blk.at_ (w.alloc _) (by simp) _ _).grown hg1 (by simp)
  have hw1 : w.grownBy w1 none := grow_trans (grow_alloc (grow_alloc (World.grownBy.refl _ _) _) _) hg1
  clear hg1
  obtain ⟨O, hO⟩ : ∃ O, openB l = O := ⟨_, rfl⟩
  rw [hO]
  have HO := Lib.hid hO
  clear hO
  cases O
  · have HF := Lib.hid (show E = 11 by rw [HE.out]; unfold chE; rw [HO.out]; rfl)
    have HV := Lib.hid (show madeV key driver fr to_ none n 0 E = .agg #[.string ⟨#[]⟩, .string ⟨#[]⟩, .int .i64 0, .int .i64 0, .slice none 0 0] by unfold madeV; rw [if_neg (by rw [HF.out]; decide)])
    go_wp2_with (with_reducible refine wpList_store_all rfl 95 (.tmp 4) (.tmp 9) rfl (w.heap.size + 1) _ _ [.string ⟨#[]⟩, .string ⟨#[]⟩, .int .i64 0, .int .i64 0, .slice none 0 0] hC1 rfl rfl 5 info_hr rfl rfl (by simp [Value.oneCell']) ?_
                 intro w3 hb3 hg3)
    refine ret_blk_tmp (p := 4) (u := 5) (ty := 95) rfl (w.heap.size + 1) _ _ _ hb3 rfl (.int .i64 11) rfl Tryd.underlying95 rfl 5 info_hr rfl rfl ?_
    exact ⟨grow_own hw1 hg3 hz1, none, 0, by rw [HV.out, HF.out], fun h => by rw [HF.out] at h; cases h⟩
  · have HF := Lib.hid (show E = hireE ⟨key, driver, fr, to_, endLegs l r⟩ by rw [HE.out]; unfold chE; rw [HO.out]; rfl)
    have hn0 : 0 < n := by
      rcases Nat.eq_zero_or_pos n with h | h
      · exfalso
        have h1 : l = [] := List.length_eq_zero_iff.1 (by omega)
        have h2 := HO.out
        rw [h1] at h2
        cases h2
      · exact h
    have k4 := hA1.cell_of (i := 4) (v := .slice A n c) rfl
    go_wp2_with fail
    refine (cloneLegs_any l A n c w1 (hl.own hw1 (fun g h => by cases h)) hn0 (by omega)).mono ?_
    rintro e w2 ⟨g, c2, rfl, hown, hg2⟩
    have hA2 := hA1.grown hg2 (by simp)
    have hC2 := hC1.grown hg2 (by simp)
    have hw2 := grow_trans hw1 hg2
    have hgz : w1.heap.size ≤ g := hown.1
    have hz2 := hC1.lt
    have hgl := hown.lt
    clear hA1 hC1 k4 hw1
    have k4 := hA2.cell_of (i := 4) (v := .slice A n c) rfl
    have f4 := hA2.frozen 4
    have hA3 : Blk (w2.setCell ⟨w.heap.size, 4, none⟩ (.slice (some ⟨g, 0, none⟩) n c2)) w.heap.size 95 [.string key, .string driver, .int .i64 fr, .int .i64 to_, .slice (some ⟨g, 0, none⟩) n c2] := hA2.set_ 4 _
    have hC3 := hC2.far (p := ⟨w.heap.size, 4, none⟩) (by simp) (.slice (some ⟨g, 0, none⟩) n c2)
    have hw3 : w.grownBy (w2.setCell ⟨w.heap.size, 4, none⟩ (.slice (some ⟨g, 0, none⟩) n c2)) none := grow_setCell hw2 (.inr (by simp)) _
    have hown3 : OwnT lgEnc 9 100 (w2.setCell ⟨w.heap.size, 4, none⟩ (.slice (some ⟨g, 0, none⟩) n c2)) w1.heap.size g n c2 l := hown.kept (Below.heap_setCell w2 _ _ g (by simp; omega)) (Nat.le_refl _)
    go_wp2_with fail
    obtain ⟨cs, hb, hfit, htk⟩ := hown3.blk
    have hR3 : Blk (w2.setCell ⟨w.heap.size, 4, none⟩ (.slice (some ⟨g, 0, none⟩) n c2)) rb 98 (rdCells r) := hR.grown hw3 (by simp)
    obtain ⟨x, hx⟩ : ∃ x, l[n - 1]? = some x := ⟨_, List.getElem?_eq_getElem (by omega)⟩
    have Hx := Lib.hid hx
    have HL := Lib.hid (show endLegs l r = l.set (n - 1) ⟨x.veh, x.out, r⟩ by unfold endLegs; rw [hlen, hx])
    clear hx
    refine (closeFn_any w.heap.size rb g key driver fr to_ n c2 r cs _ hA3 hR3 hb hn0 (by omega) hfit).mono ?_
    rintro e w4 ⟨⟨r4, rfl⟩, hb4, hg4⟩
    have hA4 := hA3.grown hg4 (fun h => absurd (Option.some.inj h) (by omega))
    have hC4 := hC3.grown hg4 (fun h => absurd (Option.some.inj h) (by omega))
    have hw4 : w.grownBy w4 none := grow_own hw3 hg4 (fun k h => by cases h; omega)
    obtain ⟨g4, hg4e⟩ : ∃ g4, g4 = g := ⟨_, rfl⟩
    obtain ⟨c4, hc4e⟩ : ∃ c4, c4 = c2 := ⟨_, rfl⟩
    rw [← hg4e, ← hc4e] at hA4
    have HG4 := Lib.hid hg4e
    clear hg4e hc4e
    have hsl := (by rw [HL.out, HG4.out]; exact SlT.spliced lg_len hfit htk hlen (r := 5) (vs := rdCells r) Hx.out rfl (by simp [rdCells]) hb4 : SlT lgEnc 9 100 w4 (some ⟨g4, 0, none⟩) n (endLegs l r))
    have HokL : HrOk key driver (endLegs l r) := ⟨Hok.out.1, Hok.out.2.1, end_ok Hok.out.2.2 Hr.out⟩
    clear hA2 hC2 hw2 hown k4 f4 hA3 hC3 hw3 hown3 hg2
    go_wp2_with (with_reducible refine wpList_load_all rfl 95 (.tmp 2) rfl w.heap.size _ _ _ hA4 rfl Tryd.underlying95 rfl 5 info_hr rfl ?_)
    refine (rmade_any key driver fr to_ (endLegs l r) _ _ _ w4 hsl HokL (by omega)).mono ?_
    rintro e w5 ⟨rfl, hg5⟩
    rw [← HF.out]
    have hsl5 := hsl.grow0 hg5
    have hC5 := hC4.grown hg5 (by simp)
    have hw5 := grow_trans hw4 hg5
    obtain ⟨A4, hA4e⟩ : ∃ A4 : Option Addr, A4 = some ⟨g4, 0, none⟩ := ⟨_, rfl⟩
    rw [← hA4e] at hsl5 ⊢
    clear hsl hA4 hC4 hw4 hg5 hA4e
    by_cases h0 : E = 0
    · have hV : madeV key driver fr to_ A4 (n) c4 E = .agg #[.string key, .string driver, .int .i64 fr, .int .i64 (to_), .slice A4 (n) c4] := by rw [h0]; rfl
      rw [hV]
      have HV := Lib.hid hV
      clear h0 hV
      go_wp2_with (with_reducible refine wpList_store_all rfl 95 (.tmp 4) (.tmp 18) rfl (w.heap.size + 1) _ _ [.string key, .string driver, .int .i64 fr, .int .i64 (to_), .slice A4 (n) c4] hC5 rfl rfl 5 info_hr rfl rfl (by simp [Value.oneCell']) ?_
                   intro w6 hb6 hg6)
      refine ret_blk_tmp (p := 4) (u := 5) (ty := 95) rfl (w.heap.size + 1) _ _ _ hb6 rfl (.int .i64 E) rfl Tryd.underlying95 rfl 5 info_hr rfl rfl ?_
      exact ⟨grow_own hw5 hg6 hz1, A4, c4, by rw [HV.out], fun _ => hsl5.grown hg6 hC5 (by decide)⟩
    · have hV : madeV key driver fr to_ A4 (n) c4 E = .agg #[.string ⟨#[]⟩, .string ⟨#[]⟩, .int .i64 0, .int .i64 0, .slice none 0 0] := by unfold madeV; rw [if_neg h0]
      rw [hV]
      have HV := Lib.hid hV
      have H0 := Lib.hid h0
      clear h0 hV
      go_wp2_with (with_reducible refine wpList_store_all rfl 95 (.tmp 4) (.tmp 18) rfl (w.heap.size + 1) _ _ [.string ⟨#[]⟩, .string ⟨#[]⟩, .int .i64 0, .int .i64 0, .slice none 0 0] hC5 rfl rfl 5 info_hr rfl rfl (by simp [Value.oneCell']) ?_
                   intro w6 hb6 hg6)
      refine ret_blk_tmp (p := 4) (u := 5) (ty := 95) rfl (w.heap.size + 1) _ _ _ hb6 rfl (.int .i64 E) rfl Tryd.underlying95 rfl 5 info_hr rfl rfl ?_
      exact ⟨grow_own hw5 hg6 hz1, A4, c4, by rw [HV.out], fun h => absurd h H0.out⟩

set_option maxRecDepth 100000 in
set_option maxHeartbeats 2000000 in
theorem changedExchange_any (key driver : ByteArray) (fr to_ : Int) (l : List Lg) (A : Option Addr) (n c : Nat) (w : World) (hl : SlT lgEnc 9 100 w A n l) (hok : HrOk key driver l) (hn : n ≤ 1000) (ib vb ob : Nat) (veh : ByteArray) (r q : Rd) (hv : veh.size ≤ 1000000) (hr : RdOk r) (hq : RdOk q) (hI : Blk w ib 98 (rdCells r)) (hV0 : Blk w vb 9 [.string veh]) (hO0 : Blk w ob 98 (rdCells q)) :
    Calls Tryd.prog 182 #[.agg #[.string key, .string driver, .int .i64 fr, .int .i64 to_, .slice A n c], .func (.func 183) #[] #[.pointer (some ⟨ib, 0, none⟩), .pointer (some ⟨vb, 0, none⟩), .pointer (some ⟨ob, 0, none⟩)]] w (fun e w' => w.grownBy w' none ∧
      ∃ A' c', e = .returned (.tuple #[madeV key driver fr to_ A' (n + 1) c' (chE l (hireE ⟨key, driver, fr, to_, exchLegs l r veh q⟩)), .int .i64 (chE l (hireE ⟨key, driver, fr, to_, exchLegs l r veh q⟩))]) ∧ (chE l (hireE ⟨key, driver, fr, to_, exchLegs l r veh q⟩) = 0 → SlT lgEnc 9 100 w' A' (n + 1) (exchLegs l r veh q))) := by
  obtain ⟨E, hE⟩ : ∃ E, E = chE l (hireE ⟨key, driver, fr, to_, exchLegs l r veh q⟩) := ⟨_, rfl⟩
  rw [← hE]
  have HE := Lib.hid hE
  have hlen := hl.len
  have Hok := Lib.hid hok
  have hil := hI.lt
  have hvl := hV0.lt
  have hol := hO0.lt
  have Hr := Lib.hid hr
  have Hq := Lib.hid hq
  have Hv := Lib.hid hv
  clear hr hq hv
  clear hE hok
  have hz1 : ∀ k, some (w.heap.size + 1) = some k → w.heap.size ≤ k := fun k h => by cases h; omega
  go_enter Tryd.func182, Tryd.ntmps182
  go_wp2_with fail
  refine (isOpen_any key driver fr to_ l A n c _ ((hl.alloc _).alloc _) (by omega)).mono ?_
  rintro e w1 ⟨rfl, hg1⟩
  have hA1 : Blk w1 w.heap.size 95 [.string key, .string driver, .int .i64 fr, .int .i64 to_, .slice A n c] := ((Blk.at_ w rfl _ _).alloc _).grown hg1 (by simp)
  have hC1 : Blk w1 (w.heap.size + 1) 95 [.string ⟨#[]⟩, .string ⟨#[]⟩, .int .i64 0, .int .i64 0, .slice none 0 0] := (Blk.at_ (w.alloc _) (by simp) _ _).grown hg1 (by simp)
  have hw1 : w.grownBy w1 none := grow_trans (grow_alloc (grow_alloc (World.grownBy.refl _ _) _) _) hg1
  clear hg1
  obtain ⟨O, hO⟩ : ∃ O, openB l = O := ⟨_, rfl⟩
  rw [hO]
  have HO := Lib.hid hO
  clear hO
  cases O
  · have HF := Lib.hid (show E = 11 by rw [HE.out]; unfold chE; rw [HO.out]; rfl)
    have HV := Lib.hid (show madeV key driver fr to_ none (n + 1) 0 E = .agg #[.string ⟨#[]⟩, .string ⟨#[]⟩, .int .i64 0, .int .i64 0, .slice none 0 0] by unfold madeV; rw [if_neg (by rw [HF.out]; decide)])
    go_wp2_with (with_reducible refine wpList_store_all rfl 95 (.tmp 4) (.tmp 9) rfl (w.heap.size + 1) _ _ [.string ⟨#[]⟩, .string ⟨#[]⟩, .int .i64 0, .int .i64 0, .slice none 0 0] hC1 rfl rfl 5 info_hr rfl rfl (by simp [Value.oneCell']) ?_
                 intro w3 hb3 hg3)
    refine ret_blk_tmp (p := 4) (u := 5) (ty := 95) rfl (w.heap.size + 1) _ _ _ hb3 rfl (.int .i64 11) rfl Tryd.underlying95 rfl 5 info_hr rfl rfl ?_
    exact ⟨grow_own hw1 hg3 hz1, none, 0, by rw [HV.out, HF.out], fun h => by rw [HF.out] at h; cases h⟩
  · have HF := Lib.hid (show E = hireE ⟨key, driver, fr, to_, exchLegs l r veh q⟩ by rw [HE.out]; unfold chE; rw [HO.out]; rfl)
    have hn0 : 0 < n := by
      rcases Nat.eq_zero_or_pos n with h | h
      · exfalso
        have h1 : l = [] := List.length_eq_zero_iff.1 (by omega)
        have h2 := HO.out
        rw [h1] at h2
        cases h2
      · exact h
    have k4 := hA1.cell_of (i := 4) (v := .slice A n c) rfl
    go_wp2_with fail
    refine (cloneLegs_any l A n c w1 (hl.own hw1 (fun g h => by cases h)) hn0 (by omega)).mono ?_
    rintro e w2 ⟨g, c2, rfl, hown, hg2⟩
    have hA2 := hA1.grown hg2 (by simp)
    have hC2 := hC1.grown hg2 (by simp)
    have hw2 := grow_trans hw1 hg2
    have hgz : w1.heap.size ≤ g := hown.1
    have hz2 := hC1.lt
    have hgl := hown.lt
    clear hA1 hC1 k4 hw1
    have k4 := hA2.cell_of (i := 4) (v := .slice A n c) rfl
    have f4 := hA2.frozen 4
    have hA3 : Blk (w2.setCell ⟨w.heap.size, 4, none⟩ (.slice (some ⟨g, 0, none⟩) n c2)) w.heap.size 95 [.string key, .string driver, .int .i64 fr, .int .i64 to_, .slice (some ⟨g, 0, none⟩) n c2] := hA2.set_ 4 _
    have hC3 := hC2.far (p := ⟨w.heap.size, 4, none⟩) (by simp) (.slice (some ⟨g, 0, none⟩) n c2)
    have hw3 : w.grownBy (w2.setCell ⟨w.heap.size, 4, none⟩ (.slice (some ⟨g, 0, none⟩) n c2)) none := grow_setCell hw2 (.inr (by simp)) _
    have hown3 : OwnT lgEnc 9 100 (w2.setCell ⟨w.heap.size, 4, none⟩ (.slice (some ⟨g, 0, none⟩) n c2)) w1.heap.size g n c2 l := hown.kept (Below.heap_setCell w2 _ _ g (by simp; omega)) (Nat.le_refl _)
    go_wp2_with fail
    have hI3 : Blk (w2.setCell ⟨w.heap.size, 4, none⟩ (.slice (some ⟨g, 0, none⟩) n c2)) ib 98 (rdCells r) := hI.grown hw3 (by simp)
    have hV3 : Blk (w2.setCell ⟨w.heap.size, 4, none⟩ (.slice (some ⟨g, 0, none⟩) n c2)) vb 9 [.string veh] := hV0.grown hw3 (by simp)
    have hO3 : Blk (w2.setCell ⟨w.heap.size, 4, none⟩ (.slice (some ⟨g, 0, none⟩) n c2)) ob 98 (rdCells q) := hO0.grown hw3 (by simp)
    obtain ⟨x, hx⟩ : ∃ x, l[n - 1]? = some x := ⟨_, List.getElem?_eq_getElem (by omega)⟩
    have Hx := Lib.hid hx
    have HL := Lib.hid (show exchLegs l r veh q = l.set (n - 1) ⟨x.veh, x.out, r⟩ ++ [startLeg veh q] by unfold exchLegs endLegs; rw [hlen, hx])
    clear hx
    refine (exchangeFn_any w1.heap.size w.heap.size ib vb ob g key driver veh fr to_ n c2 r q l x _ hA3 hI3 hV3 hO3 hown3 hn0 (by omega) Hx.out hlen ⟨by omega, by omega, by omega⟩ (by omega)).mono ?_
    rintro e w4 ⟨⟨r4, rfl⟩, g4, c4, hA4, hown4, hbk, hos, htp, hout, hsz⟩
    have hC4 : Blk w4 (w.heap.size + 1) 95 [.string ⟨#[]⟩, .string ⟨#[]⟩, .int .i64 0, .int .i64 0, .slice none 0 0] := hC3.kept (hbk _ (by omega) (by omega))
    have hw4 : w.grownBy w4 none := ⟨hos.trans hw3.os, htp.trans hw3.tape, hout.trans hw3.output, Nat.le_trans hw3.size hsz, fun i hi hne => (hbk i (by omega) (by omega)).trans (hw3.block i hi hne)⟩
    have hsl := (by rw [HL.out]; exact hown4.slt lg_len (by simp; omega) : SlT lgEnc 9 100 w4 (some ⟨g4, 0, none⟩) (n + 1) (exchLegs l r veh q))
    have HokL : HrOk key driver (exchLegs l r veh q) := ⟨Hok.out.1, Hok.out.2.1, exch_ok Hok.out.2.2 Hr.out Hv.out Hq.out⟩
    clear hA2 hC2 hw2 hown k4 f4 hA3 hC3 hw3 hown3 hg2
    go_wp2_with (with_reducible refine wpList_load_all rfl 95 (.tmp 2) rfl w.heap.size _ _ _ hA4 rfl Tryd.underlying95 rfl 5 info_hr rfl ?_)
    refine (rmade_any key driver fr to_ (exchLegs l r veh q) _ _ _ w4 hsl HokL (by omega)).mono ?_
    rintro e w5 ⟨rfl, hg5⟩
    rw [← HF.out]
    have hsl5 := hsl.grow0 hg5
    have hC5 := hC4.grown hg5 (by simp)
    have hw5 := grow_trans hw4 hg5
    obtain ⟨A4, hA4e⟩ : ∃ A4 : Option Addr, A4 = some ⟨g4, 0, none⟩ := ⟨_, rfl⟩
    rw [← hA4e] at hsl5 ⊢
    clear hsl hA4 hC4 hw4 hg5 hA4e
    by_cases h0 : E = 0
    · have hV : madeV key driver fr to_ A4 ((n + 1)) c4 E = .agg #[.string key, .string driver, .int .i64 fr, .int .i64 (to_), .slice A4 ((n + 1)) c4] := by rw [h0]; rfl
      rw [hV]
      have HV := Lib.hid hV
      clear h0 hV
      go_wp2_with (with_reducible refine wpList_store_all rfl 95 (.tmp 4) (.tmp 18) rfl (w.heap.size + 1) _ _ [.string key, .string driver, .int .i64 fr, .int .i64 (to_), .slice A4 ((n + 1)) c4] hC5 rfl rfl 5 info_hr rfl rfl (by simp [Value.oneCell']) ?_
                   intro w6 hb6 hg6)
      refine ret_blk_tmp (p := 4) (u := 5) (ty := 95) rfl (w.heap.size + 1) _ _ _ hb6 rfl (.int .i64 E) rfl Tryd.underlying95 rfl 5 info_hr rfl rfl ?_
      exact ⟨grow_own hw5 hg6 hz1, A4, c4, by rw [HV.out], fun _ => hsl5.grown hg6 hC5 (by decide)⟩
    · have hV : madeV key driver fr to_ A4 ((n + 1)) c4 E = .agg #[.string ⟨#[]⟩, .string ⟨#[]⟩, .int .i64 0, .int .i64 0, .slice none 0 0] := by unfold madeV; rw [if_neg h0]
      rw [hV]
      have HV := Lib.hid hV
      have H0 := Lib.hid h0
      clear h0 hV
      go_wp2_with (with_reducible refine wpList_store_all rfl 95 (.tmp 4) (.tmp 18) rfl (w.heap.size + 1) _ _ [.string ⟨#[]⟩, .string ⟨#[]⟩, .int .i64 0, .int .i64 0, .slice none 0 0] hC5 rfl rfl 5 info_hr rfl rfl (by simp [Value.oneCell']) ?_
                   intro w6 hb6 hg6)
      refine ret_blk_tmp (p := 4) (u := 5) (ty := 95) rfl (w.heap.size + 1) _ _ _ hb6 rfl (.int .i64 E) rfl Tryd.underlying95 rfl 5 info_hr rfl rfl ?_
      exact ⟨grow_own hw5 hg6 hz1, A4, c4, by rw [HV.out], fun h => absurd h H0.out⟩

end Go.Proofs.YtmpomocahgcebaaDoor
/- The walks of the reference's CloseOf, ExtendOf, ExchangeOf (by gen_changed.py). -/
namespace Go.Proofs.YtmpomocahgcebaaDoor
open Go.RowKit

set_option maxRecDepth 100000 in
set_option maxHeartbeats 1000000 in
theorem closeOf_any (key driver : ByteArray) (fr to_ : Int) (l : List Lg) (A : Option Addr) (n c : Nat) (w : World) (hl : SlT lgEnc 9 100 w A n l) (hok : HrOk key driver l) (hn : n ≤ 1000) (r : Rd) (hr : RdOk r) :
    Calls Tryd.prog 166 #[.agg #[.string key, .string driver, .int .i64 fr, .int .i64 to_, .slice A n c], .agg (rdCells r).toArray] w (fun e w' => w.grownBy w' none ∧
      ∃ A' c', e = .returned (.tuple #[madeV key driver fr to_ A' n c' (chE l (hireE ⟨key, driver, fr, to_, endLegs l r⟩)), .int .i64 (chE l (hireE ⟨key, driver, fr, to_, endLegs l r⟩))]) ∧ (chE l (hireE ⟨key, driver, fr, to_, endLegs l r⟩) = 0 → SlT lgEnc 9 100 w' A' n (endLegs l r))) := by
  have HC := Lib.hid (fun w hl rb hR => changedClose_any key driver fr to_ l A n c w hl hok hn rb r hr hR)
  obtain ⟨E, hE⟩ : ∃ E, E = chE l (hireE ⟨key, driver, fr, to_, endLegs l r⟩) := ⟨_, rfl⟩
  rw [← hE] at HC ⊢
  clear hE hok
  obtain ⟨ra, rs, rm, rf⟩ := r
  show Calls Tryd.prog 166 #[.agg #[.string key, .string driver, .int .i64 fr, .int .i64 to_, .slice A n c], .agg #[.int .i64 ra, .string rs, .int .i64 rm, .int .i64 rf]] w _
  go_enter Tryd.func166, Tryd.ntmps166
  go_wp2_with fail
  refine (HC.out _ (((hl.alloc _).alloc _).alloc _) (w.heap.size + 1) ((Blk.at_ (w.alloc _) (by simp) _ _).alloc _)).mono ?_
  rintro e w1 ⟨hg1, A1, c1, rfl, hs1⟩
  have hC1 : Blk w1 (w.heap.size + 2) 95 [.string ⟨#[]⟩, .string ⟨#[]⟩, .int .i64 0, .int .i64 0, .slice none 0 0] := (Blk.at_ ((w.alloc _).alloc _) (by simp) _ _).grown hg1 (by simp)
  have hw1 : w.grownBy w1 none := grow_trans (grow_alloc (grow_alloc (grow_alloc (World.grownBy.refl _ _) _) _) _) hg1
  have hz : ∀ k, some (w.heap.size + 2) = some k → w.heap.size ≤ k := fun k h => by cases h; omega
  clear hg1
  by_cases h0 : E = 0
  · have hV : madeV key driver fr to_ A1 n c1 E = .agg #[.string key, .string driver, .int .i64 fr, .int .i64 (to_), .slice A1 (n) c1] := by rw [h0]; rfl
    have hsl := hs1 h0
    rw [hV]
    have HV := Lib.hid hV
    clear h0 hV hs1
    go_wp2_with (with_reducible refine wpList_store_all rfl 95 (.tmp 4) (.tmp 9) rfl (w.heap.size + 2) _ _ [.string key, .string driver, .int .i64 fr, .int .i64 (to_), .slice A1 (n) c1] hC1 rfl rfl 5 info_hr rfl rfl (by simp [Value.oneCell']) ?_
                 intro w6 hb6 hg6)
    refine ret_blk_tmp (p := 4) (u := 5) (ty := 95) rfl (w.heap.size + 2) _ _ _ hb6 rfl (.int .i64 E) rfl Tryd.underlying95 rfl 5 info_hr rfl rfl ?_
    exact ⟨grow_own hw1 hg6 hz, A1, c1, by rw [HV.out], fun _ => hsl.grown hg6 hC1 (by decide)⟩
  · have hV : madeV key driver fr to_ A1 n c1 E = .agg #[.string ⟨#[]⟩, .string ⟨#[]⟩, .int .i64 0, .int .i64 0, .slice none 0 0] := by unfold madeV; rw [if_neg h0]
    rw [hV]
    have HV := Lib.hid hV
    have H0 := Lib.hid h0
    clear h0 hV hs1
    go_wp2_with (with_reducible refine wpList_store_all rfl 95 (.tmp 4) (.tmp 9) rfl (w.heap.size + 2) _ _ [.string ⟨#[]⟩, .string ⟨#[]⟩, .int .i64 0, .int .i64 0, .slice none 0 0] hC1 rfl rfl 5 info_hr rfl rfl (by simp [Value.oneCell']) ?_
                 intro w6 hb6 hg6)
    refine ret_blk_tmp (p := 4) (u := 5) (ty := 95) rfl (w.heap.size + 2) _ _ _ hb6 rfl (.int .i64 E) rfl Tryd.underlying95 rfl 5 info_hr rfl rfl ?_
    exact ⟨grow_own hw1 hg6 hz, A1, c1, by rw [HV.out], fun h => absurd h H0.out⟩

set_option maxRecDepth 100000 in
set_option maxHeartbeats 1000000 in
theorem exchangeOf_any (key driver : ByteArray) (fr to_ : Int) (l : List Lg) (A : Option Addr) (n c : Nat) (w : World) (hl : SlT lgEnc 9 100 w A n l) (hok : HrOk key driver l) (hn : n ≤ 1000) (veh : ByteArray) (r q : Rd) (hv : veh.size ≤ 1000000) (hr : RdOk r) (hq : RdOk q) :
    Calls Tryd.prog 165 #[.agg #[.string key, .string driver, .int .i64 fr, .int .i64 to_, .slice A n c], .agg (rdCells r).toArray, .string veh, .agg (rdCells q).toArray] w (fun e w' => w.grownBy w' none ∧
      ∃ A' c', e = .returned (.tuple #[madeV key driver fr to_ A' (n + 1) c' (chE l (hireE ⟨key, driver, fr, to_, exchLegs l r veh q⟩)), .int .i64 (chE l (hireE ⟨key, driver, fr, to_, exchLegs l r veh q⟩))]) ∧ (chE l (hireE ⟨key, driver, fr, to_, exchLegs l r veh q⟩) = 0 → SlT lgEnc 9 100 w' A' (n + 1) (exchLegs l r veh q))) := by
  have HC := Lib.hid (fun w hl ib vb ob hI hV hO => changedExchange_any key driver fr to_ l A n c w hl hok hn ib vb ob veh r q hv hr hq hI hV hO)
  obtain ⟨E, hE⟩ : ∃ E, E = chE l (hireE ⟨key, driver, fr, to_, exchLegs l r veh q⟩) := ⟨_, rfl⟩
  rw [← hE] at HC ⊢
  clear hE hok
  obtain ⟨ra, rs, rm, rf⟩ := r
  obtain ⟨qa, qs, qm, qf⟩ := q
  show Calls Tryd.prog 165 #[.agg #[.string key, .string driver, .int .i64 fr, .int .i64 to_, .slice A n c], .agg #[.int .i64 ra, .string rs, .int .i64 rm, .int .i64 rf], .string veh, .agg #[.int .i64 qa, .string qs, .int .i64 qm, .int .i64 qf]] w _
  go_enter Tryd.func165, Tryd.ntmps165
  go_wp2_with fail
  refine (HC.out _ (((((hl.alloc _).alloc _).alloc _).alloc _).alloc _) (w.heap.size + 1) (w.heap.size + 2) (w.heap.size + 3) ((((Blk.at_ (w.alloc _) (by simp) _ _).alloc _).alloc _).alloc _) (((Blk.at_ ((w.alloc _).alloc _) (by simp) _ _).alloc _).alloc _) ((Blk.at_ (((w.alloc _).alloc _).alloc _) (by simp) _ _).alloc _)).mono ?_
  rintro e w1 ⟨hg1, A1, c1, rfl, hs1⟩
  have hC1 : Blk w1 (w.heap.size + 4) 95 [.string ⟨#[]⟩, .string ⟨#[]⟩, .int .i64 0, .int .i64 0, .slice none 0 0] := (Blk.at_ ((((w.alloc _).alloc _).alloc _).alloc _) (by simp) _ _).grown hg1 (by simp)
  have hw1 : w.grownBy w1 none := grow_trans (grow_alloc (grow_alloc (grow_alloc (grow_alloc (grow_alloc (World.grownBy.refl _ _) _) _) _) _) _) hg1
  have hz : ∀ k, some (w.heap.size + 4) = some k → w.heap.size ≤ k := fun k h => by cases h; omega
  clear hg1
  by_cases h0 : E = 0
  · have hV : madeV key driver fr to_ A1 (n + 1) c1 E = .agg #[.string key, .string driver, .int .i64 fr, .int .i64 (to_), .slice A1 ((n + 1)) c1] := by rw [h0]; rfl
    have hsl := hs1 h0
    rw [hV]
    have HV := Lib.hid hV
    clear h0 hV hs1
    go_wp2_with (with_reducible refine wpList_store_all rfl 95 (.tmp 8) (.tmp 13) rfl (w.heap.size + 4) _ _ [.string key, .string driver, .int .i64 fr, .int .i64 (to_), .slice A1 ((n + 1)) c1] hC1 rfl rfl 5 info_hr rfl rfl (by simp [Value.oneCell']) ?_
                 intro w6 hb6 hg6)
    refine ret_blk_tmp (p := 8) (u := 9) (ty := 95) rfl (w.heap.size + 4) _ _ _ hb6 rfl (.int .i64 E) rfl Tryd.underlying95 rfl 5 info_hr rfl rfl ?_
    exact ⟨grow_own hw1 hg6 hz, A1, c1, by rw [HV.out], fun _ => hsl.grown hg6 hC1 (by decide)⟩
  · have hV : madeV key driver fr to_ A1 (n + 1) c1 E = .agg #[.string ⟨#[]⟩, .string ⟨#[]⟩, .int .i64 0, .int .i64 0, .slice none 0 0] := by unfold madeV; rw [if_neg h0]
    rw [hV]
    have HV := Lib.hid hV
    have H0 := Lib.hid h0
    clear h0 hV hs1
    go_wp2_with (with_reducible refine wpList_store_all rfl 95 (.tmp 8) (.tmp 13) rfl (w.heap.size + 4) _ _ [.string ⟨#[]⟩, .string ⟨#[]⟩, .int .i64 0, .int .i64 0, .slice none 0 0] hC1 rfl rfl 5 info_hr rfl rfl (by simp [Value.oneCell']) ?_
                 intro w6 hb6 hg6)
    refine ret_blk_tmp (p := 8) (u := 9) (ty := 95) rfl (w.heap.size + 4) _ _ _ hb6 rfl (.int .i64 E) rfl Tryd.underlying95 rfl 5 info_hr rfl rfl ?_
    exact ⟨grow_own hw1 hg6 hz, A1, c1, by rw [HV.out], fun h => absurd h H0.out⟩

end Go.Proofs.YtmpomocahgcebaaDoor
/- StartOf, ExchangeOf, CloseOf as the generators use them: what comes back is a hire in memory. -/
namespace Go.Proofs.YtmpomocahgcebaaDoor
open Go.RowKit

/-- A hire and an error are handed back: some hire, its legs in memory; where there is no error it has m legs. -/
def HireBack (w : World) (m : Nat) (E : Int) (e : Ending) (w' : World) : Prop :=
  ∃ (k d : ByteArray) (f t : Int) (A : Option Addr) (n c : Nat) (l : List Lg), e = .returned (.tuple #[.agg #[.string k, .string d, .int .i64 f, .int .i64 t, .slice A n c], .int .i64 E]) ∧ SlT lgEnc 9 100 w' A n l ∧ HrOk k d l ∧ n ≤ m ∧ (E = 0 → n = m) ∧ w.grownBy w' none

theorem noHire_ok : HrOk ⟨#[]⟩ ⟨#[]⟩ [] := ⟨by decide, by decide, fun _ h => by cases h⟩
theorem hireBack_of {w w' : World} {key driver : ByteArray} {fr to_ : Int} {A : Option Addr} {n c : Nat} {E : Int} {l : List Lg} {e : Ending} (he : e = .returned (.tuple #[madeV key driver fr to_ A n c E, .int .i64 E])) (hs : E = 0 → SlT lgEnc 9 100 w' A n l) (hok : HrOk key driver l) (hg : w.grownBy w' none) : HireBack w n E e w' := by
  by_cases h0 : E = 0
  · exact ⟨key, driver, fr, to_, A, n, c, l, by rw [he, h0]; rfl, hs h0, hok, Nat.le_refl _, fun _ => rfl, hg⟩
  · exact ⟨⟨#[]⟩, ⟨#[]⟩, 0, 0, none, 0, 0, [], by rw [he]; unfold madeV; rw [if_neg h0], SlT.nil_ _ _, noHire_ok, Nat.zero_le _, fun h => absurd h h0, hg⟩

theorem startOf_gen (key driver : ByteArray) (fr to_ : Int) (veh : ByteArray) (r : Rd) (w : World) (hk : key.size ≤ 1000000) (hd : driver.size ≤ 1000000) (hv : veh.size ≤ 1000000) (hr : RdOk r) :
    Calls Tryd.prog 163 #[.string key, .string driver, .agg #[.int .i64 fr, .int .i64 to_], .string veh, .agg (rdCells r).toArray] w (HireBack w 1 (hireE ⟨key, driver, fr, to_, [startLeg veh r]⟩)) :=
  (startOf_any key driver fr to_ veh r w hk hd hv hr).mono fun e w' ⟨A, he, hs, hg⟩ => hireBack_of he (fun _ => hs) ⟨hk, hd, fun g hg => by
    rw [List.mem_singleton.1 hg]
    exact ⟨hv, hr, (by decide : (⟨#[]⟩ : ByteArray).size ≤ 1000000)⟩⟩ hg
theorem closeOf_gen (key driver : ByteArray) (fr to_ : Int) (l : List Lg) (A : Option Addr) (n c : Nat) (w : World) (hl : SlT lgEnc 9 100 w A n l) (hok : HrOk key driver l) (hn : n ≤ 1000) (r : Rd) (hr : RdOk r) :
    Calls Tryd.prog 166 #[.agg #[.string key, .string driver, .int .i64 fr, .int .i64 to_, .slice A n c], .agg (rdCells r).toArray] w (fun e w' => ∃ E, HireBack w n E e w') :=
  (closeOf_any key driver fr to_ l A n c w hl hok hn r hr).mono fun _ _ ⟨hg, _, _, he, hs⟩ => ⟨_, hireBack_of he hs ⟨hok.1, hok.2.1, end_ok hok.2.2 hr⟩ hg⟩
theorem exchangeOf_gen (key driver : ByteArray) (fr to_ : Int) (l : List Lg) (A : Option Addr) (n c : Nat) (w : World) (hl : SlT lgEnc 9 100 w A n l) (hok : HrOk key driver l) (hn : n ≤ 1000) (veh : ByteArray) (r q : Rd) (hv : veh.size ≤ 1000000) (hr : RdOk r) (hq : RdOk q) :
    Calls Tryd.prog 165 #[.agg #[.string key, .string driver, .int .i64 fr, .int .i64 to_, .slice A n c], .agg (rdCells r).toArray, .string veh, .agg (rdCells q).toArray] w (fun e w' => ∃ E, HireBack w (n + 1) E e w') :=
  (exchangeOf_any key driver fr to_ l A n c w hl hok hn veh r q hv hr hq).mono fun _ _ ⟨hg, _, _, he, hs⟩ => ⟨_, hireBack_of he hs ⟨hok.1, hok.2.1, exch_ok hok.2.2 hr hv hq⟩ hg⟩

theorem exchangeOf_lit (key driver : ByteArray) (fr to_ : Int) (l : List Lg) (A : Option Addr) (n c : Nat) (w : World) (hl : SlT lgEnc 9 100 w A n l) (hok : HrOk key driver l) (hn : n ≤ 1000) (veh : ByteArray) (ra rm rf qa qm qf : Int) (rs qs : ByteArray) (hv : veh.size ≤ 1000000) (hr : rs.size ≤ 1000000) (hq : qs.size ≤ 1000000) :
    Calls Tryd.prog 165 #[.agg #[.string key, .string driver, .int .i64 fr, .int .i64 to_, .slice A n c], .agg #[.int .i64 ra, .string rs, .int .i64 rm, .int .i64 rf], .string veh, .agg #[.int .i64 qa, .string qs, .int .i64 qm, .int .i64 qf]] w (fun e w' => ∃ E, HireBack w (n + 1) E e w') :=
  exchangeOf_gen key driver fr to_ l A n c w hl hok hn veh ⟨ra, rs, rm, rf⟩ ⟨qa, qs, qm, qf⟩ hv hr hq
theorem startOf_lit (key driver : ByteArray) (fr to_ : Int) (veh : ByteArray) (ra rm rf : Int) (rs : ByteArray) (w : World) (hk : key.size ≤ 1000000) (hd : driver.size ≤ 1000000) (hv : veh.size ≤ 1000000) (hr : rs.size ≤ 1000000) :
    Calls Tryd.prog 163 #[.string key, .string driver, .agg #[.int .i64 fr, .int .i64 to_], .string veh, .agg #[.int .i64 ra, .string rs, .int .i64 rm, .int .i64 rf]] w (HireBack w 1 (hireE ⟨key, driver, fr, to_, [startLeg veh ⟨ra, rs, rm, rf⟩]⟩)) :=
  startOf_gen key driver fr to_ veh ⟨ra, rs, rm, rf⟩ w hk hd hv hr

theorem fall_keys : keyB ⟨#[97, 110, 110]⟩ = true ∧ keyB ⟨#[118, 49]⟩ = true ∧ keyB ⟨#[115, 49]⟩ = true := ⟨by kernel_rfl, by kernel_rfl, by kernel_rfl⟩
/-- The hire that is taken where no other came out right. -/
theorem fall_right {key : ByteArray} {fr : Int} (hk : keyB key = true) (h0 : 0 ≤ fr) (h1 : fr ≤ 5000000) : hireE ⟨key, ⟨#[97, 110, 110]⟩, fr, fr + 60, [startLeg ⟨#[118, 49]⟩ ⟨fr, ⟨#[115, 49]⟩, 0, 0⟩]⟩ = 0 := by
  have a1 : inB fr 0 5761439 = true := inB_iff.2 ⟨by omega, by omega⟩
  have a2 : inB 0 0 999999 = true := by decide
  have a3 : inB 0 0 8 = true := by decide
  have hr : readingE ⟨fr, ⟨#[115, 49]⟩, 0, 0⟩ = 0 := by simp [readingE, momentE, a1, a2, a3, fall_keys.2.2, whenE, firstE]
  have ht : timeE fr (fr + 60) = 0 := by
    unfold timeE
    rw [if_neg (by omega), decide_eq_false (show ¬ 120 < daysV fr (fr + 60) by unfold daysV; omega)]; rfl
  have hin : legInE true (startLeg ⟨#[118, 49]⟩ ⟨fr, ⟨#[115, 49]⟩, 0, 0⟩) = 0 := by kernel_rfl
  have hp : legPrevE fr none (startLeg ⟨#[118, 49]⟩ ⟨fr, ⟨#[115, 49]⟩, 0, 0⟩) = 0 := by
    show (if fr = fr then (0 : Int) else 7) = 0
    rw [if_pos rfl]
  have hleg : legE fr none true (startLeg ⟨#[118, 49]⟩ ⟨fr, ⟨#[115, 49]⟩, 0, 0⟩) = 0 := by
    unfold legE
    rw [hp, hin]
    simp [startLeg, hr, fall_keys.2.1, whenE, firstE]
  have hlegs : legsE fr [startLeg ⟨#[118, 49]⟩ ⟨fr, ⟨#[115, 49]⟩, 0, 0⟩] 1 = 0 := by
    show (if legE fr none true (startLeg ⟨#[118, 49]⟩ ⟨fr, ⟨#[115, 49]⟩, 0, 0⟩) = 0 then 0 else _) = (0 : Int)
    rw [if_pos hleg]
  unfold hireE
  simp [firstE, whenE, hk, fall_keys.1, ht, hlegs]

end Go.Proofs.YtmpomocahgcebaaDoor
/- What a generator that turns a hire keeps: its own leg block among the known blocks. -/
namespace Go.Proofs.YtmpomocahgcebaaDoor
open Go.RowKit

section
variable {TS : TypeId} {Tt : List TypeId} {w0 w w' : World} {B sb m m' : Nat} {L : List (Nat × TypeId × List Value)} {X Y : World → Prop}
/-- A call has made a block: it joins those that are known. -/
theorem Kept.add (h : Kept TS Tt w0 B sb m L X w) (hg : w.grownBy w' none) {g : Nat} {T : TypeId} {cs : List Value} (hge : w.heap.size ≤ g) (hb : Blk w' g T cs) : Kept TS Tt w0 B sb m ((g, T, cs) :: L) X w' := by
  have h2 := h.grow0 hg
  refine ⟨h2.s, h2.g, fun x hx => ?_, List.Pairwise.cons (fun y hy e => by have h3 := (h.b y hy).2.lt; have e2 : g = y.1 := e; omega) h.nd, h2.t, h2.l, h2.x⟩
  rcases List.mem_cons.1 hx with rfl | hx
  · exact ⟨⟨Nat.lt_of_lt_of_le h.s.lt hge, Nat.le_trans h.g.size hge⟩, hb⟩
  · exact h2.b x hx
theorem Kept.free (h : Kept TS Tt w0 B sb m L X w) : Kept TS [] w0 B sb m L (fun _ => True) w := ⟨h.s, h.g, h.b, h.nd, List.not_mem_nil, Lasts.true_ _, trivial⟩
theorem Kept.put {g : Nat} {T : TypeId} {cs cs' : List Value} (h : Kept TS [] w0 B sb m ((g, T, cs) :: L) X w) (hb : Blk w' g T cs') (hg : w.grownBy w' (some g)) : Kept TS [] w0 B sb m ((g, T, cs') :: L) X w' := by
  have hnd := List.pairwise_cons.1 h.nd
  refine h.stored (g := g) (List.mem_cons_self ..) List.not_mem_nil hg hb (fun x hx => ?_) (List.Pairwise.cons hnd.1 hnd.2)
  rcases List.mem_cons.1 hx with rfl | hx
  · exact .inl rfl
  · exact .inr ⟨List.mem_cons_of_mem _ hx, fun e => hnd.1 x hx e.symm⟩
theorem Kept.put2 {x : Nat × TypeId × List Value} {g : Nat} {T : TypeId} {cs cs' : List Value} (h : Kept TS [] w0 B sb m (x :: (g, T, cs) :: L) X w) (hb : Blk w' g T cs') (hg : w.grownBy w' (some g)) : Kept TS [] w0 B sb m (x :: (g, T, cs') :: L) X w' := by
  have hnd := List.pairwise_cons.1 h.nd
  have hnd2 := List.pairwise_cons.1 hnd.2
  have hx1 : x.1 ≠ g := hnd.1 _ (List.mem_cons_self ..)
  refine h.stored (g := g) (List.mem_cons_of_mem _ (List.mem_cons_self ..)) List.not_mem_nil hg hb (fun y hy => ?_) (List.Pairwise.cons (fun y hy => ?_) (List.Pairwise.cons hnd2.1 hnd2.2))
  · rcases List.mem_cons.1 hy with rfl | hy
    · exact .inr ⟨List.mem_cons_self .., hx1⟩
    · rcases List.mem_cons.1 hy with rfl | hy
      · exact .inl rfl
      · exact .inr ⟨List.mem_cons_of_mem _ (List.mem_cons_of_mem _ hy), fun e => hnd2.1 y hy e.symm⟩
  · rcases List.mem_cons.1 hy with rfl | hy
    · exact hx1
    · exact hnd.1 y (List.mem_cons_of_mem _ hy)
end

/-- The cells of a leg block begin with the legs l. -/
def Fit (cs : List Value) (n : Nat) (l : List Lg) : Prop := n * 9 ≤ cs.length ∧ cs.take (n * 9) = l.flatMap lgEnc ∧ l.length = n
theorem Fit.get {cs : List Value} {n j r : Nat} {l : List Lg} {x : Lg} {v : Value} (h : Fit cs n l) (hx : l[j]? = some x) (hv : (lgEnc x)[r]? = some v) : cs[j * 9 + r]? = some v := by
  have := flat_get lgEnc 9 lg_len l j x hx r v hv
  rw [← h.2.1, List.getElem?_take] at this
  split at this
  · exact this
  · cases this
theorem Fit.splice {cs : List Value} {n j r : Nat} {l : List Lg} {x y : Lg} {vs : List Value} (h : Fit cs n l) (hx : l[j]? = some x) (hy : lgEnc y = splice (lgEnc x) r vs) (hr : r + vs.length ≤ 9) : Fit (Go.Proofs.YtmpomocahgcebaaDoor.splice cs (j * 9 + r) vs) n (l.set j y) := by
  have hj : j < n := by have := (List.getElem?_eq_some_iff.1 hx).1; have := h.2.2; omega
  have h1 := h.1
  refine ⟨by rw [splice_length _ _ _ (by omega)]; exact h1, ?_, by rw [List.length_set]; exact h.2.2⟩
  rw [take_splice _ _ _ _ (by omega) h1, h.2.1]
  exact flat_set lgEnc 9 lg_len hy hr l j hx
theorem set_splice (cs : List Value) (i : Nat) (v : Value) (hi : i < cs.length) : cs.set i v = splice cs i [v] := by
  simp [splice, List.set_eq_take_append_cons_drop, hi]
theorem Fit.set_ {cs : List Value} {n j r : Nat} {l : List Lg} {x y : Lg} {v : Value} (h : Fit cs n l) (hx : l[j]? = some x) (hy : lgEnc y = Go.Proofs.YtmpomocahgcebaaDoor.splice (lgEnc x) r [v]) (hr : r < 9) : Fit (cs.set (j * 9 + r) v) n (l.set j y) := by
  have hj : j < n := by have := (List.getElem?_eq_some_iff.1 hx).1; have := h.2.2; omega
  rw [set_splice _ _ _ (by have := h.1; omega)]
  exact h.splice hx hy (by simp; omega)
theorem Fit.slt {cs : List Value} {n : Nat} {l : List Lg} {w : World} {g : Nat} (h : Fit cs n l) (hb : Blk w g 100 cs) : SlT lgEnc 9 100 w (some ⟨g, 0, none⟩) n l := by
  refine ⟨h.2.2, fun _ => ⟨g, 0, cs.toArray, _, rfl, hb, fun i x hx j v hv => ?_⟩⟩
  rw [Nat.zero_add, List.getElem?_toArray]
  exact h.get hx hv
/-- The leg block is let go: what lasts is that the legs lie there. -/
theorem Kept.legs {TS : TypeId} {w0 w : World} {B sb m g n : Nat} {cs : List Value} {L : List (Nat × TypeId × List Value)} {X : World → Prop} {l : List Lg} (h : Kept TS [] w0 B sb m ((g, 100, cs) :: L) X w) (hf : Fit cs n l) (ht : TS ∉ [100]) :
    Kept TS [100] w0 B sb m L (fun w => SlT lgEnc 9 100 w (some ⟨g, 0, none⟩) n l) w :=
  ⟨h.s, h.g, fun x hx => h.b x (List.mem_cons_of_mem _ hx), (List.pairwise_cons.1 h.nd).2, ht, SlT.lasts (List.mem_singleton.2 rfl), hf.slt (h.blk (List.mem_cons_self ..))⟩
theorem legs_set {l : List Lg} {j : Nat} {y : Lg} (h : ∀ g ∈ l, LgOk g) (hy : LgOk y) : ∀ g ∈ l.set j y, LgOk g := fun g hg => by
  rcases List.mem_or_eq_of_mem_set hg with h1 | rfl
  · exact h g h1
  · exact hy

end Go.Proofs.YtmpomocahgcebaaDoor
