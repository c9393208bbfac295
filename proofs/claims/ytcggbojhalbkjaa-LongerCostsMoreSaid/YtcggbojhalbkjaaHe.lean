/- The walks of hire.Check, hire.made, hire.Start. -/
import Derived.Test.YtcggbojhalbkjaaHd
import Derived.Deep.RegionHeld3
namespace Go.Proofs.Ytcggbojhalbkjaa
open Go.RowKit

theorem legs_at {fr : Int} {l : List Lg} {k : Nat} {g : Lg} (h : l[k]? = some g) :
    legsE fr l (l.length - k) = if legE fr (prevOf l k) (decide (k + 1 = l.length)) g = 0 then legsE fr l (l.length - (k + 1)) else legE fr (prevOf l k) (decide (k + 1 = l.length)) g := by
  have hk := (List.getElem?_eq_some_iff.1 h).1
  obtain ⟨m, hm⟩ : ∃ m, l.length - k = m + 1 := ⟨l.length - k - 1, by omega⟩
  have hm2 : l.length - (k + 1) = m := by omega
  have hm3 : l.length - (m + 1) = k := by omega
  rw [hm, hm2]
  simp only [legsE, hm3, h]
  have : decide (m = 0) = decide (k + 1 = l.length) := by
    by_cases h : k + 1 = l.length <;> simp [h] <;> omega
  rw [this]

def HrOk (key driver : ByteArray) (l : List Lg) : Prop := key.size ≤ 1000000 ∧ driver.size ≤ 1000000 ∧ ∀ g ∈ l, LgOk g

theorem hireE_stop {key driver : ByteArray} {fr to_ : Int} {l : List Lg} {e : Int} (h : e = firstE [whenE (!keyB key || !keyB driver) 5, timeE fr to_]) (hne : e ≠ 0) : hireE ⟨key, driver, fr, to_, l⟩ = e := by
  unfold hireE
  simp only [firstE] at h ⊢
  split
  · rename_i h1
    rw [if_pos h1] at h
    split
    · rename_i h2
      rw [if_pos h2] at h
      exact absurd h hne
    · rename_i h2
      rw [if_neg h2] at h
      exact h.symm
  · rename_i h1
    rw [if_neg h1] at h
    exact h.symm
theorem firstE_pad (X : Int) : firstE [0, 0, X] = X := by
  show firstE [X] = X
  by_cases h : X = 0
  · rw [h]; rfl
  · simp [firstE, h]
theorem hireE_pass {key driver : ByteArray} {fr to_ : Int} {l : List Lg} (h : 0 = firstE [whenE (!keyB key || !keyB driver) 5, timeE fr to_]) : hireE ⟨key, driver, fr, to_, l⟩ = if l.length = 0 then 3 else if 20 < l.length then 2 else legsE fr l l.length := by
  have := firstE_two h.symm
  unfold hireE
  simp only [this.1, this.2]
  exact firstE_pad _
set_option maxRecDepth 100000 in
set_option maxHeartbeats 4000000 in
theorem check_any (key driver : ByteArray) (fr to_ : Int) (l : List Lg) (A : Option Addr) (n c : Nat) (w : World) (hl : SlT lgEnc 9 98 w A n l) (hok : HrOk key driver l) (hn : n ≤ 1000000) :
    Calls Try.prog 57 #[.agg #[.string key, .string driver, .int .i64 fr, .int .i64 to_, .slice A n c]] w (GotE w (hireE ⟨key, driver, fr, to_, l⟩)) := by
  obtain ⟨E1, hE1⟩ : ∃ E, E = firstE [whenE (!keyB key || !keyB driver) 5, timeE fr to_] := ⟨_, rfl⟩
  have Hstop := Lib.hid (fun (h : E1 ≠ 0) => hireE_stop (l := l) hE1 h)
  have Hpass := Lib.hid (fun (h : E1 = 0) => hireE_pass (l := l) (h.symm.trans hE1))
  have Hl := Lib.hid hl.len
  have cK : ∀ w, Calls Try.prog 31 #[.string key] w fun e w' => e = .returned (.bool (keyB key)) ∧ w' = w := fun w => flipw (isKey_any _ _ (by have := hok.1; omega))
  have cD : ∀ w, Calls Try.prog 31 #[.string driver] w fun e w' => e = .returned (.bool (keyB driver)) ∧ w' = w := fun w => flipw (isKey_any _ _ (by have := hok.2.1; omega))
  have Hok := Lib.hid hok.2.2
  generalize keyB key = K at cK hE1
  generalize keyB driver = D at cD hE1
  obtain ⟨R, hR⟩ : ∃ R, R = hireE ⟨key, driver, fr, to_, l⟩ := ⟨_, rfl⟩
  rw [← hR] at Hstop Hpass ⊢
  have CK := Lib.hid cK
  have CD := Lib.hid cD
  have HE1 := Lib.hid hE1
  clear cK cD hE1 hR hok
  obtain ⟨T, hT⟩ : ∃ T, T = timeE fr to_ := ⟨_, rfl⟩
  have cT : ∀ w, Calls Try.prog 32 #[.agg #[.int .i64 fr, .int .i64 to_]] w (GotE w T) := fun w => by rw [hT]; exact time_any _ _ _
  have CT := Lib.hid cT
  rw [← hT] at HE1
  clear cT hT
  go_enter Try.func57, Try.ntmps57
  go_wp2_with fail
  have hB : Blk (w.alloc (.cells #[.string key, .string driver, .int .i64 fr, .int .i64 to_, .slice A n c] 74)) w.heap.size 74 [.string key, .string driver, .int .i64 fr, .int .i64 to_, .slice A n c] := Blk.at_ w rfl _ _
  have k0 := hB.cell_of (i := 0) (v := .string key) rfl
  have k1 := hB.cell_of (i := 1) (v := .string driver) rfl
  have k2 := hB.cell_of (i := 2) (v := .int .i64 fr) rfl
  have k3 := hB.cell_of (i := 3) (v := .int .i64 to_) rfl
  go_upto_region 1 with fail
  go_cut [3] (fun v wx => v = .int .i64 E1 ∧ (w.alloc (.cells #[.string key, .string driver, .int .i64 fr, .int .i64 to_, .slice A n c] 74)).grownBy wx none)
  case first =>
    cases K
    · first | go_region_with (first
        | (go_at_call 32; refine (CT.out _).mono ?_; rintro e w4 ⟨rfl, hg4⟩)
        | (go_at_call 31; with_reducible refine (CK.out _).mono ?_; rintro e w3 ⟨rfl, rfl⟩)
        | (go_at_call 31; with_reducible refine (CD.out _).mono ?_; rintro e w3 ⟨rfl, rfl⟩)
        | (go_at_call 30; refine (when_any _ _ _).mono ?_; rintro e w5 ⟨rfl, rfl⟩)
        | (go_at_call 28; refine (first_any [whenE true 5, T] _ _ _ _ (Blk.at_ _ rfl _ _) (by simp)).mono ?_; rintro e w6 ⟨rfl, rfl⟩)) | fail
      all_goals
        go_wp2_with fail
        go_meet
        exact ⟨ret_val (by rw [HE1.out]; rfl), grow_alloc (grow_trans (grow_drew (World.grownBy.refl _ _)) hg4) _⟩
    · go_region_held3 (fun wx => wx.cell? ⟨w.heap.size, 0, none⟩ = some (.string key) ∧ wx.cell? ⟨w.heap.size, 1, none⟩ = some (.string driver) ∧ wx.cell? ⟨w.heap.size, 2, none⟩ = some (.int .i64 fr) ∧ wx.cell? ⟨w.heap.size, 3, none⟩ = some (.int .i64 to_))
        (first
          | exact ⟨k0, k1, k2, k3⟩
          | exact q4
          | exact q5 _)
        (first
          | (go_at_call 32; refine (CT.out _).mono ?_; rintro e w4 ⟨rfl, hg4⟩; have hb2 := (hB.drewN 1).grown hg4 (by simp); have q5 := fun o => And.intro ((hb2.alloc o).cell_of (i := 0) (v := .string key) rfl) (And.intro ((hb2.alloc o).cell_of (i := 1) (v := .string driver) rfl) (And.intro ((hb2.alloc o).cell_of (i := 2) (v := .int .i64 fr) rfl) ((hb2.alloc o).cell_of (i := 3) (v := .int .i64 to_) rfl))); have q4 := And.intro (hb2.cell_of (i := 0) (v := .string key) rfl) (And.intro (hb2.cell_of (i := 1) (v := .string driver) rfl) (And.intro (hb2.cell_of (i := 2) (v := .int .i64 fr) rfl) (hb2.cell_of (i := 3) (v := .int .i64 to_) rfl))))
          | (go_at_call 31; with_reducible refine (CK.out _).mono ?_; rintro e w3 ⟨rfl, rfl⟩)
          | (go_at_call 31; with_reducible refine (CD.out _).mono ?_; rintro e w3 ⟨rfl, rfl⟩)
          | (go_at_call 30; refine (when_any _ _ _).mono ?_; rintro e w5 ⟨rfl, rfl⟩)
          | (go_at_call 28; refine (first_any [whenE (!D) 5, T] _ _ _ _ (Blk.at_ _ rfl _ _) (by simp)).mono ?_; rintro e w6 ⟨rfl, rfl⟩))
      all_goals
        go_wp2_with fail
        go_meet
        exact ⟨ret_val (by rw [HE1.out]; rfl), grow_alloc (grow_trans (grow_drew (World.grownBy.refl _ _)) hg4) _⟩
  case rest =>
    obtain ⟨rfl, hg1⟩ := hcut
    obtain ⟨w1, hw1⟩ : ∃ w1 : World, w1 = wc := ⟨_, rfl⟩
    rw [← hw1] at hg1 ⊢
    clear hw1 k0 k1 k2 k3
    have hb := hB.grown hg1 (by simp)
    have hgw : w.grownBy w1 none := grow_trans (grow_alloc (World.grownBy.refl _ _) _) hg1
    clear hg1 hB
    by_cases h0 : E1 = 0
    · have HP := Lib.hid (Hpass.out h0)
      subst h0
      have k4 := hb.cell_of (i := 4) (v := .slice A n c) rfl
      by_cases hn0 : n = 0
      · have hq : ((n : Int) == 0) = true := by simpa using hn0
        have HF := Lib.hid (show R = 3 by rw [HP.out, if_pos (by rw [Hl.out]; exact hn0)])
        clear hn0
        go_wp2_with fail
        go_ret
        exact ⟨ret_int HF.out.symm, hgw⟩
      · have hq : ((n : Int) == 0) = false := by simpa using hn0
        by_cases h20 : 20 < n
        · have hq2 : decide ((20 : Int) < (n : Int)) = true := by simp; omega
          have hq3 : decide (20 < n) = true := by simpa using h20
          have HF := Lib.hid (show R = 2 by rw [HP.out, if_neg (by rw [Hl.out]; exact hn0), if_pos (by rw [Hl.out]; exact h20)])
          clear hn0
          go_wp2_with fail
          go_ret
          exact ⟨ret_int HF.out.symm, hgw⟩
        · have hq2 : decide ((20 : Int) < (n : Int)) = false := by simp; omega
          have hq3 : decide (20 < n) = false := by simpa using h20
          have HF := Lib.hid (show R = legsE fr l (l.length - 0) by rw [HP.out, if_neg (by rw [Hl.out]; exact hn0), if_neg (by rw [Hl.out]; exact h20)]; rfl)
          clear hn0 HP
          have hn20 : n ≤ 20 := by omega
          go_wp2_with fail
          go_loopw [38] (fun i wr => ∃ k : Nat, k ≤ n ∧ i = .int .i64 k ∧ R = legsE fr l (l.length - k) ∧ w1.grownBy wr none) (fun i _ => n - (intOf i).toNat)
          case atStart => exact ⟨0, Nat.zero_le _, rfl, HF.out, World.grownBy.refl _ _⟩
          case round =>
            obtain ⟨k, hk, rfl, hE, hgr⟩ := hrel
            have HE := Lib.hid hE; clear hE
            by_cases hlt : k < n
            · have hlr := hl.grow0 (grow_trans hgw hgr)
              obtain ⟨g, hg⟩ : ∃ g, l[k]? = some g := ⟨_, List.getElem?_eq_getElem (by have := Hl.out; omega)⟩
              have hat := legs_at (fr := fr) hg
              obtain ⟨E, hEE⟩ : ∃ E, E = legE fr (prevOf l k) (decide (k + 1 = n)) g := ⟨_, rfl⟩
              rw [Hl.out, ← hEE] at hat
              rw [Hl.out] at HE
              have Hat := Lib.hid hat; clear hat
              have HEE := Lib.hid hEE; clear hEE
              have hbr := hb.grown hgr (by simp)
              have c0 := hbr.cell_of (i := 0) (v := .string key) rfl
              have c1 := hbr.cell_of (i := 1) (v := .string driver) rfl
              have c2 := hbr.cell_of (i := 2) (v := .int .i64 fr) rfl
              have c3 := hbr.cell_of (i := 3) (v := .int .i64 to_) rfl
              have c4 := hbr.cell_of (i := 4) (v := .slice A n c) rfl
              have Hg := Lib.hid hg
              clear hg
              go_wp2_with fail
              refine (checkLeg_any key driver fr to_ l A n c k g wr hlr Hg.out Hok.out hn).mono ?_
              rintro e w2 ⟨rfl, hg2⟩
              rw [← HEE.out]
              by_cases hE0 : E = 0
              · have HN := Lib.hid (show R = legsE fr l (n - (k + 1)) by rw [HE.out, Hat.out, if_pos hE0])
                subst hE0
                go_wp2_with fail
                go_roundw
                case rel => exact ⟨k + 1, by omega, by go_num, by rw [HN.out, Hl.out], grow_trans hgr hg2⟩
                case measure => simp [intOf]; omega
              · have hne : (E != 0) = true := by simpa using hE0
                have HN := Lib.hid (show R = E by rw [HE.out, Hat.out, if_neg hE0])
                clear hE0
                go_wp2_with fail
                go_ret
                exact ⟨ret_int HN.out.symm, grow_trans hgw (grow_trans hgr hg2)⟩
            · have HN := Lib.hid (show R = 0 by rw [HE.out, Hl.out, show n - k = 0 by omega]; rfl)
              go_wp2_with fail
              go_ret
              exact ⟨ret_int HN.out.symm, grow_trans hgw hgr⟩
    · have hne : (E1 != 0) = true := by simpa using h0
      have HR := Lib.hid (Hstop.out h0)
      clear h0
      go_wp2_with fail
      go_ret
      exact ⟨ret_int HR.out.symm, hgw⟩

end Go.Proofs.Ytcggbojhalbkjaa
