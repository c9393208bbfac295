/- The walk of the reference's HireFault. -/
import Derived.Test.YtljnekobfjpfaaaDoorRl
import Derived.Test.YtljnekobfjpfaaaDoorHe
namespace Go.Proofs.YtljnekobfjpfaaaDoor
open Go.RowKit

theorem firstE5 (T : Int) : firstE [5, T] = 5 := rfl

set_option maxRecDepth 100000 in
set_option maxHeartbeats 2000000 in
theorem hireFault_any (key driver : ByteArray) (fr to_ : Int) (l : List Lg) (A : Option Addr) (n c : Nat) (w : World) (hl : SlT lgEnc 9 138 w A n l) (hok : HrOk key driver l) (hn : n ≤ 1000000) :
    Calls Tryd.prog 56 #[.agg #[.string key, .string driver, .int .i64 fr, .int .i64 to_, .slice A n c]] w (GotE w (hireE ⟨key, driver, fr, to_, l⟩)) := by
  obtain ⟨K, hK⟩ : ∃ K, keyB key = K := ⟨_, rfl⟩
  obtain ⟨D, hD⟩ : ∃ D, keyB driver = D := ⟨_, rfl⟩
  obtain ⟨T, hT⟩ : ∃ T, timeE fr to_ = T := ⟨_, rfl⟩
  have HS1 := Lib.hid (fun (h : firstE [whenE (!K || !D) 5, T] ≠ 0) => hireE_stop (l := l) (key := key) (driver := driver) (fr := fr) (to_ := to_) (e := firstE [whenE (!K || !D) 5, T]) (by rw [hK, hD, hT]) h)
  have HP1 := Lib.hid (fun (h : firstE [whenE (!K || !D) 5, T] = 0) => hireE_pass (l := l) (key := key) (driver := driver) (fr := fr) (to_ := to_) (by rw [hK, hD, hT]; exact h.symm))
  have Hl := Lib.hid hl.len
  have CK := Lib.hid (fun w => (by rw [← hK]; exact key_any _ _ (by have := hok.1; omega) : Calls Tryd.prog 102 #[.string key] w fun e w' => e = .returned (.bool K) ∧ w.grownBy w' none))
  have CD := Lib.hid (fun w => (by rw [← hD]; exact key_any _ _ (by have := hok.2.1; omega) : Calls Tryd.prog 102 #[.string driver] w fun e w' => e = .returned (.bool D) ∧ w.grownBy w' none))
  have CT := Lib.hid (fun w => (by rw [← hT]; exact timeFault_any _ _ _ : Calls Tryd.prog 52 #[.agg #[.int .i64 fr, .int .i64 to_]] w (GotE w T)))
  have Hok := Lib.hid hok.2.2
  obtain ⟨R, hR⟩ : ∃ R, R = hireE ⟨key, driver, fr, to_, l⟩ := ⟨_, rfl⟩
  rw [← hR] at HS1 HP1 ⊢
  clear hK hD hT hR hok
  go_enter Tryd.func56, Tryd.ntmps56
  go_wp2_with fail
  refine (CK.out _).mono ?_
  rintro e w0 ⟨rfl, hg0⟩
  have hb : Blk w0 w.heap.size 36 [.string key, .string driver, .int .i64 fr, .int .i64 to_, .slice A n c] := (Blk.at_ w rfl _ _).grown hg0 (by simp)
  have hgw : w.grownBy w0 none := grow_trans (grow_alloc (World.grownBy.refl _ _) _) hg0
  clear hg0
  cases K
  · have HF := Lib.hid (HS1.out (by show firstE [5, T] ≠ 0; rw [firstE5]; decide))
    go_wp2_with fail
    go_ret
    exact ⟨ret_int (by rw [HF.out]; rfl), hgw⟩
  have k1 := hb.cell_of (i := 1) (v := .string driver) rfl
  go_wp2_with fail
  refine (CD.out _).mono ?_
  rintro e w00 ⟨rfl, hg0⟩
  have hb := hb.grown hg0 (by simp)
  have hgw := grow_trans hgw hg0
  clear hg0 k1
  cases D
  · have HF := Lib.hid (HS1.out (by show firstE [5, T] ≠ 0; rw [firstE5]; decide))
    go_wp2_with fail
    go_ret
    exact ⟨ret_int (by rw [HF.out]; rfl), hgw⟩
  have k2 := hb.cell_of (i := 2) (v := .int .i64 fr) rfl
  have k3 := hb.cell_of (i := 3) (v := .int .i64 to_) rfl
  go_wp2_with fail
  refine (CT.out _).mono ?_
  rintro e w1 ⟨rfl, hg0⟩
  have hb := hb.grown hg0 (by simp)
  have hgw := grow_trans hgw hg0
  clear hg0 k2 k3
  by_cases h0 : T = 0
  · subst h0
    have HP := Lib.hid (HP1.out rfl)
    have k4 := hb.cell_of (i := 4) (v := .slice A n c) rfl
    by_cases hn0 : n = 0
    · have hq : ((n : Int) == 0) = true := by simpa using hn0
      have HF := Lib.hid (show R = 3 by rw [HP.out, if_pos (by rw [Hl.out]; exact hn0)])
      clear hn0
      go_wp2_with fail
      go_ret
      exact ⟨ret_int HF.out.symm, hgw⟩
    · have hq : ((n : Int) == 0) = false := by simpa using hn0
      by_cases h20 : 20 < n
      · have hq2 : decide ((20 : Int) < (n : Int)) = true := by simp; omega
        have hq3 : decide (20 < n) = true := by simpa using h20
        have HF := Lib.hid (show R = 2 by rw [HP.out, if_neg (by rw [Hl.out]; exact hn0), if_pos (by rw [Hl.out]; exact h20)])
        clear hn0
        go_wp2_with fail
        go_ret
        exact ⟨ret_int HF.out.symm, hgw⟩
      · have hq2 : decide ((20 : Int) < (n : Int)) = false := by simp; omega
        have hq3 : decide (20 < n) = false := by simpa using h20
        have HF := Lib.hid (show R = legsE fr l (l.length - 0) by rw [HP.out, if_neg (by rw [Hl.out]; exact hn0), if_neg (by rw [Hl.out]; exact h20)]; rfl)
        clear hn0 HP
        have hn20 : n ≤ 20 := by omega
        go_wp2_with fail
        go_loopw [35] (fun i wr => ∃ k : Nat, k ≤ n ∧ i = .int .i64 k ∧ R = legsE fr l (l.length - k) ∧ w1.grownBy wr none) (fun i _ => n - (intOf i).toNat)
        case atStart => exact ⟨0, Nat.zero_le _, rfl, HF.out, World.grownBy.refl _ _⟩
        case round =>
          obtain ⟨k, hk, rfl, hE, hgr⟩ := hrel
          have HE := Lib.hid hE; clear hE
          by_cases hlt : k < n
          · have hlr := hl.grow0 (grow_trans hgw hgr)
            obtain ⟨g, hg⟩ : ∃ g, l[k]? = some g := ⟨_, List.getElem?_eq_getElem (by have := Hl.out; omega)⟩
            have hat := legs_at (fr := fr) hg
            obtain ⟨E, hEE⟩ : ∃ E, E = legE fr (prevOf l k) (decide (k + 1 = n)) g := ⟨_, rfl⟩
            rw [Hl.out, ← hEE] at hat
            rw [Hl.out] at HE
            have Hat := Lib.hid hat; clear hat
            have HEE := Lib.hid hEE; clear hEE
            have hbr := hb.grown hgr (by simp)
            have c0 := hbr.cell_of (i := 0) (v := .string key) rfl
            have c1 := hbr.cell_of (i := 1) (v := .string driver) rfl
            have c2 := hbr.cell_of (i := 2) (v := .int .i64 fr) rfl
            have c3 := hbr.cell_of (i := 3) (v := .int .i64 to_) rfl
            have c4 := hbr.cell_of (i := 4) (v := .slice A n c) rfl
            have Hg := Lib.hid hg
            clear hg
            go_wp2_with fail
            refine (legFault_any key driver fr to_ l A n c k g wr hlr Hg.out Hok.out hn).mono ?_
            rintro e w2 ⟨rfl, hg2⟩
            rw [← HEE.out]
            by_cases hE0 : E = 0
            · have HN := Lib.hid (show R = legsE fr l (n - (k + 1)) by rw [HE.out, Hat.out, if_pos hE0])
              subst hE0
              go_wp2_with fail
              go_roundw
              case rel => exact ⟨k + 1, by omega, by go_num, by rw [HN.out, Hl.out], grow_trans hgr hg2⟩
              case measure => simp [intOf]; omega
            · have hne : (E != 0) = true := by simpa using hE0
              have HN := Lib.hid (show R = E by rw [HE.out, Hat.out, if_neg hE0])
              clear hE0
              go_wp2_with fail
              go_ret
              exact ⟨ret_int HN.out.symm, grow_trans hgw (grow_trans hgr hg2)⟩
          · have HN := Lib.hid (show R = 0 by rw [HE.out, Hl.out, show n - k = 0 by omega]; rfl)
            go_wp2_with fail
            go_ret
            exact ⟨ret_int HN.out.symm, grow_trans hgw hgr⟩
  · have hne : (T != 0) = true := by simpa using h0
    have HF := Lib.hid (HS1.out (by rw [show whenE (!true || !true) 5 = 0 from rfl, firstE_zero]; exact h0))
    have HF2 := Lib.hid (show R = T by rw [HF.out, show whenE (!true || !true) 5 = 0 from rfl, firstE_zero])
    clear h0
    go_wp2_with fail
    go_ret
    exact ⟨ret_int HF2.out.symm, hgw⟩

end Go.Proofs.YtljnekobfjpfaaaDoor
