/- The walks of the reference's LateOf, and of hire.checkClosed, Km, Missing. -/
import Derived.Test.YtljnekobfjpfaaaDoorKs
import Derived.Test.YtljnekobfjpfaaaDoorBl
namespace Go.Proofs.YtljnekobfjpfaaaDoor
open Go.RowKit

/-- How many rounds a loop by steps of u takes to n. -/
theorem rounds_end {n u k : Int} (hu : 0 < u) (h1 : n ≤ u * k) (h2 : k = 0 ∨ u * (k - 1) < n) (h0 : 0 ≤ n) : k = (n + u - 1) / u := by
  have h3 : u * (k - 1) = u * k - u := by rw [Int.mul_sub, Int.mul_one]
  rcases h2 with rfl | h2
  · have : n = 0 := by simp at h1; omega
    subst this
    rw [Int.zero_add]
    exact (Int.ediv_eq_zero_of_lt (by omega) (by omega)).symm
  · symm
    have e : (n + u - 1) = u * k + (n + u - 1 - u * k) := by omega
    rw [e, Int.mul_comm u k, Int.add_comm, Int.add_mul_ediv_right _ _ (by omega), Int.mul_comm k u, Int.ediv_eq_zero_of_lt (by omega) (by omega)]
    omega

set_option maxRecDepth 100000 in
set_option maxHeartbeats 2000000 in
theorem lateOf_any (d : Dl) (key driver : ByteArray) (fr to_ : Int) (l : List Lg) (A : Option Addr) (n c : Nat) (w : World) (hl : SlT lgEnc 9 138 w A n l) (hn0 : 0 < n) (hn : n ≤ 1000)
    (hat : ∀ g, l[n - 1]? = some g → 0 ≤ g.inn.at_ ∧ g.inn.at_ ≤ 5761439) (hto : 0 ≤ to_ ∧ to_ ≤ 5761439) (hh : 0 ≤ d.hour ∧ d.hour ≤ 1000000) (hd : 0 ≤ d.day ∧ d.day ≤ 1000000) :
    Calls Tryd.prog 80 #[.agg (dlCells d).toArray, .agg #[.string key, .string driver, .int .i64 fr, .int .i64 to_, .slice A n c]] w (RetII w (lateN to_ l) (lateC d.grace d.hour d.day (lateN to_ l))) := by
  have hlen := hl.len
  obtain ⟨g, hg⟩ : ∃ g, l[n - 1]? = some g := ⟨_, List.getElem?_eq_getElem (by omega)⟩
  obtain ⟨b, off, rfl, hbl, hrg⟩ := hl.get hn0
  have hga := hat g hg
  have HN := Lib.hid (show lateN to_ l = max 0 (g.inn.at_ - to_) by unfold lateN; rw [hlen, hg])
  obtain ⟨veh, ⟨a1, s1, m1, f1⟩, ⟨a2, s2, m2, f2⟩⟩ := g
  obtain ⟨da, db, dc, dd, df, dg, dh⟩ := d
  have hr0 := hrg (n - 1) _ hg
  have hc : w.cell? ⟨b, off + (n - 1) * 9 + 5, none⟩ = some (.int .i64 a2) := hr0 5 _ rfl
  have hc2 := fun o o' => (World.cell?_of_block (a := ⟨b, off + (n - 1) * 9 + 5, none⟩) ((Below.heap_alloc (w.alloc o) o' b (by simp; omega)).trans (Below.heap_alloc w o b hbl))).trans hc
  have hki : (n : Int) - 1 = ((n - 1 : Nat) : Int) := by omega
  have hk1 : (n : Int) - 1 < (n : Int) := by omega
  have ha0 : 0 ≤ a2 := hga.1
  have ha1 : a2 ≤ 5761439 := hga.2
  have ht0 := hto.1
  have ht1 := hto.2
  have hf0 : 0 ≤ df := hh.1
  have hf1 : df ≤ 1000000 := hh.2
  have hg0 : 0 ≤ dg := hd.1
  have hg1 : dg ≤ 1000000 := hd.2
  clear hr0 hrg hc hg hlen hl hat hga hto hh hd
  have w1 : IntKind.i64.wrap ((n - 1 : Nat) : Int) = ((n - 1 : Nat) : Int) := IntWalk.i64_in _ (by omega)
  have w2 : IntKind.i64.wrap (a2 - to_) = a2 - to_ := IntWalk.i64_in _ (by omega)
  have hix : ((n - 1 : Nat) : Int) < (n : Int) := by omega
  have hix2 : n - 1 < n := by omega
  show Calls Tryd.prog 80 #[.agg #[.int .i64 da, .int .i64 db, .int .i64 dc, .int .i64 dd, .int .i64 df, .int .i64 dg, .int .i64 dh], .agg #[.string key, .string driver, .int .i64 fr, .int .i64 to_, .slice (some ⟨b, off, none⟩) n c]] w _
  obtain ⟨N, hN⟩ : ∃ N, N = lateN to_ l := ⟨_, rfl⟩
  obtain ⟨V, hV⟩ : ∃ V, V = lateC dd df dg N := ⟨_, rfl⟩
  show Calls Tryd.prog _ _ w (RetII w (lateN to_ l) (lateC dd df dg (lateN to_ l)))
  rw [← hN, ← hV]
  have HN2 := Lib.hid (hN.trans HN.out)
  have HV := Lib.hid hV
  clear hN hV
  go_enter Tryd.func80, Tryd.ntmps80
  go_wp2_with fail
  go_upto_region 1 with fail
  refine wp_region_still_tail 14 (by kernel_rfl) (by kernel_rfl) ?_
  change wpStill _ _ (World.drew _) _ _ _
  simp only [List.take_succ_cons, List.take_zero, List.drop_succ_cons, List.drop_zero]
  repeat still_step
  refine wpStill_nil ?_
  change wpList _ _ _ _ _ (World.drew _)
  have hn0' : 0 ≤ N := by have := HN2.out; omega
  have hn1' : N ≤ 5761439 := by have := HN2.out; omega
  go_upto_region 2 with fail

  rw [← HN2.out]
  by_cases hle : N ≤ dd
  · have HV0 := Lib.hid (show V = 0 by rw [HV.out]; unfold lateC; rw [if_pos hle])
    go_wp2_with fail
    go_ret2
    exact ⟨ret_ie rfl HV0.out.symm, grow_drew (grow_alloc (grow_alloc (World.grownBy.refl _ _) _) _)⟩
  · have HV0 := Lib.hid (show V = min (df * ((N + 60 - 1) / 60)) (dg * ((N + 1440 - 1) / 1440)) by rw [HV.out]; unfold lateC; rw [if_neg hle])
    go_wp2_with fail
    go_loop [7, 9] (fun s i => ∃ k S : Int, 0 ≤ k ∧ k ≤ 100000 ∧ S = df * k ∧ 0 ≤ S ∧ S ≤ 1000000 * k ∧ (k = 0 ∨ 60 * (k - 1) < N) ∧ i = .int .i64 (60 * k) ∧ s = .int .i64 S) (fun _ i => (N + 60 - intOf i).toNat)
    case atStart => exact ⟨0, 0, by omega, by omega, by omega, by omega, by omega, .inl rfl, rfl, rfl⟩
    case round =>
      obtain ⟨k, S, hk0, hk1, hS, hS0, hS1, hkN, rfl, rfl⟩ := hrel
      have HS := Lib.hid hS
      have HkN := Lib.hid hkN
      clear hS hkN
      by_cases hlt : 60 * k < N
      · have hS2 := Lib.hid (show S + df = df * (k + 1) by rw [HS.out, Int.mul_add, Int.mul_one])
        go_wp2_with fail
        go_round
        case rel => exact ⟨k + 1, S + df, by omega, by omega, hS2.out, by omega, by omega, .inr (by omega), by rw [show 60 * k + 60 = 60 * (k + 1) by omega], rfl⟩
        case measure => simp [intOf]; omega
      · have hk := rounds_end (by omega) (show N ≤ 60 * k by omega) HkN.out (by omega)
        have HS2 := Lib.hid (show S = df * ((N + 60 - 1) / 60) by rw [HS.out, ← hk])
        clear hk
        go_wp2_with fail
        go_loop [8, 10] (fun s i => ∃ j D : Int, 0 ≤ j ∧ j ≤ 100000 ∧ D = dg * j ∧ 0 ≤ D ∧ D ≤ 1000000 * j ∧ (j = 0 ∨ 1440 * (j - 1) < N) ∧ i = .int .i64 (1440 * j) ∧ s = .int .i64 D) (fun _ i => (N + 1440 - intOf i).toNat)
        case atStart => exact ⟨0, 0, by omega, by omega, by omega, by omega, by omega, .inl rfl, rfl, rfl⟩
        case round =>
          obtain ⟨j, D, hj0, hj1, hD, hD0, hD1, hjN, rfl, rfl⟩ := hrel
          have HD := Lib.hid hD
          have HjN := Lib.hid hjN
          clear hD hjN
          by_cases hlt2 : 1440 * j < N
          · have hD2 := Lib.hid (show D + dg = dg * (j + 1) by rw [HD.out, Int.mul_add, Int.mul_one])
            go_wp2_with fail
            go_round
            case rel => exact ⟨j + 1, D + dg, by omega, by omega, hD2.out, by omega, by omega, .inr (by omega), by rw [show 1440 * j + 1440 = 1440 * (j + 1) by omega], rfl⟩
            case measure => simp [intOf]; omega
          · have hj := rounds_end (by omega) (show N ≤ 1440 * j by omega) HjN.out (by omega)
            have HV1 := Lib.hid (show V = min S D by rw [HV0.out, HS2.out, HD.out, ← hj])
            clear hj
            go_wp2_with fail
            all_goals
              go_ret2
              exact ⟨ret_ie rfl (by rw [HV1.out]), grow_drew (grow_alloc (grow_alloc (World.grownBy.refl _ _) _) _)⟩

def closedE (h : Hr) : Int := if hireE h = 0 then whenE (openB h.legs) 11 else hireE h
theorem closedE_ok {h : Hr} (hc : closedE h = 0) : hireE h = 0 ∧ openB h.legs = false := by
  unfold closedE at hc
  by_cases h0 : hireE h = 0
  · rw [if_pos h0] at hc
    refine ⟨h0, ?_⟩
    cases ho : openB h.legs with
    | false => rfl
    | true => rw [ho] at hc; cases hc
  · rw [if_neg h0] at hc; exact absurd hc h0

set_option maxRecDepth 100000 in
set_option maxHeartbeats 1000000 in
theorem checkClosed_any (key driver : ByteArray) (fr to_ : Int) (l : List Lg) (A : Option Addr) (n c : Nat) (w : World) (hl : SlT lgEnc 9 138 w A n l) (hok : HrOk key driver l) (hn : n ≤ 1000) :
    Calls Tryd.prog 129 #[.agg #[.string key, .string driver, .int .i64 fr, .int .i64 to_, .slice A n c]] w (GotE w (closedE ⟨key, driver, fr, to_, l⟩)) := by
  obtain ⟨C, hC⟩ : ∃ C, C = closedE ⟨key, driver, fr, to_, l⟩ := ⟨_, rfl⟩
  obtain ⟨E, hE⟩ : ∃ E, hireE ⟨key, driver, fr, to_, l⟩ = E := ⟨_, rfl⟩
  have HCE := Lib.hid (show C = if E = 0 then whenE (openB l) 11 else E by rw [hC, ← hE]; rfl)
  have HL := Lib.hid (show E = 0 → 0 < n from fun h => by have := (hireE_legs (hE.trans h)).1; have := hl.len; simp at *; omega)
  have CE := Lib.hid (fun w hl => (by rw [← hE]; exact check_any key driver fr to_ l A n c w hl hok (by omega) : Calls Tryd.prog 59 #[.agg #[.string key, .string driver, .int .i64 fr, .int .i64 to_, .slice A n c]] w (GotE w E)))
  rw [← hC]
  clear hC hE hok
  go_enter Tryd.func129, Tryd.ntmps129
  go_wp2_with fail
  refine (CE.out _ (hl.alloc _)).mono ?_
  rintro e w1 ⟨rfl, hg1⟩
  have hb1 := (Blk.at_ w rfl 36 [.string key, .string driver, .int .i64 fr, .int .i64 to_, .slice A n c]).grown hg1 (by simp)
  have hw1 := grow_trans (grow_alloc (World.grownBy.refl w none) _) hg1
  have hl1 := (hl.alloc (.cells #[.string key, .string driver, .int .i64 fr, .int .i64 to_, .slice A n c] 36)).grow0 hg1
  clear hg1 hl
  by_cases h0 : E = 0
  · have hn0 := HL.out h0
    have HF := Lib.hid (show C = whenE (openB l) 11 by rw [HCE.out, if_pos h0])
    subst h0
    go_wp2_with (with_reducible refine wpList_load_all rfl 36 (.tmp 1) rfl w.heap.size _ _ _ hb1 rfl Tryd.underlying36 rfl 5 info_hr rfl ?_)
    refine (open_any key driver fr to_ l A n c w1 hl1 hn0 (by omega)).mono ?_
    rintro e w2 ⟨rfl, hg2⟩
    obtain ⟨O, hO⟩ : ∃ O, openB l = O := ⟨_, rfl⟩
    rw [hO] at HF ⊢
    clear hO
    go_wp2_with fail
    refine (when_any _ _ _).mono ?_
    rintro e w3 ⟨rfl, rfl⟩
    go_wp2_with fail
    go_ret
    exact ⟨ret_int HF.out.symm, grow_trans hw1 hg2⟩
  · have hne : (E != 0) = true := by simpa using h0
    have HF := Lib.hid (show C = E by rw [HCE.out, if_neg h0])
    clear h0
    go_wp2_with fail
    go_ret
    exact ⟨ret_int HF.out.symm, hw1⟩

set_option maxRecDepth 100000 in
set_option maxHeartbeats 1000000 in
theorem kmF_any (key driver : ByteArray) (fr to_ : Int) (l : List Lg) (A : Option Addr) (n c : Nat) (w : World) (hl : SlT lgEnc 9 138 w A n l) (hok : HrOk key driver l) (hn : n ≤ 1000) :
    Calls Tryd.prog 75 #[.agg #[.string key, .string driver, .int .i64 fr, .int .i64 to_, .slice A n c]] w (RetIE w (if closedE ⟨key, driver, fr, to_, l⟩ = 0 then sumBy kmOf l else 0) (closedE ⟨key, driver, fr, to_, l⟩)) := by
  obtain ⟨C, hC⟩ : ∃ C, closedE ⟨key, driver, fr, to_, l⟩ = C := ⟨_, rfl⟩
  obtain ⟨V, hV⟩ : ∃ V, V = if C = 0 then sumBy kmOf l else 0 := ⟨_, rfl⟩
  have HV := Lib.hid hV
  have HN := Lib.hid (show C = 0 → ∀ g ∈ l, LgNum g from fun h g hg => (closed_num (closedE_ok (hC.trans h)).1 (closedE_ok (hC.trans h)).2 g hg).1)
  have CE := Lib.hid (fun w hl => (by rw [← hC]; exact checkClosed_any key driver fr to_ l A n c w hl hok hn : Calls Tryd.prog 129 #[.agg #[.string key, .string driver, .int .i64 fr, .int .i64 to_, .slice A n c]] w (GotE w C)))
  rw [hC, ← hV]
  clear hC hV hok
  go_enter Tryd.func75, Tryd.ntmps75
  go_wp2_with fail
  refine (CE.out _ (hl.alloc _)).mono ?_
  rintro e w1 ⟨rfl, hg1⟩
  have hb1 := (Blk.at_ w rfl 36 [.string key, .string driver, .int .i64 fr, .int .i64 to_, .slice A n c]).grown hg1 (by simp)
  have hw1 := grow_trans (grow_alloc (World.grownBy.refl w none) _) hg1
  have hl1 := (hl.alloc (.cells #[.string key, .string driver, .int .i64 fr, .int .i64 to_, .slice A n c] 36)).grow0 hg1
  clear hg1 hl
  by_cases h0 : C = 0
  · have HNum := Lib.hid (HN.out h0)
    have HF := Lib.hid (show V = sumBy kmOf l by rw [HV.out, if_pos h0])
    subst h0
    go_wp2_with (with_reducible refine wpList_load_all rfl 36 (.tmp 1) rfl w.heap.size _ _ _ hb1 rfl Tryd.underlying36 rfl 5 info_hr rfl ?_)
    refine (km_any key driver fr to_ l A n c w1 hl1 HNum.out hn).mono ?_
    rintro e w2 ⟨rfl, hg2⟩
    go_wp2_with fail
    go_ret2
    exact ⟨ret_ie HF.out.symm rfl, grow_trans hw1 hg2⟩
  · have hne : (C != 0) = true := by simpa using h0
    have HF := Lib.hid (show V = 0 by rw [HV.out, if_neg h0])
    clear h0
    go_wp2_with fail
    go_ret2
    exact ⟨ret_ie HF.out.symm rfl, hw1⟩

set_option maxRecDepth 100000 in
set_option maxHeartbeats 1000000 in
theorem missingF_any (key driver : ByteArray) (fr to_ : Int) (l : List Lg) (A : Option Addr) (n c : Nat) (w : World) (hl : SlT lgEnc 9 138 w A n l) (hok : HrOk key driver l) (hn : n ≤ 1000) :
    Calls Tryd.prog 76 #[.agg #[.string key, .string driver, .int .i64 fr, .int .i64 to_, .slice A n c]] w (RetIE w (if closedE ⟨key, driver, fr, to_, l⟩ = 0 then sumBy missOf l else 0) (closedE ⟨key, driver, fr, to_, l⟩)) := by
  obtain ⟨C, hC⟩ : ∃ C, closedE ⟨key, driver, fr, to_, l⟩ = C := ⟨_, rfl⟩
  obtain ⟨V, hV⟩ : ∃ V, V = if C = 0 then sumBy missOf l else 0 := ⟨_, rfl⟩
  have HV := Lib.hid hV
  have HN := Lib.hid (show C = 0 → ∀ g ∈ l, LgNum g from fun h g hg => (closed_num (closedE_ok (hC.trans h)).1 (closedE_ok (hC.trans h)).2 g hg).1)
  have CE := Lib.hid (fun w hl => (by rw [← hC]; exact checkClosed_any key driver fr to_ l A n c w hl hok hn : Calls Tryd.prog 129 #[.agg #[.string key, .string driver, .int .i64 fr, .int .i64 to_, .slice A n c]] w (GotE w C)))
  rw [hC, ← hV]
  clear hC hV hok
  go_enter Tryd.func76, Tryd.ntmps76
  go_wp2_with fail
  refine (CE.out _ (hl.alloc _)).mono ?_
  rintro e w1 ⟨rfl, hg1⟩
  have hb1 := (Blk.at_ w rfl 36 [.string key, .string driver, .int .i64 fr, .int .i64 to_, .slice A n c]).grown hg1 (by simp)
  have hw1 := grow_trans (grow_alloc (World.grownBy.refl w none) _) hg1
  have hl1 := (hl.alloc (.cells #[.string key, .string driver, .int .i64 fr, .int .i64 to_, .slice A n c] 36)).grow0 hg1
  clear hg1 hl
  by_cases h0 : C = 0
  · have HNum := Lib.hid (HN.out h0)
    have HF := Lib.hid (show V = sumBy missOf l by rw [HV.out, if_pos h0])
    subst h0
    go_wp2_with (with_reducible refine wpList_load_all rfl 36 (.tmp 1) rfl w.heap.size _ _ _ hb1 rfl Tryd.underlying36 rfl 5 info_hr rfl ?_)
    refine (missing_any key driver fr to_ l A n c w1 hl1 HNum.out hn).mono ?_
    rintro e w2 ⟨rfl, hg2⟩
    go_wp2_with fail
    go_ret2
    exact ⟨ret_ie HF.out.symm rfl, grow_trans hw1 hg2⟩
  · have hne : (C != 0) = true := by simpa using h0
    have HF := Lib.hid (show V = 0 by rw [HV.out, if_neg h0])
    clear h0
    go_wp2_with fail
    go_ret2
    exact ⟨ret_ie HF.out.symm rfl, hw1⟩

end Go.Proofs.YtljnekobfjpfaaaDoor
