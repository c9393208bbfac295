/- The walks of the reference's changed (by gen_changed.py). -/
import Derived.Test.YtljnekobfjpfaaaDoorRq
namespace Go.Proofs.YtljnekobfjpfaaaDoor
open Go.RowKit

/-- The error of what changed makes of a right hire. -/
def chE (l : List Lg) (x : Int) : Int := bif openB l then x else 11
def exchLegs (l : List Lg) (r : Rd) (veh : ByteArray) (q : Rd) : List Lg := endLegs l r ++ [startLeg veh q]
theorem exch_ok {l : List Lg} {r : Rd} {veh : ByteArray} {q : Rd} (h : ∀ g ∈ l, LgOk g) (hr : RdOk r) (hv : veh.size ≤ 1000000) (hq : RdOk q) : ∀ g ∈ exchLegs l r veh q, LgOk g := by
  intro g hg
  rcases List.mem_append.1 hg with hg | hg
  · exact end_ok h hr g hg
  · rw [List.mem_singleton.1 hg]
    exact ⟨hv, hq, (by decide : (⟨#[]⟩ : ByteArray).size ≤ 1000000)⟩

set_option maxRecDepth 100000 in
set_option maxHeartbeats 2000000 in
theorem changedClose_any (key driver : ByteArray) (fr to_ : Int) (l : List Lg) (A : Option Addr) (n c : Nat) (w : World) (hl : SlT lgEnc 9 138 w A n l) (hok : HrOk key driver l) (hn : n ≤ 1000) (rb : Nat) (r : Rd) (hr : RdOk r) (hR : Blk w rb 31 (rdCells r)) :
    Calls Tryd.prog 122 #[.agg #[.string key, .string driver, .int .i64 fr, .int .i64 to_, .slice A n c], .func (.func 125) #[] #[.pointer (some ⟨rb, 0, none⟩)]] w (fun e w' => w.grownBy w' none ∧
      ∃ A' c', e = .returned (.tuple #[madeV key driver fr to_ A' n c' (chE l (hireE ⟨key, driver, fr, to_, endLegs l r⟩)), .int .i64 (chE l (hireE ⟨key, driver, fr, to_, endLegs l r⟩))]) ∧ (chE l (hireE ⟨key, driver, fr, to_, endLegs l r⟩) = 0 → SlT lgEnc 9 138 w' A' n (endLegs l r))) := by
  obtain ⟨E, hE⟩ : ∃ E, E = chE l (hireE ⟨key, driver, fr, to_, endLegs l r⟩) := ⟨_, rfl⟩
  rw [← hE]
  have HE := Lib.hid hE
  have hlen := hl.len
  have Hok := Lib.hid hok
  have hrl := hR.lt
  have Hr := Lib.hid hr
  clear hr
  clear hE hok
  have hz1 : ∀ k, some (w.heap.size + 1) = some k → w.heap.size ≤ k := fun k h => by cases h; omega
  go_enter Tryd.func122, Tryd.ntmps122
  go_wp2_with fail
  refine (isOpen_any key driver fr to_ l A n c _ ((hl.alloc _).alloc _) (by omega)).mono ?_
  rintro e w1 ⟨rfl, hg1⟩
  have hA1 : Blk w1 w.heap.size 36 [.string key, .string driver, .int .i64 fr, .int .i64 to_, .slice A n c] := ((Blk.at_ w rfl _ _).alloc _).grown hg1 (by simp)
  have hC1 : Blk w1 (w.heap.size + 1) 36 [.string ⟨#[]⟩, .string ⟨#[]⟩, .int .i64 0, .int .i64 0, .slice none 0 0] := (Blk.at_ (w.alloc _) (by simp) _ _).grown hg1 (by simp)
  have hw1 : w.grownBy w1 none := grow_trans (grow_alloc (grow_alloc (World.grownBy.refl _ _) _) _) hg1
  clear hg1
  obtain ⟨O, hO⟩ : ∃ O, openB l = O := ⟨_, rfl⟩
  rw [hO]
  have HO := Lib.hid hO
  clear hO
  cases O
  · have HF := Lib.hid (show E = 11 by rw [HE.out]; unfold chE; rw [HO.out]; rfl)
    have HV := Lib.hid (show madeV key driver fr to_ none n 0 E = .agg #[.string ⟨#[]⟩, .string ⟨#[]⟩, .int .i64 0, .int .i64 0, .slice none 0 0] by unfold madeV; rw [if_neg (by rw [HF.out]; decide)])
    go_wp2_with (with_reducible refine wpList_store_all rfl 36 (.tmp 4) (.tmp 9) rfl (w.heap.size + 1) _ _ [.string ⟨#[]⟩, .string ⟨#[]⟩, .int .i64 0, .int .i64 0, .slice none 0 0] hC1 rfl rfl 5 info_hr rfl rfl (by simp [Value.oneCell']) ?_
                 intro w3 hb3 hg3)
    refine ret_blk_tmp (p := 4) (u := 5) (ty := 36) rfl (w.heap.size + 1) _ _ _ hb3 rfl (.int .i64 11) rfl Tryd.underlying36 rfl 5 info_hr rfl rfl ?_
    exact ⟨grow_own hw1 hg3 hz1, none, 0, by rw [HV.out, HF.out], fun h => by rw [HF.out] at h; cases h⟩
  · have HF := Lib.hid (show E = hireE ⟨key, driver, fr, to_, endLegs l r⟩ by rw [HE.out]; unfold chE; rw [HO.out]; rfl)
    have hn0 : 0 < n := by
      rcases Nat.eq_zero_or_pos n with h | h
      · exfalso
        have h1 : l = [] := List.length_eq_zero_iff.1 (by omega)
        have h2 := HO.out
        rw [h1] at h2
        cases h2
      · exact h
    have k4 := hA1.cell_of (i := 4) (v := .slice A n c) rfl
    go_wp2_with fail
    refine (cloneLegs_any l A n c w1 (hl.own hw1 (fun g h => by cases h)) hn0 (by omega)).mono ?_
    rintro e w2 ⟨g, c2, rfl, hown, hg2⟩
    have hA2 := hA1.grown hg2 (by simp)
    have hC2 := hC1.grown hg2 (by simp)
    have hw2 := grow_trans hw1 hg2
    have hgz : w1.heap.size ≤ g := hown.1
    have hz2 := hC1.lt
    have hgl := hown.lt
    clear hA1 hC1 k4 hw1
    have k4 := hA2.cell_of (i := 4) (v := .slice A n c) rfl
    have f4 := hA2.frozen 4
    have hA3 : Blk (w2.setCell ⟨w.heap.size, 4, none⟩ (.slice (some ⟨g, 0, none⟩) n c2)) w.heap.size 36 [.string key, .string driver, .int .i64 fr, .int .i64 to_, .slice (some ⟨g, 0, none⟩) n c2] := hA2.set_ 4 _
    have hC3 := hC2.far (p := ⟨w.heap.size, 4, none⟩) (by simp) (.slice (some ⟨g, 0, none⟩) n c2)
    have hw3 : w.grownBy (w2.setCell ⟨w.heap.size, 4, none⟩ (.slice (some ⟨g, 0, none⟩) n c2)) none := grow_setCell hw2 (.inr (by simp)) _
    have hown3 : OwnT lgEnc 9 138 (w2.setCell ⟨w.heap.size, 4, none⟩ (.slice (some ⟨g, 0, none⟩) n c2)) w1.heap.size g n c2 l := hown.kept (Below.heap_setCell w2 _ _ g (by simp; omega)) (Nat.le_refl _)
    go_wp2_with fail
    obtain ⟨cs, hb, hfit, htk⟩ := hown3.blk
    have hR3 : Blk (w2.setCell ⟨w.heap.size, 4, none⟩ (.slice (some ⟨g, 0, none⟩) n c2)) rb 31 (rdCells r) := hR.grown hw3 (by simp)
    obtain ⟨x, hx⟩ : ∃ x, l[n - 1]? = some x := ⟨_, List.getElem?_eq_getElem (by omega)⟩
    have Hx := Lib.hid hx
    have HL := Lib.hid (show endLegs l r = l.set (n - 1) ⟨x.veh, x.out, r⟩ by unfold endLegs; rw [hlen, hx])
    clear hx
    refine (closeFn_any w.heap.size rb g key driver fr to_ n c2 r cs _ hA3 hR3 hb hn0 (by omega) hfit).mono ?_
    rintro e w4 ⟨⟨r4, rfl⟩, hb4, hg4⟩
    have hA4 := hA3.grown hg4 (fun h => absurd (Option.some.inj h) (by omega))
    have hC4 := hC3.grown hg4 (fun h => absurd (Option.some.inj h) (by omega))
    have hw4 : w.grownBy w4 none := grow_own hw3 hg4 (fun k h => by cases h; omega)
    obtain ⟨g4, hg4e⟩ : ∃ g4, g4 = g := ⟨_, rfl⟩
    obtain ⟨c4, hc4e⟩ : ∃ c4, c4 = c2 := ⟨_, rfl⟩
    rw [← hg4e, ← hc4e] at hA4
    have HG4 := Lib.hid hg4e
    clear hg4e hc4e
    have hsl := (by rw [HL.out, HG4.out]; exact SlT.spliced lg_len hfit htk hlen (r := 5) (vs := rdCells r) Hx.out rfl (by simp [rdCells]) hb4 : SlT lgEnc 9 138 w4 (some ⟨g4, 0, none⟩) n (endLegs l r))
    have HokL : HrOk key driver (endLegs l r) := ⟨Hok.out.1, Hok.out.2.1, end_ok Hok.out.2.2 Hr.out⟩
    clear hA2 hC2 hw2 hown k4 f4 hA3 hC3 hw3 hown3 hg2
    go_wp2_with (with_reducible refine wpList_load_all rfl 36 (.tmp 2) rfl w.heap.size _ _ _ hA4 rfl Tryd.underlying36 rfl 5 info_hr rfl ?_)
    refine (rmade_any key driver fr to_ (endLegs l r) _ _ _ w4 hsl HokL (by omega)).mono ?_
    rintro e w5 ⟨rfl, hg5⟩
    rw [← HF.out]
    have hsl5 := hsl.grow0 hg5
    have hC5 := hC4.grown hg5 (by simp)
    have hw5 := grow_trans hw4 hg5
    obtain ⟨A4, hA4e⟩ : ∃ A4 : Option Addr, A4 = some ⟨g4, 0, none⟩ := ⟨_, rfl⟩
    rw [← hA4e] at hsl5 ⊢
    clear hsl hA4 hC4 hw4 hg5 hA4e
    by_cases h0 : E = 0
    · have hV : madeV key driver fr to_ A4 (n) c4 E = .agg #[.string key, .string driver, .int .i64 fr, .int .i64 (to_), .slice A4 (n) c4] := by rw [h0]; rfl
      rw [hV]
      have HV := Lib.hid hV
      clear h0 hV
      go_wp2_with (with_reducible refine wpList_store_all rfl 36 (.tmp 4) (.tmp 18) rfl (w.heap.size + 1) _ _ [.string key, .string driver, .int .i64 fr, .int .i64 (to_), .slice A4 (n) c4] hC5 rfl rfl 5 info_hr rfl rfl (by simp [Value.oneCell']) ?_
                   intro w6 hb6 hg6)
      refine ret_blk_tmp (p := 4) (u := 5) (ty := 36) rfl (w.heap.size + 1) _ _ _ hb6 rfl (.int .i64 E) rfl Tryd.underlying36 rfl 5 info_hr rfl rfl ?_
      exact ⟨grow_own hw5 hg6 hz1, A4, c4, by rw [HV.out], fun _ => hsl5.grown hg6 hC5 (by decide)⟩
    · have hV : madeV key driver fr to_ A4 (n) c4 E = .agg #[.string ⟨#[]⟩, .string ⟨#[]⟩, .int .i64 0, .int .i64 0, .slice none 0 0] := by unfold madeV; rw [if_neg h0]
      rw [hV]
      have HV := Lib.hid hV
      have H0 := Lib.hid h0
      clear h0 hV
      go_wp2_with (with_reducible refine wpList_store_all rfl 36 (.tmp 4) (.tmp 18) rfl (w.heap.size + 1) _ _ [.string ⟨#[]⟩, .string ⟨#[]⟩, .int .i64 0, .int .i64 0, .slice none 0 0] hC5 rfl rfl 5 info_hr rfl rfl (by simp [Value.oneCell']) ?_
                   intro w6 hb6 hg6)
      refine ret_blk_tmp (p := 4) (u := 5) (ty := 36) rfl (w.heap.size + 1) _ _ _ hb6 rfl (.int .i64 E) rfl Tryd.underlying36 rfl 5 info_hr rfl rfl ?_
      exact ⟨grow_own hw5 hg6 hz1, A4, c4, by rw [HV.out], fun h => absurd h H0.out⟩

set_option maxRecDepth 100000 in
set_option maxHeartbeats 2000000 in
theorem changedExtend_any (key driver : ByteArray) (fr to_ : Int) (l : List Lg) (A : Option Addr) (n c : Nat) (w : World) (hl : SlT lgEnc 9 138 w A n l) (hok : HrOk key driver l) (hn : n ≤ 1000) (tb : Nat) (to2 : Int) (hT : Blk w tb 3 [.int .i64 to2]) :
    Calls Tryd.prog 122 #[.agg #[.string key, .string driver, .int .i64 fr, .int .i64 to_, .slice A n c], .func (.func 124) #[] #[.pointer (some ⟨tb, 0, none⟩)]] w (fun e w' => w.grownBy w' none ∧
      ∃ A' c', e = .returned (.tuple #[madeV key driver fr to2 A' n c' (chE l (hireE ⟨key, driver, fr, to2, l⟩)), .int .i64 (chE l (hireE ⟨key, driver, fr, to2, l⟩))]) ∧ (chE l (hireE ⟨key, driver, fr, to2, l⟩) = 0 → SlT lgEnc 9 138 w' A' n (l))) := by
  obtain ⟨E, hE⟩ : ∃ E, E = chE l (hireE ⟨key, driver, fr, to2, l⟩) := ⟨_, rfl⟩
  rw [← hE]
  have HE := Lib.hid hE
  have hlen := hl.len
  have Hok := Lib.hid hok
  have htl := hT.lt
  clear hE hok
  have hz1 : ∀ k, some (w.heap.size + 1) = some k → w.heap.size ≤ k := fun k h => by cases h; omega
  go_enter Tryd.func122, Tryd.ntmps122
  go_wp2_with fail
  refine (isOpen_any key driver fr to_ l A n c _ ((hl.alloc _).alloc _) (by omega)).mono ?_
  rintro e w1 ⟨rfl, hg1⟩
  have hA1 : Blk w1 w.heap.size 36 [.string key, .string driver, .int .i64 fr, .int .i64 to_, .slice A n c] := ((Blk.at_ w rfl _ _).alloc _).grown hg1 (by simp)
  have hC1 : Blk w1 (w.heap.size + 1) 36 [.string ⟨#[]⟩, .string ⟨#[]⟩, .int .i64 0, .int .i64 0, .slice none 0 0] := (Blk.at_ (w.alloc _) (by simp) _ _).grown hg1 (by simp)
  have hw1 : w.grownBy w1 none := grow_trans (grow_alloc (grow_alloc (World.grownBy.refl _ _) _) _) hg1
  clear hg1
  obtain ⟨O, hO⟩ : ∃ O, openB l = O := ⟨_, rfl⟩
  rw [hO]
  have HO := Lib.hid hO
  clear hO
  cases O
  · have HF := Lib.hid (show E = 11 by rw [HE.out]; unfold chE; rw [HO.out]; rfl)
    have HV := Lib.hid (show madeV key driver fr to2 none n 0 E = .agg #[.string ⟨#[]⟩, .string ⟨#[]⟩, .int .i64 0, .int .i64 0, .slice none 0 0] by unfold madeV; rw [if_neg (by rw [HF.out]; decide)])
    go_wp2_with (with_reducible refine wpList_store_all rfl 36 (.tmp 4) (.tmp 9) rfl (w.heap.size + 1) _ _ [.string ⟨#[]⟩, .string ⟨#[]⟩, .int .i64 0, .int .i64 0, .slice none 0 0] hC1 rfl rfl 5 info_hr rfl rfl (by simp [Value.oneCell']) ?_
                 intro w3 hb3 hg3)
    refine ret_blk_tmp (p := 4) (u := 5) (ty := 36) rfl (w.heap.size + 1) _ _ _ hb3 rfl (.int .i64 11) rfl Tryd.underlying36 rfl 5 info_hr rfl rfl ?_
    exact ⟨grow_own hw1 hg3 hz1, none, 0, by rw [HV.out, HF.out], fun h => by rw [HF.out] at h; cases h⟩
  · have HF := Lib.hid (show E = hireE ⟨key, driver, fr, to2, l⟩ by rw [HE.out]; unfold chE; rw [HO.out]; rfl)
    have hn0 : 0 < n := by
      rcases Nat.eq_zero_or_pos n with h | h
      · exfalso
        have h1 : l = [] := List.length_eq_zero_iff.1 (by omega)
        have h2 := HO.out
        rw [h1] at h2
        cases h2
      · exact h
    have k4 := hA1.cell_of (i := 4) (v := .slice A n c) rfl
    go_wp2_with fail
    refine (cloneLegs_any l A n c w1 (hl.own hw1 (fun g h => by cases h)) hn0 (by omega)).mono ?_
    rintro e w2 ⟨g, c2, rfl, hown, hg2⟩
    have hA2 := hA1.grown hg2 (by simp)
    have hC2 := hC1.grown hg2 (by simp)
    have hw2 := grow_trans hw1 hg2
    have hgz : w1.heap.size ≤ g := hown.1
    have hz2 := hC1.lt
    have hgl := hown.lt
    clear hA1 hC1 k4 hw1
    have k4 := hA2.cell_of (i := 4) (v := .slice A n c) rfl
    have f4 := hA2.frozen 4
    have hA3 : Blk (w2.setCell ⟨w.heap.size, 4, none⟩ (.slice (some ⟨g, 0, none⟩) n c2)) w.heap.size 36 [.string key, .string driver, .int .i64 fr, .int .i64 to_, .slice (some ⟨g, 0, none⟩) n c2] := hA2.set_ 4 _
    have hC3 := hC2.far (p := ⟨w.heap.size, 4, none⟩) (by simp) (.slice (some ⟨g, 0, none⟩) n c2)
    have hw3 : w.grownBy (w2.setCell ⟨w.heap.size, 4, none⟩ (.slice (some ⟨g, 0, none⟩) n c2)) none := grow_setCell hw2 (.inr (by simp)) _
    have hown3 : OwnT lgEnc 9 138 (w2.setCell ⟨w.heap.size, 4, none⟩ (.slice (some ⟨g, 0, none⟩) n c2)) w1.heap.size g n c2 l := hown.kept (Below.heap_setCell w2 _ _ g (by simp; omega)) (Nat.le_refl _)
    go_wp2_with fail
    have hT3 : Blk (w2.setCell ⟨w.heap.size, 4, none⟩ (.slice (some ⟨g, 0, none⟩) n c2)) tb 3 [.int .i64 to2] := hT.grown hw3 (by simp)
    refine (extendFn_any w.heap.size tb key driver fr to_ to2 (some ⟨g, 0, none⟩) n c2 _ hA3 hT3).mono ?_
    rintro e w4 ⟨⟨r4, rfl⟩, hA4, hg4⟩
    have hC4 := hC3.grown hg4 (fun h => absurd (Option.some.inj h) (by omega))
    have hw4 : w.grownBy w4 none := grow_own hw3 hg4 (fun k h => by cases h; omega)
    have hown4 : OwnT lgEnc 9 138 w4 w1.heap.size g n c2 l := hown3.kept (hg4.block g hown3.lt (fun h => absurd (Option.some.inj h) (by omega))) (Nat.le_refl _)
    obtain ⟨g4, hg4e⟩ : ∃ g4, g4 = g := ⟨_, rfl⟩
    obtain ⟨c4, hc4e⟩ : ∃ c4, c4 = c2 := ⟨_, rfl⟩
    rw [← hg4e, ← hc4e] at hA4
    have HG4 := Lib.hid hg4e
    clear hg4e hc4e
    have hsl := (by rw [HG4.out]; exact hown4.slt lg_len hlen : SlT lgEnc 9 138 w4 (some ⟨g4, 0, none⟩) n l)
    have HokL : HrOk key driver (l) := ⟨Hok.out.1, Hok.out.2.1, Hok.out.2.2⟩
    clear hA2 hC2 hw2 hown k4 f4 hA3 hC3 hw3 hown3 hg2
    go_wp2_with (with_reducible refine wpList_load_all rfl 36 (.tmp 2) rfl w.heap.size _ _ _ hA4 rfl Tryd.underlying36 rfl 5 info_hr rfl ?_)
    refine (rmade_any key driver fr to2 (l) _ _ _ w4 hsl HokL (by omega)).mono ?_
    rintro e w5 ⟨rfl, hg5⟩
    rw [← HF.out]
    have hsl5 := hsl.grow0 hg5
    have hC5 := hC4.grown hg5 (by simp)
    have hw5 := grow_trans hw4 hg5
    obtain ⟨A4, hA4e⟩ : ∃ A4 : Option Addr, A4 = some ⟨g4, 0, none⟩ := ⟨_, rfl⟩
    rw [← hA4e] at hsl5 ⊢
    clear hsl hA4 hC4 hw4 hg5 hA4e
    by_cases h0 : E = 0
    · have hV : madeV key driver fr to2 A4 (n) c4 E = .agg #[.string key, .string driver, .int .i64 fr, .int .i64 (to2), .slice A4 (n) c4] := by rw [h0]; rfl
      rw [hV]
      have HV := Lib.hid hV
      clear h0 hV
      go_wp2_with (with_reducible refine wpList_store_all rfl 36 (.tmp 4) (.tmp 18) rfl (w.heap.size + 1) _ _ [.string key, .string driver, .int .i64 fr, .int .i64 (to2), .slice A4 (n) c4] hC5 rfl rfl 5 info_hr rfl rfl (by simp [Value.oneCell']) ?_
                   intro w6 hb6 hg6)
      refine ret_blk_tmp (p := 4) (u := 5) (ty := 36) rfl (w.heap.size + 1) _ _ _ hb6 rfl (.int .i64 E) rfl Tryd.underlying36 rfl 5 info_hr rfl rfl ?_
      exact ⟨grow_own hw5 hg6 hz1, A4, c4, by rw [HV.out], fun _ => hsl5.grown hg6 hC5 (by decide)⟩
    · have hV : madeV key driver fr to2 A4 (n) c4 E = .agg #[.string ⟨#[]⟩, .string ⟨#[]⟩, .int .i64 0, .int .i64 0, .slice none 0 0] := by unfold madeV; rw [if_neg h0]
      rw [hV]
      have HV := Lib.hid hV
      have H0 := Lib.hid h0
      clear h0 hV
      go_wp2_with (with_reducible refine wpList_store_all rfl 36 (.tmp 4) (.tmp 18) rfl (w.heap.size + 1) _ _ [.string ⟨#[]⟩, .string ⟨#[]⟩, .int .i64 0, .int .i64 0, .slice none 0 0] hC5 rfl rfl 5 info_hr rfl rfl (by simp [Value.oneCell']) ?_
                   intro w6 hb6 hg6)
      refine ret_blk_tmp (p := 4) (u := 5) (ty := 36) rfl (w.heap.size + 1) _ _ _ hb6 rfl (.int .i64 E) rfl Tryd.underlying36 rfl 5 info_hr rfl rfl ?_
      exact ⟨grow_own hw5 hg6 hz1, A4, c4, by rw [HV.out], fun h => absurd h H0.out⟩

set_option maxRecDepth 100000 in
set_option maxHeartbeats 2000000 in
theorem changedExchange_any (key driver : ByteArray) (fr to_ : Int) (l : List Lg) (A : Option Addr) (n c : Nat) (w : World) (hl : SlT lgEnc 9 138 w A n l) (hok : HrOk key driver l) (hn : n ≤ 1000) (ib vb ob : Nat) (veh : ByteArray) (r q : Rd) (hv : veh.size ≤ 1000000) (hr : RdOk r) (hq : RdOk q) (hI : Blk w ib 31 (rdCells r)) (hV0 : Blk w vb 9 [.string veh]) (hO0 : Blk w ob 31 (rdCells q)) :
    Calls Tryd.prog 122 #[.agg #[.string key, .string driver, .int .i64 fr, .int .i64 to_, .slice A n c], .func (.func 123) #[] #[.pointer (some ⟨ib, 0, none⟩), .pointer (some ⟨vb, 0, none⟩), .pointer (some ⟨ob, 0, none⟩)]] w (fun e w' => w.grownBy w' none ∧
      ∃ A' c', e = .returned (.tuple #[madeV key driver fr to_ A' (n + 1) c' (chE l (hireE ⟨key, driver, fr, to_, exchLegs l r veh q⟩)), .int .i64 (chE l (hireE ⟨key, driver, fr, to_, exchLegs l r veh q⟩))]) ∧ (chE l (hireE ⟨key, driver, fr, to_, exchLegs l r veh q⟩) = 0 → SlT lgEnc 9 138 w' A' (n + 1) (exchLegs l r veh q))) := by
  obtain ⟨E, hE⟩ : ∃ E, E = chE l (hireE ⟨key, driver, fr, to_, exchLegs l r veh q⟩) := ⟨_, rfl⟩
  rw [← hE]
  have HE := Lib.hid hE
  have hlen := hl.len
  have Hok := Lib.hid hok
  have hil := hI.lt
  have hvl := hV0.lt
  have hol := hO0.lt
  have Hr := Lib.hid hr
  have Hq := Lib.hid hq
  have Hv := Lib.hid hv
  clear hr hq hv
  clear hE hok
  have hz1 : ∀ k, some (w.heap.size + 1) = some k → w.heap.size ≤ k := fun k h => by cases h; omega
  go_enter Tryd.func122, Tryd.ntmps122
  go_wp2_with fail
  refine (isOpen_any key driver fr to_ l A n c _ ((hl.alloc _).alloc _) (by omega)).mono ?_
  rintro e w1 ⟨rfl, hg1⟩
  have hA1 : Blk w1 w.heap.size 36 [.string key, .string driver, .int .i64 fr, .int .i64 to_, .slice A n c] := ((Blk.at_ w rfl _ _).alloc _).grown hg1 (by simp)
  have hC1 : Blk w1 (w.heap.size + 1) 36 [.string ⟨#[]⟩, .string ⟨#[]⟩, .int .i64 0, .int .i64 0, .slice none 0 0] := (Blk.at_ (w.alloc _) (by simp) _ _).grown hg1 (by simp)
  have hw1 : w.grownBy w1 none := grow_trans (grow_alloc (grow_alloc (World.grownBy.refl _ _) _) _) hg1
  clear hg1
  obtain ⟨O, hO⟩ : ∃ O, openB l = O := ⟨_, rfl⟩
  rw [hO]
  have HO := Lib.hid hO
  clear hO
  cases O
  · have HF := Lib.hid (show E = 11 by rw [HE.out]; unfold chE; rw [HO.out]; rfl)
    have HV := Lib.hid (show madeV key driver fr to_ none (n + 1) 0 E = .agg #[.string ⟨#[]⟩, .string ⟨#[]⟩, .int .i64 0, .int .i64 0, .slice none 0 0] by unfold madeV; rw [if_neg (by rw [HF.out]; decide)])
    go_wp2_with (with_reducible refine wpList_store_all rfl 36 (.tmp 4) (.tmp 9) rfl (w.heap.size + 1) _ _ [.string ⟨#[]⟩, .string ⟨#[]⟩, .int .i64 0, .int .i64 0, .slice none 0 0] hC1 rfl rfl 5 info_hr rfl rfl (by simp [Value.oneCell']) ?_
                 intro w3 hb3 hg3)
    refine ret_blk_tmp (p := 4) (u := 5) (ty := 36) rfl (w.heap.size + 1) _ _ _ hb3 rfl (.int .i64 11) rfl Tryd.underlying36 rfl 5 info_hr rfl rfl ?_
    exact ⟨grow_own hw1 hg3 hz1, none, 0, by rw [HV.out, HF.out], fun h => by rw [HF.out] at h; cases h⟩
  · have HF := Lib.hid (show E = hireE ⟨key, driver, fr, to_, exchLegs l r veh q⟩ by rw [HE.out]; unfold chE; rw [HO.out]; rfl)
    have hn0 : 0 < n := by
      rcases Nat.eq_zero_or_pos n with h | h
      · exfalso
        have h1 : l = [] := List.length_eq_zero_iff.1 (by omega)
        have h2 := HO.out
        rw [h1] at h2
        cases h2
      · exact h
    have k4 := hA1.cell_of (i := 4) (v := .slice A n c) rfl
    go_wp2_with fail
    refine (cloneLegs_any l A n c w1 (hl.own hw1 (fun g h => by cases h)) hn0 (by omega)).mono ?_
    rintro e w2 ⟨g, c2, rfl, hown, hg2⟩
    have hA2 := hA1.grown hg2 (by simp)
    have hC2 := hC1.grown hg2 (by simp)
    have hw2 := grow_trans hw1 hg2
    have hgz : w1.heap.size ≤ g := hown.1
    have hz2 := hC1.lt
    have hgl := hown.lt
    clear hA1 hC1 k4 hw1
    have k4 := hA2.cell_of (i := 4) (v := .slice A n c) rfl
    have f4 := hA2.frozen 4
    have hA3 : Blk (w2.setCell ⟨w.heap.size, 4, none⟩ (.slice (some ⟨g, 0, none⟩) n c2)) w.heap.size 36 [.string key, .string driver, .int .i64 fr, .int .i64 to_, .slice (some ⟨g, 0, none⟩) n c2] := hA2.set_ 4 _
    have hC3 := hC2.far (p := ⟨w.heap.size, 4, none⟩) (by simp) (.slice (some ⟨g, 0, none⟩) n c2)
    have hw3 : w.grownBy (w2.setCell ⟨w.heap.size, 4, none⟩ (.slice (some ⟨g, 0, none⟩) n c2)) none := grow_setCell hw2 (.inr (by simp)) _
    have hown3 : OwnT lgEnc 9 138 (w2.setCell ⟨w.heap.size, 4, none⟩ (.slice (some ⟨g, 0, none⟩) n c2)) w1.heap.size g n c2 l := hown.kept (Below.heap_setCell w2 _ _ g (by simp; omega)) (Nat.le_refl _)
    go_wp2_with fail
    have hI3 : Blk (w2.setCell ⟨w.heap.size, 4, none⟩ (.slice (some ⟨g, 0, none⟩) n c2)) ib 31 (rdCells r) := hI.grown hw3 (by simp)
    have hV3 : Blk (w2.setCell ⟨w.heap.size, 4, none⟩ (.slice (some ⟨g, 0, none⟩) n c2)) vb 9 [.string veh] := hV0.grown hw3 (by simp)
    have hO3 : Blk (w2.setCell ⟨w.heap.size, 4, none⟩ (.slice (some ⟨g, 0, none⟩) n c2)) ob 31 (rdCells q) := hO0.grown hw3 (by simp)
    obtain ⟨x, hx⟩ : ∃ x, l[n - 1]? = some x := ⟨_, List.getElem?_eq_getElem (by omega)⟩
    have Hx := Lib.hid hx
    have HL := Lib.hid (show exchLegs l r veh q = l.set (n - 1) ⟨x.veh, x.out, r⟩ ++ [startLeg veh q] by unfold exchLegs endLegs; rw [hlen, hx])
    clear hx
    refine (exchangeFn_any w1.heap.size w.heap.size ib vb ob g key driver veh fr to_ n c2 r q l x _ hA3 hI3 hV3 hO3 hown3 hn0 (by omega) Hx.out hlen ⟨by omega, by omega, by omega⟩ (by omega)).mono ?_
    rintro e w4 ⟨⟨r4, rfl⟩, g4, c4, hA4, hown4, hbk, hos, htp, hout, hsz⟩
    have hC4 : Blk w4 (w.heap.size + 1) 36 [.string ⟨#[]⟩, .string ⟨#[]⟩, .int .i64 0, .int .i64 0, .slice none 0 0] := hC3.kept (hbk _ (by omega) (by omega))
    have hw4 : w.grownBy w4 none := ⟨hos.trans hw3.os, htp.trans hw3.tape, hout.trans hw3.output, Nat.le_trans hw3.size hsz, fun i hi hne => (hbk i (by omega) (by omega)).trans (hw3.block i hi hne)⟩
    have hsl := (by rw [HL.out]; exact hown4.slt lg_len (by simp; omega) : SlT lgEnc 9 138 w4 (some ⟨g4, 0, none⟩) (n + 1) (exchLegs l r veh q))
    have HokL : HrOk key driver (exchLegs l r veh q) := ⟨Hok.out.1, Hok.out.2.1, exch_ok Hok.out.2.2 Hr.out Hv.out Hq.out⟩
    clear hA2 hC2 hw2 hown k4 f4 hA3 hC3 hw3 hown3 hg2
    go_wp2_with (with_reducible refine wpList_load_all rfl 36 (.tmp 2) rfl w.heap.size _ _ _ hA4 rfl Tryd.underlying36 rfl 5 info_hr rfl ?_)
    refine (rmade_any key driver fr to_ (exchLegs l r veh q) _ _ _ w4 hsl HokL (by omega)).mono ?_
    rintro e w5 ⟨rfl, hg5⟩
    rw [← HF.out]
    have hsl5 := hsl.grow0 hg5
    have hC5 := hC4.grown hg5 (by simp)
    have hw5 := grow_trans hw4 hg5
    obtain ⟨A4, hA4e⟩ : ∃ A4 : Option Addr, A4 = some ⟨g4, 0, none⟩ := ⟨_, rfl⟩
    rw [← hA4e] at hsl5 ⊢
    clear hsl hA4 hC4 hw4 hg5 hA4e
    by_cases h0 : E = 0
    · have hV : madeV key driver fr to_ A4 ((n + 1)) c4 E = .agg #[.string key, .string driver, .int .i64 fr, .int .i64 (to_), .slice A4 ((n + 1)) c4] := by rw [h0]; rfl
      rw [hV]
      have HV := Lib.hid hV
      clear h0 hV
      go_wp2_with (with_reducible refine wpList_store_all rfl 36 (.tmp 4) (.tmp 18) rfl (w.heap.size + 1) _ _ [.string key, .string driver, .int .i64 fr, .int .i64 (to_), .slice A4 ((n + 1)) c4] hC5 rfl rfl 5 info_hr rfl rfl (by simp [Value.oneCell']) ?_
                   intro w6 hb6 hg6)
      refine ret_blk_tmp (p := 4) (u := 5) (ty := 36) rfl (w.heap.size + 1) _ _ _ hb6 rfl (.int .i64 E) rfl Tryd.underlying36 rfl 5 info_hr rfl rfl ?_
      exact ⟨grow_own hw5 hg6 hz1, A4, c4, by rw [HV.out], fun _ => hsl5.grown hg6 hC5 (by decide)⟩
    · have hV : madeV key driver fr to_ A4 ((n + 1)) c4 E = .agg #[.string ⟨#[]⟩, .string ⟨#[]⟩, .int .i64 0, .int .i64 0, .slice none 0 0] := by unfold madeV; rw [if_neg h0]
      rw [hV]
      have HV := Lib.hid hV
      have H0 := Lib.hid h0
      clear h0 hV
      go_wp2_with (with_reducible refine wpList_store_all rfl 36 (.tmp 4) (.tmp 18) rfl (w.heap.size + 1) _ _ [.string ⟨#[]⟩, .string ⟨#[]⟩, .int .i64 0, .int .i64 0, .slice none 0 0] hC5 rfl rfl 5 info_hr rfl rfl (by simp [Value.oneCell']) ?_
                   intro w6 hb6 hg6)
      refine ret_blk_tmp (p := 4) (u := 5) (ty := 36) rfl (w.heap.size + 1) _ _ _ hb6 rfl (.int .i64 E) rfl Tryd.underlying36 rfl 5 info_hr rfl rfl ?_
      exact ⟨grow_own hw5 hg6 hz1, A4, c4, by rw [HV.out], fun h => absurd h H0.out⟩

end Go.Proofs.YtljnekobfjpfaaaDoor
