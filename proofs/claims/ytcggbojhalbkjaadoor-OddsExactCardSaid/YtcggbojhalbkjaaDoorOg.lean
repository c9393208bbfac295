/- The walk of the law OddsExact. -/
import Derived.Test.YtcggbojhalbkjaaDoorOf
import Derived.Test.YtcggbojhalbkjaaDoorBd
import Derived.Test.YtcggbojhalbkjaaDoorBg
import Derived.Test.YtcggbojhalbkjaaDoorSg
import Derived.Test.YtcggbojhalbkjaaDoorTw
namespace Go.Proofs.YtcggbojhalbkjaaDoor
open Go.RowKit

theorem firstE_ne {a : Int} {r : List Int} (h : a ≠ 0) : firstE (a :: r) = a := by unfold firstE; rw [if_neg h]
theorem firstE_z (r : List Int) : firstE (0 :: r) = firstE r := by conv => lhs; unfold firstE; rw [if_pos rfl]
theorem firstE_one (a : Int) : firstE [a] = a := by
  by_cases h : a = 0
  · subst h; rfl
  · exact firstE_ne h
theorem firstE_split (a b c : Int) : firstE [a, b, c] = firstE [firstE [a, b], c] := by
  by_cases h : a = 0
  · subst h
    by_cases hb : b = 0
    · subst hb; rfl
    · rw [firstE_z, firstE_ne hb, firstE_z, firstE_one, firstE_ne hb]
  · rw [firstE_ne h, firstE_ne h, firstE_ne h]
theorem out_in {u lo hi : Int} : (!inB u lo hi) = (bif decide (u < lo) then true else decide (hi < u)) := by
  by_cases h1 : u < lo
  · rw [inB_false.2 (by omega), decide_eq_true h1]; rfl
  · by_cases h2 : hi < u
    · rw [inB_false.2 (by omega), decide_eq_false h1, decide_eq_true h2]; rfl
    · rw [inB_iff.2 (by omega), decide_eq_false h1, decide_eq_false h2]; rfl
theorem bk_one {l : List Bk} (h : ∀ y ∈ l, BkOk y) {x : Bk} (hx : BkOk x) : ∀ y ∈ l ++ [x], BkOk y := fun y hy => by
  rcases List.mem_append.1 hy with hy | hy
  · exact h y hy
  · rw [List.mem_singleton.1 hy]; exact hx

set_option maxRecDepth 100000 in
set_option maxHeartbeats 4000000 in
theorem exact_walk (a0 : Option Addr) (len0 cap0 : Nat) (z0 : List Int) (w : World) (hR : RowIn w a0 len0 cap0 z0) :
    Calls Tryd.prog 3 #[.slice a0 len0 cap0] w fun e w' => e = .returned (.bool true) ∧ Below w.heap.size w w' := by
  refine gw_enter ⟨166, w, none, []⟩ Tryd.func3 rfl Tryd.ntmps3 rfl (mem0 (X := []) allF_nil allL_nil) ?_
  refine gw_seq ?_
  refine gw_region ?_
  refine wl_ov (ov_assign rfl) rfl ?_
  refine wl_nil ?_
  refine nx_then ?_
  refine gw_seq ?_
  refine gw_region ?_
  refine wl_ov (ov_move rfl) rfl ?_
  refine wl_ov (ov_build (cs := [.slice a0 len0 cap0, .int .i64 0]) rfl (by kernel_rfl)) rfl ?_
  refine wl_box rfl rfl rfl fun sb => ?_
  refine wl_ov (ov_assign rfl) rfl ?_
  refine wl_nil ?_
  refine nx_then ?_
  refine gw_law [] hR 0 rfl fun w1 B hg1 hsb => ?_
  refine gw_seq ?_
  refine gw_region ?_
  refine wl_ov (ov_move rfl) rfl ?_
  refine wl_ov (ov_move rfl) rfl ?_
  refine wl_buildSlice (e := 3) (cs := [.int .i64 0, .int .i64 1, .int .i64 2, .int .i64 3, .int .i64 4, .int .i64 5, .int .i64 6, .int .i64 9]) rfl (by kernel_rfl) rfl fun g1 => ?_
  refine wl_got (γ := Int) (val := fun v => .int .i64 v) (φ := fun v => v ∈ ([0, 1, 2, 3, 4, 5, 6, 9] : List Int)) rfl cb7 rfl rfl rfl rfl (fun wx hm => (pick_any [0, 1, 2, 3, 4, 5, 6, 9] _ _ _ wx B sb _ hm.k (by omega) (by simp) (by simp) (hm.blkI 0 rfl) (hm.neRow 0 rfl rfl))) fun v2 hv2 => ?_
  have bv2 : 0 ≤ v2 ∧ v2 ≤ 9 := mem_rng hv2 (by decide)
  have bv20 := bv2.1
  have bv21 := bv2.2
  clear bv2
  obtain ⟨q, rfl⟩ := Int.eq_ofNat_of_zero_le (show 0 ≤ v2 by omega)
  have hq9 : q ≤ 9 := by omega
  refine wl_callgs (γ := Option Addr × Nat × Nat × List Bk) (val := (fun (g : Option Addr × Nat × Nat × List Bk) => .slice g.1 g.2.1 g.2.2.1)) (φ := (fun (g : Option Addr × Nat × Nat × List Bk) => (∀ b ∈ g.2.2.2, BkOk b) ∧ g.2.1 ≤ 9 ∧ g.2.1 ≤ g.2.2.1 ∧ g.2.2.2.length = g.2.1)) (m' := 0 + 1 + 1000) (fun (g : Option Addr × Nat × Nat × List Bk) => ⟨.slice g.1 g.2.1 g.2.2.1, 33, 6, g.2.1, g.2.2.2.flatMap bkEnc⟩) rfl cb6 rfl rfl rfl rfl (fun wx hm => (gbookings_own q wx B sb _ hm.k (by omega) hq9).mono fun _ _ ⟨A, n, c, l, he, ho, hl, hok, hn, hnc, hS, hg⟩ => ⟨(A, n, c, l), he, ⟨hok, hn, hnc, hl⟩, hS, hg, ho⟩) ?_
  rintro ⟨A, n, c, l⟩ hH
  dsimp only at hH ⊢
  obtain ⟨hok, hn9, hnc, hlen⟩ := hH
  refine wl_ov (ov_move rfl) rfl ?_
  refine wl_buildSlice (e := 3) (cs := [.int .i64 0, .int .i64 1, .int .i64 2, .int .i64 3, .int .i64 500, .int .i64 (-1), .int .i64 501]) rfl (by kernel_rfl) rfl fun g3 => ?_
  refine wl_got (γ := Int) (val := fun v => .int .i64 v) (φ := fun v => v ∈ ([0, 1, 2, 3, 500, -1, 501] : List Int)) rfl cb7 rfl rfl rfl rfl (fun wx hm => (pick_any [0, 1, 2, 3, 500, -1, 501] _ _ _ wx B sb _ hm.k (by omega) (by simp) (by simp) (hm.blkI 0 rfl) (hm.neRow 0 rfl rfl))) fun v4 hv4 => ?_
  have bv4 : -1 ≤ v4 ∧ v4 ≤ 501 := mem_rng hv4 (by decide)
  have bv40 := bv4.1
  have bv41 := bv4.2
  clear bv4
  refine wl_ov (ov_assign rfl) rfl ?_
  refine wl_ov (ov_assign rfl) rfl ?_
  refine wl_nil ?_
  refine nx_then ?_
  refine gw_cut (γ := Value × Nat × List Bk × List Value) (I := (fun (g : Value × Nat × List Bk × List Value) => g.2.2.1.length = g.2.1 ∧ (∀ b ∈ g.2.2.1, BkOk b) ∧ g.2.1 ≤ 10 ∧ g.2.2.2 = g.2.2.1.flatMap bkEnc)) (S' := (fun (g : Value × Nat × List Bk × List Value) => [(2, .bool false), (3, .pointer (some ⟨sb, 0, none⟩)), (4, g.1), (5, .int .i64 v4)])) (K' := (fun (g : Value × Nat × List Bk × List Value) => fun w => Strm 25 w B sb (0 + 1 + 1000 + 1 + 1))) (L' := (fun (g : Value × Nat × List Bk × List Value) => [])) (O' := (fun (g : Value × Nat × List Bk × List Value) => [⟨g.1, 33, 6, g.2.1, g.2.2.2⟩])) (X' := (fun (g : Value × Nat × List Bk × List Value) => [])) ?_ ?_
  · refine gw_seq ?_
    refine gw_region ?_
    refine wl_ov (ov_move rfl) rfl ?_
    refine wl_got (γ := Bool) (val := fun v => .bool v) (φ := fun v => True) rfl cb8 rfl rfl rfl rfl (fun wx hm => ((flip_any _ wx B sb _ hm.k (by omega) (by omega) (by omega)).mono fun _ _ ⟨v, he, hS, hg⟩ => ⟨v, trivial, he, hS, hg⟩)) fun f5 _ => ?_
    refine wl_nil ?_
    refine nx_then ?_
    refine gw_cond rfl (fun hh => ?_) (fun hh => ?_)
    · have hf : f5 = true := by simpa using hh
      clear hh
      refine gw_region ?_
      refine wl_ov (ov_move rfl) rfl ?_
      refine wl_ov (ov_build (cs := [.int .i64 0, .int .i64 1]) rfl (by kernel_rfl)) rfl ?_
      refine wl_ov (ov_build (cs := [.string ⟨#[98, 122]⟩, .string ⟨#[99]⟩, .int .i64 0, .int .i64 1, .int .i64 0, .int .i64 1]) rfl (by kernel_rfl)) rfl ?_
      refine wl_buildSlice (e := 33) (cs := [.string ⟨#[98, 122]⟩, .string ⟨#[99]⟩, .int .i64 0, .int .i64 1, .int .i64 0, .int .i64 1]) rfl (by kernel_rfl) rfl fun g6 => ?_
      refine wl_append (news := [.string ⟨#[98, 122]⟩, .string ⟨#[99]⟩, .int .i64 0, .int .i64 1, .int .i64 0, .int .i64 1]) 0 0 ap26 rfl rfl rfl rfl rfl rfl rfl (by omega) (by unfold maxLen; omega) rfl rfl fun v2 hv2 => ?_
      refine wl_ov (ov_assign rfl) rfl ?_
      refine wl_nil ?_
      exact nx_meet (v2, n + 1, l ++ [⟨⟨#[98, 122]⟩, ⟨#[99]⟩, 0, 1, 0, 1⟩], l.flatMap bkEnc ++ ([.string ⟨#[98, 122]⟩, .string ⟨#[99]⟩, .int .i64 0, .int .i64 1, .int .i64 0, .int .i64 1] : List Value)) ⟨by simp [hlen], bk_one hok ⟨by decide, by decide⟩, by dsimp only; omega, by simp [bkEnc]⟩ ⟨rfl, rfl, rfl, rfl, trivial⟩ (fun _ hm => hm.pick [] [0] [] rfl rfl)
    · have hf : f5 = false := by simpa using hh
      clear hh
      refine gw_skip ?_
      exact nx_meet (.slice A n c, n, l, l.flatMap bkEnc) ⟨hlen, hok, by dsimp only; omega, rfl⟩ ⟨rfl, rfl, rfl, rfl, trivial⟩ (fun _ hm => hm.pick [] [0] [] rfl rfl)
  · rintro ⟨v, k, x, xs⟩ hinv
    replace hinv : x.length = k ∧ (∀ b ∈ x, BkOk b) ∧ k ≤ 10 ∧ xs = x.flatMap bkEnc := hinv
    dsimp only
    refine gw_seq ?_
    refine gw_region ?_
    clear hok hn9 hnc hlen
    obtain ⟨hlen, hok, hk10, rfl⟩ := hinv
    refine wl_look (R := ∃ A cc, v = .slice A k cc) (fun wx hm => own_slice (hm.ownI 0 rfl)) ?_
    rintro ⟨A2, c2, rfl⟩
    refine wl_look (R := k ≤ c2) (fun wx hm => own_cap (hm.ownI 0 rfl)) ?_
    intro hnc
    refine wl_ov (ov_move rfl) rfl ?_
    refine wl_buildSlice (e := 3) (cs := [.int .i64 0, .int .i64 1, .int .i64 1, .int .i64 5, .int .i64 50]) rfl (by kernel_rfl) rfl fun g7 => ?_
    refine wl_got (γ := Int) (val := fun v => .int .i64 v) (φ := fun v => v ∈ ([0, 1, 1, 5, 50] : List Int)) rfl cb7 rfl rfl rfl rfl (fun wx hm => (pick_any [0, 1, 1, 5, 50] _ _ _ wx B sb _ hm.k (by omega) (by simp) (by simp) (hm.blkI 0 rfl) (hm.neRow 0 rfl rfl))) fun v8 hv8 => ?_
    have bv8 : 0 ≤ v8 ∧ v8 ≤ 50 := mem_rng hv8 (by decide)
    have bv80 := bv8.1
    have bv81 := bv8.2
    clear bv8
    refine wl_ov (ov_move rfl) rfl ?_
    refine wl_buildSlice (e := 3) (cs := [.int .i64 1, .int .i64 2, .int .i64 100, .int .i64 1000000]) rfl (by kernel_rfl) rfl fun g9 => ?_
    refine wl_got (γ := Int) (val := fun v => .int .i64 v) (φ := fun v => v ∈ ([1, 2, 100, 1000000] : List Int)) rfl cb7 rfl rfl rfl rfl (fun wx hm => (pick_any [1, 2, 100, 1000000] _ _ _ wx B sb _ hm.k (by omega) (by simp) (by simp) (hm.blkI 0 rfl) (hm.neRow 0 rfl rfl))) fun v10 hv10 => ?_
    have bv10 : 1 ≤ v10 ∧ v10 ≤ 1000000 := mem_rng hv10 (by decide)
    have bv100 := bv10.1
    have bv101 := bv10.2
    clear bv10
    refine wl_ov (ov_build (cs := [.int .i64 v8, .int .i64 v10]) rfl (by kernel_rfl)) rfl ?_
    refine wl_alloc zc35 rfl fun g11 => ?_
    refine wl_stores (cs' := [.int .i64 v8, .int .i64 v10]) 0 rz35 rfl rfl rfl rfl rfl rfl rfl rfl ?_
    refine wl_nil ?_
    refine nx_then ?_
    refine gw_cut (γ := Int × Int) (I := (fun (g : Int × Int) => True)) (S' := (fun (g : Int × Int) => [(2, .bool false), (4, .slice A2 k c2), (5, .int .i64 v4), (6, .pointer (some ⟨g11, 0, none⟩))])) (K' := (fun (g : Int × Int) => fun w => Strm 25 w B sb (0 + 1 + 1000 + 1 + 1 + 1 + 1 + 1 + 4))) (L' := (fun (g : Int × Int) => [(g11, 35, [.int .i64 g.1, .int .i64 g.2])])) (O' := (fun (g : Int × Int) => [⟨.slice A2 k c2, 33, 6, k, x.flatMap bkEnc⟩])) (X' := (fun (g : Int × Int) => [])) ?_ ?_
    · refine gw_seq ?_
      refine gw_region ?_
      refine wl_ov (ov_move rfl) rfl ?_
      refine wl_got (γ := Bool) (val := fun v => .bool v) (φ := fun v => True) rfl cb8 rfl rfl rfl rfl (fun wx hm => ((flip_any _ wx B sb _ hm.k (by omega) (by omega) (by omega)).mono fun _ _ ⟨v, he, hS, hg⟩ => ⟨v, trivial, he, hS, hg⟩)) fun f12 _ => ?_
      refine wl_nil ?_
      refine nx_then ?_
      refine gw_cond rfl (fun hh => ?_) (fun hh => ?_)
      · have hf2 : f12 = true := by simpa using hh
        clear hh
        refine gw_region ?_
        refine wl_ov (ov_move rfl) rfl ?_
        refine wl_got (γ := Int) (val := fun v => .int .i64 v) (φ := fun v => -2000000000000000 ≤ v ∧ v ≤ 2000000000000000) rfl cb9 rfl rfl rfl rfl (fun wx hm => (odd_any _ _ wx B sb _ hm.k (by omega) (by omega) (by omega) (by omega))) fun v13 hv13 => ?_
        refine wl_ov (ov_move rfl) rfl ?_
        refine wl_got (γ := Int) (val := fun v => .int .i64 v) (φ := fun v => -2000000000000000 ≤ v ∧ v ≤ 2000000000000000) rfl cb9 rfl rfl rfl rfl (fun wx hm => (odd_any _ _ wx B sb _ hm.k (by omega) (by omega) (by omega) (by omega))) fun v14 hv14 => ?_
        refine wl_ov (ov_build (cs := [.int .i64 v13, .int .i64 v14]) rfl (by kernel_rfl)) rfl ?_
        refine wl_stores (cs' := [.int .i64 v13, .int .i64 v14]) 0 rz35 rfl rfl rfl rfl rfl rfl rfl rfl ?_
        refine wl_nil ?_
        exact nx_meet (v13, v14) trivial ⟨rfl, rfl, rfl, rfl, trivial⟩ (fun _ hm => (hm.more rfl (by first | omega | (dsimp only; omega))).pick [0] [0] [] rfl rfl)
      · have hf2 : f12 = false := by simpa using hh
        clear hh
        refine gw_skip ?_
        exact nx_meet (v8, v10) trivial ⟨rfl, rfl, rfl, rfl, trivial⟩ (fun _ hm => (hm.more rfl (by first | omega | (dsimp only; omega))).pick [0] [0] [] rfl rfl)
    · rintro ⟨rn, rd⟩ hinv
      replace hinv : True := hinv
      dsimp only
      refine gw_seq ?_
      refine gw_region ?_
      clear hinv
      refine wl_nest none [] fun w2 hm_w2 => ⟨_, _, _, _, mem0 (X := [BlkOld w2.heap.size none g11 35 [.int .i64 rn, .int .i64 rd], SlOld bkEnc 6 33 w2.heap.size none A2 k x]) (allF_cons (hm_w2.blkI 0 rfl).old (allF_cons (SlT.old (SlT.ofOwn bk_len (hm_w2.ownI 0 rfl) hlen)) allF_nil)) (allL_cons BlkOld.lasts (allL_cons SlOld.lasts allL_nil)), ?_⟩
      obtain ⟨OE, hOE⟩ : ∃ E, E = oddsE x := ⟨_, rfl⟩
      obtain ⟨E2, hE2⟩ : ∃ E, E = firstE [OE, whenE (!inB v4 0 500) 1] := ⟨_, rfl⟩
      obtain ⟨E3, hE3⟩ : ∃ E, E = firstE [E2, whenE (!inB rd 1 1000000 || !inB rn 0 rd) 1] := ⟨_, rfl⟩
      have hE3' : E3 = firstE [OE, whenE (!inB v4 0 500) 1, whenE (!inB rd 1 1000000 || !inB rn 0 rd) 1] := by rw [firstE_split, ← hE2, hE3]
      have hone : OE = firstE [formE x, whenE (decide (9 < ((k : Nat) : Int))) 2] := by rw [hOE]; unfold oddsE; rw [hlen]
      by_cases h0 : OE = 0
      · have hf0 : formE x = 0 := by
          rw [h0] at hone
          by_cases hz : formE x = 0
          · exact hz
          · rw [firstE_ne hz] at hone; exact hone.symm
        have hk9 : k ≤ 9 := by
          by_cases hz : k ≤ 9
          · exact hz
          · rw [h0, hf0, firstE_z, firstE_one, decide_eq_true (by omega)] at hone; exact absurd hone (by decide)
        have hpc := form_pcs hf0
        have hsum := spreadP_sum (pcs_le hpc) k (by rw [pcs_len]; omega)
        rw [show (pcs x).take k = pcs x from List.take_of_length_le (by rw [pcs_len]; omega)] at hsum
        have hDl := spreadP_len (pcs x) k (by rw [pcs_len]; omega)
        rw [show (pcs x).take k = pcs x from List.take_of_length_le (by rw [pcs_len]; omega)] at hDl
        obtain ⟨W, hW⟩ : ∃ W, W = 100 ^ k := ⟨_, rfl⟩
        obtain ⟨D, hD⟩ : ∃ D, D = spreadP (pcs x) := ⟨_, rfl⟩
        rw [← hD] at hDl hsum
        by_cases h02 : E2 = 0
        · have hu : 0 ≤ v4 ∧ v4 ≤ 500 := by
            rw [h02, h0, firstE_z, firstE_one] at hE2
            cases hz : inB v4 0 500 with
            | true => exact inB_iff.1 hz
            | false => rw [hz] at hE2; exact absurd hE2 (by decide)
          obtain ⟨un, rfl⟩ := Int.eq_ofNat_of_zero_le hu.1
          obtain ⟨T, hT⟩ : ∃ T, T = tl (un + 1) (spreadP (pcs x)) := ⟨_, rfl⟩
          by_cases h03 : E3 = 0
          · obtain ⟨⟨hd0, hd1⟩, hn0, hn1⟩ : (1 ≤ rd ∧ rd ≤ 1000000) ∧ 0 ≤ rn ∧ rn ≤ rd := by
              rw [h03, h02, firstE_z, firstE_one] at hE3
              cases hz : inB rd 1 1000000 with
              | false => rw [hz] at hE3; exact absurd hE3 (by simp [whenE])
              | true =>
                cases hz2 : inB rn 0 rd with
                | false => rw [hz, hz2] at hE3; exact absurd hE3 (by decide)
                | true => exact ⟨inB_iff.1 hz, inB_iff.1 hz2⟩
            obtain ⟨num, rfl⟩ := Int.eq_ofNat_of_zero_le hn0
            obtain ⟨den, rfl⟩ := Int.eq_ofNat_of_zero_le (show 0 ≤ rd by omega)
            have hd0 : 1 ≤ den := by omega
            have hd1 : den ≤ 1000000 := by omega
            have hn1 : num ≤ den := by omega
            obtain ⟨MM, hMM⟩ : ∃ M, M = mostF (riskB (pcs x) un num den) (k + 1) := ⟨_, rfl⟩
            refine wl_ov (ov_move rfl) rfl ?_
            refine wl_callgo (γ := Option Addr × Nat) (val := (fun (g : Option Addr × Nat) => .tuple #[.slice g.1 (k + 1) g.2, .int .i64 0])) (φ := (fun (g : Option Addr × Nat) => True)) (fun (g : Option Addr × Nat) => ⟨.slice g.1 (k + 1) g.2, 35, 2, (k + 1), (D.map (fun x => lowF x W)).flatMap frEnc⟩) rfl cb10 rfl rfl (fun wx hm => (by rw [hD, hW]; exact (spread_own x A2 k c2 wx (hm.fact 1 rfl).1 hpc hk9 hok hf0).mono fun _ _ ⟨A4, c4, he, ho, hg⟩ => ⟨(A4, c4), he, trivial, ho, hg⟩)) ?_
            rintro ⟨A4, c4⟩ hphi
            dsimp only at hphi ⊢
            refine wl_ov (ov_move rfl) rfl ?_
            refine wl_ov (ov_extract rfl rfl) rfl ?_
            refine wl_ov (ov_extract rfl rfl) rfl ?_
            refine wl_ov (ov_assign rfl) rfl ?_
            refine wl_ov (ov_assign rfl) rfl ?_
            refine wl_nil ?_
            refine nx_then ?_
            refine gw_seq ?_
            refine gw_region ?_
            refine wl_ov (ov_move rfl) rfl ?_
            refine wl_ov (ov_move rfl) rfl ?_
            refine wl_callv (v := .tuple #[.agg #[.int .i64 ((lowF T W).num), .int .i64 ((lowF T W).den)], .int .i64 0]) rfl cb11 rfl rfl (fun wx hm => (by rw [hT, hW]; exact over_right x A2 k c2 un wx (hm.fact 1 rfl).1 hpc hk9 hok hf0 (by omega))) ?_
            refine wl_ov (ov_move rfl) rfl ?_
            refine wl_ov (ov_extract rfl rfl) rfl ?_
            refine wl_ov (ov_extract rfl rfl) rfl ?_
            refine wl_alloc zc35 rfl fun g42 => ?_
            refine wl_stores (cs' := [.int .i64 ((lowF T W).num), .int .i64 ((lowF T W).den)]) 0 rz35 rfl rfl rfl rfl rfl rfl rfl rfl ?_
            refine wl_ov (ov_assign rfl) rfl ?_
            refine wl_nil ?_
            refine nx_then ?_
            refine gw_seq ?_
            refine gw_region ?_
            refine wl_ov (ov_move rfl) rfl ?_
            refine wl_ov (ov_move rfl) rfl ?_
            refine wl_ov (ov_loads (vs := [.int .i64 ((num : Nat) : Int), .int .i64 ((den : Nat) : Int)]) rz35 rfl (fun _ hm => (hm.fact 0 rfl).2) rfl rfl) rfl ?_
            refine wl_callv (v := .tuple #[.int .i64 ((MM : Nat) : Int), .int .i64 0]) rfl cb12 rfl rfl (fun wx hm => (by rw [hMM]; exact most_right x A2 k c2 un num den wx (hm.fact 1 rfl).1 hpc hk9 hnc hd0 hd1 hn1 hok hf0 (by omega))) ?_
            refine wl_ov (ov_move rfl) rfl ?_
            refine wl_ov (ov_extract rfl rfl) rfl ?_
            refine wl_ov (ov_extract rfl rfl) rfl ?_
            refine wl_ov (ov_assign rfl) rfl ?_
            refine wl_ov (ov_assign rfl) rfl ?_
            refine wl_nil ?_
            refine nx_then ?_
            refine gw_seq ?_
            refine gw_region ?_
            refine wl_ov (ov_move rfl) rfl ?_
            refine wl_callv rfl cb14 rfl rfl (fun wx hm => (bookingForm_any x A2 k c2 wx (hm.fact 1 rfl).1 hok (by omega))) ?_
            refine wl_ov (ov_move rfl) rfl ?_
            refine wl_ov (ov_len es26 rfl) rfl ?_
            refine wl_ov (ov_gtr rfl rfl) rfl ?_
            refine wl_callw rfl cb15 rfl rfl (fun wx hm => (rwhen_any _ _ wx)) ?_
            refine wl_buildSlice (e := 38) (cs := [.int .i64 (formE x), .int .i64 (whenE (decide (9 < ((k : Nat) : Int))) 2)]) rfl (by kernel_rfl) rfl fun g43 => ?_
            refine wl_callw (v := .int .i64 OE) rfl cb13 rfl rfl (fun wx hm => (by have h := errs_any [formE x, whenE (decide (9 < ((k : Nat) : Int))) 2] g43 2 _ wx (hm.blkI 0 rfl) (by simp); rw [← hone] at h; exact h)) ?_
            refine wl_ov (ov_assign rfl) rfl ?_
            refine wl_nil ?_
            refine nx_then ?_
            refine gw_cut (γ := Unit) (I := (fun (z : Unit) => True)) (S' := (fun (z : Unit) => [(2, .bool false), (4, .slice A2 k c2), (5, .int .i64 ((un : Nat) : Int)), (6, .pointer (some ⟨g11, 0, none⟩)), (7, .slice A4 (k + 1) c4), (8, .int .i64 0), (9, .pointer (some ⟨g42, 0, none⟩)), (10, .int .i64 0), (11, .int .i64 ((MM : Nat) : Int)), (12, .int .i64 0), (13, .int .i64 OE), (14, .int .i64 E2)])) (K' := (fun (z : Unit) => fun _ => True)) (L' := (fun (z : Unit) => [(g43, 38, [.int .i64 (formE x), .int .i64 (whenE (decide (9 < ((k : Nat) : Int))) 2)]), (g42, 35, [.int .i64 ((lowF T W).num), .int .i64 ((lowF T W).den)])])) (O' := (fun (z : Unit) => [⟨.slice A4 (k + 1) c4, 35, 2, (k + 1), (D.map (fun x => lowF x W)).flatMap frEnc⟩])) (X' := (fun (z : Unit) => [BlkOld w2.heap.size none g11 35 [.int .i64 ((num : Nat) : Int), .int .i64 ((den : Nat) : Int)], SlOld bkEnc 6 33 w2.heap.size none A2 k x])) ?_ ?_
            · refine gw_region ?_
              refine wl_ov (ov_move rfl) rfl ?_
              refine wl_ov (ov_move rfl) rfl ?_
              refine wl_ov (ov_lss rfl rfl) rfl ?_
              refine wl_ov (ov_move rfl) rfl ?_
              rcases Bool.eq_false_or_eq_true (decide (((un : Nat) : Int) < 0)) with ha0 | ha0
              · refine wl_set 79 rfl (congrArg Value.bool ha0) ?_
                refine wl_guard_off rfl rfl rfl (by decide) rfl ?_
                refine wl_guard_off rfl rfl rfl (by decide) rfl ?_
                refine wl_ov (ov_pick_t rfl rfl) rfl ?_
                refine wl_callw rfl cb15 rfl rfl (fun wx hm => (rwhen_any _ _ wx)) ?_
                refine wl_buildSlice (e := 38) (cs := [.int .i64 OE, .int .i64 (whenE true 1)]) rfl (by kernel_rfl) rfl fun g44 => ?_
                refine wl_callw rfl cb13 rfl rfl (fun wx hm => (errs_any [OE, whenE true 1] _ _ _ wx (hm.blkI 0 rfl) (by simp))) ?_
                refine wl_ov (ov_assign rfl) rfl ?_
                refine wl_nil ?_
                exact nx_meet () trivial ⟨rfl, rfl, rfl, rfl, rfl, rfl, rfl, rfl, rfl, rfl, rfl, (some_int (by (first | (rw [hE2, out_in, ha0]; done) | (rw [hE2, out_in, ha0]; rfl)))), trivial⟩ (fun _ hm => hm.pick [1, 2] [0] [0, 1] rfl rfl)
              · refine wl_set 79 rfl (congrArg Value.bool ha0) ?_
                refine wl_guard_on rfl rfl rfl ?_
                refine wl_ov (ov_move rfl) rfl ?_
                refine wl_guard_on rfl rfl rfl ?_
                refine wl_ov (ov_gtr rfl rfl) rfl ?_
                refine wl_ov (ov_pick_f rfl rfl) rfl ?_
                refine wl_callw rfl cb15 rfl rfl (fun wx hm => (rwhen_any _ _ wx)) ?_
                refine wl_buildSlice (e := 38) (cs := [.int .i64 OE, .int .i64 (whenE (decide (500 < ((un : Nat) : Int))) 1)]) rfl (by kernel_rfl) rfl fun g45 => ?_
                refine wl_callw rfl cb13 rfl rfl (fun wx hm => (errs_any [OE, whenE (decide (500 < ((un : Nat) : Int))) 1] _ _ _ wx (hm.blkI 0 rfl) (by simp))) ?_
                refine wl_ov (ov_assign rfl) rfl ?_
                refine wl_nil ?_
                exact nx_meet () trivial ⟨rfl, rfl, rfl, rfl, rfl, rfl, rfl, rfl, rfl, rfl, rfl, (some_int (by (first | (rw [hE2, out_in, ha0]; done) | (rw [hE2, out_in, ha0]; rfl)))), trivial⟩ (fun _ hm => hm.pick [1, 2] [0] [0, 1] rfl rfl)
            · intro z hinv
              replace hinv : True := hinv
              clear hinv
              refine gw_cut (γ := Unit) (I := (fun (z : Unit) => True)) (S' := (fun (z : Unit) => [(2, .bool false), (4, .slice A2 k c2), (5, .int .i64 ((un : Nat) : Int)), (6, .pointer (some ⟨g11, 0, none⟩)), (7, .slice A4 (k + 1) c4), (8, .int .i64 0), (9, .pointer (some ⟨g42, 0, none⟩)), (10, .int .i64 0), (11, .int .i64 ((MM : Nat) : Int)), (12, .int .i64 0), (13, .int .i64 OE), (14, .int .i64 E2), (15, .int .i64 E3)])) (K' := (fun (z : Unit) => fun _ => True)) (L' := (fun (z : Unit) => [(g43, 38, [.int .i64 (formE x), .int .i64 (whenE (decide (9 < ((k : Nat) : Int))) 2)]), (g42, 35, [.int .i64 ((lowF T W).num), .int .i64 ((lowF T W).den)])])) (O' := (fun (z : Unit) => [⟨.slice A4 (k + 1) c4, 35, 2, (k + 1), (D.map (fun x => lowF x W)).flatMap frEnc⟩])) (X' := (fun (z : Unit) => [BlkOld w2.heap.size none g11 35 [.int .i64 ((num : Nat) : Int), .int .i64 ((den : Nat) : Int)], SlOld bkEnc 6 33 w2.heap.size none A2 k x])) ?_ ?_
              · refine gw_region ?_
                refine wl_ov (ov_move rfl) rfl ?_
                refine wl_ov (ov_field fo35_1 rfl rfl) rfl ?_
                refine wl_ov (ov_load (v := .int .i64 ((den : Nat) : Int)) sc3 rfl (fun _ hm => (hm.fact 0 rfl).2) rfl) rfl ?_
                refine wl_ov (ov_lss rfl rfl) rfl ?_
                refine wl_ov (ov_move rfl) rfl ?_
                rcases Bool.eq_false_or_eq_true (decide (((den : Nat) : Int) < 1)) with hb0 | hb0
                · refine wl_set 90 rfl (congrArg Value.bool hb0) ?_
                  refine wl_guard_off rfl rfl rfl (by decide) rfl ?_
                  refine wl_guard_off rfl rfl rfl (by decide) rfl ?_
                  refine wl_guard_off rfl rfl rfl (by decide) rfl ?_
                  refine wl_ov (ov_pick_t rfl rfl) rfl ?_
                  refine wl_ov (ov_move rfl) rfl ?_
                  refine wl_guard_off rfl rfl rfl (by decide) rfl ?_
                  refine wl_guard_off rfl rfl rfl (by decide) rfl ?_
                  refine wl_guard_off rfl rfl rfl (by decide) rfl ?_
                  refine wl_ov (ov_pick_t rfl rfl) rfl ?_
                  refine wl_ov (ov_move rfl) rfl ?_
                  refine wl_guard_off rfl rfl rfl (by decide) rfl ?_
                  refine wl_guard_off rfl rfl rfl (by decide) rfl ?_
                  refine wl_guard_off rfl rfl rfl (by decide) rfl ?_
                  refine wl_guard_off rfl rfl rfl (by decide) rfl ?_
                  refine wl_guard_off rfl rfl rfl (by decide) rfl ?_
                  refine wl_ov (ov_pick_t rfl rfl) rfl ?_
                  refine wl_callw rfl cb15 rfl rfl (fun wx hm => (rwhen_any _ _ wx)) ?_
                  refine wl_buildSlice (e := 38) (cs := [.int .i64 E2, .int .i64 (whenE true 1)]) rfl (by kernel_rfl) rfl fun g46 => ?_
                  refine wl_callw rfl cb13 rfl rfl (fun wx hm => (errs_any [E2, whenE true 1] _ _ _ wx (hm.blkI 0 rfl) (by simp))) ?_
                  refine wl_ov (ov_assign rfl) rfl ?_
                  refine wl_nil ?_
                  exact nx_meet () trivial ⟨rfl, rfl, rfl, rfl, rfl, rfl, rfl, rfl, rfl, rfl, rfl, rfl, (some_int (by (first | (rw [hE3, out_in, out_in, hb0]; done) | (rw [hE3, out_in, out_in, hb0]; rfl)))), trivial⟩ (fun _ hm => hm.pick [1, 2] [0] [0, 1] rfl rfl)
                · refine wl_set 90 rfl (congrArg Value.bool hb0) ?_
                  refine wl_guard_on rfl rfl rfl ?_
                  refine wl_ov (ov_field fo35_1 rfl rfl) rfl ?_
                  refine wl_guard_on rfl rfl rfl ?_
                  refine wl_ov (ov_load (v := .int .i64 ((den : Nat) : Int)) sc3 rfl (fun _ hm => (hm.fact 0 rfl).2) rfl) rfl ?_
                  refine wl_guard_on rfl rfl rfl ?_
                  refine wl_ov (ov_gtr rfl rfl) rfl ?_
                  refine wl_ov (ov_pick_f rfl rfl) rfl ?_
                  refine wl_ov (ov_move rfl) rfl ?_
                  rcases Bool.eq_false_or_eq_true (decide (1000000 < ((den : Nat) : Int))) with hb1 | hb1
                  · refine wl_set 95 rfl (congrArg Value.bool hb1) ?_
                    refine wl_guard_off rfl rfl rfl (by decide) rfl ?_
                    refine wl_guard_off rfl rfl rfl (by decide) rfl ?_
                    refine wl_guard_off rfl rfl rfl (by decide) rfl ?_
                    refine wl_ov (ov_pick_t rfl rfl) rfl ?_
                    refine wl_ov (ov_move rfl) rfl ?_
                    refine wl_guard_off rfl rfl rfl (by decide) rfl ?_
                    refine wl_guard_off rfl rfl rfl (by decide) rfl ?_
                    refine wl_guard_off rfl rfl rfl (by decide) rfl ?_
                    refine wl_guard_off rfl rfl rfl (by decide) rfl ?_
                    refine wl_guard_off rfl rfl rfl (by decide) rfl ?_
                    refine wl_ov (ov_pick_t rfl rfl) rfl ?_
                    refine wl_callw rfl cb15 rfl rfl (fun wx hm => (rwhen_any _ _ wx)) ?_
                    refine wl_buildSlice (e := 38) (cs := [.int .i64 E2, .int .i64 (whenE true 1)]) rfl (by kernel_rfl) rfl fun g47 => ?_
                    refine wl_callw rfl cb13 rfl rfl (fun wx hm => (errs_any [E2, whenE true 1] _ _ _ wx (hm.blkI 0 rfl) (by simp))) ?_
                    refine wl_ov (ov_assign rfl) rfl ?_
                    refine wl_nil ?_
                    exact nx_meet () trivial ⟨rfl, rfl, rfl, rfl, rfl, rfl, rfl, rfl, rfl, rfl, rfl, rfl, (some_int (by (first | (rw [hE3, out_in, out_in, hb0, hb1]; done) | (rw [hE3, out_in, out_in, hb0, hb1]; rfl)))), trivial⟩ (fun _ hm => hm.pick [1, 2] [0] [0, 1] rfl rfl)
                  · refine wl_set 95 rfl (congrArg Value.bool hb1) ?_
                    refine wl_guard_on rfl rfl rfl ?_
                    refine wl_ov (ov_field fo35_0 rfl rfl) rfl ?_
                    refine wl_guard_on rfl rfl rfl ?_
                    refine wl_ov (ov_load (v := .int .i64 ((num : Nat) : Int)) sc3 rfl (fun _ hm => (hm.fact 0 rfl).2) rfl) rfl ?_
                    refine wl_guard_on rfl rfl rfl ?_
                    refine wl_ov (ov_lss rfl rfl) rfl ?_
                    refine wl_ov (ov_pick_f rfl rfl) rfl ?_
                    refine wl_ov (ov_move rfl) rfl ?_
                    rcases Bool.eq_false_or_eq_true (decide (((num : Nat) : Int) < 0)) with hb2 | hb2
                    · refine wl_set 100 rfl (congrArg Value.bool hb2) ?_
                      refine wl_guard_off rfl rfl rfl (by decide) rfl ?_
                      refine wl_guard_off rfl rfl rfl (by decide) rfl ?_
                      refine wl_guard_off rfl rfl rfl (by decide) rfl ?_
                      refine wl_guard_off rfl rfl rfl (by decide) rfl ?_
                      refine wl_guard_off rfl rfl rfl (by decide) rfl ?_
                      refine wl_ov (ov_pick_t rfl rfl) rfl ?_
                      refine wl_callw rfl cb15 rfl rfl (fun wx hm => (rwhen_any _ _ wx)) ?_
                      refine wl_buildSlice (e := 38) (cs := [.int .i64 E2, .int .i64 (whenE true 1)]) rfl (by kernel_rfl) rfl fun g48 => ?_
                      refine wl_callw rfl cb13 rfl rfl (fun wx hm => (errs_any [E2, whenE true 1] _ _ _ wx (hm.blkI 0 rfl) (by simp))) ?_
                      refine wl_ov (ov_assign rfl) rfl ?_
                      refine wl_nil ?_
                      exact nx_meet () trivial ⟨rfl, rfl, rfl, rfl, rfl, rfl, rfl, rfl, rfl, rfl, rfl, rfl, (some_int (by (first | (rw [hE3, out_in, out_in, hb0, hb1, hb2]; done) | (rw [hE3, out_in, out_in, hb0, hb1, hb2]; rfl)))), trivial⟩ (fun _ hm => hm.pick [1, 2] [0] [0, 1] rfl rfl)
                    · refine wl_set 100 rfl (congrArg Value.bool hb2) ?_
                      refine wl_guard_on rfl rfl rfl ?_
                      refine wl_ov (ov_field fo35_0 rfl rfl) rfl ?_
                      refine wl_guard_on rfl rfl rfl ?_
                      refine wl_ov (ov_load (v := .int .i64 ((num : Nat) : Int)) sc3 rfl (fun _ hm => (hm.fact 0 rfl).2) rfl) rfl ?_
                      refine wl_guard_on rfl rfl rfl ?_
                      refine wl_ov (ov_field fo35_1 rfl rfl) rfl ?_
                      refine wl_guard_on rfl rfl rfl ?_
                      refine wl_ov (ov_load (v := .int .i64 ((den : Nat) : Int)) sc3 rfl (fun _ hm => (hm.fact 0 rfl).2) rfl) rfl ?_
                      refine wl_guard_on rfl rfl rfl ?_
                      refine wl_ov (ov_gtr rfl rfl) rfl ?_
                      refine wl_ov (ov_pick_f rfl rfl) rfl ?_
                      refine wl_callw rfl cb15 rfl rfl (fun wx hm => (rwhen_any _ _ wx)) ?_
                      refine wl_buildSlice (e := 38) (cs := [.int .i64 E2, .int .i64 (whenE (decide (((den : Nat) : Int) < ((num : Nat) : Int))) 1)]) rfl (by kernel_rfl) rfl fun g49 => ?_
                      refine wl_callw rfl cb13 rfl rfl (fun wx hm => (errs_any [E2, whenE (decide (((den : Nat) : Int) < ((num : Nat) : Int))) 1] _ _ _ wx (hm.blkI 0 rfl) (by simp))) ?_
                      refine wl_ov (ov_assign rfl) rfl ?_
                      refine wl_nil ?_
                      exact nx_meet () trivial ⟨rfl, rfl, rfl, rfl, rfl, rfl, rfl, rfl, rfl, rfl, rfl, rfl, (some_int (by (first | (rw [hE3, out_in, out_in, hb0, hb1, hb2]; done) | (rw [hE3, out_in, out_in, hb0, hb1, hb2]; rfl)))), trivial⟩ (fun _ hm => hm.pick [1, 2] [0] [0, 1] rfl rfl)
              · intro z hinv
                replace hinv : True := hinv
                refine gw_seq ?_
                refine gw_seq ?_
                refine gw_region ?_
                clear hinv
                refine wl_set 13 (v' := .int .i64 0) rfl (congrArg (Value.int .i64) h0) ?_
                refine wl_set 14 (v' := .int .i64 0) rfl (congrArg (Value.int .i64) h02) ?_
                refine wl_set 15 (v' := .int .i64 0) rfl (congrArg (Value.int .i64) h03) ?_
                refine wl_ov (ov_move rfl) rfl ?_
                refine wl_ov (ov_move rfl) rfl ?_
                refine wl_ov (ov_neq rfl rfl) rfl ?_
                refine wl_set 112 (v' := .bool false) rfl (congrArg Value.bool (by decide)) ?_
                refine wl_ov (ov_move rfl) rfl ?_
                refine wl_guard_on rfl rfl rfl ?_
                refine wl_ov (ov_move rfl) rfl ?_
                refine wl_guard_on rfl rfl rfl ?_
                refine wl_ov (ov_move rfl) rfl ?_
                refine wl_guard_on rfl rfl rfl ?_
                refine wl_ov (ov_neq rfl rfl) rfl ?_
                refine wl_set 116 (v' := .bool false) rfl (congrArg Value.bool (by decide)) ?_
                refine wl_ov (ov_pick_f rfl rfl) rfl ?_
                refine wl_ov (ov_move rfl) rfl ?_
                refine wl_guard_on rfl rfl rfl ?_
                refine wl_ov (ov_move rfl) rfl ?_
                refine wl_guard_on rfl rfl rfl ?_
                refine wl_ov (ov_move rfl) rfl ?_
                refine wl_guard_on rfl rfl rfl ?_
                refine wl_ov (ov_neq rfl rfl) rfl ?_
                refine wl_set 121 (v' := .bool false) rfl (congrArg Value.bool (by decide)) ?_
                refine wl_ov (ov_pick_f rfl rfl) rfl ?_
                refine wl_ov (ov_move rfl) rfl ?_
                refine wl_guard_on rfl rfl rfl ?_
                refine wl_ov (ov_move rfl) rfl ?_
                refine wl_guard_on rfl rfl rfl ?_
                refine wl_ov (ov_neq rfl rfl) rfl ?_
                refine wl_set 125 (v' := .bool false) rfl (congrArg Value.bool (by decide)) ?_
                refine wl_guard_on rfl rfl rfl ?_
                refine wl_ov (ov_move rfl) rfl ?_
                refine wl_guard_off rfl rfl rfl (by decide) rfl ?_
                refine wl_guard_off rfl rfl rfl (by decide) rfl ?_
                refine wl_guard_off rfl rfl rfl (by decide) rfl ?_
                refine wl_guard_on rfl rfl rfl ?_
                refine wl_ov (ov_pick_f rfl rfl) rfl ?_
                refine wl_ov (ov_pick_f rfl rfl) rfl ?_
                refine wl_ov (ov_move rfl) rfl ?_
                refine wl_guard_on rfl rfl rfl ?_
                refine wl_ov (ov_move rfl) rfl ?_
                refine wl_guard_on rfl rfl rfl ?_
                refine wl_ov (ov_eql rfl rfl) rfl ?_
                refine wl_set 134 (v' := .bool true) rfl (congrArg Value.bool (by decide)) ?_
                refine wl_guard_on rfl rfl rfl ?_
                refine wl_ov (ov_move rfl) rfl ?_
                refine wl_guard_on rfl rfl rfl ?_
                refine wl_ov (ov_move rfl) rfl ?_
                refine wl_guard_on rfl rfl rfl ?_
                refine wl_ov (ov_move rfl) rfl ?_
                refine wl_guard_on rfl rfl rfl ?_
                refine wl_callgo (γ := Option Addr × Nat) (val := (fun (g : Option Addr × Nat) => .slice g.1 (k + 1) g.2)) (φ := (fun (g : Option Addr × Nat) => True)) (fun (g : Option Addr × Nat) => ⟨.slice g.1 (k + 1) g.2, 35, 2, (k + 1), (D.map (fun x => lowF x W)).flatMap frEnc⟩) rfl cb17 rfl rfl (fun wx hm => (by rw [hD, hW]; exact (spreadOf_own x A2 k c2 wx (hm.fact 1 rfl).1 hpc hk9).mono fun _ _ ⟨A4, c4, he, ho, hg⟩ => ⟨(A4, c4), he, trivial, ho, hg⟩)) ?_
                rintro ⟨A5, c5⟩ hphi
                dsimp only at hphi ⊢
                refine wl_guard_on rfl rfl rfl ?_
                refine wl_callv rfl cb16 rfl rfl (fun wx hm => (equal_fraction_any (D.map (fun x => lowF x W)) A4 A5 (k + 1) c4 c5 wx (SlT.ofOwn fr_len (hm.ownI 1 rfl) (by simp; exact hDl)) (SlT.ofOwn fr_len (hm.ownI 0 rfl) (by simp; exact hDl)) (by omega))) ?_
                refine wl_guard_on rfl rfl rfl ?_
                refine wl_ov (ov_un_not rfl) rfl ?_
                refine wl_set 140 (v' := .bool false) rfl (congrArg Value.bool (by decide)) ?_
                refine wl_guard_on rfl rfl rfl ?_
                refine wl_ov (ov_pick_t rfl rfl) rfl ?_
                refine wl_ov (ov_pick_f rfl rfl) rfl ?_
                refine wl_nil ?_
                refine nx_then ?_
                refine gw_cond rfl (fun hh => by cases hh) (fun _ => ?_)
                refine gw_skip ?_
                refine nx_then ?_
                refine gw_seq ?_
                refine gw_region ?_
                refine wl_ov (ov_build (cs := [.int .i64 0, .int .i64 0]) rfl (by kernel_rfl)) rfl ?_
                refine wl_alloc zc35 rfl fun g50 => ?_
                refine wl_stores (cs' := [.int .i64 0, .int .i64 0]) 0 rz35 rfl rfl rfl rfl rfl rfl rfl rfl ?_
                refine wl_ov (ov_assign rfl) rfl ?_
                refine wl_nil ?_
                refine nx_then ?_
                refine gw_seq ?_
                refine gw_seq ?_
                refine gw_region ?_
                refine wl_ov (ov_move rfl) rfl ?_
                refine wl_ov (ov_eql rfl rfl) rfl ?_
                refine wl_set 145 (v' := .bool true) rfl (congrArg Value.bool (by decide)) ?_
                refine wl_nil ?_
                refine nx_then ?_
                refine gw_cond rfl (fun _ => ?_) (fun hh => by cases hh)
                refine gw_region ?_
                refine wl_ov (ov_move rfl) rfl ?_
                refine wl_ov (ov_move rfl) rfl ?_
                refine wl_callv (v := .agg #[.int .i64 ((lowF T W).num), .int .i64 ((lowF T W).den)]) rfl cb18 rfl rfl (fun wx hm => (by rw [hT, hW]; exact overOf_right x A2 k c2 un wx (hm.fact 1 rfl).1 hpc hk9)) ?_
                refine wl_stores (cs' := [.int .i64 ((lowF T W).num), .int .i64 ((lowF T W).den)]) 0 rz35 rfl rfl rfl rfl rfl rfl rfl rfl ?_
                refine wl_nil ?_
                refine nx_then ?_
                refine gw_seq ?_
                refine gw_seq ?_
                refine gw_region ?_
                refine wl_ov (ov_move rfl) rfl ?_
                refine wl_ov (ov_eql rfl rfl) rfl ?_
                refine wl_set 150 (v' := .bool true) rfl (congrArg Value.bool (by decide)) ?_
                refine wl_nil ?_
                refine nx_then ?_
                refine gw_cond rfl (fun _ => ?_) (fun hh => by cases hh)
                refine gw_region ?_
                refine wl_ov (ov_move rfl) rfl ?_
                refine wl_ov (ov_move rfl) rfl ?_
                refine wl_ov (ov_loads (vs := [.int .i64 ((num : Nat) : Int), .int .i64 ((den : Nat) : Int)]) rz35 rfl (fun _ hm => (hm.fact 0 rfl).2) rfl rfl) rfl ?_
                refine wl_callv (v := .int .i64 ((MM : Nat) : Int)) rfl cb19 rfl rfl (fun wx hm => (by rw [hMM]; exact mostOf_any x A2 k c2 un num den wx (hm.fact 1 rfl).1 hpc hk9 hnc hd0 hd1 hn1)) ?_
                refine wl_ov (ov_assign rfl) rfl ?_
                refine wl_nil ?_
                refine nx_then ?_
                refine gw_seq ?_
                refine gw_region ?_
                refine wl_ov (ov_loads rz35 rfl (fun _ hm => hm.blkI 2 rfl) rfl rfl) rfl ?_
                refine wl_ov (ov_loads rz35 rfl (fun _ hm => hm.blkI 0 rfl) rfl rfl) rfl ?_
                refine wl_ov (ov_bin rfl rfl (cmp_agg guard_fraction (fun wx => same_fraction_eql ((lowF T W).num) ((lowF T W).den) wx))) rfl ?_
                refine wl_ov (ov_move rfl) rfl ?_
                refine wl_guard_on rfl rfl rfl ?_
                refine wl_ov (ov_move rfl) rfl ?_
                refine wl_guard_on rfl rfl rfl ?_
                refine wl_ov (ov_move rfl) rfl ?_
                refine wl_guard_on rfl rfl rfl ?_
                refine wl_ov (ov_eql rfl rfl) rfl ?_
                refine wl_set 161 (v' := .bool true) rfl (congrArg Value.bool (by simp)) ?_
                refine wl_ov (ov_pick_t rfl rfl) rfl ?_
                refine wl_ov (ov_move rfl) rfl ?_
                refine wl_guard_on rfl rfl rfl ?_
                refine wl_callv rfl cb20 rfl rfl (fun wx hm => (booked_any wx)) ?_
                refine wl_ov (ov_pick_t rfl rfl) rfl ?_
                refine wl_ov (ov_assign rfl) rfl ?_
                refine wl_nil ?_
                refine nx_then ?_
                refine gw_ret ?_
                refine nx_ret1 rfl rfl fun wx hm => ?_
                exact ⟨rfl, law_end hg1 hsb (grow_trans hm_w2.g (grow_weak hm.g))⟩
          · have hC : E3 ≠ 0 := h03
            refine wl_ov (ov_move rfl) rfl ?_
            refine wl_callgo (γ := Option Addr × Nat) (val := (fun (g : Option Addr × Nat) => .tuple #[.slice g.1 (k + 1) g.2, .int .i64 0])) (φ := (fun (g : Option Addr × Nat) => True)) (fun (g : Option Addr × Nat) => ⟨.slice g.1 (k + 1) g.2, 35, 2, (k + 1), (D.map (fun x => lowF x W)).flatMap frEnc⟩) rfl cb10 rfl rfl (fun wx hm => (by rw [hD, hW]; exact (spread_own x A2 k c2 wx (hm.fact 1 rfl).1 hpc hk9 hok hf0).mono fun _ _ ⟨A4, c4, he, ho, hg⟩ => ⟨(A4, c4), he, trivial, ho, hg⟩)) ?_
            rintro ⟨A4, c4⟩ hphi
            dsimp only at hphi ⊢
            refine wl_ov (ov_move rfl) rfl ?_
            refine wl_ov (ov_extract rfl rfl) rfl ?_
            refine wl_ov (ov_extract rfl rfl) rfl ?_
            refine wl_ov (ov_assign rfl) rfl ?_
            refine wl_ov (ov_assign rfl) rfl ?_
            refine wl_nil ?_
            refine nx_then ?_
            refine gw_seq ?_
            refine gw_region ?_
            refine wl_ov (ov_move rfl) rfl ?_
            refine wl_ov (ov_move rfl) rfl ?_
            refine wl_callv (v := .tuple #[.agg #[.int .i64 ((lowF T W).num), .int .i64 ((lowF T W).den)], .int .i64 0]) rfl cb11 rfl rfl (fun wx hm => (by rw [hT, hW]; exact over_right x A2 k c2 un wx (hm.fact 1 rfl).1 hpc hk9 hok hf0 (by omega))) ?_
            refine wl_ov (ov_move rfl) rfl ?_
            refine wl_ov (ov_extract rfl rfl) rfl ?_
            refine wl_ov (ov_extract rfl rfl) rfl ?_
            refine wl_alloc zc35 rfl fun g33 => ?_
            refine wl_stores (cs' := [.int .i64 ((lowF T W).num), .int .i64 ((lowF T W).den)]) 0 rz35 rfl rfl rfl rfl rfl rfl rfl rfl ?_
            refine wl_ov (ov_assign rfl) rfl ?_
            refine wl_nil ?_
            refine nx_then ?_
            refine gw_seq ?_
            refine gw_region ?_
            refine wl_ov (ov_move rfl) rfl ?_
            refine wl_ov (ov_move rfl) rfl ?_
            refine wl_ov (ov_loads (vs := [.int .i64 rn, .int .i64 rd]) rz35 rfl (fun _ hm => (hm.fact 0 rfl).2) rfl rfl) rfl ?_
            refine wl_callv (v := .tuple #[.int .i64 0, .int .i64 E3]) rfl cb12 rfl rfl (fun wx hm => (by have h := most_bad x A2 k c2 ((un : Nat) : Int) rn rd wx (hm.fact 1 rfl).1 hok (by omega) (by rw [← hOE, ← hE3']; exact hC); rw [← hOE, ← hE3'] at h; exact h)) ?_
            refine wl_ov (ov_move rfl) rfl ?_
            refine wl_ov (ov_extract rfl rfl) rfl ?_
            refine wl_ov (ov_extract rfl rfl) rfl ?_
            refine wl_ov (ov_assign rfl) rfl ?_
            refine wl_ov (ov_assign rfl) rfl ?_
            refine wl_nil ?_
            refine nx_then ?_
            refine gw_seq ?_
            refine gw_region ?_
            refine wl_ov (ov_move rfl) rfl ?_
            refine wl_callv rfl cb14 rfl rfl (fun wx hm => (bookingForm_any x A2 k c2 wx (hm.fact 1 rfl).1 hok (by omega))) ?_
            refine wl_ov (ov_move rfl) rfl ?_
            refine wl_ov (ov_len es26 rfl) rfl ?_
            refine wl_ov (ov_gtr rfl rfl) rfl ?_
            refine wl_callw rfl cb15 rfl rfl (fun wx hm => (rwhen_any _ _ wx)) ?_
            refine wl_buildSlice (e := 38) (cs := [.int .i64 (formE x), .int .i64 (whenE (decide (9 < ((k : Nat) : Int))) 2)]) rfl (by kernel_rfl) rfl fun g34 => ?_
            refine wl_callw (v := .int .i64 OE) rfl cb13 rfl rfl (fun wx hm => (by have h := errs_any [formE x, whenE (decide (9 < ((k : Nat) : Int))) 2] g34 2 _ wx (hm.blkI 0 rfl) (by simp); rw [← hone] at h; exact h)) ?_
            refine wl_ov (ov_assign rfl) rfl ?_
            refine wl_nil ?_
            refine nx_then ?_
            refine gw_cut (γ := Unit) (I := (fun (z : Unit) => True)) (S' := (fun (z : Unit) => [(2, .bool false), (4, .slice A2 k c2), (5, .int .i64 ((un : Nat) : Int)), (6, .pointer (some ⟨g11, 0, none⟩)), (7, .slice A4 (k + 1) c4), (8, .int .i64 0), (9, .pointer (some ⟨g33, 0, none⟩)), (10, .int .i64 0), (11, .int .i64 0), (12, .int .i64 E3), (13, .int .i64 OE), (14, .int .i64 E2)])) (K' := (fun (z : Unit) => fun _ => True)) (L' := (fun (z : Unit) => [(g34, 38, [.int .i64 (formE x), .int .i64 (whenE (decide (9 < ((k : Nat) : Int))) 2)]), (g33, 35, [.int .i64 ((lowF T W).num), .int .i64 ((lowF T W).den)])])) (O' := (fun (z : Unit) => [⟨.slice A4 (k + 1) c4, 35, 2, (k + 1), (D.map (fun x => lowF x W)).flatMap frEnc⟩])) (X' := (fun (z : Unit) => [BlkOld w2.heap.size none g11 35 [.int .i64 rn, .int .i64 rd], SlOld bkEnc 6 33 w2.heap.size none A2 k x])) ?_ ?_
            · refine gw_region ?_
              refine wl_ov (ov_move rfl) rfl ?_
              refine wl_ov (ov_move rfl) rfl ?_
              refine wl_ov (ov_lss rfl rfl) rfl ?_
              refine wl_ov (ov_move rfl) rfl ?_
              rcases Bool.eq_false_or_eq_true (decide (((un : Nat) : Int) < 0)) with ha0 | ha0
              · refine wl_set 79 rfl (congrArg Value.bool ha0) ?_
                refine wl_guard_off rfl rfl rfl (by decide) rfl ?_
                refine wl_guard_off rfl rfl rfl (by decide) rfl ?_
                refine wl_ov (ov_pick_t rfl rfl) rfl ?_
                refine wl_callw rfl cb15 rfl rfl (fun wx hm => (rwhen_any _ _ wx)) ?_
                refine wl_buildSlice (e := 38) (cs := [.int .i64 OE, .int .i64 (whenE true 1)]) rfl (by kernel_rfl) rfl fun g35 => ?_
                refine wl_callw rfl cb13 rfl rfl (fun wx hm => (errs_any [OE, whenE true 1] _ _ _ wx (hm.blkI 0 rfl) (by simp))) ?_
                refine wl_ov (ov_assign rfl) rfl ?_
                refine wl_nil ?_
                exact nx_meet () trivial ⟨rfl, rfl, rfl, rfl, rfl, rfl, rfl, rfl, rfl, rfl, rfl, (some_int (by (first | (rw [hE2, out_in, ha0]; done) | (rw [hE2, out_in, ha0]; rfl)))), trivial⟩ (fun _ hm => hm.pick [1, 2] [0] [0, 1] rfl rfl)
              · refine wl_set 79 rfl (congrArg Value.bool ha0) ?_
                refine wl_guard_on rfl rfl rfl ?_
                refine wl_ov (ov_move rfl) rfl ?_
                refine wl_guard_on rfl rfl rfl ?_
                refine wl_ov (ov_gtr rfl rfl) rfl ?_
                refine wl_ov (ov_pick_f rfl rfl) rfl ?_
                refine wl_callw rfl cb15 rfl rfl (fun wx hm => (rwhen_any _ _ wx)) ?_
                refine wl_buildSlice (e := 38) (cs := [.int .i64 OE, .int .i64 (whenE (decide (500 < ((un : Nat) : Int))) 1)]) rfl (by kernel_rfl) rfl fun g36 => ?_
                refine wl_callw rfl cb13 rfl rfl (fun wx hm => (errs_any [OE, whenE (decide (500 < ((un : Nat) : Int))) 1] _ _ _ wx (hm.blkI 0 rfl) (by simp))) ?_
                refine wl_ov (ov_assign rfl) rfl ?_
                refine wl_nil ?_
                exact nx_meet () trivial ⟨rfl, rfl, rfl, rfl, rfl, rfl, rfl, rfl, rfl, rfl, rfl, (some_int (by (first | (rw [hE2, out_in, ha0]; done) | (rw [hE2, out_in, ha0]; rfl)))), trivial⟩ (fun _ hm => hm.pick [1, 2] [0] [0, 1] rfl rfl)
            · intro z hinv
              replace hinv : True := hinv
              clear hinv
              refine gw_cut (γ := Unit) (I := (fun (z : Unit) => True)) (S' := (fun (z : Unit) => [(2, .bool false), (4, .slice A2 k c2), (5, .int .i64 ((un : Nat) : Int)), (6, .pointer (some ⟨g11, 0, none⟩)), (7, .slice A4 (k + 1) c4), (8, .int .i64 0), (9, .pointer (some ⟨g33, 0, none⟩)), (10, .int .i64 0), (11, .int .i64 0), (12, .int .i64 E3), (13, .int .i64 OE), (14, .int .i64 E2), (15, .int .i64 E3)])) (K' := (fun (z : Unit) => fun _ => True)) (L' := (fun (z : Unit) => [(g34, 38, [.int .i64 (formE x), .int .i64 (whenE (decide (9 < ((k : Nat) : Int))) 2)]), (g33, 35, [.int .i64 ((lowF T W).num), .int .i64 ((lowF T W).den)])])) (O' := (fun (z : Unit) => [⟨.slice A4 (k + 1) c4, 35, 2, (k + 1), (D.map (fun x => lowF x W)).flatMap frEnc⟩])) (X' := (fun (z : Unit) => [BlkOld w2.heap.size none g11 35 [.int .i64 rn, .int .i64 rd], SlOld bkEnc 6 33 w2.heap.size none A2 k x])) ?_ ?_
              · refine gw_region ?_
                refine wl_ov (ov_move rfl) rfl ?_
                refine wl_ov (ov_field fo35_1 rfl rfl) rfl ?_
                refine wl_ov (ov_load (v := .int .i64 rd) sc3 rfl (fun _ hm => (hm.fact 0 rfl).2) rfl) rfl ?_
                refine wl_ov (ov_lss rfl rfl) rfl ?_
                refine wl_ov (ov_move rfl) rfl ?_
                rcases Bool.eq_false_or_eq_true (decide (rd < 1)) with hb0 | hb0
                · refine wl_set 90 rfl (congrArg Value.bool hb0) ?_
                  refine wl_guard_off rfl rfl rfl (by decide) rfl ?_
                  refine wl_guard_off rfl rfl rfl (by decide) rfl ?_
                  refine wl_guard_off rfl rfl rfl (by decide) rfl ?_
                  refine wl_ov (ov_pick_t rfl rfl) rfl ?_
                  refine wl_ov (ov_move rfl) rfl ?_
                  refine wl_guard_off rfl rfl rfl (by decide) rfl ?_
                  refine wl_guard_off rfl rfl rfl (by decide) rfl ?_
                  refine wl_guard_off rfl rfl rfl (by decide) rfl ?_
                  refine wl_ov (ov_pick_t rfl rfl) rfl ?_
                  refine wl_ov (ov_move rfl) rfl ?_
                  refine wl_guard_off rfl rfl rfl (by decide) rfl ?_
                  refine wl_guard_off rfl rfl rfl (by decide) rfl ?_
                  refine wl_guard_off rfl rfl rfl (by decide) rfl ?_
                  refine wl_guard_off rfl rfl rfl (by decide) rfl ?_
                  refine wl_guard_off rfl rfl rfl (by decide) rfl ?_
                  refine wl_ov (ov_pick_t rfl rfl) rfl ?_
                  refine wl_callw rfl cb15 rfl rfl (fun wx hm => (rwhen_any _ _ wx)) ?_
                  refine wl_buildSlice (e := 38) (cs := [.int .i64 E2, .int .i64 (whenE true 1)]) rfl (by kernel_rfl) rfl fun g37 => ?_
                  refine wl_callw rfl cb13 rfl rfl (fun wx hm => (errs_any [E2, whenE true 1] _ _ _ wx (hm.blkI 0 rfl) (by simp))) ?_
                  refine wl_ov (ov_assign rfl) rfl ?_
                  refine wl_nil ?_
                  exact nx_meet () trivial ⟨rfl, rfl, rfl, rfl, rfl, rfl, rfl, rfl, rfl, rfl, rfl, rfl, (some_int (by (first | (rw [hE3, out_in, out_in, hb0]; done) | (rw [hE3, out_in, out_in, hb0]; rfl)))), trivial⟩ (fun _ hm => hm.pick [1, 2] [0] [0, 1] rfl rfl)
                · refine wl_set 90 rfl (congrArg Value.bool hb0) ?_
                  refine wl_guard_on rfl rfl rfl ?_
                  refine wl_ov (ov_field fo35_1 rfl rfl) rfl ?_
                  refine wl_guard_on rfl rfl rfl ?_
                  refine wl_ov (ov_load (v := .int .i64 rd) sc3 rfl (fun _ hm => (hm.fact 0 rfl).2) rfl) rfl ?_
                  refine wl_guard_on rfl rfl rfl ?_
                  refine wl_ov (ov_gtr rfl rfl) rfl ?_
                  refine wl_ov (ov_pick_f rfl rfl) rfl ?_
                  refine wl_ov (ov_move rfl) rfl ?_
                  rcases Bool.eq_false_or_eq_true (decide (1000000 < rd)) with hb1 | hb1
                  · refine wl_set 95 rfl (congrArg Value.bool hb1) ?_
                    refine wl_guard_off rfl rfl rfl (by decide) rfl ?_
                    refine wl_guard_off rfl rfl rfl (by decide) rfl ?_
                    refine wl_guard_off rfl rfl rfl (by decide) rfl ?_
                    refine wl_ov (ov_pick_t rfl rfl) rfl ?_
                    refine wl_ov (ov_move rfl) rfl ?_
                    refine wl_guard_off rfl rfl rfl (by decide) rfl ?_
                    refine wl_guard_off rfl rfl rfl (by decide) rfl ?_
                    refine wl_guard_off rfl rfl rfl (by decide) rfl ?_
                    refine wl_guard_off rfl rfl rfl (by decide) rfl ?_
                    refine wl_guard_off rfl rfl rfl (by decide) rfl ?_
                    refine wl_ov (ov_pick_t rfl rfl) rfl ?_
                    refine wl_callw rfl cb15 rfl rfl (fun wx hm => (rwhen_any _ _ wx)) ?_
                    refine wl_buildSlice (e := 38) (cs := [.int .i64 E2, .int .i64 (whenE true 1)]) rfl (by kernel_rfl) rfl fun g38 => ?_
                    refine wl_callw rfl cb13 rfl rfl (fun wx hm => (errs_any [E2, whenE true 1] _ _ _ wx (hm.blkI 0 rfl) (by simp))) ?_
                    refine wl_ov (ov_assign rfl) rfl ?_
                    refine wl_nil ?_
                    exact nx_meet () trivial ⟨rfl, rfl, rfl, rfl, rfl, rfl, rfl, rfl, rfl, rfl, rfl, rfl, (some_int (by (first | (rw [hE3, out_in, out_in, hb0, hb1]; done) | (rw [hE3, out_in, out_in, hb0, hb1]; rfl)))), trivial⟩ (fun _ hm => hm.pick [1, 2] [0] [0, 1] rfl rfl)
                  · refine wl_set 95 rfl (congrArg Value.bool hb1) ?_
                    refine wl_guard_on rfl rfl rfl ?_
                    refine wl_ov (ov_field fo35_0 rfl rfl) rfl ?_
                    refine wl_guard_on rfl rfl rfl ?_
                    refine wl_ov (ov_load (v := .int .i64 rn) sc3 rfl (fun _ hm => (hm.fact 0 rfl).2) rfl) rfl ?_
                    refine wl_guard_on rfl rfl rfl ?_
                    refine wl_ov (ov_lss rfl rfl) rfl ?_
                    refine wl_ov (ov_pick_f rfl rfl) rfl ?_
                    refine wl_ov (ov_move rfl) rfl ?_
                    rcases Bool.eq_false_or_eq_true (decide (rn < 0)) with hb2 | hb2
                    · refine wl_set 100 rfl (congrArg Value.bool hb2) ?_
                      refine wl_guard_off rfl rfl rfl (by decide) rfl ?_
                      refine wl_guard_off rfl rfl rfl (by decide) rfl ?_
                      refine wl_guard_off rfl rfl rfl (by decide) rfl ?_
                      refine wl_guard_off rfl rfl rfl (by decide) rfl ?_
                      refine wl_guard_off rfl rfl rfl (by decide) rfl ?_
                      refine wl_ov (ov_pick_t rfl rfl) rfl ?_
                      refine wl_callw rfl cb15 rfl rfl (fun wx hm => (rwhen_any _ _ wx)) ?_
                      refine wl_buildSlice (e := 38) (cs := [.int .i64 E2, .int .i64 (whenE true 1)]) rfl (by kernel_rfl) rfl fun g39 => ?_
                      refine wl_callw rfl cb13 rfl rfl (fun wx hm => (errs_any [E2, whenE true 1] _ _ _ wx (hm.blkI 0 rfl) (by simp))) ?_
                      refine wl_ov (ov_assign rfl) rfl ?_
                      refine wl_nil ?_
                      exact nx_meet () trivial ⟨rfl, rfl, rfl, rfl, rfl, rfl, rfl, rfl, rfl, rfl, rfl, rfl, (some_int (by (first | (rw [hE3, out_in, out_in, hb0, hb1, hb2]; done) | (rw [hE3, out_in, out_in, hb0, hb1, hb2]; rfl)))), trivial⟩ (fun _ hm => hm.pick [1, 2] [0] [0, 1] rfl rfl)
                    · refine wl_set 100 rfl (congrArg Value.bool hb2) ?_
                      refine wl_guard_on rfl rfl rfl ?_
                      refine wl_ov (ov_field fo35_0 rfl rfl) rfl ?_
                      refine wl_guard_on rfl rfl rfl ?_
                      refine wl_ov (ov_load (v := .int .i64 rn) sc3 rfl (fun _ hm => (hm.fact 0 rfl).2) rfl) rfl ?_
                      refine wl_guard_on rfl rfl rfl ?_
                      refine wl_ov (ov_field fo35_1 rfl rfl) rfl ?_
                      refine wl_guard_on rfl rfl rfl ?_
                      refine wl_ov (ov_load (v := .int .i64 rd) sc3 rfl (fun _ hm => (hm.fact 0 rfl).2) rfl) rfl ?_
                      refine wl_guard_on rfl rfl rfl ?_
                      refine wl_ov (ov_gtr rfl rfl) rfl ?_
                      refine wl_ov (ov_pick_f rfl rfl) rfl ?_
                      refine wl_callw rfl cb15 rfl rfl (fun wx hm => (rwhen_any _ _ wx)) ?_
                      refine wl_buildSlice (e := 38) (cs := [.int .i64 E2, .int .i64 (whenE (decide (rd < rn)) 1)]) rfl (by kernel_rfl) rfl fun g40 => ?_
                      refine wl_callw rfl cb13 rfl rfl (fun wx hm => (errs_any [E2, whenE (decide (rd < rn)) 1] _ _ _ wx (hm.blkI 0 rfl) (by simp))) ?_
                      refine wl_ov (ov_assign rfl) rfl ?_
                      refine wl_nil ?_
                      exact nx_meet () trivial ⟨rfl, rfl, rfl, rfl, rfl, rfl, rfl, rfl, rfl, rfl, rfl, rfl, (some_int (by (first | (rw [hE3, out_in, out_in, hb0, hb1, hb2]; done) | (rw [hE3, out_in, out_in, hb0, hb1, hb2]; rfl)))), trivial⟩ (fun _ hm => hm.pick [1, 2] [0] [0, 1] rfl rfl)
              · intro z hinv
                replace hinv : True := hinv
                refine gw_seq ?_
                refine gw_seq ?_
                refine gw_region ?_
                clear hinv
                refine wl_set 13 (v' := .int .i64 0) rfl (congrArg (Value.int .i64) h0) ?_
                refine wl_set 14 (v' := .int .i64 0) rfl (congrArg (Value.int .i64) h02) ?_
                refine wl_ov (ov_move rfl) rfl ?_
                refine wl_ov (ov_move rfl) rfl ?_
                refine wl_ov (ov_neq rfl rfl) rfl ?_
                refine wl_set 112 (v' := .bool false) rfl (congrArg Value.bool (by decide)) ?_
                refine wl_ov (ov_move rfl) rfl ?_
                refine wl_guard_on rfl rfl rfl ?_
                refine wl_ov (ov_move rfl) rfl ?_
                refine wl_guard_on rfl rfl rfl ?_
                refine wl_ov (ov_move rfl) rfl ?_
                refine wl_guard_on rfl rfl rfl ?_
                refine wl_ov (ov_neq rfl rfl) rfl ?_
                refine wl_set 116 (v' := .bool false) rfl (congrArg Value.bool (by decide)) ?_
                refine wl_ov (ov_pick_f rfl rfl) rfl ?_
                refine wl_ov (ov_move rfl) rfl ?_
                refine wl_guard_on rfl rfl rfl ?_
                refine wl_ov (ov_move rfl) rfl ?_
                refine wl_guard_on rfl rfl rfl ?_
                refine wl_ov (ov_move rfl) rfl ?_
                refine wl_guard_on rfl rfl rfl ?_
                refine wl_ov (ov_neq rfl rfl) rfl ?_
                refine wl_set 121 (v' := .bool false) rfl (congrArg Value.bool (by simp)) ?_
                refine wl_ov (ov_pick_f rfl rfl) rfl ?_
                refine wl_ov (ov_move rfl) rfl ?_
                refine wl_guard_on rfl rfl rfl ?_
                refine wl_ov (ov_move rfl) rfl ?_
                refine wl_guard_on rfl rfl rfl ?_
                refine wl_ov (ov_neq rfl rfl) rfl ?_
                refine wl_set 125 (v' := .bool false) rfl (congrArg Value.bool (by decide)) ?_
                refine wl_guard_on rfl rfl rfl ?_
                refine wl_ov (ov_move rfl) rfl ?_
                refine wl_guard_off rfl rfl rfl (by decide) rfl ?_
                refine wl_guard_off rfl rfl rfl (by decide) rfl ?_
                refine wl_guard_off rfl rfl rfl (by decide) rfl ?_
                refine wl_guard_on rfl rfl rfl ?_
                refine wl_ov (ov_pick_f rfl rfl) rfl ?_
                refine wl_ov (ov_pick_f rfl rfl) rfl ?_
                refine wl_ov (ov_move rfl) rfl ?_
                refine wl_guard_on rfl rfl rfl ?_
                refine wl_ov (ov_move rfl) rfl ?_
                refine wl_guard_on rfl rfl rfl ?_
                refine wl_ov (ov_eql rfl rfl) rfl ?_
                refine wl_set 134 (v' := .bool true) rfl (congrArg Value.bool (by decide)) ?_
                refine wl_guard_on rfl rfl rfl ?_
                refine wl_ov (ov_move rfl) rfl ?_
                refine wl_guard_on rfl rfl rfl ?_
                refine wl_ov (ov_move rfl) rfl ?_
                refine wl_guard_on rfl rfl rfl ?_
                refine wl_ov (ov_move rfl) rfl ?_
                refine wl_guard_on rfl rfl rfl ?_
                refine wl_callgo (γ := Option Addr × Nat) (val := (fun (g : Option Addr × Nat) => .slice g.1 (k + 1) g.2)) (φ := (fun (g : Option Addr × Nat) => True)) (fun (g : Option Addr × Nat) => ⟨.slice g.1 (k + 1) g.2, 35, 2, (k + 1), (D.map (fun x => lowF x W)).flatMap frEnc⟩) rfl cb17 rfl rfl (fun wx hm => (by rw [hD, hW]; exact (spreadOf_own x A2 k c2 wx (hm.fact 1 rfl).1 hpc hk9).mono fun _ _ ⟨A4, c4, he, ho, hg⟩ => ⟨(A4, c4), he, trivial, ho, hg⟩)) ?_
                rintro ⟨A5, c5⟩ hphi
                dsimp only at hphi ⊢
                refine wl_guard_on rfl rfl rfl ?_
                refine wl_callv rfl cb16 rfl rfl (fun wx hm => (equal_fraction_any (D.map (fun x => lowF x W)) A4 A5 (k + 1) c4 c5 wx (SlT.ofOwn fr_len (hm.ownI 1 rfl) (by simp; exact hDl)) (SlT.ofOwn fr_len (hm.ownI 0 rfl) (by simp; exact hDl)) (by omega))) ?_
                refine wl_guard_on rfl rfl rfl ?_
                refine wl_ov (ov_un_not rfl) rfl ?_
                refine wl_set 140 (v' := .bool false) rfl (congrArg Value.bool (by decide)) ?_
                refine wl_guard_on rfl rfl rfl ?_
                refine wl_ov (ov_pick_t rfl rfl) rfl ?_
                refine wl_ov (ov_pick_f rfl rfl) rfl ?_
                refine wl_nil ?_
                refine nx_then ?_
                refine gw_cond rfl (fun hh => by cases hh) (fun _ => ?_)
                refine gw_skip ?_
                refine nx_then ?_
                refine gw_seq ?_
                refine gw_region ?_
                refine wl_ov (ov_build (cs := [.int .i64 0, .int .i64 0]) rfl (by kernel_rfl)) rfl ?_
                refine wl_alloc zc35 rfl fun g41 => ?_
                refine wl_stores (cs' := [.int .i64 0, .int .i64 0]) 0 rz35 rfl rfl rfl rfl rfl rfl rfl rfl ?_
                refine wl_ov (ov_assign rfl) rfl ?_
                refine wl_nil ?_
                refine nx_then ?_
                refine gw_seq ?_
                refine gw_seq ?_
                refine gw_region ?_
                refine wl_ov (ov_move rfl) rfl ?_
                refine wl_ov (ov_eql rfl rfl) rfl ?_
                refine wl_set 145 (v' := .bool true) rfl (congrArg Value.bool (by decide)) ?_
                refine wl_nil ?_
                refine nx_then ?_
                refine gw_cond rfl (fun _ => ?_) (fun hh => by cases hh)
                refine gw_region ?_
                refine wl_ov (ov_move rfl) rfl ?_
                refine wl_ov (ov_move rfl) rfl ?_
                refine wl_callv (v := .agg #[.int .i64 ((lowF T W).num), .int .i64 ((lowF T W).den)]) rfl cb18 rfl rfl (fun wx hm => (by rw [hT, hW]; exact overOf_right x A2 k c2 un wx (hm.fact 1 rfl).1 hpc hk9)) ?_
                refine wl_stores (cs' := [.int .i64 ((lowF T W).num), .int .i64 ((lowF T W).den)]) 0 rz35 rfl rfl rfl rfl rfl rfl rfl rfl ?_
                refine wl_nil ?_
                refine nx_then ?_
                refine gw_seq ?_
                refine gw_seq ?_
                refine gw_region ?_
                refine wl_ov (ov_move rfl) rfl ?_
                refine wl_ov (ov_eql rfl rfl) rfl ?_
                refine wl_set 150 (v' := .bool false) rfl (congrArg Value.bool (decide_eq_false hC)) ?_
                refine wl_nil ?_
                refine nx_then ?_
                refine gw_cond rfl (fun hh => by cases hh) (fun _ => ?_)
                refine gw_skip ?_
                refine nx_then ?_
                refine gw_seq ?_
                refine gw_region ?_
                refine wl_ov (ov_loads rz35 rfl (fun _ hm => hm.blkI 2 rfl) rfl rfl) rfl ?_
                refine wl_ov (ov_loads rz35 rfl (fun _ hm => hm.blkI 0 rfl) rfl rfl) rfl ?_
                refine wl_ov (ov_bin rfl rfl (cmp_agg guard_fraction (fun wx => same_fraction_eql ((lowF T W).num) ((lowF T W).den) wx))) rfl ?_
                refine wl_ov (ov_move rfl) rfl ?_
                refine wl_guard_on rfl rfl rfl ?_
                refine wl_ov (ov_move rfl) rfl ?_
                refine wl_guard_on rfl rfl rfl ?_
                refine wl_ov (ov_move rfl) rfl ?_
                refine wl_guard_on rfl rfl rfl ?_
                refine wl_ov (ov_eql rfl rfl) rfl ?_
                refine wl_set 161 (v' := .bool true) rfl (congrArg Value.bool (by decide)) ?_
                refine wl_ov (ov_pick_t rfl rfl) rfl ?_
                refine wl_ov (ov_move rfl) rfl ?_
                refine wl_guard_on rfl rfl rfl ?_
                refine wl_callv rfl cb20 rfl rfl (fun wx hm => (booked_any wx)) ?_
                refine wl_ov (ov_pick_t rfl rfl) rfl ?_
                refine wl_ov (ov_assign rfl) rfl ?_
                refine wl_nil ?_
                refine nx_then ?_
                refine gw_ret ?_
                refine nx_ret1 rfl rfl fun wx hm => ?_
                exact ⟨rfl, law_end hg1 hsb (grow_trans hm_w2.g (grow_weak hm.g))⟩
        · have hB : E2 ≠ 0 := h02
          have hC : E3 ≠ 0 := by rw [hE3, firstE_ne hB]; exact hB
          refine wl_ov (ov_move rfl) rfl ?_
          refine wl_callgo (γ := Option Addr × Nat) (val := (fun (g : Option Addr × Nat) => .tuple #[.slice g.1 (k + 1) g.2, .int .i64 0])) (φ := (fun (g : Option Addr × Nat) => True)) (fun (g : Option Addr × Nat) => ⟨.slice g.1 (k + 1) g.2, 35, 2, (k + 1), (D.map (fun x => lowF x W)).flatMap frEnc⟩) rfl cb10 rfl rfl (fun wx hm => (by rw [hD, hW]; exact (spread_own x A2 k c2 wx (hm.fact 1 rfl).1 hpc hk9 hok hf0).mono fun _ _ ⟨A4, c4, he, ho, hg⟩ => ⟨(A4, c4), he, trivial, ho, hg⟩)) ?_
          rintro ⟨A4, c4⟩ hphi
          dsimp only at hphi ⊢
          refine wl_ov (ov_move rfl) rfl ?_
          refine wl_ov (ov_extract rfl rfl) rfl ?_
          refine wl_ov (ov_extract rfl rfl) rfl ?_
          refine wl_ov (ov_assign rfl) rfl ?_
          refine wl_ov (ov_assign rfl) rfl ?_
          refine wl_nil ?_
          refine nx_then ?_
          refine gw_seq ?_
          refine gw_region ?_
          refine wl_ov (ov_move rfl) rfl ?_
          refine wl_ov (ov_move rfl) rfl ?_
          refine wl_callv (v := .tuple #[.agg #[.int .i64 0, .int .i64 0], .int .i64 E2]) rfl cb11 rfl rfl (fun wx hm => (by have h := over_bad x A2 k c2 v4 wx (hm.fact 1 rfl).1 hok (by omega) (by rw [← hOE, ← hE2]; exact hB); rw [← hOE, ← hE2] at h; exact h)) ?_
          refine wl_ov (ov_move rfl) rfl ?_
          refine wl_ov (ov_extract rfl rfl) rfl ?_
          refine wl_ov (ov_extract rfl rfl) rfl ?_
          refine wl_alloc zc35 rfl fun g24 => ?_
          refine wl_stores (cs' := [.int .i64 0, .int .i64 0]) 0 rz35 rfl rfl rfl rfl rfl rfl rfl rfl ?_
          refine wl_ov (ov_assign rfl) rfl ?_
          refine wl_nil ?_
          refine nx_then ?_
          refine gw_seq ?_
          refine gw_region ?_
          refine wl_ov (ov_move rfl) rfl ?_
          refine wl_ov (ov_move rfl) rfl ?_
          refine wl_ov (ov_loads (vs := [.int .i64 rn, .int .i64 rd]) rz35 rfl (fun _ hm => (hm.fact 0 rfl).2) rfl rfl) rfl ?_
          refine wl_callv (v := .tuple #[.int .i64 0, .int .i64 E3]) rfl cb12 rfl rfl (fun wx hm => (by have h := most_bad x A2 k c2 v4 rn rd wx (hm.fact 1 rfl).1 hok (by omega) (by rw [← hOE, ← hE3']; exact hC); rw [← hOE, ← hE3'] at h; exact h)) ?_
          refine wl_ov (ov_move rfl) rfl ?_
          refine wl_ov (ov_extract rfl rfl) rfl ?_
          refine wl_ov (ov_extract rfl rfl) rfl ?_
          refine wl_ov (ov_assign rfl) rfl ?_
          refine wl_ov (ov_assign rfl) rfl ?_
          refine wl_nil ?_
          refine nx_then ?_
          refine gw_seq ?_
          refine gw_region ?_
          refine wl_ov (ov_move rfl) rfl ?_
          refine wl_callv rfl cb14 rfl rfl (fun wx hm => (bookingForm_any x A2 k c2 wx (hm.fact 1 rfl).1 hok (by omega))) ?_
          refine wl_ov (ov_move rfl) rfl ?_
          refine wl_ov (ov_len es26 rfl) rfl ?_
          refine wl_ov (ov_gtr rfl rfl) rfl ?_
          refine wl_callw rfl cb15 rfl rfl (fun wx hm => (rwhen_any _ _ wx)) ?_
          refine wl_buildSlice (e := 38) (cs := [.int .i64 (formE x), .int .i64 (whenE (decide (9 < ((k : Nat) : Int))) 2)]) rfl (by kernel_rfl) rfl fun g25 => ?_
          refine wl_callw (v := .int .i64 OE) rfl cb13 rfl rfl (fun wx hm => (by have h := errs_any [formE x, whenE (decide (9 < ((k : Nat) : Int))) 2] g25 2 _ wx (hm.blkI 0 rfl) (by simp); rw [← hone] at h; exact h)) ?_
          refine wl_ov (ov_assign rfl) rfl ?_
          refine wl_nil ?_
          refine nx_then ?_
          refine gw_cut (γ := Unit) (I := (fun (z : Unit) => True)) (S' := (fun (z : Unit) => [(2, .bool false), (4, .slice A2 k c2), (5, .int .i64 v4), (6, .pointer (some ⟨g11, 0, none⟩)), (7, .slice A4 (k + 1) c4), (8, .int .i64 0), (9, .pointer (some ⟨g24, 0, none⟩)), (10, .int .i64 E2), (11, .int .i64 0), (12, .int .i64 E3), (13, .int .i64 OE), (14, .int .i64 E2)])) (K' := (fun (z : Unit) => fun _ => True)) (L' := (fun (z : Unit) => [(g25, 38, [.int .i64 (formE x), .int .i64 (whenE (decide (9 < ((k : Nat) : Int))) 2)]), (g24, 35, [.int .i64 0, .int .i64 0])])) (O' := (fun (z : Unit) => [⟨.slice A4 (k + 1) c4, 35, 2, (k + 1), (D.map (fun x => lowF x W)).flatMap frEnc⟩])) (X' := (fun (z : Unit) => [BlkOld w2.heap.size none g11 35 [.int .i64 rn, .int .i64 rd], SlOld bkEnc 6 33 w2.heap.size none A2 k x])) ?_ ?_
          · refine gw_region ?_
            refine wl_ov (ov_move rfl) rfl ?_
            refine wl_ov (ov_move rfl) rfl ?_
            refine wl_ov (ov_lss rfl rfl) rfl ?_
            refine wl_ov (ov_move rfl) rfl ?_
            rcases Bool.eq_false_or_eq_true (decide (v4 < 0)) with ha0 | ha0
            · refine wl_set 79 rfl (congrArg Value.bool ha0) ?_
              refine wl_guard_off rfl rfl rfl (by decide) rfl ?_
              refine wl_guard_off rfl rfl rfl (by decide) rfl ?_
              refine wl_ov (ov_pick_t rfl rfl) rfl ?_
              refine wl_callw rfl cb15 rfl rfl (fun wx hm => (rwhen_any _ _ wx)) ?_
              refine wl_buildSlice (e := 38) (cs := [.int .i64 OE, .int .i64 (whenE true 1)]) rfl (by kernel_rfl) rfl fun g26 => ?_
              refine wl_callw rfl cb13 rfl rfl (fun wx hm => (errs_any [OE, whenE true 1] _ _ _ wx (hm.blkI 0 rfl) (by simp))) ?_
              refine wl_ov (ov_assign rfl) rfl ?_
              refine wl_nil ?_
              exact nx_meet () trivial ⟨rfl, rfl, rfl, rfl, rfl, rfl, rfl, rfl, rfl, rfl, rfl, (some_int (by (first | (rw [hE2, out_in, ha0]; done) | (rw [hE2, out_in, ha0]; rfl)))), trivial⟩ (fun _ hm => hm.pick [1, 2] [0] [0, 1] rfl rfl)
            · refine wl_set 79 rfl (congrArg Value.bool ha0) ?_
              refine wl_guard_on rfl rfl rfl ?_
              refine wl_ov (ov_move rfl) rfl ?_
              refine wl_guard_on rfl rfl rfl ?_
              refine wl_ov (ov_gtr rfl rfl) rfl ?_
              refine wl_ov (ov_pick_f rfl rfl) rfl ?_
              refine wl_callw rfl cb15 rfl rfl (fun wx hm => (rwhen_any _ _ wx)) ?_
              refine wl_buildSlice (e := 38) (cs := [.int .i64 OE, .int .i64 (whenE (decide (500 < v4)) 1)]) rfl (by kernel_rfl) rfl fun g27 => ?_
              refine wl_callw rfl cb13 rfl rfl (fun wx hm => (errs_any [OE, whenE (decide (500 < v4)) 1] _ _ _ wx (hm.blkI 0 rfl) (by simp))) ?_
              refine wl_ov (ov_assign rfl) rfl ?_
              refine wl_nil ?_
              exact nx_meet () trivial ⟨rfl, rfl, rfl, rfl, rfl, rfl, rfl, rfl, rfl, rfl, rfl, (some_int (by (first | (rw [hE2, out_in, ha0]; done) | (rw [hE2, out_in, ha0]; rfl)))), trivial⟩ (fun _ hm => hm.pick [1, 2] [0] [0, 1] rfl rfl)
          · intro z hinv
            replace hinv : True := hinv
            clear hinv
            refine gw_cut (γ := Unit) (I := (fun (z : Unit) => True)) (S' := (fun (z : Unit) => [(2, .bool false), (4, .slice A2 k c2), (5, .int .i64 v4), (6, .pointer (some ⟨g11, 0, none⟩)), (7, .slice A4 (k + 1) c4), (8, .int .i64 0), (9, .pointer (some ⟨g24, 0, none⟩)), (10, .int .i64 E2), (11, .int .i64 0), (12, .int .i64 E3), (13, .int .i64 OE), (14, .int .i64 E2), (15, .int .i64 E3)])) (K' := (fun (z : Unit) => fun _ => True)) (L' := (fun (z : Unit) => [(g25, 38, [.int .i64 (formE x), .int .i64 (whenE (decide (9 < ((k : Nat) : Int))) 2)]), (g24, 35, [.int .i64 0, .int .i64 0])])) (O' := (fun (z : Unit) => [⟨.slice A4 (k + 1) c4, 35, 2, (k + 1), (D.map (fun x => lowF x W)).flatMap frEnc⟩])) (X' := (fun (z : Unit) => [BlkOld w2.heap.size none g11 35 [.int .i64 rn, .int .i64 rd], SlOld bkEnc 6 33 w2.heap.size none A2 k x])) ?_ ?_
            · refine gw_region ?_
              refine wl_ov (ov_move rfl) rfl ?_
              refine wl_ov (ov_field fo35_1 rfl rfl) rfl ?_
              refine wl_ov (ov_load (v := .int .i64 rd) sc3 rfl (fun _ hm => (hm.fact 0 rfl).2) rfl) rfl ?_
              refine wl_ov (ov_lss rfl rfl) rfl ?_
              refine wl_ov (ov_move rfl) rfl ?_
              rcases Bool.eq_false_or_eq_true (decide (rd < 1)) with hb0 | hb0
              · refine wl_set 90 rfl (congrArg Value.bool hb0) ?_
                refine wl_guard_off rfl rfl rfl (by decide) rfl ?_
                refine wl_guard_off rfl rfl rfl (by decide) rfl ?_
                refine wl_guard_off rfl rfl rfl (by decide) rfl ?_
                refine wl_ov (ov_pick_t rfl rfl) rfl ?_
                refine wl_ov (ov_move rfl) rfl ?_
                refine wl_guard_off rfl rfl rfl (by decide) rfl ?_
                refine wl_guard_off rfl rfl rfl (by decide) rfl ?_
                refine wl_guard_off rfl rfl rfl (by decide) rfl ?_
                refine wl_ov (ov_pick_t rfl rfl) rfl ?_
                refine wl_ov (ov_move rfl) rfl ?_
                refine wl_guard_off rfl rfl rfl (by decide) rfl ?_
                refine wl_guard_off rfl rfl rfl (by decide) rfl ?_
                refine wl_guard_off rfl rfl rfl (by decide) rfl ?_
                refine wl_guard_off rfl rfl rfl (by decide) rfl ?_
                refine wl_guard_off rfl rfl rfl (by decide) rfl ?_
                refine wl_ov (ov_pick_t rfl rfl) rfl ?_
                refine wl_callw rfl cb15 rfl rfl (fun wx hm => (rwhen_any _ _ wx)) ?_
                refine wl_buildSlice (e := 38) (cs := [.int .i64 E2, .int .i64 (whenE true 1)]) rfl (by kernel_rfl) rfl fun g28 => ?_
                refine wl_callw rfl cb13 rfl rfl (fun wx hm => (errs_any [E2, whenE true 1] _ _ _ wx (hm.blkI 0 rfl) (by simp))) ?_
                refine wl_ov (ov_assign rfl) rfl ?_
                refine wl_nil ?_
                exact nx_meet () trivial ⟨rfl, rfl, rfl, rfl, rfl, rfl, rfl, rfl, rfl, rfl, rfl, rfl, (some_int (by (first | (rw [hE3, out_in, out_in, hb0]; done) | (rw [hE3, out_in, out_in, hb0]; rfl)))), trivial⟩ (fun _ hm => hm.pick [1, 2] [0] [0, 1] rfl rfl)
              · refine wl_set 90 rfl (congrArg Value.bool hb0) ?_
                refine wl_guard_on rfl rfl rfl ?_
                refine wl_ov (ov_field fo35_1 rfl rfl) rfl ?_
                refine wl_guard_on rfl rfl rfl ?_
                refine wl_ov (ov_load (v := .int .i64 rd) sc3 rfl (fun _ hm => (hm.fact 0 rfl).2) rfl) rfl ?_
                refine wl_guard_on rfl rfl rfl ?_
                refine wl_ov (ov_gtr rfl rfl) rfl ?_
                refine wl_ov (ov_pick_f rfl rfl) rfl ?_
                refine wl_ov (ov_move rfl) rfl ?_
                rcases Bool.eq_false_or_eq_true (decide (1000000 < rd)) with hb1 | hb1
                · refine wl_set 95 rfl (congrArg Value.bool hb1) ?_
                  refine wl_guard_off rfl rfl rfl (by decide) rfl ?_
                  refine wl_guard_off rfl rfl rfl (by decide) rfl ?_
                  refine wl_guard_off rfl rfl rfl (by decide) rfl ?_
                  refine wl_ov (ov_pick_t rfl rfl) rfl ?_
                  refine wl_ov (ov_move rfl) rfl ?_
                  refine wl_guard_off rfl rfl rfl (by decide) rfl ?_
                  refine wl_guard_off rfl rfl rfl (by decide) rfl ?_
                  refine wl_guard_off rfl rfl rfl (by decide) rfl ?_
                  refine wl_guard_off rfl rfl rfl (by decide) rfl ?_
                  refine wl_guard_off rfl rfl rfl (by decide) rfl ?_
                  refine wl_ov (ov_pick_t rfl rfl) rfl ?_
                  refine wl_callw rfl cb15 rfl rfl (fun wx hm => (rwhen_any _ _ wx)) ?_
                  refine wl_buildSlice (e := 38) (cs := [.int .i64 E2, .int .i64 (whenE true 1)]) rfl (by kernel_rfl) rfl fun g29 => ?_
                  refine wl_callw rfl cb13 rfl rfl (fun wx hm => (errs_any [E2, whenE true 1] _ _ _ wx (hm.blkI 0 rfl) (by simp))) ?_
                  refine wl_ov (ov_assign rfl) rfl ?_
                  refine wl_nil ?_
                  exact nx_meet () trivial ⟨rfl, rfl, rfl, rfl, rfl, rfl, rfl, rfl, rfl, rfl, rfl, rfl, (some_int (by (first | (rw [hE3, out_in, out_in, hb0, hb1]; done) | (rw [hE3, out_in, out_in, hb0, hb1]; rfl)))), trivial⟩ (fun _ hm => hm.pick [1, 2] [0] [0, 1] rfl rfl)
                · refine wl_set 95 rfl (congrArg Value.bool hb1) ?_
                  refine wl_guard_on rfl rfl rfl ?_
                  refine wl_ov (ov_field fo35_0 rfl rfl) rfl ?_
                  refine wl_guard_on rfl rfl rfl ?_
                  refine wl_ov (ov_load (v := .int .i64 rn) sc3 rfl (fun _ hm => (hm.fact 0 rfl).2) rfl) rfl ?_
                  refine wl_guard_on rfl rfl rfl ?_
                  refine wl_ov (ov_lss rfl rfl) rfl ?_
                  refine wl_ov (ov_pick_f rfl rfl) rfl ?_
                  refine wl_ov (ov_move rfl) rfl ?_
                  rcases Bool.eq_false_or_eq_true (decide (rn < 0)) with hb2 | hb2
                  · refine wl_set 100 rfl (congrArg Value.bool hb2) ?_
                    refine wl_guard_off rfl rfl rfl (by decide) rfl ?_
                    refine wl_guard_off rfl rfl rfl (by decide) rfl ?_
                    refine wl_guard_off rfl rfl rfl (by decide) rfl ?_
                    refine wl_guard_off rfl rfl rfl (by decide) rfl ?_
                    refine wl_guard_off rfl rfl rfl (by decide) rfl ?_
                    refine wl_ov (ov_pick_t rfl rfl) rfl ?_
                    refine wl_callw rfl cb15 rfl rfl (fun wx hm => (rwhen_any _ _ wx)) ?_
                    refine wl_buildSlice (e := 38) (cs := [.int .i64 E2, .int .i64 (whenE true 1)]) rfl (by kernel_rfl) rfl fun g30 => ?_
                    refine wl_callw rfl cb13 rfl rfl (fun wx hm => (errs_any [E2, whenE true 1] _ _ _ wx (hm.blkI 0 rfl) (by simp))) ?_
                    refine wl_ov (ov_assign rfl) rfl ?_
                    refine wl_nil ?_
                    exact nx_meet () trivial ⟨rfl, rfl, rfl, rfl, rfl, rfl, rfl, rfl, rfl, rfl, rfl, rfl, (some_int (by (first | (rw [hE3, out_in, out_in, hb0, hb1, hb2]; done) | (rw [hE3, out_in, out_in, hb0, hb1, hb2]; rfl)))), trivial⟩ (fun _ hm => hm.pick [1, 2] [0] [0, 1] rfl rfl)
                  · refine wl_set 100 rfl (congrArg Value.bool hb2) ?_
                    refine wl_guard_on rfl rfl rfl ?_
                    refine wl_ov (ov_field fo35_0 rfl rfl) rfl ?_
                    refine wl_guard_on rfl rfl rfl ?_
                    refine wl_ov (ov_load (v := .int .i64 rn) sc3 rfl (fun _ hm => (hm.fact 0 rfl).2) rfl) rfl ?_
                    refine wl_guard_on rfl rfl rfl ?_
                    refine wl_ov (ov_field fo35_1 rfl rfl) rfl ?_
                    refine wl_guard_on rfl rfl rfl ?_
                    refine wl_ov (ov_load (v := .int .i64 rd) sc3 rfl (fun _ hm => (hm.fact 0 rfl).2) rfl) rfl ?_
                    refine wl_guard_on rfl rfl rfl ?_
                    refine wl_ov (ov_gtr rfl rfl) rfl ?_
                    refine wl_ov (ov_pick_f rfl rfl) rfl ?_
                    refine wl_callw rfl cb15 rfl rfl (fun wx hm => (rwhen_any _ _ wx)) ?_
                    refine wl_buildSlice (e := 38) (cs := [.int .i64 E2, .int .i64 (whenE (decide (rd < rn)) 1)]) rfl (by kernel_rfl) rfl fun g31 => ?_
                    refine wl_callw rfl cb13 rfl rfl (fun wx hm => (errs_any [E2, whenE (decide (rd < rn)) 1] _ _ _ wx (hm.blkI 0 rfl) (by simp))) ?_
                    refine wl_ov (ov_assign rfl) rfl ?_
                    refine wl_nil ?_
                    exact nx_meet () trivial ⟨rfl, rfl, rfl, rfl, rfl, rfl, rfl, rfl, rfl, rfl, rfl, rfl, (some_int (by (first | (rw [hE3, out_in, out_in, hb0, hb1, hb2]; done) | (rw [hE3, out_in, out_in, hb0, hb1, hb2]; rfl)))), trivial⟩ (fun _ hm => hm.pick [1, 2] [0] [0, 1] rfl rfl)
            · intro z hinv
              replace hinv : True := hinv
              refine gw_seq ?_
              refine gw_seq ?_
              refine gw_region ?_
              clear hinv
              refine wl_set 13 (v' := .int .i64 0) rfl (congrArg (Value.int .i64) h0) ?_
              refine wl_ov (ov_move rfl) rfl ?_
              refine wl_ov (ov_move rfl) rfl ?_
              refine wl_ov (ov_neq rfl rfl) rfl ?_
              refine wl_set 112 (v' := .bool false) rfl (congrArg Value.bool (by decide)) ?_
              refine wl_ov (ov_move rfl) rfl ?_
              refine wl_guard_on rfl rfl rfl ?_
              refine wl_ov (ov_move rfl) rfl ?_
              refine wl_guard_on rfl rfl rfl ?_
              refine wl_ov (ov_move rfl) rfl ?_
              refine wl_guard_on rfl rfl rfl ?_
              refine wl_ov (ov_neq rfl rfl) rfl ?_
              refine wl_set 116 (v' := .bool false) rfl (congrArg Value.bool (by simp)) ?_
              refine wl_ov (ov_pick_f rfl rfl) rfl ?_
              refine wl_ov (ov_move rfl) rfl ?_
              refine wl_guard_on rfl rfl rfl ?_
              refine wl_ov (ov_move rfl) rfl ?_
              refine wl_guard_on rfl rfl rfl ?_
              refine wl_ov (ov_move rfl) rfl ?_
              refine wl_guard_on rfl rfl rfl ?_
              refine wl_ov (ov_neq rfl rfl) rfl ?_
              refine wl_set 121 (v' := .bool false) rfl (congrArg Value.bool (by simp)) ?_
              refine wl_ov (ov_pick_f rfl rfl) rfl ?_
              refine wl_ov (ov_move rfl) rfl ?_
              refine wl_guard_on rfl rfl rfl ?_
              refine wl_ov (ov_move rfl) rfl ?_
              refine wl_guard_on rfl rfl rfl ?_
              refine wl_ov (ov_neq rfl rfl) rfl ?_
              refine wl_set 125 (v' := .bool false) rfl (congrArg Value.bool (by decide)) ?_
              refine wl_guard_on rfl rfl rfl ?_
              refine wl_ov (ov_move rfl) rfl ?_
              refine wl_guard_off rfl rfl rfl (by decide) rfl ?_
              refine wl_guard_off rfl rfl rfl (by decide) rfl ?_
              refine wl_guard_off rfl rfl rfl (by decide) rfl ?_
              refine wl_guard_on rfl rfl rfl ?_
              refine wl_ov (ov_pick_f rfl rfl) rfl ?_
              refine wl_ov (ov_pick_f rfl rfl) rfl ?_
              refine wl_ov (ov_move rfl) rfl ?_
              refine wl_guard_on rfl rfl rfl ?_
              refine wl_ov (ov_move rfl) rfl ?_
              refine wl_guard_on rfl rfl rfl ?_
              refine wl_ov (ov_eql rfl rfl) rfl ?_
              refine wl_set 134 (v' := .bool true) rfl (congrArg Value.bool (by decide)) ?_
              refine wl_guard_on rfl rfl rfl ?_
              refine wl_ov (ov_move rfl) rfl ?_
              refine wl_guard_on rfl rfl rfl ?_
              refine wl_ov (ov_move rfl) rfl ?_
              refine wl_guard_on rfl rfl rfl ?_
              refine wl_ov (ov_move rfl) rfl ?_
              refine wl_guard_on rfl rfl rfl ?_
              refine wl_callgo (γ := Option Addr × Nat) (val := (fun (g : Option Addr × Nat) => .slice g.1 (k + 1) g.2)) (φ := (fun (g : Option Addr × Nat) => True)) (fun (g : Option Addr × Nat) => ⟨.slice g.1 (k + 1) g.2, 35, 2, (k + 1), (D.map (fun x => lowF x W)).flatMap frEnc⟩) rfl cb17 rfl rfl (fun wx hm => (by rw [hD, hW]; exact (spreadOf_own x A2 k c2 wx (hm.fact 1 rfl).1 hpc hk9).mono fun _ _ ⟨A4, c4, he, ho, hg⟩ => ⟨(A4, c4), he, trivial, ho, hg⟩)) ?_
              rintro ⟨A5, c5⟩ hphi
              dsimp only at hphi ⊢
              refine wl_guard_on rfl rfl rfl ?_
              refine wl_callv rfl cb16 rfl rfl (fun wx hm => (equal_fraction_any (D.map (fun x => lowF x W)) A4 A5 (k + 1) c4 c5 wx (SlT.ofOwn fr_len (hm.ownI 1 rfl) (by simp; exact hDl)) (SlT.ofOwn fr_len (hm.ownI 0 rfl) (by simp; exact hDl)) (by omega))) ?_
              refine wl_guard_on rfl rfl rfl ?_
              refine wl_ov (ov_un_not rfl) rfl ?_
              refine wl_set 140 (v' := .bool false) rfl (congrArg Value.bool (by decide)) ?_
              refine wl_guard_on rfl rfl rfl ?_
              refine wl_ov (ov_pick_t rfl rfl) rfl ?_
              refine wl_ov (ov_pick_f rfl rfl) rfl ?_
              refine wl_nil ?_
              refine nx_then ?_
              refine gw_cond rfl (fun hh => by cases hh) (fun _ => ?_)
              refine gw_skip ?_
              refine nx_then ?_
              refine gw_seq ?_
              refine gw_region ?_
              refine wl_ov (ov_build (cs := [.int .i64 0, .int .i64 0]) rfl (by kernel_rfl)) rfl ?_
              refine wl_alloc zc35 rfl fun g32 => ?_
              refine wl_stores (cs' := [.int .i64 0, .int .i64 0]) 0 rz35 rfl rfl rfl rfl rfl rfl rfl rfl ?_
              refine wl_ov (ov_assign rfl) rfl ?_
              refine wl_nil ?_
              refine nx_then ?_
              refine gw_seq ?_
              refine gw_seq ?_
              refine gw_region ?_
              refine wl_ov (ov_move rfl) rfl ?_
              refine wl_ov (ov_eql rfl rfl) rfl ?_
              refine wl_set 145 (v' := .bool false) rfl (congrArg Value.bool (decide_eq_false hB)) ?_
              refine wl_nil ?_
              refine nx_then ?_
              refine gw_cond rfl (fun hh => by cases hh) (fun _ => ?_)
              refine gw_skip ?_
              refine nx_then ?_
              refine gw_seq ?_
              refine gw_seq ?_
              refine gw_region ?_
              refine wl_ov (ov_move rfl) rfl ?_
              refine wl_ov (ov_eql rfl rfl) rfl ?_
              refine wl_set 150 (v' := .bool false) rfl (congrArg Value.bool (decide_eq_false hC)) ?_
              refine wl_nil ?_
              refine nx_then ?_
              refine gw_cond rfl (fun hh => by cases hh) (fun _ => ?_)
              refine gw_skip ?_
              refine nx_then ?_
              refine gw_seq ?_
              refine gw_region ?_
              refine wl_ov (ov_loads rz35 rfl (fun _ hm => hm.blkI 2 rfl) rfl rfl) rfl ?_
              refine wl_ov (ov_loads rz35 rfl (fun _ hm => hm.blkI 0 rfl) rfl rfl) rfl ?_
              refine wl_ov (ov_bin rfl rfl (cmp_agg guard_fraction (fun wx => same_fraction_eql 0 0 wx))) rfl ?_
              refine wl_ov (ov_move rfl) rfl ?_
              refine wl_guard_on rfl rfl rfl ?_
              refine wl_ov (ov_move rfl) rfl ?_
              refine wl_guard_on rfl rfl rfl ?_
              refine wl_ov (ov_move rfl) rfl ?_
              refine wl_guard_on rfl rfl rfl ?_
              refine wl_ov (ov_eql rfl rfl) rfl ?_
              refine wl_set 161 (v' := .bool true) rfl (congrArg Value.bool (by decide)) ?_
              refine wl_ov (ov_pick_t rfl rfl) rfl ?_
              refine wl_ov (ov_move rfl) rfl ?_
              refine wl_guard_on rfl rfl rfl ?_
              refine wl_callv rfl cb20 rfl rfl (fun wx hm => (booked_any wx)) ?_
              refine wl_ov (ov_pick_t rfl rfl) rfl ?_
              refine wl_ov (ov_assign rfl) rfl ?_
              refine wl_nil ?_
              refine nx_then ?_
              refine gw_ret ?_
              refine nx_ret1 rfl rfl fun wx hm => ?_
              exact ⟨rfl, law_end hg1 hsb (grow_trans hm_w2.g (grow_weak hm.g))⟩
      · have hA : OE ≠ 0 := h0
        have hB : E2 ≠ 0 := by rw [hE2, firstE_ne hA]; exact hA
        have hC : E3 ≠ 0 := by rw [hE3, firstE_ne hB]; exact hB
        refine wl_ov (ov_move rfl) rfl ?_
        refine wl_callv (v := .tuple #[.slice none 0 0, .int .i64 OE]) rfl cb10 rfl rfl (fun wx hm => (by have h := spread_bad x A2 k c2 wx (hm.fact 1 rfl).1 hok (by omega) (by rw [← hOE]; exact hA); rw [← hOE] at h; exact h)) ?_
        refine wl_ov (ov_move rfl) rfl ?_
        refine wl_ov (ov_extract rfl rfl) rfl ?_
        refine wl_ov (ov_extract rfl rfl) rfl ?_
        refine wl_ov (ov_assign rfl) rfl ?_
        refine wl_ov (ov_assign rfl) rfl ?_
        refine wl_nil ?_
        refine nx_then ?_
        refine gw_seq ?_
        refine gw_region ?_
        refine wl_ov (ov_move rfl) rfl ?_
        refine wl_ov (ov_move rfl) rfl ?_
        refine wl_callv (v := .tuple #[.agg #[.int .i64 0, .int .i64 0], .int .i64 E2]) rfl cb11 rfl rfl (fun wx hm => (by have h := over_bad x A2 k c2 v4 wx (hm.fact 1 rfl).1 hok (by omega) (by rw [← hOE, ← hE2]; exact hB); rw [← hOE, ← hE2] at h; exact h)) ?_
        refine wl_ov (ov_move rfl) rfl ?_
        refine wl_ov (ov_extract rfl rfl) rfl ?_
        refine wl_ov (ov_extract rfl rfl) rfl ?_
        refine wl_alloc zc35 rfl fun g15 => ?_
        refine wl_stores (cs' := [.int .i64 0, .int .i64 0]) 0 rz35 rfl rfl rfl rfl rfl rfl rfl rfl ?_
        refine wl_ov (ov_assign rfl) rfl ?_
        refine wl_nil ?_
        refine nx_then ?_
        refine gw_seq ?_
        refine gw_region ?_
        refine wl_ov (ov_move rfl) rfl ?_
        refine wl_ov (ov_move rfl) rfl ?_
        refine wl_ov (ov_loads (vs := [.int .i64 rn, .int .i64 rd]) rz35 rfl (fun _ hm => (hm.fact 0 rfl).2) rfl rfl) rfl ?_
        refine wl_callv (v := .tuple #[.int .i64 0, .int .i64 E3]) rfl cb12 rfl rfl (fun wx hm => (by have h := most_bad x A2 k c2 v4 rn rd wx (hm.fact 1 rfl).1 hok (by omega) (by rw [← hOE, ← hE3']; exact hC); rw [← hOE, ← hE3'] at h; exact h)) ?_
        refine wl_ov (ov_move rfl) rfl ?_
        refine wl_ov (ov_extract rfl rfl) rfl ?_
        refine wl_ov (ov_extract rfl rfl) rfl ?_
        refine wl_ov (ov_assign rfl) rfl ?_
        refine wl_ov (ov_assign rfl) rfl ?_
        refine wl_nil ?_
        refine nx_then ?_
        refine gw_seq ?_
        refine gw_region ?_
        refine wl_ov (ov_move rfl) rfl ?_
        refine wl_callv rfl cb14 rfl rfl (fun wx hm => (bookingForm_any x A2 k c2 wx (hm.fact 1 rfl).1 hok (by omega))) ?_
        refine wl_ov (ov_move rfl) rfl ?_
        refine wl_ov (ov_len es26 rfl) rfl ?_
        refine wl_ov (ov_gtr rfl rfl) rfl ?_
        refine wl_callw rfl cb15 rfl rfl (fun wx hm => (rwhen_any _ _ wx)) ?_
        refine wl_buildSlice (e := 38) (cs := [.int .i64 (formE x), .int .i64 (whenE (decide (9 < ((k : Nat) : Int))) 2)]) rfl (by kernel_rfl) rfl fun g16 => ?_
        refine wl_callw (v := .int .i64 OE) rfl cb13 rfl rfl (fun wx hm => (by have h := errs_any [formE x, whenE (decide (9 < ((k : Nat) : Int))) 2] g16 2 _ wx (hm.blkI 0 rfl) (by simp); rw [← hone] at h; exact h)) ?_
        refine wl_ov (ov_assign rfl) rfl ?_
        refine wl_nil ?_
        refine nx_then ?_
        refine gw_cut (γ := Unit) (I := (fun (z : Unit) => True)) (S' := (fun (z : Unit) => [(2, .bool false), (4, .slice A2 k c2), (5, .int .i64 v4), (6, .pointer (some ⟨g11, 0, none⟩)), (7, .slice none 0 0), (8, .int .i64 OE), (9, .pointer (some ⟨g15, 0, none⟩)), (10, .int .i64 E2), (11, .int .i64 0), (12, .int .i64 E3), (13, .int .i64 OE), (14, .int .i64 E2)])) (K' := (fun (z : Unit) => fun _ => True)) (L' := (fun (z : Unit) => [(g16, 38, [.int .i64 (formE x), .int .i64 (whenE (decide (9 < ((k : Nat) : Int))) 2)]), (g15, 35, [.int .i64 0, .int .i64 0])])) (O' := (fun (z : Unit) => [])) (X' := (fun (z : Unit) => [BlkOld w2.heap.size none g11 35 [.int .i64 rn, .int .i64 rd], SlOld bkEnc 6 33 w2.heap.size none A2 k x])) ?_ ?_
        · refine gw_region ?_
          refine wl_ov (ov_move rfl) rfl ?_
          refine wl_ov (ov_move rfl) rfl ?_
          refine wl_ov (ov_lss rfl rfl) rfl ?_
          refine wl_ov (ov_move rfl) rfl ?_
          rcases Bool.eq_false_or_eq_true (decide (v4 < 0)) with ha0 | ha0
          · refine wl_set 79 rfl (congrArg Value.bool ha0) ?_
            refine wl_guard_off rfl rfl rfl (by decide) rfl ?_
            refine wl_guard_off rfl rfl rfl (by decide) rfl ?_
            refine wl_ov (ov_pick_t rfl rfl) rfl ?_
            refine wl_callw rfl cb15 rfl rfl (fun wx hm => (rwhen_any _ _ wx)) ?_
            refine wl_buildSlice (e := 38) (cs := [.int .i64 OE, .int .i64 (whenE true 1)]) rfl (by kernel_rfl) rfl fun g17 => ?_
            refine wl_callw rfl cb13 rfl rfl (fun wx hm => (errs_any [OE, whenE true 1] _ _ _ wx (hm.blkI 0 rfl) (by simp))) ?_
            refine wl_ov (ov_assign rfl) rfl ?_
            refine wl_nil ?_
            exact nx_meet () trivial ⟨rfl, rfl, rfl, rfl, rfl, rfl, rfl, rfl, rfl, rfl, rfl, (some_int (by (first | (rw [hE2, out_in, ha0]; done) | (rw [hE2, out_in, ha0]; rfl)))), trivial⟩ (fun _ hm => hm.pick [1, 2] [] [0, 1] rfl rfl)
          · refine wl_set 79 rfl (congrArg Value.bool ha0) ?_
            refine wl_guard_on rfl rfl rfl ?_
            refine wl_ov (ov_move rfl) rfl ?_
            refine wl_guard_on rfl rfl rfl ?_
            refine wl_ov (ov_gtr rfl rfl) rfl ?_
            refine wl_ov (ov_pick_f rfl rfl) rfl ?_
            refine wl_callw rfl cb15 rfl rfl (fun wx hm => (rwhen_any _ _ wx)) ?_
            refine wl_buildSlice (e := 38) (cs := [.int .i64 OE, .int .i64 (whenE (decide (500 < v4)) 1)]) rfl (by kernel_rfl) rfl fun g18 => ?_
            refine wl_callw rfl cb13 rfl rfl (fun wx hm => (errs_any [OE, whenE (decide (500 < v4)) 1] _ _ _ wx (hm.blkI 0 rfl) (by simp))) ?_
            refine wl_ov (ov_assign rfl) rfl ?_
            refine wl_nil ?_
            exact nx_meet () trivial ⟨rfl, rfl, rfl, rfl, rfl, rfl, rfl, rfl, rfl, rfl, rfl, (some_int (by (first | (rw [hE2, out_in, ha0]; done) | (rw [hE2, out_in, ha0]; rfl)))), trivial⟩ (fun _ hm => hm.pick [1, 2] [] [0, 1] rfl rfl)
        · intro z hinv
          replace hinv : True := hinv
          clear hinv
          refine gw_cut (γ := Unit) (I := (fun (z : Unit) => True)) (S' := (fun (z : Unit) => [(2, .bool false), (4, .slice A2 k c2), (5, .int .i64 v4), (6, .pointer (some ⟨g11, 0, none⟩)), (7, .slice none 0 0), (8, .int .i64 OE), (9, .pointer (some ⟨g15, 0, none⟩)), (10, .int .i64 E2), (11, .int .i64 0), (12, .int .i64 E3), (13, .int .i64 OE), (14, .int .i64 E2), (15, .int .i64 E3)])) (K' := (fun (z : Unit) => fun _ => True)) (L' := (fun (z : Unit) => [(g16, 38, [.int .i64 (formE x), .int .i64 (whenE (decide (9 < ((k : Nat) : Int))) 2)]), (g15, 35, [.int .i64 0, .int .i64 0])])) (O' := (fun (z : Unit) => [])) (X' := (fun (z : Unit) => [BlkOld w2.heap.size none g11 35 [.int .i64 rn, .int .i64 rd], SlOld bkEnc 6 33 w2.heap.size none A2 k x])) ?_ ?_
          · refine gw_region ?_
            refine wl_ov (ov_move rfl) rfl ?_
            refine wl_ov (ov_field fo35_1 rfl rfl) rfl ?_
            refine wl_ov (ov_load (v := .int .i64 rd) sc3 rfl (fun _ hm => (hm.fact 0 rfl).2) rfl) rfl ?_
            refine wl_ov (ov_lss rfl rfl) rfl ?_
            refine wl_ov (ov_move rfl) rfl ?_
            rcases Bool.eq_false_or_eq_true (decide (rd < 1)) with hb0 | hb0
            · refine wl_set 90 rfl (congrArg Value.bool hb0) ?_
              refine wl_guard_off rfl rfl rfl (by decide) rfl ?_
              refine wl_guard_off rfl rfl rfl (by decide) rfl ?_
              refine wl_guard_off rfl rfl rfl (by decide) rfl ?_
              refine wl_ov (ov_pick_t rfl rfl) rfl ?_
              refine wl_ov (ov_move rfl) rfl ?_
              refine wl_guard_off rfl rfl rfl (by decide) rfl ?_
              refine wl_guard_off rfl rfl rfl (by decide) rfl ?_
              refine wl_guard_off rfl rfl rfl (by decide) rfl ?_
              refine wl_ov (ov_pick_t rfl rfl) rfl ?_
              refine wl_ov (ov_move rfl) rfl ?_
              refine wl_guard_off rfl rfl rfl (by decide) rfl ?_
              refine wl_guard_off rfl rfl rfl (by decide) rfl ?_
              refine wl_guard_off rfl rfl rfl (by decide) rfl ?_
              refine wl_guard_off rfl rfl rfl (by decide) rfl ?_
              refine wl_guard_off rfl rfl rfl (by decide) rfl ?_
              refine wl_ov (ov_pick_t rfl rfl) rfl ?_
              refine wl_callw rfl cb15 rfl rfl (fun wx hm => (rwhen_any _ _ wx)) ?_
              refine wl_buildSlice (e := 38) (cs := [.int .i64 E2, .int .i64 (whenE true 1)]) rfl (by kernel_rfl) rfl fun g19 => ?_
              refine wl_callw rfl cb13 rfl rfl (fun wx hm => (errs_any [E2, whenE true 1] _ _ _ wx (hm.blkI 0 rfl) (by simp))) ?_
              refine wl_ov (ov_assign rfl) rfl ?_
              refine wl_nil ?_
              exact nx_meet () trivial ⟨rfl, rfl, rfl, rfl, rfl, rfl, rfl, rfl, rfl, rfl, rfl, rfl, (some_int (by (first | (rw [hE3, out_in, out_in, hb0]; done) | (rw [hE3, out_in, out_in, hb0]; rfl)))), trivial⟩ (fun _ hm => hm.pick [1, 2] [] [0, 1] rfl rfl)
            · refine wl_set 90 rfl (congrArg Value.bool hb0) ?_
              refine wl_guard_on rfl rfl rfl ?_
              refine wl_ov (ov_field fo35_1 rfl rfl) rfl ?_
              refine wl_guard_on rfl rfl rfl ?_
              refine wl_ov (ov_load (v := .int .i64 rd) sc3 rfl (fun _ hm => (hm.fact 0 rfl).2) rfl) rfl ?_
              refine wl_guard_on rfl rfl rfl ?_
              refine wl_ov (ov_gtr rfl rfl) rfl ?_
              refine wl_ov (ov_pick_f rfl rfl) rfl ?_
              refine wl_ov (ov_move rfl) rfl ?_
              rcases Bool.eq_false_or_eq_true (decide (1000000 < rd)) with hb1 | hb1
              · refine wl_set 95 rfl (congrArg Value.bool hb1) ?_
                refine wl_guard_off rfl rfl rfl (by decide) rfl ?_
                refine wl_guard_off rfl rfl rfl (by decide) rfl ?_
                refine wl_guard_off rfl rfl rfl (by decide) rfl ?_
                refine wl_ov (ov_pick_t rfl rfl) rfl ?_
                refine wl_ov (ov_move rfl) rfl ?_
                refine wl_guard_off rfl rfl rfl (by decide) rfl ?_
                refine wl_guard_off rfl rfl rfl (by decide) rfl ?_
                refine wl_guard_off rfl rfl rfl (by decide) rfl ?_
                refine wl_guard_off rfl rfl rfl (by decide) rfl ?_
                refine wl_guard_off rfl rfl rfl (by decide) rfl ?_
                refine wl_ov (ov_pick_t rfl rfl) rfl ?_
                refine wl_callw rfl cb15 rfl rfl (fun wx hm => (rwhen_any _ _ wx)) ?_
                refine wl_buildSlice (e := 38) (cs := [.int .i64 E2, .int .i64 (whenE true 1)]) rfl (by kernel_rfl) rfl fun g20 => ?_
                refine wl_callw rfl cb13 rfl rfl (fun wx hm => (errs_any [E2, whenE true 1] _ _ _ wx (hm.blkI 0 rfl) (by simp))) ?_
                refine wl_ov (ov_assign rfl) rfl ?_
                refine wl_nil ?_
                exact nx_meet () trivial ⟨rfl, rfl, rfl, rfl, rfl, rfl, rfl, rfl, rfl, rfl, rfl, rfl, (some_int (by (first | (rw [hE3, out_in, out_in, hb0, hb1]; done) | (rw [hE3, out_in, out_in, hb0, hb1]; rfl)))), trivial⟩ (fun _ hm => hm.pick [1, 2] [] [0, 1] rfl rfl)
              · refine wl_set 95 rfl (congrArg Value.bool hb1) ?_
                refine wl_guard_on rfl rfl rfl ?_
                refine wl_ov (ov_field fo35_0 rfl rfl) rfl ?_
                refine wl_guard_on rfl rfl rfl ?_
                refine wl_ov (ov_load (v := .int .i64 rn) sc3 rfl (fun _ hm => (hm.fact 0 rfl).2) rfl) rfl ?_
                refine wl_guard_on rfl rfl rfl ?_
                refine wl_ov (ov_lss rfl rfl) rfl ?_
                refine wl_ov (ov_pick_f rfl rfl) rfl ?_
                refine wl_ov (ov_move rfl) rfl ?_
                rcases Bool.eq_false_or_eq_true (decide (rn < 0)) with hb2 | hb2
                · refine wl_set 100 rfl (congrArg Value.bool hb2) ?_
                  refine wl_guard_off rfl rfl rfl (by decide) rfl ?_
                  refine wl_guard_off rfl rfl rfl (by decide) rfl ?_
                  refine wl_guard_off rfl rfl rfl (by decide) rfl ?_
                  refine wl_guard_off rfl rfl rfl (by decide) rfl ?_
                  refine wl_guard_off rfl rfl rfl (by decide) rfl ?_
                  refine wl_ov (ov_pick_t rfl rfl) rfl ?_
                  refine wl_callw rfl cb15 rfl rfl (fun wx hm => (rwhen_any _ _ wx)) ?_
                  refine wl_buildSlice (e := 38) (cs := [.int .i64 E2, .int .i64 (whenE true 1)]) rfl (by kernel_rfl) rfl fun g21 => ?_
                  refine wl_callw rfl cb13 rfl rfl (fun wx hm => (errs_any [E2, whenE true 1] _ _ _ wx (hm.blkI 0 rfl) (by simp))) ?_
                  refine wl_ov (ov_assign rfl) rfl ?_
                  refine wl_nil ?_
                  exact nx_meet () trivial ⟨rfl, rfl, rfl, rfl, rfl, rfl, rfl, rfl, rfl, rfl, rfl, rfl, (some_int (by (first | (rw [hE3, out_in, out_in, hb0, hb1, hb2]; done) | (rw [hE3, out_in, out_in, hb0, hb1, hb2]; rfl)))), trivial⟩ (fun _ hm => hm.pick [1, 2] [] [0, 1] rfl rfl)
                · refine wl_set 100 rfl (congrArg Value.bool hb2) ?_
                  refine wl_guard_on rfl rfl rfl ?_
                  refine wl_ov (ov_field fo35_0 rfl rfl) rfl ?_
                  refine wl_guard_on rfl rfl rfl ?_
                  refine wl_ov (ov_load (v := .int .i64 rn) sc3 rfl (fun _ hm => (hm.fact 0 rfl).2) rfl) rfl ?_
                  refine wl_guard_on rfl rfl rfl ?_
                  refine wl_ov (ov_field fo35_1 rfl rfl) rfl ?_
                  refine wl_guard_on rfl rfl rfl ?_
                  refine wl_ov (ov_load (v := .int .i64 rd) sc3 rfl (fun _ hm => (hm.fact 0 rfl).2) rfl) rfl ?_
                  refine wl_guard_on rfl rfl rfl ?_
                  refine wl_ov (ov_gtr rfl rfl) rfl ?_
                  refine wl_ov (ov_pick_f rfl rfl) rfl ?_
                  refine wl_callw rfl cb15 rfl rfl (fun wx hm => (rwhen_any _ _ wx)) ?_
                  refine wl_buildSlice (e := 38) (cs := [.int .i64 E2, .int .i64 (whenE (decide (rd < rn)) 1)]) rfl (by kernel_rfl) rfl fun g22 => ?_
                  refine wl_callw rfl cb13 rfl rfl (fun wx hm => (errs_any [E2, whenE (decide (rd < rn)) 1] _ _ _ wx (hm.blkI 0 rfl) (by simp))) ?_
                  refine wl_ov (ov_assign rfl) rfl ?_
                  refine wl_nil ?_
                  exact nx_meet () trivial ⟨rfl, rfl, rfl, rfl, rfl, rfl, rfl, rfl, rfl, rfl, rfl, rfl, (some_int (by (first | (rw [hE3, out_in, out_in, hb0, hb1, hb2]; done) | (rw [hE3, out_in, out_in, hb0, hb1, hb2]; rfl)))), trivial⟩ (fun _ hm => hm.pick [1, 2] [] [0, 1] rfl rfl)
          · intro z hinv
            replace hinv : True := hinv
            refine gw_seq ?_
            refine gw_seq ?_
            refine gw_region ?_
            clear hinv
            refine wl_ov (ov_move rfl) rfl ?_
            refine wl_ov (ov_move rfl) rfl ?_
            refine wl_ov (ov_neq rfl rfl) rfl ?_
            refine wl_set 112 (v' := .bool false) rfl (congrArg Value.bool (by simp)) ?_
            refine wl_ov (ov_move rfl) rfl ?_
            refine wl_guard_on rfl rfl rfl ?_
            refine wl_ov (ov_move rfl) rfl ?_
            refine wl_guard_on rfl rfl rfl ?_
            refine wl_ov (ov_move rfl) rfl ?_
            refine wl_guard_on rfl rfl rfl ?_
            refine wl_ov (ov_neq rfl rfl) rfl ?_
            refine wl_set 116 (v' := .bool false) rfl (congrArg Value.bool (by simp)) ?_
            refine wl_ov (ov_pick_f rfl rfl) rfl ?_
            refine wl_ov (ov_move rfl) rfl ?_
            refine wl_guard_on rfl rfl rfl ?_
            refine wl_ov (ov_move rfl) rfl ?_
            refine wl_guard_on rfl rfl rfl ?_
            refine wl_ov (ov_move rfl) rfl ?_
            refine wl_guard_on rfl rfl rfl ?_
            refine wl_ov (ov_neq rfl rfl) rfl ?_
            refine wl_set 121 (v' := .bool false) rfl (congrArg Value.bool (by simp)) ?_
            refine wl_ov (ov_pick_f rfl rfl) rfl ?_
            refine wl_ov (ov_move rfl) rfl ?_
            refine wl_guard_on rfl rfl rfl ?_
            refine wl_ov (ov_move rfl) rfl ?_
            refine wl_guard_on rfl rfl rfl ?_
            refine wl_ov (ov_neq rfl rfl) rfl ?_
            refine wl_set 125 (v' := .bool true) rfl (congrArg Value.bool (by rw [decide_eq_false hA]; rfl)) ?_
            refine wl_guard_on rfl rfl rfl ?_
            refine wl_ov (ov_move rfl) rfl ?_
            refine wl_guard_on rfl rfl rfl ?_
            refine wl_ov (ov_move rfl) rfl ?_
            refine wl_guard_on rfl rfl rfl ?_
            refine wl_ov (ov_len es37 rfl) rfl ?_
            refine wl_set 128 (v' := .int .i64 0) rfl rfl ?_
            refine wl_guard_on rfl rfl rfl ?_
            refine wl_ov (ov_gtr rfl rfl) rfl ?_
            refine wl_set 129 (v' := .bool false) rfl (congrArg Value.bool (by decide)) ?_
            refine wl_guard_on rfl rfl rfl ?_
            refine wl_ov (ov_pick_t rfl rfl) rfl ?_
            refine wl_ov (ov_pick_f rfl rfl) rfl ?_
            refine wl_ov (ov_move rfl) rfl ?_
            refine wl_guard_on rfl rfl rfl ?_
            refine wl_ov (ov_move rfl) rfl ?_
            refine wl_guard_on rfl rfl rfl ?_
            refine wl_ov (ov_eql rfl rfl) rfl ?_
            refine wl_set 134 (v' := .bool false) rfl (congrArg Value.bool (decide_eq_false hA)) ?_
            refine wl_guard_on rfl rfl rfl ?_
            refine wl_ov (ov_move rfl) rfl ?_
            refine wl_guard_off rfl rfl rfl (by decide) rfl ?_
            refine wl_guard_off rfl rfl rfl (by decide) rfl ?_
            refine wl_guard_off rfl rfl rfl (by decide) rfl ?_
            refine wl_guard_off rfl rfl rfl (by decide) rfl ?_
            refine wl_guard_off rfl rfl rfl (by decide) rfl ?_
            refine wl_guard_on rfl rfl rfl ?_
            refine wl_ov (ov_pick_f rfl rfl) rfl ?_
            refine wl_ov (ov_pick_f rfl rfl) rfl ?_
            refine wl_nil ?_
            refine nx_then ?_
            refine gw_cond rfl (fun hh => by cases hh) (fun _ => ?_)
            refine gw_skip ?_
            refine nx_then ?_
            refine gw_seq ?_
            refine gw_region ?_
            refine wl_ov (ov_build (cs := [.int .i64 0, .int .i64 0]) rfl (by kernel_rfl)) rfl ?_
            refine wl_alloc zc35 rfl fun g23 => ?_
            refine wl_stores (cs' := [.int .i64 0, .int .i64 0]) 0 rz35 rfl rfl rfl rfl rfl rfl rfl rfl ?_
            refine wl_ov (ov_assign rfl) rfl ?_
            refine wl_nil ?_
            refine nx_then ?_
            refine gw_seq ?_
            refine gw_seq ?_
            refine gw_region ?_
            refine wl_ov (ov_move rfl) rfl ?_
            refine wl_ov (ov_eql rfl rfl) rfl ?_
            refine wl_set 145 (v' := .bool false) rfl (congrArg Value.bool (decide_eq_false hB)) ?_
            refine wl_nil ?_
            refine nx_then ?_
            refine gw_cond rfl (fun hh => by cases hh) (fun _ => ?_)
            refine gw_skip ?_
            refine nx_then ?_
            refine gw_seq ?_
            refine gw_seq ?_
            refine gw_region ?_
            refine wl_ov (ov_move rfl) rfl ?_
            refine wl_ov (ov_eql rfl rfl) rfl ?_
            refine wl_set 150 (v' := .bool false) rfl (congrArg Value.bool (decide_eq_false hC)) ?_
            refine wl_nil ?_
            refine nx_then ?_
            refine gw_cond rfl (fun hh => by cases hh) (fun _ => ?_)
            refine gw_skip ?_
            refine nx_then ?_
            refine gw_seq ?_
            refine gw_region ?_
            refine wl_ov (ov_loads rz35 rfl (fun _ hm => hm.blkI 2 rfl) rfl rfl) rfl ?_
            refine wl_ov (ov_loads rz35 rfl (fun _ hm => hm.blkI 0 rfl) rfl rfl) rfl ?_
            refine wl_ov (ov_bin rfl rfl (cmp_agg guard_fraction (fun wx => same_fraction_eql 0 0 wx))) rfl ?_
            refine wl_ov (ov_move rfl) rfl ?_
            refine wl_guard_on rfl rfl rfl ?_
            refine wl_ov (ov_move rfl) rfl ?_
            refine wl_guard_on rfl rfl rfl ?_
            refine wl_ov (ov_move rfl) rfl ?_
            refine wl_guard_on rfl rfl rfl ?_
            refine wl_ov (ov_eql rfl rfl) rfl ?_
            refine wl_set 161 (v' := .bool true) rfl (congrArg Value.bool (by decide)) ?_
            refine wl_ov (ov_pick_t rfl rfl) rfl ?_
            refine wl_ov (ov_move rfl) rfl ?_
            refine wl_guard_on rfl rfl rfl ?_
            refine wl_callv rfl cb20 rfl rfl (fun wx hm => (booked_any wx)) ?_
            refine wl_ov (ov_pick_t rfl rfl) rfl ?_
            refine wl_ov (ov_assign rfl) rfl ?_
            refine wl_nil ?_
            refine nx_then ?_
            refine gw_ret ?_
            refine nx_ret1 rfl rfl fun wx hm => ?_
            exact ⟨rfl, law_end hg1 hsb (grow_trans hm_w2.g (grow_weak hm.g))⟩

end Go.Proofs.YtcggbojhalbkjaaDoor
