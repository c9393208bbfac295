/- over, Over, Spread, less. -/
import Derived.Test.YtcggbojhalbkjaaDoorOa
namespace Go.Proofs.YtcggbojhalbkjaaDoor
open Go.RowKit

theorem tl_take {u k x : Nat} {D : List Nat} (h : D[k]? = some x) : tl (u + 1) (D.take (k + 1)) = tl (u + 1) (D.take k) + (if u < k then x else 0) := by
  have hk : k < D.length := (List.getElem?_eq_some_iff.1 h).1
  have hl : (D.take k).length = k := by rw [List.length_take]; omega
  unfold tl
  rw [List.take_add_one, h]
  by_cases hu : u < k
  · rw [if_pos hu, List.drop_append_of_le_length (by omega), List.sum_append]; simp
  · rw [if_neg hu, List.drop_eq_nil_of_le (by rw [List.length_append, hl]; show k + 1 ≤ u + 1; omega), List.drop_eq_nil_of_le (by rw [hl]; omega)]; rfl
theorem tl_le (k : Nat) (D : List Nat) : tl k D ≤ D.sum := by
  induction k with
  | zero => exact Nat.le_refl _
  | succ k ih => exact Nat.le_trans (tl_succ_le k D) ih
theorem sum_take_le : ∀ (D : List Nat) (k : Nat), (D.take k).sum ≤ D.sum
  | [], k => by simp
  | x :: r, 0 => by simp
  | x :: r, k + 1 => by
    rw [List.take_succ_cons, List.sum_cons, List.sum_cons]
    have := sum_take_le r k; omega
theorem odds_ok {l : List Bk} (hf : formE l = 0) (hl : l.length ≤ 9) : oddsE l = 0 := by
  unfold oddsE
  rw [hf, decide_eq_false (by omega)]; rfl

set_option maxRecDepth 100000 in
set_option maxHeartbeats 400000 in
theorem over_any (l : List Bk) (A : Option Addr) (n c : Nat) (u : Nat) (w : World) (hl : SlT bkEnc 6 33 w A n l) (hpc : PcOk l) (hn : n ≤ 9) :
    Calls Tryd.prog 55 #[.slice A n c, .int .i64 ((u : Nat) : Int)] w (fun e w' => e = .returned (.tuple #[.int .i64 ((tl (u + 1) (spreadP (pcs l)) : Nat) : Int), .int .i64 ((100 ^ n : Nat) : Int)]) ∧ w.grownBy w' none) := by
  refine gw_enter ⟨32, w, none, [3]⟩ Tryd.func55 rfl Tryd.ntmps55 rfl (mem0 (X := [SlOld bkEnc 6 33 w.heap.size none A n l]) (allF_cons hl.old allF_nil) (allL_cons SlOld.lasts allL_nil)) ?_
  refine gw_seq ?_
  refine gw_region ?_
  have hlen := hl.len
  have hsum := spreadP_sum (pcs_le hpc) n (by rw [pcs_len]; omega)
  rw [show (pcs l).take n = pcs l from List.take_of_length_le (by rw [pcs_len]; omega)] at hsum
  have hDl := spreadP_len (pcs l) n (by rw [pcs_len]; omega)
  rw [show (pcs l).take n = pcs l from List.take_of_length_le (by rw [pcs_len]; omega)] at hDl
  obtain ⟨hw1, hw2, _⟩ := pow_le n hn
  obtain ⟨W, hW⟩ : ∃ W, W = 100 ^ n := ⟨_, rfl⟩
  rw [← hW] at hsum hw1 hw2 ⊢
  obtain ⟨D, hD⟩ : ∃ D, D = spreadP (pcs l) := ⟨_, rfl⟩
  rw [← hD] at hsum hDl ⊢
  refine wl_ov (ov_assign rfl) rfl ?_
  refine wl_ov (ov_assign rfl) rfl ?_
  refine wl_nil ?_
  refine nx_then ?_
  refine gw_seq ?_
  refine gw_region ?_
  refine wl_ov (ov_move rfl) rfl ?_
  refine wl_callx (γ := Option Addr × Nat) (val := (fun (g : Option Addr × Nat) => .tuple #[.slice g.1 (n + 1) g.2, .int .i64 ((W : Nat) : Int)])) (φ := (fun (g : Option Addr × Nat) => True)) (Y := (fun (g : Option Addr × Nat) => fun wy => SlT ntEnc 1 3 wy g.1 (n + 1) D)) rfl cb50 rfl rfl (fun wx hm => (by rw [hD, hW]; exact (spread_any l A n c wx (hm.fact 0 rfl).1 hpc hn).mono fun _ _ ⟨A2, c2, he, hs, hg⟩ => ⟨(A2, c2), he, trivial, hg, hs⟩)) (fun _ => SlT.lasts2 rfl) ?_
  rintro ⟨A2, c2⟩ hphi
  dsimp only
  clear hphi
  refine wl_look (R := ∃ b3 o3, A2 = some ⟨b3, o3, none⟩) (fun wx hm => by obtain ⟨b3, o3, h, _, _⟩ := SlT.get (hm.fact 0 rfl) (by omega); exact ⟨b3, o3, h⟩) ?_
  rintro ⟨b3, o3, rfl⟩
  refine wl_ov (ov_move rfl) rfl ?_
  refine wl_ov (ov_extract rfl rfl) rfl ?_
  refine wl_ov (ov_extract rfl rfl) rfl ?_
  refine wl_ov (ov_assign rfl) rfl ?_
  refine wl_ov (ov_assign rfl) rfl ?_
  refine wl_nil ?_
  refine nx_then ?_
  refine gw_seq ?_
  refine gw_region ?_
  refine wl_ov (ov_assign rfl) rfl ?_
  refine wl_nil ?_
  refine nx_then ?_
  refine gw_seq ?_
  refine gw_seq ?_
  refine gw_region ?_
  refine wl_ov (ov_move rfl) rfl ?_
  refine wl_ov (ov_len es22 rfl) rfl ?_
  refine wl_ov (ov_move rfl) rfl ?_
  refine wl_nil ?_
  refine nx_then ?_
  refine gw_block ?_
  refine gw_loop (γ := Nat) (fun (k : Nat) => k ≤ n + 1) (fun (k : Nat) => [(1, .int .i64 ((u : Nat) : Int)), (4, .int .i64 0), (5, .int .i64 0), (7, .int .i64 ((W : Nat) : Int)), (8, .int .i64 ((tl (u + 1) (D.take k) : Nat) : Int)), (16, .slice (some ⟨b3, o3, none⟩) (n + 1) c2), (17, .int .i64 ((n + 1 : Nat) : Int)), (18, .int .i64 ((k : Nat) : Int))]) (fun (k : Nat) => fun _ => True) (fun (k : Nat) => []) (fun (k : Nat) => []) (fun (k : Nat) => [fun wy => SlT ntEnc 1 3 wy (some ⟨b3, o3, none⟩) (n + 1) D, SlOld bkEnc 6 33 w.heap.size none A n l]) (fun (k : Nat) => n + 1 - k) 0 (Nat.zero_le _) ⟨rfl, rfl, rfl, rfl, (some_int (by simp [tl])), rfl, rfl, rfl, trivial⟩ (fun _ hm => hm.pick [] [] [0, 1] rfl rfl) ?_
  intro k hinv
  replace hinv : k ≤ n + 1 := hinv
  refine gw_seq ?_
  refine gw_region ?_
  refine wl_ov (ov_lss rfl rfl) rfl ?_
  refine wl_nil ?_
  refine nx_then ?_
  refine gw_seq ?_
  refine gw_cond rfl (fun hh => ?_) (fun hh => ?_)
  · have hk : ((k : Nat) : Int) < ((n + 1 : Nat) : Int) := by simpa using hh
    clear hh
    refine gw_skip ?_
    refine nx_then ?_
    refine gw_seq ?_
    refine gw_block ?_
    refine gw_seq ?_
    refine gw_region ?_
    obtain ⟨x, hx⟩ : ∃ x, D[k]? = some x := ⟨_, List.getElem?_eq_getElem (by omega)⟩
    have ht := tl_take (u := u) hx
    have h1 := tl_le (u + 1) (D.take k)
    have h2 := sum_take_le D k
    have h3 := mem_sum_le (List.mem_of_getElem? hx)
    refine wl_ov (ov_move rfl) rfl ?_
    refine wl_ov (ov_index (j := k) es22 rfl rfl (by omega)) rfl ?_
    refine wl_ov (ov_elem1 (k := 0) (v := .int .i64 ((x : Nat) : Int)) sc3 rfl (fun _ hm => (hm.fact 0 rfl)) hx rfl rfl) rfl ?_
    refine wl_ov (ov_assign rfl) rfl ?_
    refine wl_ov (ov_assign rfl) rfl ?_
    refine wl_nil ?_
    refine nx_then ?_
    refine gw_seq ?_
    refine gw_region ?_
    refine wl_ov (ov_move rfl) rfl ?_
    refine wl_ov (ov_move rfl) rfl ?_
    refine wl_ov (ov_gtr rfl rfl) rfl ?_
    refine wl_nil ?_
    refine nx_then ?_
    refine gw_cond rfl (fun hh => ?_) (fun hh => ?_)
    · have hu : ((u : Nat) : Int) < ((k : Nat) : Int) := by simpa using hh
      clear hh
      refine gw_region ?_
      refine wl_ov (ov_move rfl) rfl ?_
      refine wl_ov (ov_move rfl) rfl ?_
      refine wl_ov (ov_add rfl rfl (by omega) (by omega)) rfl ?_
      refine wl_ov (ov_assign rfl) rfl ?_
      refine wl_nil ?_
      refine nx_blk_nrm ?_
      refine nx_then ?_
      refine gw_region ?_
      refine wl_ov (ov_add rfl rfl (by omega) (by omega)) rfl ?_
      refine wl_ov (ov_move rfl) rfl ?_
      refine wl_nil ?_
      exact nx_round (k + 1) (by omega) (by omega) ⟨rfl, rfl, rfl, rfl, (some_int (by rw [ht, if_pos (show u < k by omega)]; omega)), rfl, rfl, (some_int (by omega)), trivial⟩ (fun _ hm => hm.pick [] [] [0, 1] rfl rfl)
    · have hu : ¬ (((u : Nat) : Int) < ((k : Nat) : Int)) := by simpa using hh
      clear hh
      refine gw_skip ?_
      refine nx_blk_nrm ?_
      refine nx_then ?_
      refine gw_region ?_
      refine wl_ov (ov_add rfl rfl (by omega) (by omega)) rfl ?_
      refine wl_ov (ov_move rfl) rfl ?_
      refine wl_nil ?_
      exact nx_round (k + 1) (by omega) (by omega) ⟨rfl, rfl, rfl, rfl, (some_int (by rw [ht, if_neg (show ¬ u < k by omega)]; omega)), rfl, rfl, (some_int (by omega)), trivial⟩ (fun _ hm => hm.pick [] [] [0, 1] rfl rfl)
  · have hk : ¬ (((k : Nat) : Int) < ((n + 1 : Nat) : Int)) := by simpa using hh
    clear hh
    refine gw_exit ?_
    refine nx_then_exit ?_
    refine nx_then_exit ?_
    refine nx_blk_here ?_
    refine nx_then ?_
    refine gw_seq ?_
    refine gw_region ?_
    refine wl_ov (ov_move rfl) rfl ?_
    refine wl_ov (ov_move rfl) rfl ?_
    refine wl_ov (ov_assign rfl) rfl ?_
    refine wl_ov (ov_assign rfl) rfl ?_
    refine wl_nil ?_
    refine nx_then ?_
    refine gw_ret ?_
    refine nx_ret2 rfl rfl rfl fun wx hm => ?_
    exact ⟨by rw [show D.take k = D from List.take_of_length_le (by omega)], hm.g⟩

set_option maxRecDepth 100000 in
set_option maxHeartbeats 400000 in
theorem over_right (l : List Bk) (A : Option Addr) (n c : Nat) (u : Nat) (w : World) (hl : SlT bkEnc 6 33 w A n l) (hpc : PcOk l) (hn : n ≤ 9) (hok : ∀ b ∈ l, BkOk b) (hf : formE l = 0) (hu : u ≤ 500) :
    Calls Tryd.prog 11 #[.slice A n c, .int .i64 ((u : Nat) : Int)] w (fun e w' => e = .returned (.tuple #[.agg #[.int .i64 (lowF (tl (u + 1) (spreadP (pcs l))) (100 ^ n)).num, .int .i64 (lowF (tl (u + 1) (spreadP (pcs l))) (100 ^ n)).den], .int .i64 0]) ∧ w.grownBy w' none) := by
  refine gw_enter ⟨25, w, none, []⟩ Tryd.func11 rfl Tryd.ntmps11 rfl (mem0 (X := [SlOld bkEnc 6 33 w.heap.size none A n l]) (allF_cons hl.old allF_nil) (allL_cons SlOld.lasts allL_nil)) ?_
  refine gw_seq ?_
  refine gw_region ?_
  have hlen := hl.len
  have hsum := spreadP_sum (pcs_le hpc) n (by rw [pcs_len]; omega)
  rw [show (pcs l).take n = pcs l from List.take_of_length_le (by rw [pcs_len]; omega)] at hsum
  have hDl := spreadP_len (pcs l) n (by rw [pcs_len]; omega)
  rw [show (pcs l).take n = pcs l from List.take_of_length_le (by rw [pcs_len]; omega)] at hDl
  obtain ⟨hw1, hw2, _⟩ := pow_le n hn
  obtain ⟨W, hW⟩ : ∃ W, W = 100 ^ n := ⟨_, rfl⟩
  rw [← hW] at hsum hw1 hw2 ⊢
  have htl := tl_le (u + 1) (spreadP (pcs l))
  obtain ⟨T, hT⟩ : ∃ T, T = tl (u + 1) (spreadP (pcs l)) := ⟨_, rfl⟩
  rw [← hT] at htl ⊢
  refine wl_alloc zc35 rfl fun g1 => ?_
  refine wl_ov (ov_assign rfl) rfl ?_
  refine wl_nil ?_
  refine nx_then ?_
  refine gw_seq ?_
  refine gw_seq ?_
  refine gw_region ?_
  refine wl_ov (ov_move rfl) rfl ?_
  refine wl_callv (v := .int .i64 0) rfl cb49 rfl rfl (fun wx hm => (by have h := checkOdds_any l A n c wx (hm.fact 0 rfl).1 hok (by omega); rw [odds_ok hf (by omega)] at h; exact h)) ?_
  refine wl_ov (ov_move rfl) rfl ?_
  refine wl_callw rfl cb54 rfl rfl (fun wx hm => (in_any _ _ _ wx)) ?_
  refine wl_ov (ov_un_not rfl) rfl ?_
  refine wl_callw rfl cb53 rfl rfl (fun wx hm => (when_any _ _ wx)) ?_
  refine wl_buildSlice (e := 38) (cs := [.int .i64 0, .int .i64 (whenE (!(inB ((u : Nat) : Int) 0 500)) 1)]) rfl (by kernel_rfl) rfl fun g2 => ?_
  refine wl_callw rfl cb52 rfl rfl (fun wx hm => (first_any [0, whenE (!(inB ((u : Nat) : Int) 0 500)) 1] _ _ _ wx (hm.blkI 0 rfl) (by simp))) ?_
  refine wl_ov (ov_assign rfl) rfl ?_
  refine wl_nil ?_
  refine nx_then ?_
  refine gw_seq ?_
  refine gw_region ?_
  refine wl_ov (ov_move rfl) rfl ?_
  refine wl_ov (ov_neq rfl rfl) rfl ?_
  refine wl_nil ?_
  refine nx_then ?_
  refine gw_cond rfl (fun hh => ?_) (fun hh => ?_)
  · have hE : ¬ (firstE [0, whenE (!(inB ((u : Nat) : Int) 0 500)) 1] = 0) := by simpa using hh
    clear hh
    refine gw_seq ?_
    refine gw_region ?_
    exact absurd (by rw [inB_iff.2 ⟨by omega, by omega⟩]; rfl) hE
  · have hE : firstE [0, whenE (!(inB ((u : Nat) : Int) 0 500)) 1] = 0 := by simpa using hh
    clear hh
    refine gw_skip ?_
    refine nx_then ?_
    refine gw_seq ?_
    refine gw_region ?_
    refine wl_ov (ov_move rfl) rfl ?_
    refine wl_ov (ov_move rfl) rfl ?_
    refine wl_callv (v := .tuple #[.int .i64 ((T : Nat) : Int), .int .i64 ((W : Nat) : Int)]) rfl cb55 rfl rfl (fun wx hm => (by rw [hT, hW]; exact over_any l A n c u wx (hm.fact 0 rfl).1 hpc hn)) ?_
    refine wl_ov (ov_extract rfl rfl) rfl ?_
    refine wl_ov (ov_extract rfl rfl) rfl ?_
    refine wl_callv rfl cb51 rfl rfl (fun wx hm => (lowest_any T W wx (by omega) (by omega) (by omega))) ?_
    refine wl_stores (cs' := [.int .i64 ((lowF T W).num), .int .i64 ((lowF T W).den)]) 1 rz35 rfl rfl rfl rfl rfl rfl rfl rfl ?_
    refine wl_ov (ov_assign rfl) rfl ?_
    refine wl_nil ?_
    refine nx_then ?_
    refine gw_ret ?_
    refine nx_retct 1 rfl rz35 rfl rfl rfl rfl fun wx hm => ?_
    exact ⟨rfl, hm.g⟩

set_option maxRecDepth 100000 in
set_option maxHeartbeats 400000 in
theorem spread_own (l : List Bk) (A : Option Addr) (n c : Nat) (w : World) (hl : SlT bkEnc 6 33 w A n l) (hpc : PcOk l) (hn : n ≤ 9) (hok : ∀ b ∈ l, BkOk b) (hf : formE l = 0) :
    Calls Tryd.prog 10 #[.slice A n c] w (fun e w' => ∃ A4 c4, e = .returned (.tuple #[.slice A4 (n + 1) c4, .int .i64 0]) ∧ w'.ownsRow w.heap.size 35 2 (.slice A4 (n + 1) c4) (n + 1) (((spreadP (pcs l)).map (fun x => lowF x (100 ^ n))).flatMap frEnc) ∧ w.grownBy w' none) := by
  refine gw_enter ⟨34, w, none, [3]⟩ Tryd.func10 rfl Tryd.ntmps10 rfl (mem0 (X := [SlOld bkEnc 6 33 w.heap.size none A n l]) (allF_cons hl.old allF_nil) (allL_cons SlOld.lasts allL_nil)) ?_
  refine gw_seq ?_
  refine gw_region ?_
  have hlen := hl.len
  have hsum := spreadP_sum (pcs_le hpc) n (by rw [pcs_len]; omega)
  rw [show (pcs l).take n = pcs l from List.take_of_length_le (by rw [pcs_len]; omega)] at hsum
  have hDl := spreadP_len (pcs l) n (by rw [pcs_len]; omega)
  rw [show (pcs l).take n = pcs l from List.take_of_length_le (by rw [pcs_len]; omega)] at hDl
  obtain ⟨hw1, hw2, _⟩ := pow_le n hn
  obtain ⟨W, hW⟩ : ∃ W, W = 100 ^ n := ⟨_, rfl⟩
  rw [← hW] at hsum hw1 hw2 ⊢
  obtain ⟨D, hD⟩ : ∃ D, D = spreadP (pcs l) := ⟨_, rfl⟩
  rw [← hD] at hsum hDl ⊢
  refine wl_ov (ov_assign rfl) rfl ?_
  refine wl_ov (ov_assign rfl) rfl ?_
  refine wl_nil ?_
  refine nx_then ?_
  refine gw_seq ?_
  refine gw_seq ?_
  refine gw_region ?_
  refine wl_ov (ov_move rfl) rfl ?_
  refine wl_callv (v := .int .i64 0) rfl cb49 rfl rfl (fun wx hm => (by have h := checkOdds_any l A n c wx (hm.fact 0 rfl).1 hok (by omega); rw [odds_ok hf (by omega)] at h; exact h)) ?_
  refine wl_ov (ov_assign rfl) rfl ?_
  refine wl_nil ?_
  refine nx_then ?_
  refine gw_seq ?_
  refine gw_region ?_
  refine wl_ov (ov_move rfl) rfl ?_
  refine wl_ov (ov_neq rfl rfl) rfl ?_
  refine wl_set 13 (v' := .bool false) rfl (congrArg Value.bool (by decide)) ?_
  refine wl_nil ?_
  refine nx_then ?_
  refine gw_cond rfl (fun hh => by cases hh) (fun _ => ?_)
  refine gw_skip ?_
  refine nx_then ?_
  refine gw_seq ?_
  refine gw_region ?_
  refine wl_ov (ov_move rfl) rfl ?_
  refine wl_callx (γ := Option Addr × Nat) (val := (fun (g : Option Addr × Nat) => .tuple #[.slice g.1 (n + 1) g.2, .int .i64 ((W : Nat) : Int)])) (φ := (fun (g : Option Addr × Nat) => True)) (Y := (fun (g : Option Addr × Nat) => fun wy => SlT ntEnc 1 3 wy g.1 (n + 1) D)) rfl cb50 rfl rfl (fun wx hm => (by rw [hD, hW]; exact (spread_any l A n c wx (hm.fact 0 rfl).1 hpc hn).mono fun _ _ ⟨A2, c2, he, hs, hg⟩ => ⟨(A2, c2), he, trivial, hg, hs⟩)) (fun _ => SlT.lasts2 rfl) ?_
  rintro ⟨A2, c2⟩ hphi
  dsimp only
  clear hphi
  refine wl_look (R := ∃ b3 o3, A2 = some ⟨b3, o3, none⟩) (fun wx hm => by obtain ⟨b3, o3, h, _, _⟩ := SlT.get (hm.fact 0 rfl) (by omega); exact ⟨b3, o3, h⟩) ?_
  rintro ⟨b3, o3, rfl⟩
  refine wl_ov (ov_move rfl) rfl ?_
  refine wl_ov (ov_extract rfl rfl) rfl ?_
  refine wl_ov (ov_extract rfl rfl) rfl ?_
  refine wl_ov (ov_assign rfl) rfl ?_
  refine wl_ov (ov_assign rfl) rfl ?_
  refine wl_nil ?_
  refine nx_then ?_
  refine gw_seq ?_
  refine gw_region ?_
  refine wl_ov (ov_assign rfl) rfl ?_
  refine wl_nil ?_
  refine nx_then ?_
  refine gw_seq ?_
  refine gw_seq ?_
  refine gw_region ?_
  refine wl_ov (ov_move rfl) rfl ?_
  refine wl_ov (ov_len es22 rfl) rfl ?_
  refine wl_ov (ov_move rfl) rfl ?_
  refine wl_nil ?_
  refine nx_then ?_
  refine gw_block ?_
  refine gw_nilOwn 35 2 ?_
  refine gw_loop (γ := Nat × Value × List Value) (fun (g : Nat × Value × List Value) => g.1 ≤ n + 1 ∧ g.2.2 = ((D.take g.1).map (fun x => lowF x W)).flatMap frEnc) (fun (g : Nat × Value × List Value) => [(2, .slice none 0 0), (3, .int .i64 0), (6, .int .i64 ((W : Nat) : Int)), (7, g.2.1), (20, .slice (some ⟨b3, o3, none⟩) (n + 1) c2), (21, .int .i64 ((n + 1 : Nat) : Int)), (22, .int .i64 ((g.1 : Nat) : Int))]) (fun (g : Nat × Value × List Value) => fun _ => True) (fun (g : Nat × Value × List Value) => []) (fun (g : Nat × Value × List Value) => [⟨g.2.1, 35, 2, g.1, g.2.2⟩]) (fun (g : Nat × Value × List Value) => [fun wy => SlT ntEnc 1 3 wy (some ⟨b3, o3, none⟩) (n + 1) D, SlOld bkEnc 6 33 w.heap.size none A n l]) (fun (g : Nat × Value × List Value) => n + 1 - g.1) (0, .slice none 0 0, []) ⟨Nat.zero_le _, rfl⟩ ⟨rfl, rfl, rfl, rfl, rfl, rfl, rfl, trivial⟩ (fun _ hm => hm.pick [] [0] [0, 1] rfl rfl) ?_
  rintro ⟨k, v, xs⟩ hinv
  replace hinv : k ≤ n + 1 ∧ xs = ((D.take k).map (fun x => lowF x W)).flatMap frEnc := hinv
  dsimp only
  refine gw_seq ?_
  refine gw_region ?_
  obtain ⟨hi0, rfl⟩ := hinv
  refine wl_ov (ov_lss rfl rfl) rfl ?_
  refine wl_nil ?_
  refine nx_then ?_
  refine gw_seq ?_
  refine gw_cond rfl (fun hh => ?_) (fun hh => ?_)
  · have hk : ((k : Nat) : Int) < ((n + 1 : Nat) : Int) := by simpa using hh
    clear hh
    refine gw_skip ?_
    refine nx_then ?_
    refine gw_seq ?_
    refine gw_block ?_
    refine gw_seq ?_
    refine gw_region ?_
    obtain ⟨x, hx⟩ : ∃ x, D[k]? = some x := ⟨_, List.getElem?_eq_getElem (by omega)⟩
    have h3 := mem_sum_le (List.mem_of_getElem? hx)
    refine wl_ov (ov_index (j := k) es22 rfl rfl (by omega)) rfl ?_
    refine wl_ov (ov_elem1 (k := 0) (v := .int .i64 ((x : Nat) : Int)) sc3 rfl (fun _ hm => (hm.fact 0 rfl)) hx rfl rfl) rfl ?_
    refine wl_ov (ov_assign rfl) rfl ?_
    refine wl_nil ?_
    refine nx_then ?_
    refine gw_region ?_
    refine wl_ov (ov_move rfl) rfl ?_
    refine wl_ov (ov_move rfl) rfl ?_
    refine wl_ov (ov_move rfl) rfl ?_
    refine wl_callv rfl cb51 rfl rfl (fun wx hm => (lowest_any x W wx (by omega) (by omega) (by omega))) ?_
    refine wl_buildSlice (e := 35) (cs := [.int .i64 ((lowF x W).num), .int .i64 ((lowF x W).den)]) rfl (by kernel_rfl) rfl fun g1 => ?_
    refine wl_append (news := [.int .i64 ((lowF x W).num), .int .i64 ((lowF x W).den)]) 0 0 ap37 rfl rfl rfl rfl rfl rfl rfl (by omega) (by unfold maxLen; omega) rfl rfl fun v2 hv2 => ?_
    refine wl_ov (ov_assign rfl) rfl ?_
    refine wl_nil ?_
    refine nx_blk_nrm ?_
    refine nx_then ?_
    refine gw_region ?_
    refine wl_ov (ov_add rfl rfl (by omega) (by omega)) rfl ?_
    refine wl_ov (ov_move rfl) rfl ?_
    refine wl_nil ?_
    exact nx_round (k + 1, v2, ((D.take k).map (fun x => lowF x W)).flatMap frEnc ++ ([.int .i64 ((lowF x W).num), .int .i64 ((lowF x W).den)] : List Value)) ⟨by dsimp only; omega, by dsimp only; rw [List.take_add_one, hx]; simp [frEnc]⟩ (by dsimp only; omega) ⟨rfl, rfl, rfl, rfl, rfl, rfl, (some_int (by omega)), trivial⟩ (fun _ hm => hm.pick [] [0] [0, 1] rfl rfl)
  · have hk : ¬ (((k : Nat) : Int) < ((n + 1 : Nat) : Int)) := by simpa using hh
    clear hh
    refine gw_exit ?_
    refine nx_then_exit ?_
    refine nx_then_exit ?_
    refine nx_blk_here ?_
    refine nx_then ?_
    refine gw_seq ?_
    refine gw_region ?_
    refine wl_look (R := ∃ A cc, v = .slice A k cc) (fun wx hm => own_slice (hm.ownI 0 rfl)) ?_
    rintro ⟨A4, c4, rfl⟩
    refine wl_ov (ov_move rfl) rfl ?_
    refine wl_ov (ov_assign rfl) rfl ?_
    refine wl_ov (ov_assign rfl) rfl ?_
    refine wl_nil ?_
    refine nx_then ?_
    refine gw_ret ?_
    have hkn : k = n + 1 := by omega
    subst hkn
    have hall : D.take (n + 1) = D := List.take_of_length_le (by omega)
    refine nx_ret2 rfl rfl rfl fun wx hm => ?_
    exact ⟨A4, c4, rfl, by rw [← hall]; exact hm.ownI 0 rfl, hm.g⟩

theorem spread_right (l : List Bk) (A : Option Addr) (n c : Nat) (w : World) (hl : SlT bkEnc 6 33 w A n l) (hpc : PcOk l) (hn : n ≤ 9) (hok : ∀ b ∈ l, BkOk b) (hf : formE l = 0) :
    Calls Tryd.prog 10 #[.slice A n c] w (fun e w' => ∃ A4 c4, e = .returned (.tuple #[.slice A4 (n + 1) c4, .int .i64 0]) ∧ SlT frEnc 2 35 w' A4 (n + 1) ((spreadP (pcs l)).map (fun x => lowF x (100 ^ n))) ∧ w.grownBy w' none) :=
  (spread_own l A n c w hl hpc hn hok hf).mono fun _ _ ⟨A4, c4, he, ho, hg⟩ => ⟨A4, c4, he, SlT.ofOwn fr_len ho (by
    have := spreadP_len (pcs l) n (by rw [pcs_len, hl.len]; exact Nat.le_refl _)
    rw [List.take_of_length_le (by rw [pcs_len, hl.len]; exact Nat.le_refl _)] at this
    simp; exact this), hg⟩

end Go.Proofs.YtcggbojhalbkjaaDoor
