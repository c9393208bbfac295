/- overOf, OverOf, MostOf; Spread, Over, Most. -/
import Derived.Test.YtcggbojhalbkjaaDoorOe
import Derived.Test.YtcggbojhalbkjaaDoorSw
namespace Go.Proofs.YtcggbojhalbkjaaDoor
open Go.RowKit

section
variable {P : Program} {nn : Nat} {S : List (Nat × Value)} {Z : World → Prop} {d : Nat} {ty : TypeId} {pos : String} {aft : Array Edge}
theorem ov_sliceHiA {t e : TypeId} {sz : Nat} {x y : Operand} {A : Option Addr} {n cap hi : Nat} {v : Int} (he : elemSz P t = some (e, sz)) (hx : rd S x = some (.slice A n cap)) (hy : rd S y = some (.int .i64 v)) (hv : v = (hi : Int)) (hhi : hi ≤ cap) : OV P nn S Z ⟨some d, .slice t x none (some y) none, ty, pos, aft, none⟩ (.slice (if cap = 0 then A else A.map (·.add 0)) hi cap) := fun a w ha hm => by
  obtain ⟨hu, hs⟩ := elemSz_parts he
  subst hv
  have h1 : (Instr.slice t (.slice A n cap) none (some (.int .i64 (hi : Int))) none).run P w = .ok (.slice (if cap = 0 then A else A.map (·.add 0)) hi cap) w := by
    rw [run_slice_any w t _ n cap hu]
    have hb := run_sliceBound (P := P) w .i64 (hi : Int) cap .sliceAcap (by omega) (by omega)
    simp [Instr.sliceBounds, hs, sliced, hb]
  simp [execOp, ha.eval hx, ha.eval hy, run_sliceAt_slice w t _ _ _ _ hu, h1]
end
theorem SlT.takeA {α : Type} {enc : α → List Value} {k : Nat} {T : TypeId} {w : World} {A : Option Addr} {n c hi : Nat} {l : List α} (h : SlT enc k T w A n l) (hh : hi ≤ n) : SlT enc k T w (if c = 0 then A else A.map (fun a : Addr => a.add 0)) hi (l.take hi) := by
  by_cases h0 : hi = 0
  · subst h0
    exact ⟨by simp, fun hn => absurd hn (by omega)⟩
  · obtain ⟨b, off, rfl, _, _⟩ := h.get (by omega)
    have e : (if c = 0 then (some ⟨b, off, none⟩ : Option Addr) else Option.map (fun a : Addr => a.add 0) (some ⟨b, off, none⟩)) = some ⟨b, off, none⟩ := by split <;> rfl
    rw [e]
    exact SlT.takeT h hh

/-- Whether the risk that more than u of the first k come is at most num / den. -/
def riskB (pl : List Nat) (u num den : Nat) (k : Nat) : Bool := decide (tl (u + 1) (spreadP (pl.take k)) * den ≤ num * 100 ^ k)
theorem mostF_succ (f : Nat → Bool) (k : Nat) : mostF f (k + 1) = if f k then k else mostF f k := rfl
theorem low_num (a b : Nat) : (lowF a b).num = ((a / Nat.gcd a b : Nat) : Int) := rfl
theorem low_den (a b : Nat) : (lowF a b).den = ((b / Nat.gcd a b : Nat) : Int) := rfl
theorem half_int (x y : Nat) : (bif decide (((x / 18446744073709551616 : Nat) : Int) < ((y / 18446744073709551616 : Nat) : Int)) then true else bif decide (((x / 18446744073709551616 : Nat) : Int) = ((y / 18446744073709551616 : Nat) : Int)) then decide (((x % 18446744073709551616 : Nat) : Int) ≤ ((y % 18446744073709551616 : Nat) : Int)) else false) = decide (x ≤ y) := by
  by_cases h1 : x / 18446744073709551616 < y / 18446744073709551616
  · rw [decide_eq_true (by omega : ((x / 18446744073709551616 : Nat) : Int) < ((y / 18446744073709551616 : Nat) : Int)), decide_eq_true (by omega : x ≤ y)]; rfl
  · rw [decide_eq_false (by omega : ¬ ((x / 18446744073709551616 : Nat) : Int) < ((y / 18446744073709551616 : Nat) : Int))]
    by_cases h2 : x / 18446744073709551616 = y / 18446744073709551616
    · rw [decide_eq_true (by omega : ((x / 18446744073709551616 : Nat) : Int) = ((y / 18446744073709551616 : Nat) : Int))]
      exact decide_eq_decide.2 (by omega)
    · rw [decide_eq_false (by omega : ¬ ((x / 18446744073709551616 : Nat) : Int) = ((y / 18446744073709551616 : Nat) : Int)), decide_eq_false (by omega : ¬ x ≤ y)]; rfl

set_option maxRecDepth 100000 in
set_option maxHeartbeats 1000000 in
theorem overOf_any (l : List Bk) (A : Option Addr) (n c : Nat) (u : Nat) (w : World) (hl : SlT bkEnc 6 33 w A n l) (hpc : PcOk l) (hn : n ≤ 9) :
    Calls Tryd.prog 61 #[.slice A n c, .int .i64 ((u : Nat) : Int)] w (fun e w' => e = .returned (.int .i64 ((tl (u + 1) (spreadP (pcs l)) : Nat) : Int)) ∧ w.grownBy w' none) := by
  refine gw_enter ⟨32, w, none, [35]⟩ Tryd.func61 rfl Tryd.ntmps61 rfl (mem0 (X := [SlOld bkEnc 6 33 w.heap.size none A n l]) (allF_cons hl.old allF_nil) (allL_cons SlOld.lasts allL_nil)) ?_
  refine gw_seq ?_
  refine gw_region ?_
  have hlen := hl.len
  have hsum := spreadP_sum (pcs_le hpc) n (by rw [pcs_len]; omega)
  rw [show (pcs l).take n = pcs l from List.take_of_length_le (by rw [pcs_len]; omega)] at hsum
  have hDl := spreadP_len (pcs l) n (by rw [pcs_len]; omega)
  rw [show (pcs l).take n = pcs l from List.take_of_length_le (by rw [pcs_len]; omega)] at hDl
  obtain ⟨hw1, hw2, _⟩ := pow_le n hn
  obtain ⟨W, hW⟩ : ∃ W, W = 100 ^ n := ⟨_, rfl⟩
  rw [← hW] at hsum hw1 hw2
  obtain ⟨D, hD⟩ : ∃ D, D = spreadP (pcs l) := ⟨_, rfl⟩
  rw [← hD] at hsum hDl ⊢
  refine wl_ov (ov_assign rfl) rfl ?_
  refine wl_nil ?_
  refine nx_then ?_
  refine gw_seq ?_
  refine gw_region ?_
  refine wl_ov (ov_assign rfl) rfl ?_
  refine wl_nil ?_
  refine nx_then ?_
  refine gw_seq ?_
  refine gw_seq ?_
  refine gw_region ?_
  refine wl_ov (ov_move rfl) rfl ?_
  refine wl_callx (γ := Option Addr × Nat) (val := (fun (g : Option Addr × Nat) => .slice g.1 (n + 1) g.2)) (φ := (fun (g : Option Addr × Nat) => True)) (Y := (fun (g : Option Addr × Nat) => fun wy => SlT frEnc 2 35 wy g.1 (n + 1) (D.map (fun x => lowF x W)))) rfl cb17 rfl rfl (fun wx hm => (by rw [hD, hW]; exact (spreadOf_any l A n c wx (hm.fact 0 rfl).1 hpc hn).mono fun _ _ ⟨A2, c2, he, hs, hg⟩ => ⟨(A2, c2), he, trivial, hg, hs⟩)) (fun _ => SlT.lasts2 rfl) ?_
  rintro ⟨A2, c2⟩ hphi
  dsimp only
  clear hphi
  refine wl_look (R := ∃ b3 o3, A2 = some ⟨b3, o3, none⟩) (fun wx hm => by obtain ⟨b3, o3, h, _, _⟩ := SlT.get (hm.fact 0 rfl) (by omega); exact ⟨b3, o3, h⟩) ?_
  rintro ⟨b3, o3, rfl⟩
  refine wl_nest none [] fun w2 hm_w2 => ⟨_, _, _, _, mem0 (X := [SlOld bkEnc 6 33 w2.heap.size none A n l, SlOld frEnc 2 35 w2.heap.size none (some ⟨b3, o3, none⟩) (n + 1) (D.map (fun x => lowF x W))]) (allF_cons (SlT.old (hm_w2.fact 1 rfl).1) (allF_cons (SlT.old (hm_w2.fact 0 rfl)) allF_nil)) (allL_cons SlOld.lasts (allL_cons SlOld.lasts allL_nil)), ?_⟩
  refine wl_ov (ov_len es37 rfl) rfl ?_
  refine wl_ov (ov_move rfl) rfl ?_
  refine wl_nil ?_
  refine nx_then ?_
  refine gw_block ?_
  refine gw_loop (γ := Nat) (fun (j : Nat) => j ≤ n + 1) (fun (j : Nat) => [(0, .slice A n c), (1, .int .i64 ((u : Nat) : Int)), (4, .int .i64 0), (5, .int .i64 ((tl (u + 1) (D.take j) : Nat) : Int)), (9, .slice (some ⟨b3, o3, none⟩) (n + 1) c2), (10, .int .i64 ((n + 1 : Nat) : Int)), (11, .int .i64 ((j : Nat) : Int))]) (fun (j : Nat) => fun _ => True) (fun (j : Nat) => []) (fun (j : Nat) => []) (fun (j : Nat) => [SlOld bkEnc 6 33 w2.heap.size none A n l, SlOld frEnc 2 35 w2.heap.size none (some ⟨b3, o3, none⟩) (n + 1) (D.map (fun x => lowF x W))]) (fun (j : Nat) => n + 1 - j) 0 (Nat.zero_le _) ⟨rfl, rfl, rfl, (some_int (by simp [tl])), rfl, rfl, rfl, trivial⟩ (fun _ hm => hm.pick [] [] [0, 1] rfl rfl) ?_
  intro j hinv
  replace hinv : j ≤ n + 1 := hinv
  refine gw_seq ?_
  refine gw_region ?_
  refine wl_ov (ov_lss rfl rfl) rfl ?_
  refine wl_nil ?_
  refine nx_then ?_
  refine gw_seq ?_
  refine gw_cond rfl (fun hh => ?_) (fun hh => ?_)
  · have hj : ((j : Nat) : Int) < ((n + 1 : Nat) : Int) := by simpa using hh
    clear hh
    refine gw_skip ?_
    refine nx_then ?_
    refine gw_seq ?_
    refine gw_block ?_
    refine gw_seq ?_
    refine gw_region ?_
    obtain ⟨x, hx⟩ : ∃ x, D[j]? = some x := ⟨_, List.getElem?_eq_getElem (by omega)⟩
    obtain ⟨hn1, hn2, hn3⟩ := whole_num (n := x) (d := W) (by omega)
    obtain ⟨N, hN⟩ : ∃ N, N = x / Nat.gcd x W := ⟨_, rfl⟩
    obtain ⟨E, hE2⟩ : ∃ E, E = W / Nat.gcd x W := ⟨_, rfl⟩
    rw [← hE2] at hn1 hn2 hn3
    rw [← hN] at hn3
    have hy : (D.map (fun x => lowF x W))[j]? = some (⟨((N : Nat) : Int), ((E : Nat) : Int)⟩ : Fr) := by rw [List.getElem?_map, hx, hN, hE2]; rfl
    have ht := tl_take (u := u) hx
    have h1 := tl_le (u + 1) (D.take j)
    have h2 := sum_take_le D j
    have h3 := mem_sum_le (List.mem_of_getElem? hx)
    have h4 := tl_le (u + 1) (D.take (j + 1))
    have h5 := sum_take_le D (j + 1)
    have hNx : N ≤ 1000000000000000000 := by have := Nat.div_le_self x (Nat.gcd x W); omega
    have hEx : E ≤ 1000000000000000000 := by have := Nat.div_le_self W (Nat.gcd x W); omega
    have hmc : ((N : Nat) : Int) * ((W / E : Nat) : Int) = ((x : Nat) : Int) := by rw [← Int.natCast_mul, hn3]
    refine wl_ov (ov_move rfl) rfl ?_
    refine wl_ov (ov_index (j := j) es37 rfl rfl (by omega)) rfl ?_
    refine wl_ov (ov_elem (vs := [.int .i64 ((N : Nat) : Int), .int .i64 ((E : Nat) : Int)]) rz35 rfl (fun _ hm => (hm.fact 1 rfl).1) hy rfl rfl) rfl ?_
    refine wl_alloc zc35 rfl fun g1 => ?_
    refine wl_ov (ov_assign rfl) rfl ?_
    refine wl_stores (cs' := [.int .i64 ((N : Nat) : Int), .int .i64 ((E : Nat) : Int)]) 0 rz35 rfl rfl rfl rfl rfl rfl rfl rfl ?_
    refine wl_nil ?_
    refine nx_then ?_
    refine gw_seq ?_
    refine gw_region ?_
    refine wl_ov (ov_move rfl) rfl ?_
    refine wl_ov (ov_move rfl) rfl ?_
    refine wl_ov (ov_gtr rfl rfl) rfl ?_
    refine wl_nil ?_
    refine nx_then ?_
    refine gw_cond rfl (fun hh => ?_) (fun hh => ?_)
    · have hu : ((u : Nat) : Int) < ((j : Nat) : Int) := by simpa using hh
      clear hh
      rw [if_pos (show u < j by omega)] at ht
      refine gw_draw (fun wz => Blk wz g1 35 [.int .i64 ((N : Nat) : Int), .int .i64 ((E : Nat) : Int)] ∧ (SlOld bkEnc 6 33 w2.heap.size none A n l) wz ∧ (SlOld frEnc 2 35 w2.heap.size none (some ⟨b3, o3, none⟩) (n + 1) (D.map (fun x => lowF x W))) wz ∧ True) mixed ?_
      refine wa_take 0 rfl (by kernel_rfl) (by kernel_rfl) (by kernel_rfl) (listed' := #[true, false, false, false, false, false, false, false, false, false, false, false]) rfl (fun _ _ _ h => h) (fun _ hm => ⟨hm.blkI 0 rfl, hm.fact 0 rfl, hm.fact 1 rfl, trivial⟩) (ov_move rfl) rfl ?_
      refine wa_take 1 rfl (by kernel_rfl) (by kernel_rfl) (by kernel_rfl) (listed' := #[true, true, false, false, false, false, false, false, false, false, false, false]) rfl (fun _ _ _ h => h) (fun _ hm => ⟨hm.blkI 0 rfl, hm.fact 0 rfl, hm.fact 1 rfl, trivial⟩) (ov_field fo35_0 rfl rfl) rfl ?_
      refine wa_take 2 rfl (by kernel_rfl) (by kernel_rfl) (by kernel_rfl) (listed' := #[true, true, true, false, false, false, false, false, false, false, false, false]) rfl (fun _ _ _ h => h) (fun _ hm => ⟨hm.blkI 0 rfl, hm.fact 0 rfl, hm.fact 1 rfl, trivial⟩) (ov_load sc3 rfl (fun _ hm => hm.1) rfl) rfl ?_
      refine wa_take 3 rfl (by kernel_rfl) (by kernel_rfl) (by kernel_rfl) (listed' := #[true, true, true, true, false, false, false, false, false, false, false, false]) rfl (fun _ _ _ h => h) (fun _ hm => ⟨hm.blkI 0 rfl, hm.fact 0 rfl, hm.fact 1 rfl, trivial⟩) (ov_move rfl) rfl ?_
      refine wa_take 4 rfl (by kernel_rfl) (by kernel_rfl) (by kernel_rfl) (listed' := #[true, true, true, true, true, false, false, false, false, false, false, false]) rfl (fun _ _ _ h => h) (fun _ hm => ⟨hm.blkI 0 rfl, hm.fact 0 rfl, hm.fact 1 rfl, trivial⟩) (ov_len es26 rfl) rfl ?_
      refine wa_take 6 rfl (by kernel_rfl) (by kernel_rfl) (by kernel_rfl) (listed' := #[true, true, true, true, true, false, true, false, false, false, false, false]) rfl (fun _ _ _ h => h) (fun _ hm => ⟨hm.blkI 0 rfl, hm.fact 0 rfl, hm.fact 1 rfl, trivial⟩) (ov_field fo35_1 rfl rfl) rfl ?_
      refine wa_take 7 rfl (by kernel_rfl) (by kernel_rfl) (by kernel_rfl) (listed' := #[true, true, true, true, true, false, true, true, false, false, false, false]) rfl (fun _ _ _ h => h) (fun _ hm => ⟨hm.blkI 0 rfl, hm.fact 0 rfl, hm.fact 1 rfl, trivial⟩) (ov_load sc3 rfl (fun _ hm => hm.1) rfl) rfl ?_
      refine wa_all [5] (by kernel_rfl) rfl ⟨⟨_, rfl, ?_⟩, trivial⟩
      refine wl_callv (v := .int .i64 ((W : Nat) : Int)) rfl cb60 rfl rfl (fun wx hm => (by rw [hW]; exact hundred_any n wx hn)) ?_
      refine wl_nil ?_
      refine nx_wa0 (listed' := #[true, true, true, true, true, true, true, true, false, false, false, false]) rfl (fun _ hm => ⟨hm.blkI 0 rfl, hm.fact 0 rfl, hm.fact 1 rfl, trivial⟩) ?_
      refine wa_take 8 rfl (by kernel_rfl) (by kernel_rfl) (by kernel_rfl) (listed' := #[true, true, true, true, true, true, true, true, true, false, false, false]) rfl (fun _ _ _ h => h) (fun _ hm => ⟨hm.blkI 0 rfl, hm.fact 0 rfl, hm.fact 1 rfl, trivial⟩) (ov_quo rfl rfl (by omega) (by omega) (by omega)) rfl ?_
      refine wa_set 27 (v' := .int .i64 ((W / E : Nat) : Int)) rfl (congrArg (Value.int .i64) (Int.natCast_ediv W E).symm) ?_
      refine wa_take 9 rfl (by kernel_rfl) (by kernel_rfl) (by kernel_rfl) (listed' := #[true, true, true, true, true, true, true, true, true, true, false, false]) rfl (fun _ _ _ h => h) (fun _ hm => ⟨hm.blkI 0 rfl, hm.fact 0 rfl, hm.fact 1 rfl, trivial⟩) (ov_mul rfl rfl (by rw [hmc]; omega) (by rw [hmc]; omega)) rfl ?_
      refine wa_set 28 (v' := .int .i64 ((x : Nat) : Int)) rfl (congrArg (Value.int .i64) hmc) ?_
      refine wa_take 10 rfl (by kernel_rfl) (by kernel_rfl) (by kernel_rfl) (listed' := #[true, true, true, true, true, true, true, true, true, true, true, false]) rfl (fun _ _ _ h => h) (fun _ hm => ⟨hm.blkI 0 rfl, hm.fact 0 rfl, hm.fact 1 rfl, trivial⟩) (ov_add rfl rfl (by omega) (by omega)) rfl ?_
      refine wa_set 29 (v' := .int .i64 ((tl (u + 1) (D.take (j + 1)) : Nat) : Int)) rfl (congrArg (Value.int .i64) (by rw [ht]; omega)) ?_
      refine wa_take 11 rfl (by kernel_rfl) (by kernel_rfl) (by kernel_rfl) (listed' := #[true, true, true, true, true, true, true, true, true, true, true, true]) rfl (fun _ _ _ h => h) (fun _ hm => ⟨hm.blkI 0 rfl, hm.fact 0 rfl, hm.fact 1 rfl, trivial⟩) (ov_assign rfl) rfl ?_
      refine wa_done (by kernel_rfl) ?_
      refine nx_blk_nrm ?_
      refine nx_then ?_
      refine gw_region ?_
      refine wl_ov (ov_add rfl rfl (by omega) (by omega)) rfl ?_
      refine wl_ov (ov_move rfl) rfl ?_
      refine wl_nil ?_
      exact nx_round (j + 1) (by omega) (by omega) ⟨rfl, rfl, rfl, rfl, rfl, rfl, (some_int (by omega)), trivial⟩ (fun _ hm => hm.pick [] [] [0, 1] rfl rfl)
    · have hu : ¬ (((u : Nat) : Int) < ((j : Nat) : Int)) := by simpa using hh
      clear hh
      refine gw_skip ?_
      refine nx_blk_nrm ?_
      refine nx_then ?_
      refine gw_region ?_
      rw [if_neg (show ¬ u < j by omega)] at ht
      refine wl_ov (ov_add rfl rfl (by omega) (by omega)) rfl ?_
      refine wl_ov (ov_move rfl) rfl ?_
      refine wl_nil ?_
      exact nx_round (j + 1) (by omega) (by omega) ⟨rfl, rfl, rfl, (some_int (by rw [ht]; omega)), rfl, rfl, (some_int (by omega)), trivial⟩ (fun _ hm => hm.pick [] [] [0, 1] rfl rfl)
  · have hj : ¬ (((j : Nat) : Int) < ((n + 1 : Nat) : Int)) := by simpa using hh
    clear hh
    refine gw_exit ?_
    refine nx_then_exit ?_
    refine nx_then_exit ?_
    refine nx_blk_here ?_
    refine nx_then ?_
    refine gw_seq ?_
    refine gw_region ?_
    refine wl_ov (ov_move rfl) rfl ?_
    refine wl_ov (ov_assign rfl) rfl ?_
    refine wl_nil ?_
    refine nx_then ?_
    refine gw_ret ?_
    refine nx_ret1 rfl rfl fun wx hm => ?_
    exact ⟨by rw [show D.take j = D from List.take_of_length_le (by omega)], grow_trans hm_w2.g hm.g⟩

set_option maxRecDepth 100000 in
set_option maxHeartbeats 400000 in
theorem overOf_right (l : List Bk) (A : Option Addr) (n c : Nat) (u : Nat) (w : World) (hl : SlT bkEnc 6 33 w A n l) (hpc : PcOk l) (hn : n ≤ 9) :
    Calls Tryd.prog 18 #[.slice A n c, .int .i64 ((u : Nat) : Int)] w (fun e w' => e = .returned (.agg #[.int .i64 (lowF (tl (u + 1) (spreadP (pcs l))) (100 ^ n)).num, .int .i64 (lowF (tl (u + 1) (spreadP (pcs l))) (100 ^ n)).den]) ∧ w.grownBy w' none) := by
  refine gw_enter ⟨12, w, none, []⟩ Tryd.func18 rfl Tryd.ntmps18 rfl (mem0 (X := [SlOld bkEnc 6 33 w.heap.size none A n l]) (allF_cons hl.old allF_nil) (allL_cons SlOld.lasts allL_nil)) ?_
  refine gw_seq ?_
  refine gw_region ?_
  have hlen := hl.len
  have hsum := spreadP_sum (pcs_le hpc) n (by rw [pcs_len]; omega)
  rw [show (pcs l).take n = pcs l from List.take_of_length_le (by rw [pcs_len]; omega)] at hsum
  have hDl := spreadP_len (pcs l) n (by rw [pcs_len]; omega)
  rw [show (pcs l).take n = pcs l from List.take_of_length_le (by rw [pcs_len]; omega)] at hDl
  obtain ⟨hw1, hw2, _⟩ := pow_le n hn
  obtain ⟨W, hW⟩ : ∃ W, W = 100 ^ n := ⟨_, rfl⟩
  rw [← hW] at hsum hw1 hw2
  have htl := tl_le (u + 1) (spreadP (pcs l))
  obtain ⟨T, hT⟩ : ∃ T, T = tl (u + 1) (spreadP (pcs l)) := ⟨_, rfl⟩
  rw [← hT] at htl ⊢
  rw [← hW]
  refine wl_alloc zc35 rfl fun g1 => ?_
  refine wl_nil ?_
  refine nx_then ?_
  refine gw_seq ?_
  refine gw_region ?_
  refine wl_ov (ov_move rfl) rfl ?_
  refine wl_ov (ov_move rfl) rfl ?_
  refine wl_callv (v := .int .i64 ((T : Nat) : Int)) rfl cb61 rfl rfl (fun wx hm => (by rw [hT]; exact overOf_any l A n c u wx (hm.fact 0 rfl).1 hpc hn)) ?_
  refine wl_ov (ov_move rfl) rfl ?_
  refine wl_ov (ov_len es26 rfl) rfl ?_
  refine wl_callv (v := .int .i64 ((W : Nat) : Int)) rfl cb60 rfl rfl (fun wx hm => (by rw [hW]; exact hundred_any n wx hn)) ?_
  refine wl_callv rfl cb59 rfl rfl (fun wx hm => (rlowest_any T W wx (by omega) (by omega) (by omega))) ?_
  refine wl_stores (cs' := [.int .i64 ((lowF T W).num), .int .i64 ((lowF T W).den)]) 0 rz35 rfl rfl rfl rfl rfl rfl rfl rfl ?_
  refine wl_nil ?_
  refine nx_then ?_
  refine gw_ret ?_
  refine nx_retc 0 rfl rz35 rfl rfl rfl fun wx hm => ?_
  exact ⟨rfl, hm.g⟩

set_option maxRecDepth 100000 in
set_option maxHeartbeats 1000000 in
theorem mostOf_any (l : List Bk) (A : Option Addr) (n c : Nat) (u num den : Nat) (w : World) (hl : SlT bkEnc 6 33 w A n l) (hpc : PcOk l) (hn : n ≤ 9) (hnc : n ≤ c) (hd0 : 1 ≤ den) (hd1 : den ≤ 1000000) (hn1 : num ≤ den) :
    Calls Tryd.prog 19 #[.slice A n c, .int .i64 ((u : Nat) : Int), .agg #[.int .i64 ((num : Nat) : Int), .int .i64 ((den : Nat) : Int)]] w (fun e w' => e = .returned (.int .i64 ((mostF (riskB (pcs l) u num den) (n + 1) : Nat) : Int)) ∧ w.grownBy w' none) := by
  refine gw_enter ⟨25, w, none, []⟩ Tryd.func19 rfl Tryd.ntmps19 rfl (mem0 (X := [SlOld bkEnc 6 33 w.heap.size none A n l]) (allF_cons hl.old allF_nil) (allL_cons SlOld.lasts allL_nil)) ?_
  refine gw_seq ?_
  refine gw_region ?_
  have hlen := hl.len
  refine wl_box rfl rfl rfl fun g1 => ?_
  refine wl_ov (ov_assign rfl) rfl ?_
  refine wl_nil ?_
  refine nx_then ?_
  refine gw_seq ?_
  refine gw_region ?_
  refine wl_ov (ov_assign rfl) rfl ?_
  refine wl_nil ?_
  refine nx_then ?_
  refine gw_seq ?_
  refine gw_seq ?_
  refine gw_region ?_
  refine wl_ov (ov_move rfl) rfl ?_
  refine wl_ov (ov_len es26 rfl) rfl ?_
  refine wl_ov (ov_add rfl rfl (by omega) (by omega)) rfl ?_
  refine wl_set 11 (v' := .int .i64 ((n + 1 : Nat) : Int)) rfl (congrArg (Value.int .i64) (by omega)) ?_
  refine wl_ov (ov_move rfl) rfl ?_
  refine wl_nil ?_
  refine nx_then ?_
  refine gw_block ?_
  refine gw_loop (γ := Nat) (fun (k : Nat) => k ≤ n + 1) (fun (k : Nat) => [(0, .slice A n c), (1, .int .i64 ((u : Nat) : Int)), (5, .pointer (some ⟨g1, 0, none⟩)), (6, .int .i64 0), (7, .int .i64 ((mostF (riskB (pcs l) u num den) k : Nat) : Int)), (11, .int .i64 ((n + 1 : Nat) : Int)), (12, .int .i64 ((k : Nat) : Int))]) (fun (k : Nat) => fun _ => True) (fun (k : Nat) => [(g1, 35, [.int .i64 ((num : Nat) : Int), .int .i64 ((den : Nat) : Int)])]) (fun (k : Nat) => []) (fun (k : Nat) => [SlOld bkEnc 6 33 w.heap.size none A n l]) (fun (k : Nat) => n + 1 - k) 0 (Nat.zero_le _) ⟨rfl, rfl, rfl, rfl, (some_int rfl), rfl, rfl, trivial⟩ (fun _ hm => hm.pick [0] [] [0] rfl rfl) ?_
  intro k hinv
  replace hinv : k ≤ n + 1 := hinv
  refine gw_seq ?_
  refine gw_region ?_
  refine wl_ov (ov_lss rfl rfl) rfl ?_
  refine wl_nil ?_
  refine nx_then ?_
  refine gw_seq ?_
  refine gw_cond rfl (fun hh => ?_) (fun hh => ?_)
  · have hk : ((k : Nat) : Int) < ((n + 1 : Nat) : Int) := by simpa using hh
    clear hh
    refine gw_skip ?_
    refine nx_then ?_
    refine gw_seq ?_
    refine gw_block ?_
    refine gw_seq ?_
    refine gw_region ?_
    have hkn : k ≤ n := by omega
    obtain ⟨hk1, hk2, _⟩ := pow_le k (by omega)
    have hlk : (l.take k).length = k := by rw [List.length_take]; omega
    have hpk : PcOk (l.take k) := fun b hb => hpc b (List.mem_of_mem_take hb)
    have hsk := spreadP_sum (pcs_le hpc) k (by rw [pcs_len]; omega)
    obtain ⟨T, hT⟩ : ∃ T, T = tl (u + 1) (spreadP ((pcs l).take k)) := ⟨_, rfl⟩
    have htk := tl_le (u + 1) (spreadP ((pcs l).take k))
    rw [← hT] at htk
    obtain ⟨V, hV⟩ : ∃ V, V = 100 ^ k := ⟨_, rfl⟩
    rw [← hV] at hk1 hk2 hsk
    have hrb : riskB (pcs l) u num den k = decide (T * den ≤ num * V) := by unfold riskB; rw [← hT, ← hV]
    have hms := mostF_succ (riskB (pcs l) u num den) k
    rw [hrb] at hms
    refine wl_ov (ov_move rfl) rfl ?_
    refine wl_ov (ov_assign rfl) rfl ?_
    refine wl_nil ?_
    refine nx_then ?_
    refine gw_seq ?_
    refine gw_draw (fun wz => Blk wz g1 35 [.int .i64 ((num : Nat) : Int), .int .i64 ((den : Nat) : Int)] ∧ (SlOld bkEnc 6 33 w.heap.size none A n l) wz ∧ True) mixed ?_
    refine wa_take 0 rfl (by kernel_rfl) (by kernel_rfl) (by kernel_rfl) (listed' := #[true, false, false, false, false, false, false]) rfl (fun _ _ _ h => h) (fun _ hm => ⟨hm.blkI 0 rfl, hm.fact 0 rfl, trivial⟩) (ov_move rfl) rfl ?_
    refine wa_take 1 rfl (by kernel_rfl) (by kernel_rfl) (by kernel_rfl) (listed' := #[true, true, false, false, false, false, false]) rfl (fun _ _ _ h => h) (fun _ hm => ⟨hm.blkI 0 rfl, hm.fact 0 rfl, trivial⟩) (ov_move rfl) rfl ?_
    refine wa_take 2 rfl (by kernel_rfl) (by kernel_rfl) (by kernel_rfl) (listed' := #[true, true, true, false, false, false, false]) rfl (fun _ _ _ h => h) (fun _ hm => ⟨hm.blkI 0 rfl, hm.fact 0 rfl, trivial⟩) (ov_sliceHiA (hi := k) es26 rfl rfl rfl (by omega)) rfl ?_
    refine wa_take 3 rfl (by kernel_rfl) (by kernel_rfl) (by kernel_rfl) (listed' := #[true, true, true, true, false, false, false]) rfl (fun _ _ _ h => h) (fun _ hm => ⟨hm.blkI 0 rfl, hm.fact 0 rfl, trivial⟩) (ov_move rfl) rfl ?_
    refine wa_take 5 rfl (by kernel_rfl) (by kernel_rfl) (by kernel_rfl) (listed' := #[true, true, true, true, false, true, false]) rfl (fun _ _ _ h => h) (fun _ hm => ⟨hm.blkI 0 rfl, hm.fact 0 rfl, trivial⟩) (ov_loads rz35 rfl (fun _ hm => hm.1) rfl rfl) rfl ?_
    refine wa_all [4] (by kernel_rfl) rfl ⟨⟨_, rfl, ?_⟩, trivial⟩
    refine wl_callv (v := .agg #[.int .i64 ((lowF T V).num), .int .i64 ((lowF T V).den)]) rfl cb18 rfl rfl (fun wx hm => (by have h := overOf_right (l.take k) _ k c u wx (SlT.takeA (c := c) (hm.fact 0 rfl).1 (by omega)) hpk (by omega); rw [pcs_takeO, ← hT, ← hV] at h; exact h)) ?_
    refine wl_nil ?_
    refine nx_wa0 (listed' := #[true, true, true, true, true, true, false]) rfl (fun _ hm => ⟨hm.blkI 0 rfl, hm.fact 0 rfl, trivial⟩) ?_
    refine wa_all [6] (by kernel_rfl) rfl ⟨⟨_, rfl, ?_⟩, trivial⟩
    refine wl_callv (v := .bool (decide (T * den ≤ num * V))) rfl cb62 rfl rfl (fun wx hm => (by have h := atMost_any (T / Nat.gcd T V) (V / Nat.gcd T V) num den wx (whole_num (by omega)).1 (by omega) (Nat.le_trans (Nat.div_le_self _ _) (by omega)) (Nat.le_trans (Nat.div_le_self _ _) (by omega)) (by omega) (by omega); rw [show decide (T / Nat.gcd T V * den ≤ num * (V / Nat.gcd T V)) = decide (T * den ≤ num * V) from decide_eq_decide.2 (low_most (by omega))] at h; exact h)) ?_
    refine wl_nil ?_
    refine nx_wa0 (listed' := #[true, true, true, true, true, true, true]) rfl (fun _ hm => ⟨hm.blkI 0 rfl, hm.fact 0 rfl, trivial⟩) ?_
    refine wa_done (by kernel_rfl) ?_
    refine nx_then ?_
    refine gw_cond rfl (fun hh => ?_) (fun hh => ?_)
    · have hr : T * den ≤ num * V := by simpa using hh
      clear hh
      refine gw_region ?_
      refine wl_ov (ov_move rfl) rfl ?_
      refine wl_ov (ov_assign rfl) rfl ?_
      refine wl_nil ?_
      refine nx_blk_nrm ?_
      refine nx_then ?_
      refine gw_region ?_
      refine wl_ov (ov_add rfl rfl (by omega) (by omega)) rfl ?_
      refine wl_ov (ov_move rfl) rfl ?_
      refine wl_nil ?_
      rw [decide_eq_true hr, if_pos rfl] at hms
      exact nx_round (k + 1) (by omega) (by omega) ⟨rfl, rfl, rfl, rfl, (some_int (by rw [hms])), rfl, (some_int (by omega)), trivial⟩ (fun _ hm => hm.pick [0] [] [0] rfl rfl)
    · have hr : ¬ (T * den ≤ num * V) := by simpa using hh
      clear hh
      refine gw_skip ?_
      refine nx_blk_nrm ?_
      refine nx_then ?_
      refine gw_region ?_
      refine wl_ov (ov_add rfl rfl (by omega) (by omega)) rfl ?_
      refine wl_ov (ov_move rfl) rfl ?_
      refine wl_nil ?_
      rw [decide_eq_false hr, if_neg (by decide)] at hms
      exact nx_round (k + 1) (by omega) (by omega) ⟨rfl, rfl, rfl, rfl, (some_int (by rw [hms])), rfl, (some_int (by omega)), trivial⟩ (fun _ hm => hm.pick [0] [] [0] rfl rfl)
  · have hk : ¬ (((k : Nat) : Int) < ((n + 1 : Nat) : Int)) := by simpa using hh
    clear hh
    refine gw_exit ?_
    refine nx_then_exit ?_
    refine nx_then_exit ?_
    refine nx_blk_here ?_
    refine nx_then ?_
    refine gw_seq ?_
    refine gw_region ?_
    refine wl_ov (ov_move rfl) rfl ?_
    refine wl_ov (ov_assign rfl) rfl ?_
    refine wl_nil ?_
    refine nx_then ?_
    refine gw_ret ?_
    refine nx_ret1 rfl rfl fun wx hm => ?_
    exact ⟨by rw [show k = n + 1 by omega], hm.g⟩

set_option maxRecDepth 100000 in
set_option maxHeartbeats 1000000 in
theorem most_right (l : List Bk) (A : Option Addr) (n c : Nat) (u num den : Nat) (w : World) (hl : SlT bkEnc 6 33 w A n l) (hpc : PcOk l) (hn : n ≤ 9) (hnc : n ≤ c) (hd0 : 1 ≤ den) (hd1 : den ≤ 1000000) (hn1 : num ≤ den) (hok : ∀ b ∈ l, BkOk b) (hf : formE l = 0) (hu : u ≤ 500) :
    Calls Tryd.prog 12 #[.slice A n c, .int .i64 ((u : Nat) : Int), .agg #[.int .i64 ((num : Nat) : Int), .int .i64 ((den : Nat) : Int)]] w (fun e w' => e = .returned (.tuple #[.int .i64 ((mostF (riskB (pcs l) u num den) (n + 1) : Nat) : Int), .int .i64 0]) ∧ w.grownBy w' none) := by
  refine gw_enter ⟨89, w, none, []⟩ Tryd.func12 rfl Tryd.ntmps12 rfl (mem0 (X := [SlOld bkEnc 6 33 w.heap.size none A n l]) (allF_cons hl.old allF_nil) (allL_cons SlOld.lasts allL_nil)) ?_
  refine gw_seq ?_
  refine gw_region ?_
  have hlen := hl.len
  refine wl_box rfl rfl rfl fun g1 => ?_
  refine wl_ov (ov_assign rfl) rfl ?_
  refine wl_ov (ov_assign rfl) rfl ?_
  refine wl_nil ?_
  refine nx_then ?_
  refine gw_seq ?_
  refine gw_seq ?_
  refine gw_draw (fun wz => Blk wz g1 35 [.int .i64 ((num : Nat) : Int), .int .i64 ((den : Nat) : Int)] ∧ (SlOld bkEnc 6 33 w.heap.size none A n l) wz ∧ True) mixed ?_
  refine wa_take 0 rfl (by kernel_rfl) (by kernel_rfl) (by kernel_rfl) (listed' := #[true, false, false, false, false, false, false, false, false, false, false, false, false, false, false, false, false, false, false, false, false, false]) rfl (fun _ _ _ h => h) (fun _ hm => ⟨hm.blkI 0 rfl, hm.fact 0 rfl, trivial⟩) (ov_move rfl) rfl ?_
  refine wa_take 2 rfl (by kernel_rfl) (by kernel_rfl) (by kernel_rfl) (listed' := #[true, false, true, false, false, false, false, false, false, false, false, false, false, false, false, false, false, false, false, false, false, false]) rfl (fun _ _ _ h => h) (fun _ hm => ⟨hm.blkI 0 rfl, hm.fact 0 rfl, trivial⟩) (ov_move rfl) rfl ?_
  refine wa_take 6 rfl (by kernel_rfl) (by kernel_rfl) (by kernel_rfl) (listed' := #[true, false, true, false, false, false, true, false, false, false, false, false, false, false, false, false, false, false, false, false, false, false]) rfl (fun _ _ _ h => h) (fun _ hm => ⟨hm.blkI 0 rfl, hm.fact 0 rfl, trivial⟩) (ov_field fo35_1 rfl rfl) rfl ?_
  refine wa_take 7 rfl (by kernel_rfl) (by kernel_rfl) (by kernel_rfl) (listed' := #[true, false, true, false, false, false, true, true, false, false, false, false, false, false, false, false, false, false, false, false, false, false]) rfl (fun _ _ _ h => h) (fun _ hm => ⟨hm.blkI 0 rfl, hm.fact 0 rfl, trivial⟩) (ov_load sc3 rfl (fun _ hm => hm.1) rfl) rfl ?_
  refine wa_all [1] (by kernel_rfl) rfl ⟨⟨_, rfl, ?_⟩, trivial⟩
  refine wl_callv (v := .int .i64 0) rfl cb49 rfl rfl (fun wx hm => (by have h := checkOdds_any l A n c wx (hm.fact 0 rfl).1 hok (by omega); rw [odds_ok hf (by omega)] at h; exact h)) ?_
  refine wl_nil ?_
  refine nx_wa0 (listed' := #[true, true, true, false, false, false, true, true, false, false, false, false, false, false, false, false, false, false, false, false, false, false]) rfl (fun _ hm => ⟨hm.blkI 0 rfl, hm.fact 0 rfl, trivial⟩) ?_
  refine wa_all [3] (by kernel_rfl) rfl ⟨⟨_, rfl, ?_⟩, trivial⟩
  refine wl_callw rfl cb54 rfl rfl (fun wx hm => (in_any _ _ _ wx)) ?_
  refine wl_nil ?_
  refine nx_wa0 (listed' := #[true, true, true, true, false, false, true, true, false, false, false, false, false, false, false, false, false, false, false, false, false, false]) rfl (fun _ hm => ⟨hm.blkI 0 rfl, hm.fact 0 rfl, trivial⟩) ?_
  refine wa_take 4 rfl (by kernel_rfl) (by kernel_rfl) (by kernel_rfl) (listed' := #[true, true, true, true, true, false, true, true, false, false, false, false, false, false, false, false, false, false, false, false, false, false]) rfl (fun _ _ _ h => h) (fun _ hm => ⟨hm.blkI 0 rfl, hm.fact 0 rfl, trivial⟩) (ov_un_not rfl) rfl ?_
  refine wa_set 21 (v' := .bool false) rfl (congrArg Value.bool (by rw [inB_iff.2 ⟨by omega, by omega⟩]; rfl)) ?_
  refine wa_all [5] (by kernel_rfl) rfl ⟨⟨_, rfl, ?_⟩, trivial⟩
  refine wl_callw rfl cb53 rfl rfl (fun wx hm => (when_any _ _ wx)) ?_
  refine wl_nil ?_
  refine nx_wa0 (listed' := #[true, true, true, true, true, true, true, true, false, false, false, false, false, false, false, false, false, false, false, false, false, false]) rfl (fun _ hm => ⟨hm.blkI 0 rfl, hm.fact 0 rfl, trivial⟩) ?_
  refine wa_all [8] (by kernel_rfl) rfl ⟨⟨_, rfl, ?_⟩, trivial⟩
  refine wl_callw rfl cb54 rfl rfl (fun wx hm => (in_any _ _ _ wx)) ?_
  refine wl_nil ?_
  refine nx_wa0 (listed' := #[true, true, true, true, true, true, true, true, true, false, false, false, false, false, false, false, false, false, false, false, false, false]) rfl (fun _ hm => ⟨hm.blkI 0 rfl, hm.fact 0 rfl, trivial⟩) ?_
  refine wa_take 9 rfl (by kernel_rfl) (by kernel_rfl) (by kernel_rfl) (listed' := #[true, true, true, true, true, true, true, true, true, true, false, false, false, false, false, false, false, false, false, false, false, false]) rfl (fun _ _ _ h => h) (fun _ hm => ⟨hm.blkI 0 rfl, hm.fact 0 rfl, trivial⟩) (ov_un_not rfl) rfl ?_
  refine wa_set 26 (v' := .bool false) rfl (congrArg Value.bool (by rw [inB_iff.2 ⟨by omega, by omega⟩]; rfl)) ?_
  refine wa_take 10 rfl (by kernel_rfl) (by kernel_rfl) (by kernel_rfl) (listed' := #[true, true, true, true, true, true, true, true, true, true, true, false, false, false, false, false, false, false, false, false, false, false]) rfl (fun _ _ _ h => h) (fun _ hm => ⟨hm.blkI 0 rfl, hm.fact 0 rfl, trivial⟩) (ov_move rfl) rfl ?_
  refine wa_take_on 11 rfl rfl rfl (by kernel_rfl) (by kernel_rfl) (by kernel_rfl) (listed' := #[true, true, true, true, true, true, true, true, true, true, true, true, false, false, false, false, false, false, false, false, false, false]) rfl (fun _ _ _ h => h) (fun _ hm => ⟨hm.blkI 0 rfl, hm.fact 0 rfl, trivial⟩) (ov_field fo35_0 rfl rfl) rfl ?_
  refine wa_take_on 12 rfl rfl rfl (by kernel_rfl) (by kernel_rfl) (by kernel_rfl) (listed' := #[true, true, true, true, true, true, true, true, true, true, true, true, true, false, false, false, false, false, false, false, false, false]) rfl (fun _ _ _ h => h) (fun _ hm => ⟨hm.blkI 0 rfl, hm.fact 0 rfl, trivial⟩) (ov_load sc3 rfl (fun _ hm => hm.1) rfl) rfl ?_
  refine wa_take_on 13 rfl rfl rfl (by kernel_rfl) (by kernel_rfl) (by kernel_rfl) (listed' := #[true, true, true, true, true, true, true, true, true, true, true, true, true, true, false, false, false, false, false, false, false, false]) rfl (fun _ _ _ h => h) (fun _ hm => ⟨hm.blkI 0 rfl, hm.fact 0 rfl, trivial⟩) (ov_field fo35_1 rfl rfl) rfl ?_
  refine wa_take_on 14 rfl rfl rfl (by kernel_rfl) (by kernel_rfl) (by kernel_rfl) (listed' := #[true, true, true, true, true, true, true, true, true, true, true, true, true, true, true, false, false, false, false, false, false, false]) rfl (fun _ _ _ h => h) (fun _ hm => ⟨hm.blkI 0 rfl, hm.fact 0 rfl, trivial⟩) (ov_load sc3 rfl (fun _ hm => hm.1) rfl) rfl ?_
  refine wa_all [15] (by kernel_rfl) rfl ⟨⟨_, rfl, ?_⟩, trivial⟩
  refine wl_guard_on rfl rfl rfl ?_
  refine wl_callw rfl cb54 rfl rfl (fun wx hm => (in_any _ _ _ wx)) ?_
  refine wl_nil ?_
  refine nx_wa0 (listed' := #[true, true, true, true, true, true, true, true, true, true, true, true, true, true, true, true, false, false, false, false, false, false]) rfl (fun _ hm => ⟨hm.blkI 0 rfl, hm.fact 0 rfl, trivial⟩) ?_
  refine wa_take_on 16 rfl rfl rfl (by kernel_rfl) (by kernel_rfl) (by kernel_rfl) (listed' := #[true, true, true, true, true, true, true, true, true, true, true, true, true, true, true, true, true, false, false, false, false, false]) rfl (fun _ _ _ h => h) (fun _ hm => ⟨hm.blkI 0 rfl, hm.fact 0 rfl, trivial⟩) (ov_un_not rfl) rfl ?_
  refine wa_set 33 (v' := .bool false) rfl (congrArg Value.bool (by rw [inB_iff.2 ⟨by omega, by omega⟩]; rfl)) ?_
  refine wa_take 17 rfl (by kernel_rfl) (by kernel_rfl) (by kernel_rfl) (listed' := #[true, true, true, true, true, true, true, true, true, true, true, true, true, true, true, true, true, true, false, false, false, false]) rfl (fun _ _ _ h => h) (fun _ hm => ⟨hm.blkI 0 rfl, hm.fact 0 rfl, trivial⟩) (ov_pick_f rfl rfl) rfl ?_
  refine wa_all [18] (by kernel_rfl) rfl ⟨⟨_, rfl, ?_⟩, trivial⟩
  refine wl_callw rfl cb53 rfl rfl (fun wx hm => (when_any _ _ wx)) ?_
  refine wl_nil ?_
  refine nx_wa0 (listed' := #[true, true, true, true, true, true, true, true, true, true, true, true, true, true, true, true, true, true, true, false, false, false]) rfl (fun _ hm => ⟨hm.blkI 0 rfl, hm.fact 0 rfl, trivial⟩) ?_
  refine wa_all [19] (by kernel_rfl) rfl ⟨⟨_, rfl, ?_⟩, trivial⟩
  refine wl_buildSlice (e := 38) (cs := [.int .i64 0, .int .i64 (whenE false 1), .int .i64 (whenE false 1)]) rfl (by kernel_rfl) rfl fun g2 => ?_
  refine wl_nil ?_
  refine nx_wa0 (listed' := #[true, true, true, true, true, true, true, true, true, true, true, true, true, true, true, true, true, true, true, true, false, false]) rfl (fun _ hm => ⟨hm.blkI 1 rfl, hm.fact 0 rfl, trivial⟩) ?_
  refine wa_all [20] (by kernel_rfl) rfl ⟨⟨_, rfl, ?_⟩, trivial⟩
  refine wl_callw rfl cb52 rfl rfl (fun wx hm => (first_any [0, whenE false 1, whenE false 1] _ _ _ wx (hm.blkI 0 rfl) (by simp))) ?_
  refine wl_nil ?_
  refine nx_wa0 (listed' := #[true, true, true, true, true, true, true, true, true, true, true, true, true, true, true, true, true, true, true, true, true, false]) rfl (fun _ hm => ⟨hm.blkI 1 rfl, hm.fact 0 rfl, trivial⟩) ?_
  refine wa_take 21 rfl (by kernel_rfl) (by kernel_rfl) (by kernel_rfl) (listed' := #[true, true, true, true, true, true, true, true, true, true, true, true, true, true, true, true, true, true, true, true, true, true]) rfl (fun _ _ _ h => h) (fun _ hm => ⟨hm.blkI 1 rfl, hm.fact 0 rfl, trivial⟩) (ov_assign rfl) rfl ?_
  refine wa_done (by kernel_rfl) ?_
  refine nx_then ?_
  refine gw_seq ?_
  refine gw_region ?_
  refine wl_ov (ov_move rfl) rfl ?_
  refine wl_ov (ov_neq rfl rfl) rfl ?_
  refine wl_set 39 (v' := .bool false) rfl (congrArg Value.bool (by decide)) ?_
  refine wl_nil ?_
  refine nx_then ?_
  refine gw_cond rfl (fun hh => by cases hh) (fun _ => ?_)
  refine gw_skip ?_
  refine nx_then ?_
  refine gw_seq ?_
  refine gw_region ?_
  refine wl_ov (ov_assign rfl) rfl ?_
  refine wl_nil ?_
  refine nx_then ?_
  refine gw_seq ?_
  refine gw_seq ?_
  refine gw_region ?_
  refine wl_ov (ov_move rfl) rfl ?_
  refine wl_ov (ov_len es26 rfl) rfl ?_
  refine wl_ov (ov_add rfl rfl (by omega) (by omega)) rfl ?_
  refine wl_set 43 (v' := .int .i64 ((n + 1 : Nat) : Int)) rfl (congrArg (Value.int .i64) (by omega)) ?_
  refine wl_ov (ov_move rfl) rfl ?_
  refine wl_nil ?_
  refine nx_then ?_
  refine gw_block ?_
  refine gw_loop (γ := Nat) (fun (k : Nat) => k ≤ n + 1) (fun (k : Nat) => [(0, .slice A n c), (1, .int .i64 ((u : Nat) : Int)), (5, .pointer (some ⟨g1, 0, none⟩)), (6, .int .i64 0), (7, .int .i64 0), (9, .int .i64 ((mostF (riskB (pcs l) u num den) k : Nat) : Int)), (43, .int .i64 ((n + 1 : Nat) : Int)), (44, .int .i64 ((k : Nat) : Int))]) (fun (k : Nat) => fun _ => True) (fun (k : Nat) => [(g2, 38, [.int .i64 0, .int .i64 (whenE false 1), .int .i64 (whenE false 1)]), (g1, 35, [.int .i64 ((num : Nat) : Int), .int .i64 ((den : Nat) : Int)])]) (fun (k : Nat) => []) (fun (k : Nat) => [SlOld bkEnc 6 33 w.heap.size none A n l]) (fun (k : Nat) => n + 1 - k) 0 (Nat.zero_le _) ⟨rfl, rfl, rfl, rfl, rfl, (some_int rfl), rfl, rfl, trivial⟩ (fun _ hm => hm.pick [0, 1] [] [0] rfl rfl) ?_
  intro k hinv
  replace hinv : k ≤ n + 1 := hinv
  refine gw_seq ?_
  refine gw_region ?_
  refine wl_ov (ov_lss rfl rfl) rfl ?_
  refine wl_nil ?_
  refine nx_then ?_
  refine gw_seq ?_
  refine gw_cond rfl (fun hh => ?_) (fun hh => ?_)
  · have hk : ((k : Nat) : Int) < ((n + 1 : Nat) : Int) := by simpa using hh
    clear hh
    refine gw_skip ?_
    refine nx_then ?_
    refine gw_seq ?_
    refine gw_block ?_
    refine gw_seq ?_
    refine gw_region ?_
    have hkn : k ≤ n := by omega
    obtain ⟨hk1, hk2, _⟩ := pow_le k (by omega)
    have hlk : (l.take k).length = k := by rw [List.length_take]; omega
    have hpk : PcOk (l.take k) := fun b hb => hpc b (List.mem_of_mem_take hb)
    have hsk := spreadP_sum (pcs_le hpc) k (by rw [pcs_len]; omega)
    obtain ⟨T, hT⟩ : ∃ T, T = tl (u + 1) (spreadP ((pcs l).take k)) := ⟨_, rfl⟩
    have htk := tl_le (u + 1) (spreadP ((pcs l).take k))
    rw [← hT] at htk
    obtain ⟨V, hV⟩ : ∃ V, V = 100 ^ k := ⟨_, rfl⟩
    rw [← hV] at hk1 hk2 hsk
    have hrb : riskB (pcs l) u num den k = decide (T * den ≤ num * V) := by unfold riskB; rw [← hT, ← hV]
    have hms := mostF_succ (riskB (pcs l) u num den) k
    rw [hrb] at hms
    refine wl_ov (ov_move rfl) rfl ?_
    refine wl_ov (ov_assign rfl) rfl ?_
    refine wl_nil ?_
    refine nx_then ?_
    refine gw_seq ?_
    refine gw_region ?_
    refine wl_ov (ov_move rfl) rfl ?_
    refine wl_ov (ov_move rfl) rfl ?_
    refine wl_ov (ov_sliceHiA (hi := k) es26 rfl rfl rfl (by omega)) rfl ?_
    refine wl_ov (ov_move rfl) rfl ?_
    refine wl_callv (v := .tuple #[.int .i64 ((T : Nat) : Int), .int .i64 ((V : Nat) : Int)]) rfl cb55 rfl rfl (fun wx hm => (by have h := over_any (l.take k) _ k c u wx (SlT.takeA (c := c) (hm.fact 0 rfl).1 (by omega)) hpk (by omega); rw [pcs_takeO, ← hT, ← hV] at h; exact h)) ?_
    refine wl_ov (ov_move rfl) rfl ?_
    refine wl_ov (ov_extract rfl rfl) rfl ?_
    refine wl_ov (ov_extract rfl rfl) rfl ?_
    refine wl_ov (ov_assign rfl) rfl ?_
    refine wl_ov (ov_assign rfl) rfl ?_
    refine wl_nil ?_
    refine nx_then ?_
    refine gw_seq ?_
    refine gw_region ?_
    refine wl_ov (ov_move rfl) rfl ?_
    refine wl_ov (ov_u64 (a := T) (by kernel_rfl) (by kernel_rfl) rfl (by omega)) rfl ?_
    refine wl_ov (ov_field fo35_1 rfl rfl) rfl ?_
    refine wl_ov (ov_load sc3 rfl (fun _ hm => hm.blkI 1 rfl) rfl) rfl ?_
    refine wl_ov (ov_u64 (a := den) (by kernel_rfl) (by kernel_rfl) rfl (by omega)) rfl ?_
    refine wl_callv rfl cb56 rfl rfl (fun wx hm => (mul64_any T den (by omega) (by omega) wx)) ?_
    refine wl_ov (ov_move rfl) rfl ?_
    refine wl_ov (ov_extract rfl rfl) rfl ?_
    refine wl_ov (ov_extract rfl rfl) rfl ?_
    refine wl_ov (ov_assign rfl) rfl ?_
    refine wl_ov (ov_assign rfl) rfl ?_
    refine wl_nil ?_
    refine nx_then ?_
    refine gw_seq ?_
    refine gw_region ?_
    refine wl_ov (ov_move rfl) rfl ?_
    refine wl_ov (ov_u64 (a := V) (by kernel_rfl) (by kernel_rfl) rfl (by omega)) rfl ?_
    refine wl_ov (ov_field fo35_0 rfl rfl) rfl ?_
    refine wl_ov (ov_load sc3 rfl (fun _ hm => hm.blkI 1 rfl) rfl) rfl ?_
    refine wl_ov (ov_u64 (a := num) (by kernel_rfl) (by kernel_rfl) rfl (by omega)) rfl ?_
    refine wl_callv rfl cb56 rfl rfl (fun wx hm => (mul64_any V num (by omega) (by omega) wx)) ?_
    refine wl_ov (ov_move rfl) rfl ?_
    refine wl_ov (ov_extract rfl rfl) rfl ?_
    refine wl_ov (ov_extract rfl rfl) rfl ?_
    refine wl_ov (ov_assign rfl) rfl ?_
    refine wl_ov (ov_assign rfl) rfl ?_
    refine wl_nil ?_
    refine nx_then ?_
    refine gw_seq ?_
    refine gw_region ?_
    refine wl_ov (ov_move rfl) rfl ?_
    refine wl_ov (ov_move rfl) rfl ?_
    refine wl_ov (ov_lss rfl rfl) rfl ?_
    refine wl_ov (ov_move rfl) rfl ?_
    rcases Bool.eq_false_or_eq_true (decide (((T * den / 18446744073709551616 : Nat) : Int) < ((V * num / 18446744073709551616 : Nat) : Int))) with hg1 | hg1
    · refine wl_set 76 rfl (congrArg Value.bool hg1) ?_
      have hz : T * den ≤ num * V := by
        have hh := of_decide_eq_true hg1
        rw [Nat.mul_comm num V]
        generalize T * den = X at *
        generalize V * num = Y at *
        omega
      rw [decide_eq_true hz, if_pos rfl] at hms
      refine wl_guard_off rfl rfl rfl (by decide) rfl ?_
      refine wl_guard_off rfl rfl rfl (by decide) rfl ?_
      refine wl_guard_off rfl rfl rfl (by decide) rfl ?_
      refine wl_guard_off rfl rfl rfl (by decide) rfl ?_
      refine wl_guard_undef rfl rfl rfl rfl ?_
      refine wl_guard_undef rfl rfl rfl rfl ?_
      refine wl_guard_undef rfl rfl rfl rfl ?_
      refine wl_guard_off rfl rfl rfl (by decide) rfl ?_
      refine wl_ov (ov_pick_t rfl rfl) rfl ?_
      refine wl_nil ?_
      refine nx_then ?_
      refine gw_cond rfl (fun _ => ?_) (fun hh => by cases hh)
      refine gw_region ?_
      refine wl_ov (ov_move rfl) rfl ?_
      refine wl_ov (ov_assign rfl) rfl ?_
      refine wl_nil ?_
      refine nx_blk_nrm ?_
      refine nx_then ?_
      refine gw_region ?_
      refine wl_ov (ov_add rfl rfl (by omega) (by omega)) rfl ?_
      refine wl_ov (ov_move rfl) rfl ?_
      refine wl_nil ?_
      exact nx_round (k + 1) (by omega) (by omega) ⟨rfl, rfl, rfl, rfl, rfl, (some_int (by rw [hms])), rfl, (some_int (by omega)), trivial⟩ (fun _ hm => hm.pick [0, 1] [] [0] rfl rfl)
    · refine wl_set 76 rfl (congrArg Value.bool hg1) ?_
      refine wl_guard_on rfl rfl rfl ?_
      refine wl_ov (ov_move rfl) rfl ?_
      refine wl_guard_on rfl rfl rfl ?_
      refine wl_ov (ov_move rfl) rfl ?_
      refine wl_guard_on rfl rfl rfl ?_
      refine wl_ov (ov_eql rfl rfl) rfl ?_
      refine wl_guard_on rfl rfl rfl ?_
      refine wl_ov (ov_move rfl) rfl ?_
      rcases Bool.eq_false_or_eq_true (decide (((T * den / 18446744073709551616 : Nat) : Int) = ((V * num / 18446744073709551616 : Nat) : Int))) with hg2 | hg2
      · refine wl_set 80 rfl (congrArg Value.bool hg2) ?_
        refine wl_guard_on rfl rfl rfl ?_
        refine wl_ov (ov_move rfl) rfl ?_
        refine wl_guard_on rfl rfl rfl ?_
        refine wl_ov (ov_move rfl) rfl ?_
        refine wl_guard_on rfl rfl rfl ?_
        refine wl_ov (ov_leq rfl rfl) rfl ?_
        refine wl_guard_on rfl rfl rfl ?_
        refine wl_ov (ov_pick_t rfl rfl) rfl ?_
        refine wl_ov (ov_pick_f rfl rfl) rfl ?_
        refine wl_nil ?_
        refine nx_then ?_
        refine gw_cond rfl (fun hh => ?_) (fun hh => ?_)
        · have hg3 : ((T * den % 18446744073709551616 : Nat) : Int) ≤ ((V * num % 18446744073709551616 : Nat) : Int) := by simpa using hh
          clear hh
          refine gw_region ?_
          have hz : T * den ≤ num * V := by
            have hh := of_decide_eq_false hg1
            have hh2 := of_decide_eq_true hg2
            rw [Nat.mul_comm num V]
            generalize T * den = X at *
            generalize V * num = Y at *
            omega
          rw [decide_eq_true hz, if_pos rfl] at hms
          refine wl_ov (ov_move rfl) rfl ?_
          refine wl_ov (ov_assign rfl) rfl ?_
          refine wl_nil ?_
          refine nx_blk_nrm ?_
          refine nx_then ?_
          refine gw_region ?_
          refine wl_ov (ov_add rfl rfl (by omega) (by omega)) rfl ?_
          refine wl_ov (ov_move rfl) rfl ?_
          refine wl_nil ?_
          exact nx_round (k + 1) (by omega) (by omega) ⟨rfl, rfl, rfl, rfl, rfl, (some_int (by rw [hms])), rfl, (some_int (by omega)), trivial⟩ (fun _ hm => hm.pick [0, 1] [] [0] rfl rfl)
        · have hg3 : ¬ (((T * den % 18446744073709551616 : Nat) : Int) ≤ ((V * num % 18446744073709551616 : Nat) : Int)) := by simpa using hh
          clear hh
          refine gw_skip ?_
          refine nx_blk_nrm ?_
          refine nx_then ?_
          refine gw_region ?_
          have hz : ¬ T * den ≤ num * V := by
            have hh := of_decide_eq_false hg1
            have hh2 := of_decide_eq_true hg2
            rw [Nat.mul_comm num V]
            generalize T * den = X at *
            generalize V * num = Y at *
            omega
          rw [decide_eq_false hz, if_neg (by decide)] at hms
          refine wl_ov (ov_add rfl rfl (by omega) (by omega)) rfl ?_
          refine wl_ov (ov_move rfl) rfl ?_
          refine wl_nil ?_
          exact nx_round (k + 1) (by omega) (by omega) ⟨rfl, rfl, rfl, rfl, rfl, (some_int (by rw [hms])), rfl, (some_int (by omega)), trivial⟩ (fun _ hm => hm.pick [0, 1] [] [0] rfl rfl)
      · refine wl_set 80 rfl (congrArg Value.bool hg2) ?_
        have hz : ¬ T * den ≤ num * V := by
          have hh := of_decide_eq_false hg1
          have hh2 := of_decide_eq_false hg2
          rw [Nat.mul_comm num V]
          generalize T * den = X at *
          generalize V * num = Y at *
          omega
        rw [decide_eq_false hz, if_neg (by decide)] at hms
        refine wl_guard_off rfl rfl rfl (by decide) rfl ?_
        refine wl_guard_off rfl rfl rfl (by decide) rfl ?_
        refine wl_guard_off rfl rfl rfl (by decide) rfl ?_
        refine wl_guard_on rfl rfl rfl ?_
        refine wl_ov (ov_pick_f rfl rfl) rfl ?_
        refine wl_ov (ov_pick_f rfl rfl) rfl ?_
        refine wl_nil ?_
        refine nx_then ?_
        refine gw_cond rfl (fun hh => by cases hh) (fun _ => ?_)
        refine gw_skip ?_
        refine nx_blk_nrm ?_
        refine nx_then ?_
        refine gw_region ?_
        refine wl_ov (ov_add rfl rfl (by omega) (by omega)) rfl ?_
        refine wl_ov (ov_move rfl) rfl ?_
        refine wl_nil ?_
        exact nx_round (k + 1) (by omega) (by omega) ⟨rfl, rfl, rfl, rfl, rfl, (some_int (by rw [hms])), rfl, (some_int (by omega)), trivial⟩ (fun _ hm => hm.pick [0, 1] [] [0] rfl rfl)
  · have hk : ¬ (((k : Nat) : Int) < ((n + 1 : Nat) : Int)) := by simpa using hh
    clear hh
    refine gw_exit ?_
    refine nx_then_exit ?_
    refine nx_then_exit ?_
    refine nx_blk_here ?_
    refine nx_then ?_
    refine gw_seq ?_
    refine gw_region ?_
    refine wl_ov (ov_move rfl) rfl ?_
    refine wl_ov (ov_assign rfl) rfl ?_
    refine wl_ov (ov_assign rfl) rfl ?_
    refine wl_nil ?_
    refine nx_then ?_
    refine gw_ret ?_
    refine nx_ret2 rfl rfl rfl fun wx hm => ?_
    exact ⟨by rw [show k = n + 1 by omega], hm.g⟩

set_option maxRecDepth 100000 in
set_option maxHeartbeats 400000 in
theorem spread_bad (l : List Bk) (A : Option Addr) (n c : Nat) (w : World) (hl : SlT bkEnc 6 33 w A n l) (hok : ∀ b ∈ l, BkOk b) (hn : n ≤ 1000000) (hbad : oddsE l ≠ 0) :
    Calls Tryd.prog 10 #[.slice A n c] w (fun e w' => e = .returned (.tuple #[.slice none 0 0, .int .i64 (oddsE l)]) ∧ w.grownBy w' none) := by
  refine gw_enter ⟨34, w, none, []⟩ Tryd.func10 rfl Tryd.ntmps10 rfl (mem0 (X := [SlOld bkEnc 6 33 w.heap.size none A n l]) (allF_cons hl.old allF_nil) (allL_cons SlOld.lasts allL_nil)) ?_
  refine gw_seq ?_
  refine gw_region ?_
  have hlen := hl.len
  obtain ⟨OE, hOE⟩ : ∃ E, E = oddsE l := ⟨_, rfl⟩
  rw [← hOE] at hbad ⊢
  refine wl_ov (ov_assign rfl) rfl ?_
  refine wl_ov (ov_assign rfl) rfl ?_
  refine wl_nil ?_
  refine nx_then ?_
  refine gw_seq ?_
  refine gw_seq ?_
  refine gw_region ?_
  refine wl_ov (ov_move rfl) rfl ?_
  refine wl_callv (v := .int .i64 OE) rfl cb49 rfl rfl (fun wx hm => (by rw [hOE]; exact checkOdds_any l A n c wx (hm.fact 0 rfl).1 hok hn)) ?_
  refine wl_ov (ov_assign rfl) rfl ?_
  refine wl_nil ?_
  refine nx_then ?_
  refine gw_seq ?_
  refine gw_region ?_
  refine wl_ov (ov_move rfl) rfl ?_
  refine wl_ov (ov_neq rfl rfl) rfl ?_
  refine wl_nil ?_
  refine nx_then ?_
  refine gw_cond rfl (fun hh => ?_) (fun hh => ?_)
  · have hE : ¬ (OE = 0) := by simpa using hh
    clear hh
    refine gw_seq ?_
    refine gw_region ?_
    refine wl_ov (ov_move rfl) rfl ?_
    refine wl_ov (ov_assign rfl) rfl ?_
    refine wl_ov (ov_assign rfl) rfl ?_
    refine wl_nil ?_
    refine nx_then ?_
    refine gw_ret ?_
    refine nx_then_ret ?_
    refine nx_ret2 rfl rfl rfl fun wx hm => ?_
    exact ⟨by rfl, hm.g⟩
  · have hE : OE = 0 := by simpa using hh
    clear hh
    refine gw_skip ?_
    refine nx_then ?_
    refine gw_seq ?_
    refine gw_region ?_
    exact absurd hE hbad

set_option maxRecDepth 100000 in
set_option maxHeartbeats 400000 in
theorem over_bad (l : List Bk) (A : Option Addr) (n c : Nat) (u : Int) (w : World) (hl : SlT bkEnc 6 33 w A n l) (hok : ∀ b ∈ l, BkOk b) (hn : n ≤ 1000000) (hbad : firstE [oddsE l, whenE (!inB u 0 500) 1] ≠ 0) :
    Calls Tryd.prog 11 #[.slice A n c, .int .i64 u] w (fun e w' => e = .returned (.tuple #[.agg #[.int .i64 0, .int .i64 0], .int .i64 (firstE [oddsE l, whenE (!inB u 0 500) 1])]) ∧ w.grownBy w' none) := by
  refine gw_enter ⟨25, w, none, []⟩ Tryd.func11 rfl Tryd.ntmps11 rfl (mem0 (X := [SlOld bkEnc 6 33 w.heap.size none A n l]) (allF_cons hl.old allF_nil) (allL_cons SlOld.lasts allL_nil)) ?_
  refine gw_seq ?_
  refine gw_region ?_
  have hlen := hl.len
  obtain ⟨OE, hOE⟩ : ∃ E, E = oddsE l := ⟨_, rfl⟩
  rw [← hOE] at hbad ⊢
  refine wl_alloc zc35 rfl fun g1 => ?_
  refine wl_ov (ov_assign rfl) rfl ?_
  refine wl_nil ?_
  refine nx_then ?_
  refine gw_seq ?_
  refine gw_seq ?_
  refine gw_region ?_
  refine wl_ov (ov_move rfl) rfl ?_
  refine wl_callv (v := .int .i64 OE) rfl cb49 rfl rfl (fun wx hm => (by rw [hOE]; exact checkOdds_any l A n c wx (hm.fact 0 rfl).1 hok hn)) ?_
  refine wl_ov (ov_move rfl) rfl ?_
  refine wl_callw rfl cb54 rfl rfl (fun wx hm => (in_any _ _ _ wx)) ?_
  refine wl_ov (ov_un_not rfl) rfl ?_
  refine wl_callw rfl cb53 rfl rfl (fun wx hm => (when_any _ _ wx)) ?_
  refine wl_buildSlice (e := 38) (cs := [.int .i64 OE, .int .i64 (whenE (!(inB u 0 500)) 1)]) rfl (by kernel_rfl) rfl fun g2 => ?_
  refine wl_callw rfl cb52 rfl rfl (fun wx hm => (first_any [OE, whenE (!(inB u 0 500)) 1] _ _ _ wx (hm.blkI 0 rfl) (by simp))) ?_
  refine wl_ov (ov_assign rfl) rfl ?_
  refine wl_nil ?_
  refine nx_then ?_
  refine gw_seq ?_
  refine gw_region ?_
  refine wl_ov (ov_move rfl) rfl ?_
  refine wl_ov (ov_neq rfl rfl) rfl ?_
  refine wl_nil ?_
  refine nx_then ?_
  refine gw_cond rfl (fun hh => ?_) (fun hh => ?_)
  · have hE : ¬ (firstE [OE, whenE (!(inB u 0 500)) 1] = 0) := by simpa using hh
    clear hh
    refine gw_seq ?_
    refine gw_region ?_
    refine wl_ov (ov_build (cs := [.int .i64 0, .int .i64 0]) rfl (by kernel_rfl)) rfl ?_
    refine wl_ov (ov_move rfl) rfl ?_
    refine wl_stores (cs' := [.int .i64 0, .int .i64 0]) 1 rz35 rfl rfl rfl rfl rfl rfl rfl rfl ?_
    refine wl_ov (ov_assign rfl) rfl ?_
    refine wl_nil ?_
    refine nx_then ?_
    refine gw_ret ?_
    refine nx_then_ret ?_
    refine nx_retct 1 rfl rz35 rfl rfl rfl rfl fun wx hm => ?_
    exact ⟨by rfl, hm.g⟩
  · have hE : firstE [OE, whenE (!(inB u 0 500)) 1] = 0 := by simpa using hh
    clear hh
    refine gw_skip ?_
    refine nx_then ?_
    refine gw_seq ?_
    refine gw_region ?_
    exact absurd hE hbad

set_option maxRecDepth 100000 in
set_option maxHeartbeats 400000 in
theorem most_bad (l : List Bk) (A : Option Addr) (n c : Nat) (u rn rd : Int) (w : World) (hl : SlT bkEnc 6 33 w A n l) (hok : ∀ b ∈ l, BkOk b) (hn : n ≤ 1000000) (hbad : firstE [oddsE l, whenE (!inB u 0 500) 1, whenE (!inB rd 1 1000000 || !inB rn 0 rd) 1] ≠ 0) :
    Calls Tryd.prog 12 #[.slice A n c, .int .i64 u, .agg #[.int .i64 rn, .int .i64 rd]] w (fun e w' => e = .returned (.tuple #[.int .i64 0, .int .i64 (firstE [oddsE l, whenE (!inB u 0 500) 1, whenE (!inB rd 1 1000000 || !inB rn 0 rd) 1])]) ∧ w.grownBy w' none) := by
  refine gw_enter ⟨89, w, none, []⟩ Tryd.func12 rfl Tryd.ntmps12 rfl (mem0 (X := [SlOld bkEnc 6 33 w.heap.size none A n l]) (allF_cons hl.old allF_nil) (allL_cons SlOld.lasts allL_nil)) ?_
  refine gw_seq ?_
  refine gw_region ?_
  have hlen := hl.len
  obtain ⟨OE, hOE⟩ : ∃ E, E = oddsE l := ⟨_, rfl⟩
  rw [← hOE] at hbad ⊢
  refine wl_box rfl rfl rfl fun g1 => ?_
  refine wl_ov (ov_assign rfl) rfl ?_
  refine wl_ov (ov_assign rfl) rfl ?_
  refine wl_nil ?_
  refine nx_then ?_
  refine gw_seq ?_
  refine gw_seq ?_
  refine gw_draw (fun wz => Blk wz g1 35 [.int .i64 rn, .int .i64 rd] ∧ (SlOld bkEnc 6 33 w.heap.size none A n l) wz ∧ True) mixed ?_
  refine wa_take 0 rfl (by kernel_rfl) (by kernel_rfl) (by kernel_rfl) (listed' := #[true, false, false, false, false, false, false, false, false, false, false, false, false, false, false, false, false, false, false, false, false, false]) rfl (fun _ _ _ h => h) (fun _ hm => ⟨hm.blkI 0 rfl, hm.fact 0 rfl, trivial⟩) (ov_move rfl) rfl ?_
  refine wa_take 2 rfl (by kernel_rfl) (by kernel_rfl) (by kernel_rfl) (listed' := #[true, false, true, false, false, false, false, false, false, false, false, false, false, false, false, false, false, false, false, false, false, false]) rfl (fun _ _ _ h => h) (fun _ hm => ⟨hm.blkI 0 rfl, hm.fact 0 rfl, trivial⟩) (ov_move rfl) rfl ?_
  refine wa_take 6 rfl (by kernel_rfl) (by kernel_rfl) (by kernel_rfl) (listed' := #[true, false, true, false, false, false, true, false, false, false, false, false, false, false, false, false, false, false, false, false, false, false]) rfl (fun _ _ _ h => h) (fun _ hm => ⟨hm.blkI 0 rfl, hm.fact 0 rfl, trivial⟩) (ov_field fo35_1 rfl rfl) rfl ?_
  refine wa_take 7 rfl (by kernel_rfl) (by kernel_rfl) (by kernel_rfl) (listed' := #[true, false, true, false, false, false, true, true, false, false, false, false, false, false, false, false, false, false, false, false, false, false]) rfl (fun _ _ _ h => h) (fun _ hm => ⟨hm.blkI 0 rfl, hm.fact 0 rfl, trivial⟩) (ov_load sc3 rfl (fun _ hm => hm.1) rfl) rfl ?_
  refine wa_all [1] (by kernel_rfl) rfl ⟨⟨_, rfl, ?_⟩, trivial⟩
  refine wl_callv (v := .int .i64 OE) rfl cb49 rfl rfl (fun wx hm => (by rw [hOE]; exact checkOdds_any l A n c wx (hm.fact 0 rfl).1 hok hn)) ?_
  refine wl_nil ?_
  refine nx_wa0 (listed' := #[true, true, true, false, false, false, true, true, false, false, false, false, false, false, false, false, false, false, false, false, false, false]) rfl (fun _ hm => ⟨hm.blkI 0 rfl, hm.fact 0 rfl, trivial⟩) ?_
  refine wa_all [3] (by kernel_rfl) rfl ⟨⟨_, rfl, ?_⟩, trivial⟩
  refine wl_callw rfl cb54 rfl rfl (fun wx hm => (in_any _ _ _ wx)) ?_
  refine wl_nil ?_
  refine nx_wa0 (listed' := #[true, true, true, true, false, false, true, true, false, false, false, false, false, false, false, false, false, false, false, false, false, false]) rfl (fun _ hm => ⟨hm.blkI 0 rfl, hm.fact 0 rfl, trivial⟩) ?_
  refine wa_take 4 rfl (by kernel_rfl) (by kernel_rfl) (by kernel_rfl) (listed' := #[true, true, true, true, true, false, true, true, false, false, false, false, false, false, false, false, false, false, false, false, false, false]) rfl (fun _ _ _ h => h) (fun _ hm => ⟨hm.blkI 0 rfl, hm.fact 0 rfl, trivial⟩) (ov_un_not rfl) rfl ?_
  refine wa_all [5] (by kernel_rfl) rfl ⟨⟨_, rfl, ?_⟩, trivial⟩
  refine wl_callw rfl cb53 rfl rfl (fun wx hm => (when_any _ _ wx)) ?_
  refine wl_nil ?_
  refine nx_wa0 (listed' := #[true, true, true, true, true, true, true, true, false, false, false, false, false, false, false, false, false, false, false, false, false, false]) rfl (fun _ hm => ⟨hm.blkI 0 rfl, hm.fact 0 rfl, trivial⟩) ?_
  refine wa_all [8] (by kernel_rfl) rfl ⟨⟨_, rfl, ?_⟩, trivial⟩
  refine wl_callw rfl cb54 rfl rfl (fun wx hm => (in_any _ _ _ wx)) ?_
  refine wl_nil ?_
  refine nx_wa0 (listed' := #[true, true, true, true, true, true, true, true, true, false, false, false, false, false, false, false, false, false, false, false, false, false]) rfl (fun _ hm => ⟨hm.blkI 0 rfl, hm.fact 0 rfl, trivial⟩) ?_
  refine wa_take 9 rfl (by kernel_rfl) (by kernel_rfl) (by kernel_rfl) (listed' := #[true, true, true, true, true, true, true, true, true, true, false, false, false, false, false, false, false, false, false, false, false, false]) rfl (fun _ _ _ h => h) (fun _ hm => ⟨hm.blkI 0 rfl, hm.fact 0 rfl, trivial⟩) (ov_un_not rfl) rfl ?_
  refine wa_take 10 rfl (by kernel_rfl) (by kernel_rfl) (by kernel_rfl) (listed' := #[true, true, true, true, true, true, true, true, true, true, true, false, false, false, false, false, false, false, false, false, false, false]) rfl (fun _ _ _ h => h) (fun _ hm => ⟨hm.blkI 0 rfl, hm.fact 0 rfl, trivial⟩) (ov_move rfl) rfl ?_
  rcases Bool.eq_false_or_eq_true (!(inB rd 1 1000000)) with hgu | hgu
  · refine wa_set 27 rfl (congrArg Value.bool hgu) ?_
    rw [hgu] at hbad ⊢
    refine wa_take_off 11 rfl rfl rfl (by decide) (by kernel_rfl) (by kernel_rfl) (by kernel_rfl) (listed' := #[true, true, true, true, true, true, true, true, true, true, true, true, false, false, false, false, false, false, false, false, false, false]) rfl (fun _ _ _ h => h) (fun _ hm => ⟨hm.blkI 0 rfl, hm.fact 0 rfl, trivial⟩) rfl ?_
    refine wa_take_off 12 rfl rfl rfl (by decide) (by kernel_rfl) (by kernel_rfl) (by kernel_rfl) (listed' := #[true, true, true, true, true, true, true, true, true, true, true, true, true, false, false, false, false, false, false, false, false, false]) rfl (fun _ _ _ h => h) (fun _ hm => ⟨hm.blkI 0 rfl, hm.fact 0 rfl, trivial⟩) rfl ?_
    refine wa_take_off 13 rfl rfl rfl (by decide) (by kernel_rfl) (by kernel_rfl) (by kernel_rfl) (listed' := #[true, true, true, true, true, true, true, true, true, true, true, true, true, true, false, false, false, false, false, false, false, false]) rfl (fun _ _ _ h => h) (fun _ hm => ⟨hm.blkI 0 rfl, hm.fact 0 rfl, trivial⟩) rfl ?_
    refine wa_take_off 14 rfl rfl rfl (by decide) (by kernel_rfl) (by kernel_rfl) (by kernel_rfl) (listed' := #[true, true, true, true, true, true, true, true, true, true, true, true, true, true, true, false, false, false, false, false, false, false]) rfl (fun _ _ _ h => h) (fun _ hm => ⟨hm.blkI 0 rfl, hm.fact 0 rfl, trivial⟩) rfl ?_
    refine wa_take_off 15 rfl rfl rfl (by decide) (by kernel_rfl) (by kernel_rfl) (by kernel_rfl) (listed' := #[true, true, true, true, true, true, true, true, true, true, true, true, true, true, true, true, false, false, false, false, false, false]) rfl (fun _ _ _ h => h) (fun _ hm => ⟨hm.blkI 0 rfl, hm.fact 0 rfl, trivial⟩) rfl ?_
    refine wa_take_off 16 rfl rfl rfl (by decide) (by kernel_rfl) (by kernel_rfl) (by kernel_rfl) (listed' := #[true, true, true, true, true, true, true, true, true, true, true, true, true, true, true, true, true, false, false, false, false, false]) rfl (fun _ _ _ h => h) (fun _ hm => ⟨hm.blkI 0 rfl, hm.fact 0 rfl, trivial⟩) rfl ?_
    refine wa_take 17 rfl (by kernel_rfl) (by kernel_rfl) (by kernel_rfl) (listed' := #[true, true, true, true, true, true, true, true, true, true, true, true, true, true, true, true, true, true, false, false, false, false]) rfl (fun _ _ _ h => h) (fun _ hm => ⟨hm.blkI 0 rfl, hm.fact 0 rfl, trivial⟩) (ov_pick_t rfl rfl) rfl ?_
    refine wa_all [18] (by kernel_rfl) rfl ⟨⟨_, rfl, ?_⟩, trivial⟩
    refine wl_callw rfl cb53 rfl rfl (fun wx hm => (when_any _ _ wx)) ?_
    refine wl_nil ?_
    refine nx_wa0 (listed' := #[true, true, true, true, true, true, true, true, true, true, true, true, true, true, true, true, true, true, true, false, false, false]) rfl (fun _ hm => ⟨hm.blkI 0 rfl, hm.fact 0 rfl, trivial⟩) ?_
    refine wa_all [19] (by kernel_rfl) rfl ⟨⟨_, rfl, ?_⟩, trivial⟩
    refine wl_buildSlice (e := 38) (cs := [.int .i64 OE, .int .i64 (whenE (!(inB u 0 500)) 1), .int .i64 (whenE true 1)]) rfl (by kernel_rfl) rfl fun g2 => ?_
    refine wl_nil ?_
    refine nx_wa0 (listed' := #[true, true, true, true, true, true, true, true, true, true, true, true, true, true, true, true, true, true, true, true, false, false]) rfl (fun _ hm => ⟨hm.blkI 1 rfl, hm.fact 0 rfl, trivial⟩) ?_
    refine wa_all [20] (by kernel_rfl) rfl ⟨⟨_, rfl, ?_⟩, trivial⟩
    refine wl_callw rfl cb52 rfl rfl (fun wx hm => (first_any [OE, whenE (!(inB u 0 500)) 1, whenE true 1] _ _ _ wx (hm.blkI 0 rfl) (by simp))) ?_
    refine wl_nil ?_
    refine nx_wa0 (listed' := #[true, true, true, true, true, true, true, true, true, true, true, true, true, true, true, true, true, true, true, true, true, false]) rfl (fun _ hm => ⟨hm.blkI 1 rfl, hm.fact 0 rfl, trivial⟩) ?_
    refine wa_take 21 rfl (by kernel_rfl) (by kernel_rfl) (by kernel_rfl) (listed' := #[true, true, true, true, true, true, true, true, true, true, true, true, true, true, true, true, true, true, true, true, true, true]) rfl (fun _ _ _ h => h) (fun _ hm => ⟨hm.blkI 1 rfl, hm.fact 0 rfl, trivial⟩) (ov_assign rfl) rfl ?_
    refine wa_done (by kernel_rfl) ?_
    refine nx_then ?_
    refine gw_seq ?_
    refine gw_region ?_
    refine wl_ov (ov_move rfl) rfl ?_
    refine wl_ov (ov_neq rfl rfl) rfl ?_
    refine wl_nil ?_
    refine nx_then ?_
    refine gw_cond rfl (fun hh => ?_) (fun hh => ?_)
    · have hE : ¬ (firstE [OE, whenE (!(inB u 0 500)) 1, whenE true 1] = 0) := by simpa using hh
      clear hh
      refine gw_seq ?_
      refine gw_region ?_
      refine wl_ov (ov_move rfl) rfl ?_
      refine wl_ov (ov_assign rfl) rfl ?_
      refine wl_ov (ov_assign rfl) rfl ?_
      refine wl_nil ?_
      refine nx_then ?_
      refine gw_ret ?_
      refine nx_then_ret ?_
      refine nx_ret2 rfl rfl rfl fun wx hm => ?_
      exact ⟨by rfl, hm.g⟩
    · have hE : firstE [OE, whenE (!(inB u 0 500)) 1, whenE true 1] = 0 := by simpa using hh
      clear hh
      refine gw_skip ?_
      refine nx_then ?_
      refine gw_seq ?_
      refine gw_region ?_
      exact absurd hE hbad
  · refine wa_set 27 rfl (congrArg Value.bool hgu) ?_
    rw [hgu] at hbad ⊢
    refine wa_take_on 11 rfl rfl rfl (by kernel_rfl) (by kernel_rfl) (by kernel_rfl) (listed' := #[true, true, true, true, true, true, true, true, true, true, true, true, false, false, false, false, false, false, false, false, false, false]) rfl (fun _ _ _ h => h) (fun _ hm => ⟨hm.blkI 0 rfl, hm.fact 0 rfl, trivial⟩) (ov_field fo35_0 rfl rfl) rfl ?_
    refine wa_take_on 12 rfl rfl rfl (by kernel_rfl) (by kernel_rfl) (by kernel_rfl) (listed' := #[true, true, true, true, true, true, true, true, true, true, true, true, true, false, false, false, false, false, false, false, false, false]) rfl (fun _ _ _ h => h) (fun _ hm => ⟨hm.blkI 0 rfl, hm.fact 0 rfl, trivial⟩) (ov_load sc3 rfl (fun _ hm => hm.1) rfl) rfl ?_
    refine wa_take_on 13 rfl rfl rfl (by kernel_rfl) (by kernel_rfl) (by kernel_rfl) (listed' := #[true, true, true, true, true, true, true, true, true, true, true, true, true, true, false, false, false, false, false, false, false, false]) rfl (fun _ _ _ h => h) (fun _ hm => ⟨hm.blkI 0 rfl, hm.fact 0 rfl, trivial⟩) (ov_field fo35_1 rfl rfl) rfl ?_
    refine wa_take_on 14 rfl rfl rfl (by kernel_rfl) (by kernel_rfl) (by kernel_rfl) (listed' := #[true, true, true, true, true, true, true, true, true, true, true, true, true, true, true, false, false, false, false, false, false, false]) rfl (fun _ _ _ h => h) (fun _ hm => ⟨hm.blkI 0 rfl, hm.fact 0 rfl, trivial⟩) (ov_load sc3 rfl (fun _ hm => hm.1) rfl) rfl ?_
    refine wa_all [15] (by kernel_rfl) rfl ⟨⟨_, rfl, ?_⟩, trivial⟩
    refine wl_guard_on rfl rfl rfl ?_
    refine wl_callw rfl cb54 rfl rfl (fun wx hm => (in_any _ _ _ wx)) ?_
    refine wl_nil ?_
    refine nx_wa0 (listed' := #[true, true, true, true, true, true, true, true, true, true, true, true, true, true, true, true, false, false, false, false, false, false]) rfl (fun _ hm => ⟨hm.blkI 0 rfl, hm.fact 0 rfl, trivial⟩) ?_
    refine wa_take_on 16 rfl rfl rfl (by kernel_rfl) (by kernel_rfl) (by kernel_rfl) (listed' := #[true, true, true, true, true, true, true, true, true, true, true, true, true, true, true, true, true, false, false, false, false, false]) rfl (fun _ _ _ h => h) (fun _ hm => ⟨hm.blkI 0 rfl, hm.fact 0 rfl, trivial⟩) (ov_un_not rfl) rfl ?_
    refine wa_take 17 rfl (by kernel_rfl) (by kernel_rfl) (by kernel_rfl) (listed' := #[true, true, true, true, true, true, true, true, true, true, true, true, true, true, true, true, true, true, false, false, false, false]) rfl (fun _ _ _ h => h) (fun _ hm => ⟨hm.blkI 0 rfl, hm.fact 0 rfl, trivial⟩) (ov_pick_f rfl rfl) rfl ?_
    refine wa_all [18] (by kernel_rfl) rfl ⟨⟨_, rfl, ?_⟩, trivial⟩
    refine wl_callw rfl cb53 rfl rfl (fun wx hm => (when_any _ _ wx)) ?_
    refine wl_nil ?_
    refine nx_wa0 (listed' := #[true, true, true, true, true, true, true, true, true, true, true, true, true, true, true, true, true, true, true, false, false, false]) rfl (fun _ hm => ⟨hm.blkI 0 rfl, hm.fact 0 rfl, trivial⟩) ?_
    refine wa_all [19] (by kernel_rfl) rfl ⟨⟨_, rfl, ?_⟩, trivial⟩
    refine wl_buildSlice (e := 38) (cs := [.int .i64 OE, .int .i64 (whenE (!(inB u 0 500)) 1), .int .i64 (whenE (!(inB rn 0 rd)) 1)]) rfl (by kernel_rfl) rfl fun g3 => ?_
    refine wl_nil ?_
    refine nx_wa0 (listed' := #[true, true, true, true, true, true, true, true, true, true, true, true, true, true, true, true, true, true, true, true, false, false]) rfl (fun _ hm => ⟨hm.blkI 1 rfl, hm.fact 0 rfl, trivial⟩) ?_
    refine wa_all [20] (by kernel_rfl) rfl ⟨⟨_, rfl, ?_⟩, trivial⟩
    refine wl_callw rfl cb52 rfl rfl (fun wx hm => (first_any [OE, whenE (!(inB u 0 500)) 1, whenE (!(inB rn 0 rd)) 1] _ _ _ wx (hm.blkI 0 rfl) (by simp))) ?_
    refine wl_nil ?_
    refine nx_wa0 (listed' := #[true, true, true, true, true, true, true, true, true, true, true, true, true, true, true, true, true, true, true, true, true, false]) rfl (fun _ hm => ⟨hm.blkI 1 rfl, hm.fact 0 rfl, trivial⟩) ?_
    refine wa_take 21 rfl (by kernel_rfl) (by kernel_rfl) (by kernel_rfl) (listed' := #[true, true, true, true, true, true, true, true, true, true, true, true, true, true, true, true, true, true, true, true, true, true]) rfl (fun _ _ _ h => h) (fun _ hm => ⟨hm.blkI 1 rfl, hm.fact 0 rfl, trivial⟩) (ov_assign rfl) rfl ?_
    refine wa_done (by kernel_rfl) ?_
    refine nx_then ?_
    refine gw_seq ?_
    refine gw_region ?_
    refine wl_ov (ov_move rfl) rfl ?_
    refine wl_ov (ov_neq rfl rfl) rfl ?_
    refine wl_nil ?_
    refine nx_then ?_
    refine gw_cond rfl (fun hh => ?_) (fun hh => ?_)
    · have hE : ¬ (firstE [OE, whenE (!(inB u 0 500)) 1, whenE (!(inB rn 0 rd)) 1] = 0) := by simpa using hh
      clear hh
      refine gw_seq ?_
      refine gw_region ?_
      refine wl_ov (ov_move rfl) rfl ?_
      refine wl_ov (ov_assign rfl) rfl ?_
      refine wl_ov (ov_assign rfl) rfl ?_
      refine wl_nil ?_
      refine nx_then ?_
      refine gw_ret ?_
      refine nx_then_ret ?_
      refine nx_ret2 rfl rfl rfl fun wx hm => ?_
      exact ⟨by rfl, hm.g⟩
    · have hE : firstE [OE, whenE (!(inB u 0 500)) 1, whenE (!(inB rn 0 rd)) 1] = 0 := by simpa using hh
      clear hh
      refine gw_skip ?_
      refine nx_then ?_
      refine gw_seq ?_
      refine gw_region ?_
      exact absurd hE hbad

end Go.Proofs.YtcggbojhalbkjaaDoor
