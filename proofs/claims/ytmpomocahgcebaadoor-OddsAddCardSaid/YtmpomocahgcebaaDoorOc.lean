/- The walk of the law OddsAdd. -/
import Derived.Test.YtmpomocahgcebaaDoorOb
import Derived.Test.YtmpomocahgcebaaDoorBg
import Derived.Test.YtmpomocahgcebaaDoorRy
import Derived.Test.YtmpomocahgcebaaDoorSg
import Derived.Test.YtmpomocahgcebaaDoorPv
namespace Go.Proofs.YtmpomocahgcebaaDoor
open Go.RowKit

section
variable {P : Program} {nn : Nat} {S : List (Nat × Value)} {Z : World → Prop} {d : Nat} {ty : TypeId} {pos : String} {aft : Array Edge}
theorem ov_sliceHiA {t e : TypeId} {sz : Nat} {x y : Operand} {A : Option Addr} {n cap hi : Nat} {v : Int} (he : elemSz P t = some (e, sz)) (hx : rd S x = some (.slice A n cap)) (hy : rd S y = some (.int .i64 v)) (hv : v = (hi : Int)) (hhi : hi ≤ cap) : OV P nn S Z ⟨some d, .slice t x none (some y) none, ty, pos, aft, none⟩ (.slice (if cap = 0 then A else A.map (·.add 0)) hi cap) := fun a w ha hm => by
  obtain ⟨hu, hs⟩ := elemSz_parts he
  subst hv
  have h1 : (Instr.slice t (.slice A n cap) none (some (.int .i64 (hi : Int))) none).run P w = .ok (.slice (if cap = 0 then A else A.map (·.add 0)) hi cap) w := by
    rw [run_slice_any w t _ n cap hu]
    have hb := run_sliceBound (P := P) w .i64 (hi : Int) cap .sliceAcap (by omega) (by omega)
    simp [Instr.sliceBounds, hs, sliced, hb]
  simp [execOp, ha.eval hx, ha.eval hy, run_sliceAt_slice w t _ _ _ _ hu, h1]
end
theorem SlT.takeA {α : Type} {enc : α → List Value} {k : Nat} {T : TypeId} {w : World} {A : Option Addr} {n c hi : Nat} {l : List α} (h : SlT enc k T w A n l) (hh : hi ≤ n) : SlT enc k T w (if c = 0 then A else A.map (fun a : Addr => a.add 0)) hi (l.take hi) := by
  by_cases h0 : hi = 0
  · subst h0
    exact ⟨by simp, fun hn => absurd hn (by omega)⟩
  · obtain ⟨b, off, rfl, _, _⟩ := h.get (by omega)
    have e : (if c = 0 then (some ⟨b, off, none⟩ : Option Addr) else Option.map (fun a : Addr => a.add 0) (some ⟨b, off, none⟩)) = some ⟨b, off, none⟩ := by split <;> rfl
    rw [e]
    exact SlT.takeT h hh
theorem form_pc {l : List Bk} (h : formE l = 0) : PcOk l := fun b hb => by
  unfold formE at h
  split at h
  · cases h
  · obtain ⟨q, hq⟩ := scanE_all h b hb
    unfold bookE at hq
    split at hq
    · cases hq
    · split at hq
      · cases hq
      · split at hq
        · cases hq
        · split at hq
          · cases hq
          · split at hq
            · cases hq
            · split at hq
              · cases hq
              · split at hq
                · cases hq
                · split at hq
                  · cases hq
                  · rename_i h8
                    exact inB_iff.1 (by simpa using h8)
theorem scanE_take {α : Type} {f : Option α → α → Int} : ∀ {l : List α} {p : Option α} (k : Nat), scanE f p l = 0 → scanE f p (l.take k) = 0
  | [], _, k, h => by simpa using h
  | x :: r, p, 0, _ => rfl
  | x :: r, p, k + 1, h => by
    rw [List.take_succ_cons]
    unfold scanE at h ⊢
    by_cases h0 : f p x = 0
    · rw [if_pos h0] at h ⊢; exact scanE_take k h
    · rw [if_neg h0] at h; exact absurd h h0
theorem form_take {l : List Bk} (k : Nat) (h : formE l = 0) : formE (l.take k) = 0 := by
  unfold formE at h ⊢
  split at h
  · cases h
  · rw [if_neg (by rw [List.length_take]; omega)]; exact scanE_take k h
theorem pcs_take (l : List Bk) (k : Nat) : pcs (l.take k) = (pcs l).take k := by unfold pcs; rw [List.map_take]
theorem sum_take {D : List Nat} {k x : Nat} (h : D[k]? = some x) : (D.take (k + 1)).sum = (D.take k).sum + x := by
  rw [List.take_add_one, h, List.sum_append]; simp
theorem low_le {a b c d : Nat} (hb : 0 < b) (hd : 0 < d) (h : c * b ≤ a * d) : ¬ (a / Nat.gcd a b * (d / Nat.gcd c d) < c / Nat.gcd c d * (b / Nat.gcd a b)) := by
  intro hlt
  have g1 : 0 < Nat.gcd a b := Nat.gcd_pos_of_pos_right a hb
  have g2 : 0 < Nat.gcd c d := Nat.gcd_pos_of_pos_right c hd
  have e1 := Nat.div_mul_cancel (Nat.gcd_dvd_left a b)
  have e2 := Nat.div_mul_cancel (Nat.gcd_dvd_right a b)
  have e3 := Nat.div_mul_cancel (Nat.gcd_dvd_left c d)
  have e4 := Nat.div_mul_cancel (Nat.gcd_dvd_right c d)
  have h1 := Nat.mul_lt_mul_of_pos_right hlt (Nat.mul_pos g1 g2)
  generalize a / Nat.gcd a b = A at *
  generalize b / Nat.gcd a b = B at *
  generalize c / Nat.gcd c d = C at *
  generalize d / Nat.gcd c d = D at *
  generalize Nat.gcd a b = G at *
  generalize Nat.gcd c d = H at *
  have h2 : A * D * (G * H) = a * d := by rw [← e1, ← e4]; simp only [Nat.mul_left_comm, Nat.mul_comm]
  have h3 : C * B * (G * H) = c * b := by rw [← e3, ← e2]; simp only [Nat.mul_left_comm, Nat.mul_comm]
  omega
theorem pow_cast2 (k : Nat) : ((100 ^ k : Nat) : Int) * 100 = ((100 ^ (k + 1) : Nat) : Int) := by rw [Nat.pow_succ, Int.natCast_mul]; rfl

set_option maxRecDepth 100000 in
set_option maxHeartbeats 2000000 in
theorem odds_walk (a0 : Option Addr) (len0 cap0 : Nat) (z0 : List Int) (w : World) (hR : RowIn w a0 len0 cap0 z0) :
    Calls Tryd.prog 3 #[.slice a0 len0 cap0] w fun e w' => e = .returned (.bool true) ∧ Below w.heap.size w w' := by
  refine gw_enter ⟨126, w, none, []⟩ Tryd.func3 rfl Tryd.ntmps3 rfl (mem0 (X := []) allF_nil allL_nil) ?_
  refine gw_seq ?_
  refine gw_region ?_
  refine wl_ov (ov_assign rfl) rfl ?_
  refine wl_nil ?_
  refine nx_then ?_
  refine gw_seq ?_
  refine gw_region ?_
  refine wl_ov (ov_move rfl) rfl ?_
  refine wl_ov (ov_build (cs := [.slice a0 len0 cap0, .int .i64 0]) rfl (by kernel_rfl)) rfl ?_
  refine wl_box rfl rfl rfl fun sb => ?_
  refine wl_ov (ov_assign rfl) rfl ?_
  refine wl_nil ?_
  refine nx_then ?_
  refine gw_seq ?_
  refine gw_region ?_
  refine wl_ov (ov_move rfl) rfl ?_
  refine wl_ov (ov_move rfl) rfl ?_
  refine wl_law [138, 36] hR 0 rfl fun w1 B hg1 hsb => ?_
  refine wl_got (γ := Int) (val := fun v => .int .i64 v) (φ := fun v => 0 ≤ v ∧ (v ≤ 9 ∨ v = 0)) rfl cb15 rfl rfl rfl rfl (fun wx hm => (range_any _ _ wx B sb _ hm.k (by omega) (by omega) (by omega) (by omega) (by omega))) fun v1 hv1 => ?_
  obtain ⟨q, rfl⟩ := Int.eq_ofNat_of_zero_le (show 0 ≤ v1 by omega)
  have hq9 : q ≤ 9 := by have := hv1.2; omega
  refine wl_calls (γ := Option Addr × Nat × Nat × List Bk) (val := (fun (g : Option Addr × Nat × Nat × List Bk) => .slice g.1 g.2.1 g.2.2.1)) (φ := (fun (g : Option Addr × Nat × Nat × List Bk) => (∀ b ∈ g.2.2.2, BkOk b) ∧ g.2.1 ≤ 9 ∧ g.2.1 ≤ g.2.2.1 ∧ g.2.2.2.length = g.2.1)) (Y := (fun (g : Option Addr × Nat × Nat × List Bk) => fun wy => SlT bkEnc 6 138 wy g.1 g.2.1 g.2.2.2)) (m' := 0 + 1 + 1000) rfl cb14 rfl rfl rfl rfl (fun wx hm => (gbookings_any q wx B sb _ hm.k (by omega) hq9).mono fun _ _ ⟨A, n, c, l, he, hsl, hok, hn, hnc, hS, hg⟩ => ⟨(A, n, c, l), he, ⟨hok, hn, hnc, hsl.len⟩, hS, hg, hsl⟩) (fun _ => SlT.lasts2 rfl) ?_
  rintro ⟨A, n, c, l⟩ hH
  dsimp only at hH ⊢
  obtain ⟨hok, hn9, hnc, hlen⟩ := hH
  refine wl_ov (ov_move rfl) rfl ?_
  refine wl_got (γ := Int) (val := fun v => .int .i64 v) (φ := fun v => 0 ≤ v ∧ (v ≤ 4 ∨ v = 0)) rfl cb15 rfl rfl rfl rfl (fun wx hm => (range_any _ _ wx B sb _ hm.k (by omega) (by omega) (by omega) (by omega) (by omega))) fun v2 hv2 => ?_
  refine wl_ov (ov_assign rfl) rfl ?_
  refine wl_ov (ov_assign rfl) rfl ?_
  refine wl_nil ?_
  refine nx_then ?_
  refine gw_seq ?_
  refine gw_seq ?_
  refine gw_region ?_
  refine wl_ov (ov_move rfl) rfl ?_
  obtain ⟨u, rfl⟩ := Int.eq_ofNat_of_zero_le (show 0 ≤ v2 by omega)
  have hu4 : u ≤ 4 := by have := hv2.2; omega
  refine wl_callv rfl cb16 rfl rfl (fun wx hm => (bookingForm_any l A n c wx (hm.fact 0 rfl) hok (by omega))) ?_
  refine wl_ov (ov_neq rfl rfl) rfl ?_
  refine wl_nil ?_
  refine nx_then ?_
  refine gw_cond rfl (fun hh => ?_) (fun hh => ?_)
  · have hE : ¬ (formE l = 0) := by simpa using hh
    clear hh
    refine gw_seq ?_
    refine gw_region ?_
    refine wl_callv rfl cb17 rfl rfl (fun wx hm => (ready_any wx)) ?_
    refine wl_ov (ov_assign rfl) rfl ?_
    refine wl_nil ?_
    refine nx_then ?_
    refine gw_ret ?_
    refine nx_then_ret ?_
    refine nx_ret1 rfl rfl fun wx hm => ?_
    exact ⟨rfl, law_end hg1 hsb hm.g⟩
  · have hE : formE l = 0 := by simpa using hh
    clear hh
    refine gw_skip ?_
    refine nx_then ?_
    refine gw_seq ?_
    refine gw_region ?_
    have hpc := form_pc hE
    have hp100 := pcs_le hpc
    have hpn : (pcs l).length = n := by rw [pcs_len, hlen]
    have hsum := spreadP_sum hp100 n (by omega)
    have hDl := spreadP_len (pcs l) n (by omega)
    have htk := spreadP_tl hp100 u (n / 2) (n - n / 2) (by omega)
    rw [show n / 2 + (n - n / 2) = n by omega] at htk
    rw [show (pcs l).take n = pcs l from List.take_of_length_le (by omega)] at hsum hDl htk
    obtain ⟨hw1, hw2, _⟩ := pow_le n hn9
    obtain ⟨hv1, hv2, _⟩ := pow_le (n / 2) (by omega)
    obtain ⟨D, hD⟩ : ∃ D, D = spreadP (pcs l) := ⟨_, rfl⟩
    have hpw : 100 ^ (n / 2) * 100 ^ (n - n / 2) = 100 ^ n := by rw [← Nat.pow_add]; congr 1; omega
    obtain ⟨W, hW⟩ : ∃ W, W = 100 ^ n := ⟨_, rfl⟩
    rw [← hD] at hsum hDl htk
    rw [← hW] at hsum hw1 hw2 hpw
    refine wl_ov (ov_move rfl) rfl ?_
    refine wl_callx (γ := Option Addr × Nat) (val := (fun (g : Option Addr × Nat) => .tuple #[.slice g.1 (n + 1) g.2, .int .i64 0])) (φ := (fun (g : Option Addr × Nat) => True)) (Y := (fun (g : Option Addr × Nat) => fun wy => SlT frEnc 2 36 wy g.1 (n + 1) (D.map (fun x => lowF x W)))) rfl cb18 rfl rfl (fun wx hm => (by rw [hD, hW]; exact (spread_right l A n c wx (hm.fact 0 rfl) hpc hn9 hok hE).mono fun _ _ ⟨A4, c4, he, hs, hg⟩ => ⟨(A4, c4), he, trivial, hg, hs⟩)) (fun _ => SlT.lasts2 rfl) ?_
    rintro ⟨A4, c4⟩ hphi
    dsimp only
    clear hphi
    refine wl_look (R := ∃ b3 o3, A4 = some ⟨b3, o3, none⟩) (fun wx hm => by obtain ⟨b3, o3, h, _, _⟩ := SlT.get (hm.fact 0 rfl) (by omega); exact ⟨b3, o3, h⟩) ?_
    rintro ⟨b3, o3, rfl⟩
    refine wl_nest none [] fun w2 hm_w2 => ⟨_, _, _, _, mem0 (X := [SlOld bkEnc 6 138 w2.heap.size none A n l, SlOld frEnc 2 36 w2.heap.size none (some ⟨b3, o3, none⟩) (n + 1) (D.map (fun x => lowF x W))]) (allF_cons (SlT.old (hm_w2.fact 1 rfl)) (allF_cons (SlT.old (hm_w2.fact 0 rfl)) allF_nil)) (allL_cons SlOld.lasts (allL_cons SlOld.lasts allL_nil)), ?_⟩
    refine wl_ov (ov_move rfl) rfl ?_
    refine wl_ov (ov_extract rfl rfl) rfl ?_
    refine wl_ov (ov_extract rfl rfl) rfl ?_
    refine wl_ov (ov_assign rfl) rfl ?_
    refine wl_ov (ov_assign rfl) rfl ?_
    refine wl_nil ?_
    refine nx_then ?_
    refine gw_seq ?_
    refine gw_region ?_
    refine wl_ov (ov_assign rfl) rfl ?_
    refine wl_ov (ov_assign rfl) rfl ?_
    refine wl_nil ?_
    refine nx_then ?_
    refine gw_seq ?_
    refine gw_seq ?_
    refine gw_region ?_
    refine wl_ov (ov_move rfl) rfl ?_
    refine wl_ov (ov_len es26 rfl) rfl ?_
    refine wl_ov (ov_move rfl) rfl ?_
    refine wl_nil ?_
    refine nx_then ?_
    refine gw_block ?_
    refine gw_loop (γ := Nat) (fun (k : Nat) => k ≤ n) (fun (k : Nat) => [(2, .bool false), (4, .slice A n c), (5, .int .i64 ((u : Nat) : Int)), (6, .slice (some ⟨b3, o3, none⟩) (n + 1) c4), (7, .int .i64 0), (8, .int .i64 0), (9, .int .i64 ((100 ^ k : Nat) : Int)), (37, .int .i64 ((n : Nat) : Int)), (38, .int .i64 ((k : Nat) : Int))]) (fun (k : Nat) => fun _ => True) (fun (k : Nat) => []) (fun (k : Nat) => []) (fun (k : Nat) => [SlOld bkEnc 6 138 w2.heap.size none A n l, SlOld frEnc 2 36 w2.heap.size none (some ⟨b3, o3, none⟩) (n + 1) (D.map (fun x => lowF x W))]) (fun (k : Nat) => n - k) 0 (Nat.zero_le _) ⟨rfl, rfl, rfl, rfl, rfl, rfl, (some_int rfl), rfl, rfl, trivial⟩ (fun _ hm => hm.pick [] [] [0, 1] rfl rfl) ?_
    intro k hinv
    replace hinv : k ≤ n := hinv
    refine gw_seq ?_
    refine gw_region ?_
    refine wl_ov (ov_lss rfl rfl) rfl ?_
    refine wl_nil ?_
    refine nx_then ?_
    refine gw_seq ?_
    refine gw_cond rfl (fun hh => ?_) (fun hh => ?_)
    · have hk : ((k : Nat) : Int) < ((n : Nat) : Int) := by simpa using hh
      clear hh
      refine gw_skip ?_
      refine nx_then ?_
      refine gw_seq ?_
      refine gw_block ?_
      refine gw_region ?_
      obtain ⟨hx1, hx2, hx3⟩ := pow_le k (by omega)
      have hx4 := hx3 (by omega)
      refine wl_ov (ov_move rfl) rfl ?_
      refine wl_ov (ov_mul rfl rfl (by omega) (by omega)) rfl ?_
      refine wl_set 41 (v' := .int .i64 ((100 ^ (k + 1) : Nat) : Int)) rfl (congrArg (Value.int .i64) (pow_cast2 k)) ?_
      refine wl_ov (ov_assign rfl) rfl ?_
      refine wl_nil ?_
      refine nx_blk_nrm ?_
      refine nx_then ?_
      refine gw_region ?_
      refine wl_ov (ov_add rfl rfl (by omega) (by omega)) rfl ?_
      refine wl_ov (ov_move rfl) rfl ?_
      refine wl_nil ?_
      exact nx_round (k + 1) (by omega) (by omega) ⟨rfl, rfl, rfl, rfl, rfl, rfl, rfl, rfl, (some_int (by omega)), trivial⟩ (fun _ hm => hm.pick [] [] [0, 1] rfl rfl)
    · have hk : ¬ (((k : Nat) : Int) < ((n : Nat) : Int)) := by simpa using hh
      clear hh
      refine gw_exit ?_
      refine nx_then_exit ?_
      refine nx_then_exit ?_
      refine nx_blk_here ?_
      refine nx_then ?_
      refine gw_seq ?_
      refine gw_seq ?_
      refine gw_region ?_
      have hkn : k = n := by omega
      subst hkn
      refine wl_set 9 (v' := .int .i64 ((W : Nat) : Int)) rfl (congrArg (Value.int .i64) (by rw [hW])) ?_
      refine wl_ov (ov_move rfl) rfl ?_
      refine wl_ov (ov_len es32 rfl) rfl ?_
      refine wl_ov (ov_move rfl) rfl ?_
      refine wl_nil ?_
      refine nx_then ?_
      refine gw_block ?_
      refine gw_loop (γ := Nat) (fun (j : Nat) => j ≤ k + 1) (fun (j : Nat) => [(4, .slice A k c), (5, .int .i64 ((u : Nat) : Int)), (7, .int .i64 0), (8, .int .i64 (((D.take j).sum : Nat) : Int)), (9, .int .i64 ((W : Nat) : Int)), (43, .slice (some ⟨b3, o3, none⟩) (k + 1) c4), (44, .int .i64 ((k + 1 : Nat) : Int)), (45, .int .i64 ((j : Nat) : Int))]) (fun (j : Nat) => fun _ => True) (fun (j : Nat) => []) (fun (j : Nat) => []) (fun (j : Nat) => [SlOld bkEnc 6 138 w2.heap.size none A k l, SlOld frEnc 2 36 w2.heap.size none (some ⟨b3, o3, none⟩) (k + 1) (D.map (fun x => lowF x W))]) (fun (j : Nat) => k + 1 - j) 0 (Nat.zero_le _) ⟨rfl, rfl, rfl, (some_int (by simp)), rfl, rfl, rfl, rfl, trivial⟩ (fun _ hm => hm.pick [] [] [0, 1] rfl rfl) ?_
      intro j hinv
      replace hinv : j ≤ k + 1 := hinv
      refine gw_seq ?_
      refine gw_region ?_
      refine wl_ov (ov_lss rfl rfl) rfl ?_
      refine wl_nil ?_
      refine nx_then ?_
      refine gw_seq ?_
      refine gw_cond rfl (fun hh => ?_) (fun hh => ?_)
      · have hj : ((j : Nat) : Int) < ((k + 1 : Nat) : Int) := by simpa using hh
        clear hh
        refine gw_skip ?_
        refine nx_then ?_
        refine gw_seq ?_
        refine gw_block ?_
        refine gw_seq ?_
        refine gw_region ?_
        obtain ⟨x, hx⟩ : ∃ x, D[j]? = some x := ⟨_, List.getElem?_eq_getElem (by omega)⟩
        obtain ⟨hn1, hn2, hn3⟩ := whole_num (n := x) (d := W) (by omega)
        obtain ⟨N, hN⟩ : ∃ N, N = x / Nat.gcd x W := ⟨_, rfl⟩
        obtain ⟨E, hE2⟩ : ∃ E, E = W / Nat.gcd x W := ⟨_, rfl⟩
        rw [← hE2] at hn1 hn2 hn3
        rw [← hN] at hn3
        have hy : (D.map (fun x => lowF x W))[j]? = some (⟨((N : Nat) : Int), ((E : Nat) : Int)⟩ : Fr) := by rw [List.getElem?_map, hx, hN, hE2]; rfl
        have hst := sum_take hx
        have hs1 := sum_take_le D j
        have hs2 := mem_sum_le (List.mem_of_getElem? hx)
        have hNx : N ≤ 1000000000000000000 := by have := Nat.div_le_self x (Nat.gcd x W); omega
        have hEx : E ≤ 1000000000000000000 := by have := Nat.div_le_self W (Nat.gcd x W); omega
        have hmc : ((N : Nat) : Int) * ((W / E : Nat) : Int) = ((x : Nat) : Int) := by rw [← Int.natCast_mul, hn3]
        have hrc : ((W : Nat) : Int) % ((E : Nat) : Int) = 0 := by rw [← Int.natCast_emod, hn2]; rfl
        refine wl_ov (ov_index (j := j) es32 rfl rfl (by omega)) rfl ?_
        refine wl_ov (ov_elem (vs := [.int .i64 ((N : Nat) : Int), .int .i64 ((E : Nat) : Int)]) rz36 rfl (fun _ hm => (hm.fact 1 rfl).1) hy rfl rfl) rfl ?_
        refine wl_alloc zc36 rfl fun g3 => ?_
        refine wl_stores (cs' := [.int .i64 ((N : Nat) : Int), .int .i64 ((E : Nat) : Int)]) 0 rz36 rfl rfl rfl rfl rfl rfl rfl rfl ?_
        refine wl_nil ?_
        refine nx_then ?_
        refine gw_seq ?_
        refine gw_seq ?_
        refine gw_region ?_
        refine wl_ov (ov_field fo36_1 rfl rfl) rfl ?_
        refine wl_ov (ov_load sc3 rfl (fun _ hm => hm.blkI 0 rfl) rfl) rfl ?_
        refine wl_ov (ov_lss rfl rfl) rfl ?_
        refine wl_set 51 (v' := .bool false) rfl (congrArg Value.bool (decide_eq_false (by omega))) ?_
        refine wl_ov (ov_move rfl) rfl ?_
        refine wl_guard_on rfl rfl rfl ?_
        refine wl_ov (ov_move rfl) rfl ?_
        refine wl_guard_on rfl rfl rfl ?_
        refine wl_ov (ov_field fo36_1 rfl rfl) rfl ?_
        refine wl_guard_on rfl rfl rfl ?_
        refine wl_ov (ov_load sc3 rfl (fun _ hm => hm.blkI 0 rfl) rfl) rfl ?_
        refine wl_guard_on rfl rfl rfl ?_
        refine wl_ov (ov_rem rfl rfl (by omega) (by omega) (by omega)) rfl ?_
        refine wl_set 56 (v' := .int .i64 0) rfl (congrArg (Value.int .i64) hrc) ?_
        refine wl_guard_on rfl rfl rfl ?_
        refine wl_ov (ov_neq rfl rfl) rfl ?_
        refine wl_set 57 (v' := .bool false) rfl (congrArg Value.bool (by decide)) ?_
        refine wl_ov (ov_pick_f rfl rfl) rfl ?_
        refine wl_nil ?_
        refine nx_then ?_
        refine gw_cond rfl (fun hh => by cases hh) (fun _ => ?_)
        refine gw_skip ?_
        refine nx_then ?_
        refine gw_draw (fun wz => Blk wz g3 36 [.int .i64 ((N : Nat) : Int), .int .i64 ((E : Nat) : Int)] ∧ (SlOld bkEnc 6 138 w2.heap.size none A k l) wz ∧ (SlOld frEnc 2 36 w2.heap.size none (some ⟨b3, o3, none⟩) (k + 1) (D.map (fun x => lowF x W))) wz ∧ True) mixed ?_
        refine wa_take 0 rfl (by kernel_rfl) (by kernel_rfl) (by kernel_rfl) (listed' := #[true, false, false, false, false, false, false, false, false, false]) rfl (fun _ _ _ h => h) (fun _ hm => ⟨hm.blkI 0 rfl, hm.fact 0 rfl, hm.fact 1 rfl, trivial⟩) (ov_move rfl) rfl ?_
        refine wa_take 1 rfl (by kernel_rfl) (by kernel_rfl) (by kernel_rfl) (listed' := #[true, true, false, false, false, false, false, false, false, false]) rfl (fun _ _ _ h => h) (fun _ hm => ⟨hm.blkI 0 rfl, hm.fact 0 rfl, hm.fact 1 rfl, trivial⟩) (ov_field fo36_0 rfl rfl) rfl ?_
        refine wa_take 2 rfl (by kernel_rfl) (by kernel_rfl) (by kernel_rfl) (listed' := #[true, true, true, false, false, false, false, false, false, false]) rfl (fun _ _ _ h => h) (fun _ hm => ⟨hm.blkI 0 rfl, hm.fact 0 rfl, hm.fact 1 rfl, trivial⟩) (ov_load sc3 rfl (fun _ hm => hm.1) rfl) rfl ?_
        refine wa_take 3 rfl (by kernel_rfl) (by kernel_rfl) (by kernel_rfl) (listed' := #[true, true, true, true, false, false, false, false, false, false]) rfl (fun _ _ _ h => h) (fun _ hm => ⟨hm.blkI 0 rfl, hm.fact 0 rfl, hm.fact 1 rfl, trivial⟩) (ov_move rfl) rfl ?_
        refine wa_take 4 rfl (by kernel_rfl) (by kernel_rfl) (by kernel_rfl) (listed' := #[true, true, true, true, true, false, false, false, false, false]) rfl (fun _ _ _ h => h) (fun _ hm => ⟨hm.blkI 0 rfl, hm.fact 0 rfl, hm.fact 1 rfl, trivial⟩) (ov_field fo36_1 rfl rfl) rfl ?_
        refine wa_take 5 rfl (by kernel_rfl) (by kernel_rfl) (by kernel_rfl) (listed' := #[true, true, true, true, true, true, false, false, false, false]) rfl (fun _ _ _ h => h) (fun _ hm => ⟨hm.blkI 0 rfl, hm.fact 0 rfl, hm.fact 1 rfl, trivial⟩) (ov_load sc3 rfl (fun _ hm => hm.1) rfl) rfl ?_
        refine wa_take 6 rfl (by kernel_rfl) (by kernel_rfl) (by kernel_rfl) (listed' := #[true, true, true, true, true, true, true, false, false, false]) rfl (fun _ _ _ h => h) (fun _ hm => ⟨hm.blkI 0 rfl, hm.fact 0 rfl, hm.fact 1 rfl, trivial⟩) (ov_quo rfl rfl (by omega) (by omega) (by omega)) rfl ?_
        refine wa_set 65 (v' := .int .i64 ((W / E : Nat) : Int)) rfl (congrArg (Value.int .i64) (Int.natCast_ediv W E).symm) ?_
        refine wa_take 7 rfl (by kernel_rfl) (by kernel_rfl) (by kernel_rfl) (listed' := #[true, true, true, true, true, true, true, true, false, false]) rfl (fun _ _ _ h => h) (fun _ hm => ⟨hm.blkI 0 rfl, hm.fact 0 rfl, hm.fact 1 rfl, trivial⟩) (ov_mul rfl rfl (by rw [hmc]; omega) (by rw [hmc]; omega)) rfl ?_
        refine wa_set 66 (v' := .int .i64 ((x : Nat) : Int)) rfl (congrArg (Value.int .i64) hmc) ?_
        refine wa_take 8 rfl (by kernel_rfl) (by kernel_rfl) (by kernel_rfl) (listed' := #[true, true, true, true, true, true, true, true, true, false]) rfl (fun _ _ _ h => h) (fun _ hm => ⟨hm.blkI 0 rfl, hm.fact 0 rfl, hm.fact 1 rfl, trivial⟩) (ov_add rfl rfl (by omega) (by omega)) rfl ?_
        refine wa_set 67 (v' := .int .i64 (((D.take (j + 1)).sum : Nat) : Int)) rfl (congrArg (Value.int .i64) (by rw [hst]; omega)) ?_
        refine wa_take 9 rfl (by kernel_rfl) (by kernel_rfl) (by kernel_rfl) (listed' := #[true, true, true, true, true, true, true, true, true, true]) rfl (fun _ _ _ h => h) (fun _ hm => ⟨hm.blkI 0 rfl, hm.fact 0 rfl, hm.fact 1 rfl, trivial⟩) (ov_assign rfl) rfl ?_
        refine wa_done (by kernel_rfl) ?_
        refine nx_blk_nrm ?_
        refine nx_then ?_
        refine gw_region ?_
        refine wl_ov (ov_add rfl rfl (by omega) (by omega)) rfl ?_
        refine wl_ov (ov_move rfl) rfl ?_
        refine wl_nil ?_
        exact nx_round (j + 1) (by omega) (by omega) ⟨rfl, rfl, rfl, rfl, rfl, rfl, rfl, (some_int (by omega)), trivial⟩ (fun _ hm => hm.pick [] [] [0, 1] rfl rfl)
      · have hj : ¬ (((j : Nat) : Int) < ((k + 1 : Nat) : Int)) := by simpa using hh
        clear hh
        refine gw_exit ?_
        refine nx_then_exit ?_
        refine nx_then_exit ?_
        refine nx_blk_here ?_
        refine nx_then ?_
        refine gw_seq ?_
        refine gw_region ?_
        have hall : D.take j = D := List.take_of_length_le (by omega)
        have hk2 : k / 2 ≤ k := by omega
        refine wl_set 8 (v' := .int .i64 ((W : Nat) : Int)) rfl (congrArg (Value.int .i64) (by rw [hall, hsum])) ?_
        obtain ⟨T1, hT1⟩ : ∃ T, T = tl (u + 1) D := ⟨_, rfl⟩
        obtain ⟨T2, hT2⟩ : ∃ T, T = tl (u + 1 + 1) D := ⟨_, rfl⟩
        obtain ⟨T3, hT3⟩ : ∃ T, T = tl (u + 1) (spreadP ((pcs l).take (k / 2))) := ⟨_, rfl⟩
        obtain ⟨V, hV⟩ : ∃ V, V = 100 ^ (k / 2) := ⟨_, rfl⟩
        have h12 : T2 ≤ T1 := by rw [hT1, hT2]; exact tl_succ_le (u + 1) D
        have h1b : T1 ≤ W := by rw [hT1, ← hsum]; exact tl_le _ _
        have h3b : T3 ≤ V := by rw [hT3, hV, ← spreadP_sum hp100 (k / 2) (by omega)]; exact tl_le _ _
        rw [← hT1, ← hT3] at htk
        rw [← hV] at hpw hv1 hv2
        have h13 : T3 * W ≤ T1 * V := by rw [← hpw, Nat.mul_left_comm, Nat.mul_comm T1 V]; exact Nat.mul_le_mul_left V htk
        refine wl_ov (ov_move rfl) rfl ?_
        refine wl_ov (ov_move rfl) rfl ?_
        refine wl_callv (v := .tuple #[.agg #[.int .i64 ((lowF T1 W).num), .int .i64 ((lowF T1 W).den)], .int .i64 0]) rfl cb19 rfl rfl (fun wx hm => (by rw [hT1, hD, hW]; exact over_right l A k c u wx (hm.fact 0 rfl).1 hpc hn9 hok hE (by omega))) ?_
        refine wl_ov (ov_move rfl) rfl ?_
        refine wl_ov (ov_extract rfl rfl) rfl ?_
        refine wl_ov (ov_extract rfl rfl) rfl ?_
        refine wl_alloc zc36 rfl fun g4 => ?_
        refine wl_stores (cs' := [.int .i64 ((lowF T1 W).num), .int .i64 ((lowF T1 W).den)]) 0 rz36 rfl rfl rfl rfl rfl rfl rfl rfl ?_
        refine wl_ov (ov_assign rfl) rfl ?_
        refine wl_nil ?_
        refine nx_then ?_
        refine gw_seq ?_
        refine gw_region ?_
        refine wl_ov (ov_move rfl) rfl ?_
        refine wl_ov (ov_move rfl) rfl ?_
        refine wl_ov (ov_add rfl rfl (by omega) (by omega)) rfl ?_
        refine wl_set 78 (v' := .int .i64 ((u + 1 : Nat) : Int)) rfl (congrArg (Value.int .i64) (by omega)) ?_
        refine wl_callv (v := .tuple #[.agg #[.int .i64 ((lowF T2 W).num), .int .i64 ((lowF T2 W).den)], .int .i64 0]) rfl cb19 rfl rfl (fun wx hm => (by rw [hT2, hD, hW]; exact over_right l A k c (u + 1) wx (hm.fact 0 rfl).1 hpc hn9 hok hE (by omega))) ?_
        refine wl_ov (ov_move rfl) rfl ?_
        refine wl_ov (ov_extract rfl rfl) rfl ?_
        refine wl_ov (ov_extract rfl rfl) rfl ?_
        refine wl_alloc zc36 rfl fun g5 => ?_
        refine wl_stores (cs' := [.int .i64 ((lowF T2 W).num), .int .i64 ((lowF T2 W).den)]) 0 rz36 rfl rfl rfl rfl rfl rfl rfl rfl ?_
        refine wl_ov (ov_assign rfl) rfl ?_
        refine wl_nil ?_
        refine nx_then ?_
        refine gw_seq ?_
        refine gw_region ?_
        refine wl_ov (ov_move rfl) rfl ?_
        refine wl_ov (ov_move rfl) rfl ?_
        refine wl_ov (ov_len es26 rfl) rfl ?_
        refine wl_ov (ov_quo rfl rfl (by omega) (by omega) (by omega)) rfl ?_
        refine wl_set 86 (v' := .int .i64 ((k / 2 : Nat) : Int)) rfl (congrArg (Value.int .i64) (by omega)) ?_
        refine wl_ov (ov_sliceHiA (hi := k / 2) es26 rfl rfl rfl (by omega)) rfl ?_
        refine wl_ov (ov_move rfl) rfl ?_
        refine wl_callv (v := .tuple #[.agg #[.int .i64 ((lowF T3 V).num), .int .i64 ((lowF T3 V).den)], .int .i64 0]) rfl cb19 rfl rfl (fun wx hm => (by have h := over_right (l.take (k / 2)) _ (k / 2) c u wx (SlT.takeA (c := c) (hm.fact 0 rfl).1 (by omega)) (fun b hb => hpc b (List.mem_of_mem_take hb)) (by omega) (fun b hb => hok b (List.mem_of_mem_take hb)) (form_take _ hE) (by omega); rw [pcs_take, ← hT3, ← hV] at h; exact h)) ?_
        refine wl_ov (ov_move rfl) rfl ?_
        refine wl_ov (ov_extract rfl rfl) rfl ?_
        refine wl_ov (ov_extract rfl rfl) rfl ?_
        refine wl_alloc zc36 rfl fun g6 => ?_
        refine wl_stores (cs' := [.int .i64 ((lowF T3 V).num), .int .i64 ((lowF T3 V).den)]) 0 rz36 rfl rfl rfl rfl rfl rfl rfl rfl ?_
        refine wl_ov (ov_assign rfl) rfl ?_
        refine wl_nil ?_
        refine nx_then ?_
        refine gw_seq ?_
        refine gw_region ?_
        refine wl_ov (ov_move rfl) rfl ?_
        refine wl_ov (ov_eql rfl rfl) rfl ?_
        refine wl_set 93 (v' := .bool true) rfl (congrArg Value.bool (by decide)) ?_
        refine wl_ov (ov_move rfl) rfl ?_
        refine wl_guard_on rfl rfl rfl ?_
        refine wl_ov (ov_move rfl) rfl ?_
        refine wl_guard_on rfl rfl rfl ?_
        refine wl_ov (ov_move rfl) rfl ?_
        refine wl_guard_on rfl rfl rfl ?_
        refine wl_ov (ov_eql rfl rfl) rfl ?_
        refine wl_set 97 (v' := .bool true) rfl (congrArg Value.bool (by simp)) ?_
        refine wl_ov (ov_pick_t rfl rfl) rfl ?_
        refine wl_ov (ov_move rfl) rfl ?_
        refine wl_guard_on rfl rfl rfl ?_
        refine wl_ov (ov_move rfl) rfl ?_
        refine wl_guard_on rfl rfl rfl ?_
        refine wl_ov (ov_eql rfl rfl) rfl ?_
        refine wl_set 101 (v' := .bool true) rfl (congrArg Value.bool (by decide)) ?_
        refine wl_ov (ov_pick_t rfl rfl) rfl ?_
        refine wl_ov (ov_move rfl) rfl ?_
        refine wl_guard_on rfl rfl rfl ?_
        refine wl_ov (ov_move rfl) rfl ?_
        refine wl_guard_on rfl rfl rfl ?_
        refine wl_ov (ov_eql rfl rfl) rfl ?_
        refine wl_set 105 (v' := .bool true) rfl (congrArg Value.bool (by decide)) ?_
        refine wl_ov (ov_pick_t rfl rfl) rfl ?_
        refine wl_ov (ov_move rfl) rfl ?_
        refine wl_guard_on rfl rfl rfl ?_
        refine wl_ov (ov_move rfl) rfl ?_
        refine wl_guard_on rfl rfl rfl ?_
        refine wl_ov (ov_eql rfl rfl) rfl ?_
        refine wl_set 109 (v' := .bool true) rfl (congrArg Value.bool (by decide)) ?_
        refine wl_ov (ov_pick_t rfl rfl) rfl ?_
        refine wl_ov (ov_move rfl) rfl ?_
        refine wl_guard_on rfl rfl rfl ?_
        refine wl_ov (ov_loads rz36 rfl (fun _ hm => hm.blkI 2 rfl) rfl rfl) rfl ?_
        refine wl_guard_on rfl rfl rfl ?_
        refine wl_ov (ov_loads rz36 rfl (fun _ hm => hm.blkI 1 rfl) rfl rfl) rfl ?_
        refine wl_guard_on rfl rfl rfl ?_
        refine wl_callv (v := .bool false) rfl cb20 rfl rfl (fun wx hm => (by have h := less_any (T1 / Nat.gcd T1 W) (W / Nat.gcd T1 W) (T2 / Nat.gcd T2 W) (W / Nat.gcd T2 W) wx (whole_num (by omega)).1 (whole_num (by omega)).1 (Nat.le_trans (Nat.div_le_self _ _) (by omega)) (Nat.le_trans (Nat.div_le_self _ _) (by omega)) (Nat.le_trans (Nat.div_le_self _ _) (by omega)) (Nat.le_trans (Nat.div_le_self _ _) (by omega)); rw [decide_eq_false (low_le (by omega) (by omega) (Nat.mul_le_mul_right W h12))] at h; exact h)) ?_
        refine wl_guard_on rfl rfl rfl ?_
        refine wl_ov (ov_un_not rfl) rfl ?_
        refine wl_set 115 (v' := .bool true) rfl (congrArg Value.bool (by decide)) ?_
        refine wl_ov (ov_pick_t rfl rfl) rfl ?_
        refine wl_ov (ov_move rfl) rfl ?_
        refine wl_guard_on rfl rfl rfl ?_
        refine wl_ov (ov_loads rz36 rfl (fun _ hm => hm.blkI 2 rfl) rfl rfl) rfl ?_
        refine wl_guard_on rfl rfl rfl ?_
        refine wl_ov (ov_loads rz36 rfl (fun _ hm => hm.blkI 0 rfl) rfl rfl) rfl ?_
        refine wl_guard_on rfl rfl rfl ?_
        refine wl_callv (v := .bool false) rfl cb20 rfl rfl (fun wx hm => (by have h := less_any (T1 / Nat.gcd T1 W) (W / Nat.gcd T1 W) (T3 / Nat.gcd T3 V) (V / Nat.gcd T3 V) wx (whole_num (by omega)).1 (whole_num (by omega)).1 (Nat.le_trans (Nat.div_le_self _ _) (by omega)) (Nat.le_trans (Nat.div_le_self _ _) (by omega)) (Nat.le_trans (Nat.div_le_self _ _) (by omega)) (Nat.le_trans (Nat.div_le_self _ _) (by omega)); rw [decide_eq_false (low_le (by omega) (by omega) h13)] at h; exact h)) ?_
        refine wl_guard_on rfl rfl rfl ?_
        refine wl_ov (ov_un_not rfl) rfl ?_
        refine wl_set 121 (v' := .bool true) rfl (congrArg Value.bool (by decide)) ?_
        refine wl_ov (ov_pick_t rfl rfl) rfl ?_
        refine wl_ov (ov_move rfl) rfl ?_
        refine wl_guard_on rfl rfl rfl ?_
        refine wl_callv rfl cb17 rfl rfl (fun wx hm => (ready_any wx)) ?_
        refine wl_ov (ov_pick_t rfl rfl) rfl ?_
        refine wl_ov (ov_assign rfl) rfl ?_
        refine wl_nil ?_
        refine nx_then ?_
        refine gw_ret ?_
        refine nx_ret1 rfl rfl fun wx hm => ?_
        exact ⟨rfl, law_end hg1 hsb (grow_trans hm_w2.g (grow_weak hm.g))⟩

end Go.Proofs.YtmpomocahgcebaaDoor
