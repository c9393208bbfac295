/- Busy and Free. -/
import Derived.Test.YtcggbojhalbkjaaGreatDoorBw
namespace Go.Proofs.YtcggbojhalbkjaaGreatDoor
open Go.RowKit

def TimOk (T : List (Int × Int)) : Prop := ∀ t ∈ T, 0 ≤ t.1 ∧ t.1 < t.2 ∧ t.2 ≤ 5761439
def BkTim (l : List Bk) : Prop := ∀ b ∈ l, 0 ≤ b.fr ∧ b.fr < b.to_ ∧ b.to_ ≤ 5761439
theorem form_tim {l : List Bk} (h : formE l = 0) : BkTim l := fun b hb => by
  unfold formE at h
  split at h
  · cases h
  · obtain ⟨q, hq⟩ := scanE_all h b hb
    have := bookE_ok hq
    exact ⟨this.1, this.2.1, this.2.2.1⟩
theorem timT_ok {l : List Bk} (h : BkTim l) (k : ByteArray) : TimOk (timT k l) := fun t ht => by
  obtain ⟨b, hb, _, rfl⟩ := timT_mem.1 ht
  exact h b hb
def busyT (T : List (Int × Int)) (a b : Int) : Int × Int := busyF (onT T) (sortI (a :: frsM a b T))
theorem busyF_stp {f : Int → Nat} {S : List Int} {k : Nat} {x : Int} (h : S[k]? = some x) (hc : (busyF f (S.take k)).1 < (f x : Int)) : (busyF f (S.take (k + 1))).1 = (f x : Int) ∧ (busyF f (S.take (k + 1))).2 = x := by
  rw [busyF_take h]; unfold busyS; rw [if_pos hc]; exact ⟨rfl, rfl⟩
theorem busyF_sty {f : Int → Nat} {S : List Int} {k : Nat} {x : Int} (h : S[k]? = some x) (hc : ¬ (busyF f (S.take k)).1 < (f x : Int)) : busyF f (S.take (k + 1)) = busyF f (S.take k) := by
  rw [busyF_take h]; unfold busyS; rw [if_neg hc]
theorem refF_stp {f : Int → Nat} {S : List Int} {k : Nat} {x : Int} (h : S[k]? = some x) (hc : (refF f (S.take k)).1 < (f x : Int) ∨ ((f x : Int) = (refF f (S.take k)).1 ∧ 0 < (f x : Int) ∧ x < (refF f (S.take k)).2)) : (refF f (S.take (k + 1))).1 = (f x : Int) ∧ (refF f (S.take (k + 1))).2 = x := by
  rw [refF_take h]; unfold refS; rw [if_pos hc]; exact ⟨rfl, rfl⟩
theorem refF_sty {f : Int → Nat} {S : List Int} {k : Nat} {x : Int} (h : S[k]? = some x) (hc : ¬ ((refF f (S.take k)).1 < (f x : Int) ∨ ((f x : Int) = (refF f (S.take k)).1 ∧ 0 < (f x : Int) ∧ x < (refF f (S.take k)).2))) : refF f (S.take (k + 1)) = refF f (S.take k) := by
  rw [refF_take h]; unfold refS; rw [if_neg hc]
theorem maxF_app (f : Int → Nat) (n : Int) (a b : List Int) : maxF f n (a ++ b) = maxF f (maxF f n a) b := by unfold maxF; rw [List.foldl_append]

set_option maxRecDepth 100000 in
set_option maxHeartbeats 1000000 in
theorem timesOf_any (l : List Bk) (A : Option Addr) (n c : Nat) (q : ByteArray) (w : World) (hl : SlT bkEnc 6 142 w A n l) (_hok : ∀ x ∈ l, BkOk x) (hn : n ≤ 1000) :
    Calls Tryz.prog 88 #[.slice A n c, .string q] w (fun e w' => ∃ A4 k c4, e = .returned (.slice A4 k c4) ∧ w'.ownsRow w.heap.size 35 2 (.slice A4 k c4) k ((timT q l).flatMap wEnc) ∧ (timT q l).length = k ∧ w.grownBy w' none) := by
  refine gw_enter ⟨25, w, none, []⟩ Tryz.func88 rfl Tryz.ntmps88 rfl (mem0 (X := [SlOld bkEnc 6 142 w.heap.size none A n l]) (allF_cons hl.old allF_nil) (allL_cons SlOld.lasts allL_nil)) ?_
  refine gw_seq ?_
  refine gw_region ?_
  have hlen := hl.len
  refine wl_nilOwn 35 2 ?_
  refine wl_ov (ov_assign rfl) rfl ?_
  refine wl_nil ?_
  refine nx_then ?_
  refine gw_seq ?_
  refine gw_region ?_
  refine wl_ov (ov_assign rfl) rfl ?_
  refine wl_nil ?_
  refine nx_then ?_
  refine gw_seq ?_
  refine gw_seq ?_
  refine gw_region ?_
  refine wl_ov (ov_move rfl) rfl ?_
  refine wl_ov (ov_len es52 rfl) rfl ?_
  refine wl_ov (ov_move rfl) rfl ?_
  refine wl_nil ?_
  refine nx_then ?_
  refine gw_block ?_
  refine gw_loop (γ := Nat × Nat × Value × List Value) (fun (g : Nat × Nat × Value × List Value) => g.1 ≤ n ∧ (timT q (l.take g.1)).length = g.2.1 ∧ g.2.1 ≤ g.1 ∧ g.2.2.2 = (timT q (l.take g.1)).flatMap wEnc) (fun (g : Nat × Nat × Value × List Value) => [(1, .string q), (4, .slice none 0 0), (5, g.2.2.1), (8, .slice A n c), (9, .int .i64 ((n : Nat) : Int)), (10, .int .i64 ((g.1 : Nat) : Int))]) (fun (g : Nat × Nat × Value × List Value) => fun _ => True) (fun (g : Nat × Nat × Value × List Value) => []) (fun (g : Nat × Nat × Value × List Value) => [⟨g.2.2.1, 35, 2, g.2.1, g.2.2.2⟩]) (fun (g : Nat × Nat × Value × List Value) => [SlOld bkEnc 6 142 w.heap.size none A n l]) (fun (g : Nat × Nat × Value × List Value) => n - g.1) (0, 0, .slice none 0 0, []) ⟨Nat.zero_le _, by simp [timT], Nat.le_refl _, by simp [timT]⟩ ⟨rfl, rfl, rfl, rfl, rfl, rfl, trivial⟩ (fun _ hm => hm.pick [] [0] [0] rfl rfl) ?_
  rintro ⟨i, k, v, xs⟩ hinv
  replace hinv : i ≤ n ∧ (timT q (l.take i)).length = k ∧ k ≤ i ∧ xs = (timT q (l.take i)).flatMap wEnc := hinv
  dsimp only
  refine gw_seq ?_
  refine gw_region ?_
  obtain ⟨hi0, hk, hki, rfl⟩ := hinv
  refine wl_ov (ov_lss rfl rfl) rfl ?_
  refine wl_nil ?_
  refine nx_then ?_
  refine gw_seq ?_
  refine gw_cond rfl (fun hh => ?_) (fun hh => ?_)
  · have hi : ((i : Nat) : Int) < ((n : Nat) : Int) := by simpa using hh
    clear hh
    refine gw_skip ?_
    refine nx_then ?_
    refine gw_seq ?_
    refine gw_block ?_
    refine gw_seq ?_
    refine gw_region ?_
    obtain ⟨b, off, hA, _, _⟩ := hl.get (by omega)
    subst hA
    obtain ⟨x, hx⟩ : ∃ x, l[i]? = some x := ⟨_, List.getElem?_eq_getElem (by omega)⟩
    obtain ⟨ke, cl, fr, tt, md, od⟩ := x
    have ht := timT_take (k := q) hx
    refine wl_ov (ov_index (j := i) es52 rfl rfl (by omega)) rfl ?_
    refine wl_ov (ov_elem (vs := [.string ke, .string cl, .int .i64 fr, .int .i64 tt, .int .i64 md, .int .i64 od]) rz142 rfl (fun _ hm => (hm.fact 0 rfl).1) hx rfl rfl) rfl ?_
    refine wl_alloc zc142 rfl fun g1 => ?_
    refine wl_stores (cs' := [.string ke, .string cl, .int .i64 fr, .int .i64 tt, .int .i64 md, .int .i64 od]) 0 rz142 rfl rfl rfl rfl rfl rfl rfl rfl ?_
    refine wl_nil ?_
    refine nx_then ?_
    refine gw_seq ?_
    refine gw_region ?_
    refine wl_ov (ov_field fo142_1 rfl rfl) rfl ?_
    refine wl_ov (ov_load sc9 rfl (fun _ hm => hm.blkI 0 rfl) rfl) rfl ?_
    refine wl_ov (ov_move rfl) rfl ?_
    refine wl_ov (ov_seql rfl rfl) rfl ?_
    refine wl_nil ?_
    refine nx_then ?_
    refine gw_cond rfl (fun hh => ?_) (fun hh => ?_)
    · have hq : (cl.toList == q.toList) = true := by simpa using hh
      clear hh
      refine gw_region ?_
      rw [if_pos hq] at ht
      refine wl_ov (ov_move rfl) rfl ?_
      refine wl_ov (ov_field fo142_2 rfl rfl) rfl ?_
      refine wl_ov (ov_loads rz35 rfl (fun _ hm => hm.blkI 0 rfl) rfl rfl) rfl ?_
      refine wl_buildSlice (e := 35) (cs := [.int .i64 fr, .int .i64 tt]) rfl (by kernel_rfl) rfl fun g2 => ?_
      refine wl_append (news := [.int .i64 fr, .int .i64 tt]) 0 0 ap129 rfl rfl rfl rfl rfl rfl rfl (by omega) (by unfold maxLen; omega) rfl rfl fun v2 hv2 => ?_
      refine wl_ov (ov_assign rfl) rfl ?_
      refine wl_nil ?_
      refine nx_blk_nrm ?_
      refine nx_then ?_
      refine gw_region ?_
      refine wl_ov (ov_add rfl rfl (by omega) (by omega)) rfl ?_
      refine wl_ov (ov_move rfl) rfl ?_
      refine wl_nil ?_
      exact nx_round (i + 1, k + 1, v2, (timT q (l.take i)).flatMap wEnc ++ ([.int .i64 fr, .int .i64 tt] : List Value)) ⟨by dsimp only; omega, by rw [ht]; simp [hk], by dsimp only; omega, by rw [ht]; simp [wEnc]⟩ (by dsimp only; omega) ⟨rfl, rfl, rfl, rfl, rfl, (some_int (by omega)), trivial⟩ (fun _ hm => hm.pick [] [0] [0] rfl rfl)
    · have hq : (cl.toList == q.toList) = false := by simpa using hh
      clear hh
      refine gw_skip ?_
      refine nx_blk_nrm ?_
      refine nx_then ?_
      refine gw_region ?_
      rw [if_neg (by rw [hq]; decide), List.append_nil] at ht
      refine wl_ov (ov_add rfl rfl (by omega) (by omega)) rfl ?_
      refine wl_ov (ov_move rfl) rfl ?_
      refine wl_nil ?_
      exact nx_round (i + 1, k, v, (timT q (l.take i)).flatMap wEnc) ⟨by dsimp only; omega, by rw [ht]; exact hk, by dsimp only; omega, by rw [ht]⟩ (by dsimp only; omega) ⟨rfl, rfl, rfl, rfl, rfl, (some_int (by omega)), trivial⟩ (fun _ hm => hm.pick [] [0] [0] rfl rfl)
  · have hi : ¬ (((i : Nat) : Int) < ((n : Nat) : Int)) := by simpa using hh
    clear hh
    refine gw_exit ?_
    refine nx_then_exit ?_
    refine nx_then_exit ?_
    refine nx_blk_here ?_
    refine nx_then ?_
    refine gw_seq ?_
    refine gw_region ?_
    refine wl_look (R := ∃ A cc, v = .slice A k cc) (fun wx hm => own_slice (hm.ownI 0 rfl)) ?_
    rintro ⟨A4, c4, rfl⟩
    refine wl_ov (ov_move rfl) rfl ?_
    refine wl_ov (ov_assign rfl) rfl ?_
    refine wl_nil ?_
    refine nx_then ?_
    refine gw_ret ?_
    have hall : l.take i = l := List.take_of_length_le (by omega)
    rw [hall] at hk ⊢
    refine nx_ret1 rfl rfl fun wx hm => ?_
    exact ⟨A4, k, c4, rfl, hm.ownI 0 rfl, hk, hm.g⟩

set_option maxRecDepth 100000 in
set_option maxHeartbeats 2000000 in
theorem busiest_any (T : List (Int × Int)) (A : Option Addr) (n c : Nat) (a b : Int) (w : World) (ht : SlT wEnc 2 35 w A n T) (hT : TimOk T) (hn : n ≤ 1000) (hb : 0 ≤ b ∧ b ≤ 5761440) :
    Calls Tryz.prog 87 #[.slice A n c, .agg #[.int .i64 a, .int .i64 b]] w (fun e w' => e = .returned (.tuple #[.int .i64 (busyT T a b).1, .int .i64 (busyT T a b).2]) ∧ w.grownBy w' none) := by
  refine gw_enter ⟨71, w, none, []⟩ Tryz.func87 rfl Tryz.ntmps87 rfl (mem0 (X := [SlOld wEnc 2 35 w.heap.size none A n T]) (allF_cons ht.old allF_nil) (allL_cons SlOld.lasts allL_nil)) ?_
  refine gw_seq ?_
  refine gw_region ?_
  have hlen := ht.len
  refine wl_box rfl rfl rfl fun g1 => ?_
  refine wl_ov (ov_assign rfl) rfl ?_
  refine wl_ov (ov_assign rfl) rfl ?_
  refine wl_nil ?_
  refine nx_then ?_
  refine gw_seq ?_
  refine gw_region ?_
  refine wl_ov (ov_field fo35_0 rfl rfl) rfl ?_
  refine wl_ov (ov_load sc3 rfl (fun _ hm => hm.blkI 0 rfl) rfl) rfl ?_
  refine wl_buildSlice (e := 3) (cs := [.int .i64 a]) rfl (by kernel_rfl) rfl fun g2 => ?_
  refine wl_ov (ov_assign rfl) rfl ?_
  refine wl_nil ?_
  refine nx_then ?_
  refine gw_seq ?_
  refine gw_seq ?_
  refine gw_region ?_
  refine wl_ov (ov_move rfl) rfl ?_
  refine wl_ov (ov_len es129 rfl) rfl ?_
  refine wl_ov (ov_move rfl) rfl ?_
  refine wl_nil ?_
  refine nx_then ?_
  refine gw_block ?_
  refine gw_toOwn (sz := 1) (n := 1) 0 [1] rfl rfl rfl (by unfold maxLen; omega) ?_
  refine gw_loop (γ := Nat × Nat × Value × List Value) (fun (g : Nat × Nat × Value × List Value) => g.1 ≤ n ∧ (frsM a b (T.take g.1)).length = g.2.1 ∧ g.2.1 ≤ g.1 ∧ g.2.2.2 = (a :: frsM a b (T.take g.1)).flatMap iEnc) (fun (g : Nat × Nat × Value × List Value) => [(0, .slice A n c), (3, .pointer (some ⟨g1, 0, none⟩)), (4, .int .i64 0), (5, .int .i64 0), (6, g.2.2.1), (19, .slice A n c), (20, .int .i64 ((n : Nat) : Int)), (21, .int .i64 ((g.1 : Nat) : Int))]) (fun (g : Nat × Nat × Value × List Value) => fun _ => True) (fun (g : Nat × Nat × Value × List Value) => [(g1, 35, [.int .i64 a, .int .i64 b])]) (fun (g : Nat × Nat × Value × List Value) => [⟨g.2.2.1, 3, 1, (g.2.1 + 1), g.2.2.2⟩]) (fun (g : Nat × Nat × Value × List Value) => [SlOld wEnc 2 35 w.heap.size none A n T]) (fun (g : Nat × Nat × Value × List Value) => n - g.1) (0, 0, .slice (some ⟨g2, 0, none⟩) 1 1, [.int .i64 a]) ⟨Nat.zero_le _, by simp [frsM], Nat.le_refl _, by simp [frsM, iEnc]⟩ ⟨rfl, rfl, rfl, rfl, rfl, rfl, rfl, rfl, trivial⟩ (fun _ hm => hm.pick [0] [0] [0] rfl rfl) ?_
  rintro ⟨i, k, v, xs⟩ hinv
  replace hinv : i ≤ n ∧ (frsM a b (T.take i)).length = k ∧ k ≤ i ∧ xs = (a :: frsM a b (T.take i)).flatMap iEnc := hinv
  dsimp only
  refine gw_seq ?_
  refine gw_region ?_
  obtain ⟨hi0, hk, hki, rfl⟩ := hinv
  refine wl_ov (ov_lss rfl rfl) rfl ?_
  refine wl_nil ?_
  refine nx_then ?_
  refine gw_seq ?_
  refine gw_cond rfl (fun hh => ?_) (fun hh => ?_)
  · have hi : ((i : Nat) : Int) < ((n : Nat) : Int) := by simpa using hh
    clear hh
    refine gw_skip ?_
    refine nx_then ?_
    refine gw_seq ?_
    refine gw_block ?_
    refine gw_seq ?_
    refine gw_region ?_
    obtain ⟨bt, off, hA, _, _⟩ := ht.get (by omega)
    subst hA
    obtain ⟨x, hx⟩ : ∃ x, T[i]? = some x := ⟨_, List.getElem?_eq_getElem (by omega)⟩
    obtain ⟨fr, tt⟩ := x
    obtain ⟨ht0, ht1, ht2⟩ := hT _ (List.mem_of_getElem? hx)
    dsimp only at ht0 ht1 ht2
    have hft := frsM_take (a := a) (b := b) hx
    refine wl_ov (ov_index (j := i) es129 rfl rfl (by omega)) rfl ?_
    refine wl_ov (ov_elem (vs := [.int .i64 fr, .int .i64 tt]) rz35 rfl (fun _ hm => (hm.fact 0 rfl).1) hx rfl rfl) rfl ?_
    refine wl_alloc zc35 rfl fun g3 => ?_
    refine wl_stores (cs' := [.int .i64 fr, .int .i64 tt]) 0 rz35 rfl rfl rfl rfl rfl rfl rfl rfl ?_
    refine wl_nil ?_
    refine nx_then ?_
    refine gw_seq ?_
    refine gw_region ?_
    refine wl_ov (ov_field fo35_0 rfl rfl) rfl ?_
    refine wl_ov (ov_load sc3 rfl (fun _ hm => hm.blkI 0 rfl) rfl) rfl ?_
    refine wl_ov (ov_field fo35_0 rfl rfl) rfl ?_
    refine wl_ov (ov_load sc3 rfl (fun _ hm => hm.blkI 1 rfl) rfl) rfl ?_
    refine wl_ov (ov_field fo35_1 rfl rfl) rfl ?_
    refine wl_ov (ov_load sc3 rfl (fun _ hm => hm.blkI 1 rfl) rfl) rfl ?_
    refine wl_ov (ov_sub rfl rfl (by omega) (by omega)) rfl ?_
    refine wl_callw rfl cb95 rfl rfl (fun wx hm => (in_any _ _ _ wx)) ?_
    refine wl_nil ?_
    refine nx_then ?_
    refine gw_cond rfl (fun hh => ?_) (fun hh => ?_)
    · have hq : (inB fr a (b - 1)) = true := by simpa using hh
      clear hh
      refine gw_region ?_
      rw [if_pos hq] at hft
      refine wl_ov (ov_move rfl) rfl ?_
      refine wl_ov (ov_field fo35_0 rfl rfl) rfl ?_
      refine wl_ov (ov_load sc3 rfl (fun _ hm => hm.blkI 0 rfl) rfl) rfl ?_
      refine wl_buildSlice (e := 3) (cs := [.int .i64 fr]) rfl (by kernel_rfl) rfl fun g4 => ?_
      refine wl_append (news := [.int .i64 fr]) 0 0 ap22 rfl rfl rfl rfl rfl rfl rfl (by omega) (by unfold maxLen; omega) rfl rfl fun v2 hv2 => ?_
      refine wl_ov (ov_assign rfl) rfl ?_
      refine wl_nil ?_
      refine nx_blk_nrm ?_
      refine nx_then ?_
      refine gw_region ?_
      refine wl_ov (ov_add rfl rfl (by omega) (by omega)) rfl ?_
      refine wl_ov (ov_move rfl) rfl ?_
      refine wl_nil ?_
      exact nx_round (i + 1, k + 1, v2, (a :: frsM a b (T.take i)).flatMap iEnc ++ ([.int .i64 fr] : List Value)) ⟨by dsimp only; omega, by rw [hft]; simp [hk], by dsimp only; omega, by rw [hft]; simp [iEnc]⟩ (by dsimp only; omega) ⟨rfl, rfl, rfl, rfl, rfl, rfl, rfl, (some_int (by omega)), trivial⟩ (fun _ hm => hm.pick [2] [0] [0] rfl rfl)
    · have hq : (inB fr a (b - 1)) = false := by simpa using hh
      clear hh
      refine gw_skip ?_
      refine nx_blk_nrm ?_
      refine nx_then ?_
      refine gw_region ?_
      rw [if_neg (by rw [hq]; decide), List.append_nil] at hft
      refine wl_ov (ov_add rfl rfl (by omega) (by omega)) rfl ?_
      refine wl_ov (ov_move rfl) rfl ?_
      refine wl_nil ?_
      exact nx_round (i + 1, k, v, (a :: frsM a b (T.take i)).flatMap iEnc) ⟨by dsimp only; omega, by rw [hft]; exact hk, by dsimp only; omega, by rw [hft]⟩ (by dsimp only; omega) ⟨rfl, rfl, rfl, rfl, rfl, rfl, rfl, (some_int (by omega)), trivial⟩ (fun _ hm => hm.pick [1] [0] [0] rfl rfl)
  · have hi : ¬ (((i : Nat) : Int) < ((n : Nat) : Int)) := by simpa using hh
    clear hh
    refine gw_exit ?_
    refine nx_then_exit ?_
    refine nx_then_exit ?_
    refine nx_blk_here ?_
    refine nx_then ?_
    refine gw_seq ?_
    refine gw_region ?_
    have hall : T.take i = T := List.take_of_length_le (by omega)
    rw [hall] at hk ⊢
    obtain ⟨S, hS⟩ : ∃ S, S = sortI (a :: frsM a b T) := ⟨_, rfl⟩
    have hSl : S.length = k + 1 := by rw [hS, sortI_len, List.length_cons, hk]
    have hgoal : busyT T a b = busyF (onT T) S := by unfold busyT; rw [hS]
    rw [hgoal]
    refine wl_look (R := ∃ A cc, v = .slice A (k + 1) cc) (fun wx hm => own_slice (hm.ownI 0 rfl)) ?_
    rintro ⟨A3, c3, rfl⟩
    refine wl_look (R := ∃ g, A3 = some ⟨g, 0, none⟩) (fun wx hm => own_addr (hm.ownI 0 rfl) (by omega)) ?_
    rintro ⟨g3, rfl⟩
    refine wl_ov (ov_move rfl) rfl ?_
    refine wl_callr (v := .tuple #[]) (xs' := S.flatMap iEnc) 0 rfl rfl rfl cb158 rfl rfl (fun wx hm => (by have h := sort_own (a :: frsM a b T) g3 (k + 1) c3 _ wx (hm.ownI 0 rfl) (by simp [hk]) (by omega); rw [← hS] at h; exact h)) ?_
    refine wl_nil ?_
    refine nx_then ?_
    refine gw_seq ?_
    refine gw_region ?_
    refine wl_ov (ov_assign rfl) rfl ?_
    refine wl_set 9 (v' := .int .i64 (-1)) rfl rfl ?_
    refine wl_ov (ov_assign rfl) rfl ?_
    refine wl_nil ?_
    refine nx_then ?_
    refine gw_seq ?_
    refine gw_seq ?_
    refine gw_region ?_
    refine wl_ov (ov_move rfl) rfl ?_
    refine wl_ov (ov_len es22 rfl) rfl ?_
    refine wl_ov (ov_move rfl) rfl ?_
    refine wl_nil ?_
    refine nx_then ?_
    refine gw_block ?_
    refine gw_loop (γ := Nat) (fun (j : Nat) => j ≤ k + 1) (fun (j : Nat) => [(0, .slice A n c), (4, .int .i64 0), (5, .int .i64 0), (9, .int .i64 ((busyF (onT T) (S.take j)).1)), (10, .int .i64 ((busyF (onT T) (S.take j)).2)), (41, .slice (some ⟨g3, 0, none⟩) (k + 1) c3), (42, .int .i64 (((k + 1) : Nat) : Int)), (43, .int .i64 ((j : Nat) : Int))]) (fun (j : Nat) => fun _ => True) (fun (j : Nat) => [(g1, 35, [.int .i64 a, .int .i64 b])]) (fun (j : Nat) => [⟨.slice (some ⟨g3, 0, none⟩) (k + 1) c3, 3, 1, (k + 1), S.flatMap iEnc⟩]) (fun (j : Nat) => [SlOld wEnc 2 35 w.heap.size none A n T]) (fun (j : Nat) => k + 1 - j) 0 (Nat.zero_le _) ⟨rfl, rfl, rfl, (some_int (by rw [List.take_zero]; rfl)), (some_int (by rw [List.take_zero]; rfl)), rfl, rfl, rfl, trivial⟩ (fun _ hm => hm.pick [0] [0] [0] rfl rfl) ?_
    intro j hinv
    replace hinv : j ≤ k + 1 := hinv
    refine gw_seq ?_
    refine gw_region ?_
    refine wl_ov (ov_lss rfl rfl) rfl ?_
    refine wl_nil ?_
    refine nx_then ?_
    refine gw_seq ?_
    refine gw_cond rfl (fun hh => ?_) (fun hh => ?_)
    · have hj : ((j : Nat) : Int) < (((k + 1) : Nat) : Int) := by simpa using hh
      clear hh
      refine gw_skip ?_
      refine nx_then ?_
      refine gw_seq ?_
      refine gw_block ?_
      refine gw_seq ?_
      refine gw_region ?_
      obtain ⟨x, hxS⟩ : ∃ x, S[j]? = some x := ⟨_, List.getElem?_eq_getElem (by omega)⟩
      refine wl_ov (ov_index (j := j) es22 rfl rfl (by omega)) rfl ?_
      refine wl_ov (ov_elem1 (k := 0) (v := .int .i64 x) sc3 rfl (fun _ hm => (SlT.ofOwn i_len (hm.ownI 0 rfl) hSl)) hxS rfl rfl) rfl ?_
      refine wl_ov (ov_assign rfl) rfl ?_
      refine wl_nil ?_
      refine nx_then ?_
      refine gw_seq ?_
      refine gw_region ?_
      refine wl_ov (ov_assign rfl) rfl ?_
      refine wl_nil ?_
      refine nx_then ?_
      refine gw_seq ?_
      refine gw_seq ?_
      refine gw_region ?_
      refine wl_ov (ov_move rfl) rfl ?_
      refine wl_ov (ov_len es129 rfl) rfl ?_
      refine wl_ov (ov_move rfl) rfl ?_
      refine wl_nil ?_
      refine nx_then ?_
      refine gw_block ?_
      refine gw_loop (γ := Nat) (fun (i : Nat) => i ≤ n) (fun (i : Nat) => [(0, .slice A n c), (4, .int .i64 0), (5, .int .i64 0), (9, .int .i64 ((busyF (onT T) (S.take j)).1)), (10, .int .i64 ((busyF (onT T) (S.take j)).2)), (12, .int .i64 x), (13, .int .i64 ((onT (T.take i) x : Nat) : Int)), (41, .slice (some ⟨g3, 0, none⟩) (k + 1) c3), (42, .int .i64 (((k + 1) : Nat) : Int)), (43, .int .i64 ((j : Nat) : Int)), (47, .slice A n c), (48, .int .i64 ((n : Nat) : Int)), (49, .int .i64 ((i : Nat) : Int))]) (fun (i : Nat) => fun _ => True) (fun (i : Nat) => [(g1, 35, [.int .i64 a, .int .i64 b])]) (fun (i : Nat) => [⟨.slice (some ⟨g3, 0, none⟩) (k + 1) c3, 3, 1, (k + 1), S.flatMap iEnc⟩]) (fun (i : Nat) => [SlOld wEnc 2 35 w.heap.size none A n T]) (fun (i : Nat) => n - i) 0 (Nat.zero_le _) ⟨rfl, rfl, rfl, rfl, rfl, rfl, (some_int (by rw [List.take_zero]; rfl)), rfl, rfl, rfl, rfl, rfl, rfl, trivial⟩ (fun _ hm => hm.pick [0] [0] [0] rfl rfl) ?_
      intro i hinv
      replace hinv : i ≤ n := hinv
      refine gw_seq ?_
      refine gw_region ?_
      refine wl_ov (ov_lss rfl rfl) rfl ?_
      refine wl_nil ?_
      refine nx_then ?_
      refine gw_seq ?_
      refine gw_cond rfl (fun hh => ?_) (fun hh => ?_)
      · have hi3 : ((i : Nat) : Int) < ((n : Nat) : Int) := by simpa using hh
        clear hh
        refine gw_skip ?_
        refine nx_then ?_
        refine gw_seq ?_
        refine gw_block ?_
        refine gw_seq ?_
        refine gw_region ?_
        obtain ⟨bt, off, hA, _, _⟩ := ht.get (by omega)
        subst hA
        obtain ⟨x3, hx3⟩ : ∃ x, T[i]? = some x := ⟨_, List.getElem?_eq_getElem (by omega)⟩
        obtain ⟨fr, tt⟩ := x3
        obtain ⟨ht0, ht1, ht2⟩ := hT _ (List.mem_of_getElem? hx3)
        dsimp only at ht0 ht1 ht2
        have hon := onT_take (x := x) hx3
        have hob := onT_le (T.take i) x
        have hobl : (T.take i).length ≤ n := by rw [List.length_take]; omega
        refine wl_ov (ov_index (j := i) es129 rfl rfl (by omega)) rfl ?_
        refine wl_ov (ov_elem (vs := [.int .i64 fr, .int .i64 tt]) rz35 rfl (fun _ hm => (hm.fact 0 rfl).1) hx3 rfl rfl) rfl ?_
        refine wl_alloc zc35 rfl fun g5 => ?_
        refine wl_stores (cs' := [.int .i64 fr, .int .i64 tt]) 0 rz35 rfl rfl rfl rfl rfl rfl rfl rfl ?_
        refine wl_nil ?_
        refine nx_then ?_
        refine gw_seq ?_
        refine gw_region ?_
        refine wl_ov (ov_move rfl) rfl ?_
        refine wl_ov (ov_field fo35_0 rfl rfl) rfl ?_
        refine wl_ov (ov_load sc3 rfl (fun _ hm => hm.blkI 0 rfl) rfl) rfl ?_
        refine wl_ov (ov_field fo35_1 rfl rfl) rfl ?_
        refine wl_ov (ov_load sc3 rfl (fun _ hm => hm.blkI 0 rfl) rfl) rfl ?_
        refine wl_ov (ov_sub rfl rfl (by omega) (by omega)) rfl ?_
        refine wl_callw rfl cb95 rfl rfl (fun wx hm => (in_any _ _ _ wx)) ?_
        refine wl_nil ?_
        refine nx_then ?_
        refine gw_cond rfl (fun hh => ?_) (fun hh => ?_)
        · have hq : (inB x fr (tt - 1)) = true := by simpa using hh
          clear hh
          refine gw_region ?_
          rw [if_pos hq] at hon
          refine wl_ov (ov_move rfl) rfl ?_
          refine wl_ov (ov_add rfl rfl (by omega) (by omega)) rfl ?_
          refine wl_ov (ov_assign rfl) rfl ?_
          refine wl_nil ?_
          refine nx_blk_nrm ?_
          refine nx_then ?_
          refine gw_region ?_
          refine wl_ov (ov_add rfl rfl (by omega) (by omega)) rfl ?_
          refine wl_ov (ov_move rfl) rfl ?_
          refine wl_nil ?_
          exact nx_round (i + 1) (by omega) (by omega) ⟨rfl, rfl, rfl, rfl, rfl, rfl, (some_int (by rw [hon]; omega)), rfl, rfl, rfl, rfl, rfl, (some_int (by omega)), trivial⟩ (fun _ hm => hm.pick [1] [0] [0] rfl rfl)
        · have hq : (inB x fr (tt - 1)) = false := by simpa using hh
          clear hh
          refine gw_skip ?_
          refine nx_blk_nrm ?_
          refine nx_then ?_
          refine gw_region ?_
          rw [if_neg (by rw [hq]; decide)] at hon
          refine wl_ov (ov_add rfl rfl (by omega) (by omega)) rfl ?_
          refine wl_ov (ov_move rfl) rfl ?_
          refine wl_nil ?_
          exact nx_round (i + 1) (by omega) (by omega) ⟨rfl, rfl, rfl, rfl, rfl, rfl, (some_int (by rw [hon]; omega)), rfl, rfl, rfl, rfl, rfl, (some_int (by omega)), trivial⟩ (fun _ hm => hm.pick [1] [0] [0] rfl rfl)
      · have hi3 : ¬ (((i : Nat) : Int) < ((n : Nat) : Int)) := by simpa using hh
        clear hh
        refine gw_exit ?_
        refine nx_then_exit ?_
        refine nx_then_exit ?_
        refine nx_blk_here ?_
        refine nx_then ?_
        refine gw_seq ?_
        refine gw_region ?_
        have hall3 : T.take i = T := List.take_of_length_le (by omega)
        rw [hall3]
        refine wl_ov (ov_move rfl) rfl ?_
        refine wl_ov (ov_move rfl) rfl ?_
        refine wl_ov (ov_gtr rfl rfl) rfl ?_
        refine wl_nil ?_
        refine nx_then ?_
        refine gw_cond rfl (fun hh => ?_) (fun hh => ?_)
        · have hc : (busyF (onT T) (S.take j)).1 < ((onT T x : Nat) : Int) := by simpa using hh
          clear hh
          refine gw_region ?_
          have hst := busyF_stp (f := onT T) hxS hc
          refine wl_ov (ov_move rfl) rfl ?_
          refine wl_ov (ov_move rfl) rfl ?_
          refine wl_ov (ov_assign rfl) rfl ?_
          refine wl_ov (ov_assign rfl) rfl ?_
          refine wl_nil ?_
          refine nx_blk_nrm ?_
          refine nx_then ?_
          refine gw_region ?_
          refine wl_ov (ov_add rfl rfl (by omega) (by omega)) rfl ?_
          refine wl_ov (ov_move rfl) rfl ?_
          refine wl_nil ?_
          exact nx_round (j + 1) (by omega) (by omega) ⟨rfl, rfl, rfl, (some_int hst.1.symm), (some_int hst.2.symm), rfl, rfl, (some_int (by omega)), trivial⟩ (fun _ hm => hm.pick [0] [0] [0] rfl rfl)
        · have hc : ¬ ((busyF (onT T) (S.take j)).1 < ((onT T x : Nat) : Int)) := by simpa using hh
          clear hh
          refine gw_skip ?_
          refine nx_blk_nrm ?_
          refine nx_then ?_
          refine gw_region ?_
          have hst := busyF_sty (f := onT T) hxS hc
          refine wl_ov (ov_add rfl rfl (by omega) (by omega)) rfl ?_
          refine wl_ov (ov_move rfl) rfl ?_
          refine wl_nil ?_
          exact nx_round (j + 1) (by omega) (by omega) ⟨rfl, rfl, rfl, (some_int (by rw [hst])), (some_int (by rw [hst])), rfl, rfl, (some_int (by omega)), trivial⟩ (fun _ hm => hm.pick [0] [0] [0] rfl rfl)
    · have hj : ¬ (((j : Nat) : Int) < (((k + 1) : Nat) : Int)) := by simpa using hh
      clear hh
      refine gw_exit ?_
      refine nx_then_exit ?_
      refine nx_then_exit ?_
      refine nx_blk_here ?_
      refine nx_then ?_
      refine gw_seq ?_
      refine gw_region ?_
      refine wl_ov (ov_move rfl) rfl ?_
      refine wl_ov (ov_move rfl) rfl ?_
      refine wl_ov (ov_assign rfl) rfl ?_
      refine wl_ov (ov_assign rfl) rfl ?_
      refine wl_nil ?_
      refine nx_then ?_
      refine gw_ret ?_
      have hall2 : S.take j = S := List.take_of_length_le (by omega)
      refine nx_ret2 rfl rfl rfl fun wx hm => ?_
      exact ⟨by rw [hall2], hm.g⟩

set_option maxRecDepth 100000 in
set_option maxHeartbeats 1000000 in
theorem onAt_any (l : List Bk) (A : Option Addr) (n c : Nat) (q : ByteArray) (x : Int) (w : World) (hl : SlT bkEnc 6 142 w A n l) (_hok : ∀ x ∈ l, BkOk x) (hn : n ≤ 1000) (htm : BkTim l) :
    Calls Tryz.prog 96 #[.slice A n c, .string q, .int .i64 x] w (GotE w ((onT (timT q l) x : Nat) : Int)) := by
  refine gw_enter ⟨35, w, none, []⟩ Tryz.func96 rfl Tryz.ntmps96 rfl (mem0 (X := [SlOld bkEnc 6 142 w.heap.size none A n l]) (allF_cons hl.old allF_nil) (allL_cons SlOld.lasts allL_nil)) ?_
  refine gw_seq ?_
  refine gw_region ?_
  have hlen := hl.len
  refine wl_ov (ov_assign rfl) rfl ?_
  refine wl_nil ?_
  refine nx_then ?_
  refine gw_seq ?_
  refine gw_region ?_
  refine wl_ov (ov_assign rfl) rfl ?_
  refine wl_nil ?_
  refine nx_then ?_
  refine gw_seq ?_
  refine gw_seq ?_
  refine gw_region ?_
  refine wl_ov (ov_move rfl) rfl ?_
  refine wl_ov (ov_len es52 rfl) rfl ?_
  refine wl_ov (ov_move rfl) rfl ?_
  refine wl_nil ?_
  refine nx_then ?_
  refine gw_block ?_
  refine gw_loop (γ := Nat) (fun (i : Nat) => i ≤ n) (fun (i : Nat) => [(1, .string q), (2, .int .i64 x), (6, .int .i64 0), (7, .int .i64 ((onT (timT q (l.take i)) x : Nat) : Int)), (10, .slice A n c), (11, .int .i64 ((n : Nat) : Int)), (12, .int .i64 ((i : Nat) : Int))]) (fun (i : Nat) => fun _ => True) (fun (i : Nat) => []) (fun (i : Nat) => []) (fun (i : Nat) => [SlOld bkEnc 6 142 w.heap.size none A n l]) (fun (i : Nat) => n - i) 0 (Nat.zero_le _) ⟨rfl, rfl, rfl, (some_int (by rw [List.take_zero]; rfl)), rfl, rfl, rfl, trivial⟩ (fun _ hm => hm.pick [] [] [0] rfl rfl) ?_
  intro i hinv
  replace hinv : i ≤ n := hinv
  refine gw_seq ?_
  refine gw_region ?_
  refine wl_ov (ov_lss rfl rfl) rfl ?_
  refine wl_nil ?_
  refine nx_then ?_
  refine gw_seq ?_
  refine gw_cond rfl (fun hh => ?_) (fun hh => ?_)
  · have hi : ((i : Nat) : Int) < ((n : Nat) : Int) := by simpa using hh
    clear hh
    refine gw_skip ?_
    refine nx_then ?_
    refine gw_seq ?_
    refine gw_block ?_
    refine gw_seq ?_
    refine gw_region ?_
    obtain ⟨b, off, hA, _, _⟩ := hl.get (by omega)
    subst hA
    obtain ⟨x, hx⟩ : ∃ x, l[i]? = some x := ⟨_, List.getElem?_eq_getElem (by omega)⟩
    obtain ⟨ke, cl, fr, tt, md, od⟩ := x
    obtain ⟨ht0, ht1, ht2⟩ := htm _ (List.mem_of_getElem? hx)
    dsimp only at ht0 ht1 ht2
    have hon := onT_timT (k := q) (x := x) hx
    have hob := onT_le (timT q (l.take i)) x
    have hobl := timT_len q (l.take i)
    rw [List.length_take] at hobl
    refine wl_ov (ov_index (j := i) es52 rfl rfl (by omega)) rfl ?_
    refine wl_ov (ov_elem (vs := [.string ke, .string cl, .int .i64 fr, .int .i64 tt, .int .i64 md, .int .i64 od]) rz142 rfl (fun _ hm => (hm.fact 0 rfl).1) hx rfl rfl) rfl ?_
    refine wl_alloc zc142 rfl fun g1 => ?_
    refine wl_stores (cs' := [.string ke, .string cl, .int .i64 fr, .int .i64 tt, .int .i64 md, .int .i64 od]) 0 rz142 rfl rfl rfl rfl rfl rfl rfl rfl ?_
    refine wl_nil ?_
    refine nx_then ?_
    refine gw_seq ?_
    refine gw_region ?_
    refine wl_ov (ov_field fo142_1 rfl rfl) rfl ?_
    refine wl_ov (ov_load sc9 rfl (fun _ hm => hm.blkI 0 rfl) rfl) rfl ?_
    refine wl_ov (ov_move rfl) rfl ?_
    refine wl_ov (ov_seql rfl rfl) rfl ?_
    refine wl_ov (ov_move rfl) rfl ?_
    rcases Bool.eq_false_or_eq_true (cl.toList == q.toList) with hq | hq
    · refine wl_set 20 rfl (congrArg Value.bool hq) ?_
      refine wl_guard_on rfl rfl rfl ?_
      refine wl_ov (ov_move rfl) rfl ?_
      refine wl_guard_on rfl rfl rfl ?_
      refine wl_ov (ov_field fo142_2 rfl rfl) rfl ?_
      refine wl_guard_on rfl rfl rfl ?_
      refine wl_ov (ov_field fo35_0 rfl rfl) rfl ?_
      refine wl_guard_on rfl rfl rfl ?_
      refine wl_ov (ov_load sc3 rfl (fun _ hm => hm.blkI 0 rfl) rfl) rfl ?_
      refine wl_guard_on rfl rfl rfl ?_
      refine wl_ov (ov_field fo142_2 rfl rfl) rfl ?_
      refine wl_guard_on rfl rfl rfl ?_
      refine wl_ov (ov_field fo35_1 rfl rfl) rfl ?_
      refine wl_guard_on rfl rfl rfl ?_
      refine wl_ov (ov_load sc3 rfl (fun _ hm => hm.blkI 0 rfl) rfl) rfl ?_
      refine wl_guard_on rfl rfl rfl ?_
      refine wl_ov (ov_sub rfl rfl (by omega) (by omega)) rfl ?_
      refine wl_guard_on rfl rfl rfl ?_
      refine wl_callw rfl cb97 rfl rfl (fun wx hm => (rin_any _ _ _ wx)) ?_
      refine wl_ov (ov_pick_t rfl rfl) rfl ?_
      refine wl_nil ?_
      refine nx_then ?_
      refine gw_cond rfl (fun hh => ?_) (fun hh => ?_)
      · have hq2 : (inB x fr (tt - 1)) = true := by simpa using hh
        clear hh
        refine gw_region ?_
        refine wl_ov (ov_move rfl) rfl ?_
        refine wl_ov (ov_add rfl rfl (by omega) (by omega)) rfl ?_
        refine wl_ov (ov_assign rfl) rfl ?_
        refine wl_nil ?_
        refine nx_blk_nrm ?_
        refine nx_then ?_
        refine gw_region ?_
        refine wl_ov (ov_add rfl rfl (by omega) (by omega)) rfl ?_
        refine wl_ov (ov_move rfl) rfl ?_
        refine wl_nil ?_
        exact nx_round (i + 1) (by omega) (by omega) ⟨rfl, rfl, rfl, (some_int (by rw [hon, if_pos (by rw [hq, hq2]; rfl)]; omega)), rfl, rfl, (some_int (by omega)), trivial⟩ (fun _ hm => hm.pick [] [] [0] rfl rfl)
      · have hq2 : (inB x fr (tt - 1)) = false := by simpa using hh
        clear hh
        refine gw_skip ?_
        refine nx_blk_nrm ?_
        refine nx_then ?_
        refine gw_region ?_
        refine wl_ov (ov_add rfl rfl (by omega) (by omega)) rfl ?_
        refine wl_ov (ov_move rfl) rfl ?_
        refine wl_nil ?_
        exact nx_round (i + 1) (by omega) (by omega) ⟨rfl, rfl, rfl, (some_int (by rw [hon, if_neg (by rw [hq, hq2]; decide)]; omega)), rfl, rfl, (some_int (by omega)), trivial⟩ (fun _ hm => hm.pick [] [] [0] rfl rfl)
    · refine wl_set 20 rfl (congrArg Value.bool hq) ?_
      refine wl_guard_off rfl rfl rfl (by decide) rfl ?_
      refine wl_guard_off rfl rfl rfl (by decide) rfl ?_
      refine wl_guard_off rfl rfl rfl (by decide) rfl ?_
      refine wl_guard_off rfl rfl rfl (by decide) rfl ?_
      refine wl_guard_off rfl rfl rfl (by decide) rfl ?_
      refine wl_guard_off rfl rfl rfl (by decide) rfl ?_
      refine wl_guard_off rfl rfl rfl (by decide) rfl ?_
      refine wl_guard_off rfl rfl rfl (by decide) rfl ?_
      refine wl_guard_off rfl rfl rfl (by decide) rfl ?_
      refine wl_ov (ov_pick_f rfl rfl) rfl ?_
      refine wl_nil ?_
      refine nx_then ?_
      refine gw_cond rfl (fun hh => by cases hh) (fun _ => ?_)
      refine gw_skip ?_
      refine nx_blk_nrm ?_
      refine nx_then ?_
      refine gw_region ?_
      refine wl_ov (ov_add rfl rfl (by omega) (by omega)) rfl ?_
      refine wl_ov (ov_move rfl) rfl ?_
      refine wl_nil ?_
      exact nx_round (i + 1) (by omega) (by omega) ⟨rfl, rfl, rfl, (some_int (by rw [hon, if_neg (by rw [hq]; exact Bool.false_ne_true)]; omega)), rfl, rfl, (some_int (by omega)), trivial⟩ (fun _ hm => hm.pick [] [] [0] rfl rfl)
  · have hi : ¬ (((i : Nat) : Int) < ((n : Nat) : Int)) := by simpa using hh
    clear hh
    refine gw_exit ?_
    refine nx_then_exit ?_
    refine nx_then_exit ?_
    refine nx_blk_here ?_
    refine nx_then ?_
    refine gw_seq ?_
    refine gw_region ?_
    refine wl_ov (ov_move rfl) rfl ?_
    refine wl_ov (ov_assign rfl) rfl ?_
    refine wl_nil ?_
    refine nx_then ?_
    refine gw_ret ?_
    have hall : l.take i = l := List.take_of_length_le (by omega)
    refine nx_ret1 rfl rfl fun wx hm => ?_
    exact ⟨ret_int (by rw [hall]), hm.g⟩

set_option maxRecDepth 100000 in
set_option maxHeartbeats 1000000 in
theorem busyOf_any (l : List Bk) (A : Option Addr) (n c : Nat) (q : ByteArray) (w : World) (hl : SlT bkEnc 6 142 w A n l) (hok : ∀ x ∈ l, BkOk x) (hn : n ≤ 1000) (htm : BkTim l) :
    Calls Tryz.prog 26 #[.slice A n c, .string q] w (fun e w' => e = .returned (.tuple #[.int .i64 (refF (onT (timT q l)) (l.map Bk.fr)).1, .int .i64 (refF (onT (timT q l)) (l.map Bk.fr)).2]) ∧ w.grownBy w' none) := by
  refine gw_enter ⟨49, w, none, []⟩ Tryz.func26 rfl Tryz.ntmps26 rfl (mem0 (X := [SlOld bkEnc 6 142 w.heap.size none A n l]) (allF_cons hl.old allF_nil) (allL_cons SlOld.lasts allL_nil)) ?_
  refine gw_seq ?_
  refine gw_region ?_
  have hlen := hl.len
  obtain ⟨f, hf⟩ : ∃ f, f = onT (timT q l) := ⟨_, rfl⟩
  obtain ⟨M, hM⟩ : ∃ M, M = l.map Bk.fr := ⟨_, rfl⟩
  have hMl : M.length = n := by rw [hM, List.length_map, hlen]
  rw [← hf, ← hM]
  refine wl_ov (ov_assign rfl) rfl ?_
  refine wl_ov (ov_assign rfl) rfl ?_
  refine wl_nil ?_
  refine nx_then ?_
  refine gw_seq ?_
  refine gw_region ?_
  refine wl_ov (ov_assign rfl) rfl ?_
  refine wl_ov (ov_assign rfl) rfl ?_
  refine wl_nil ?_
  refine nx_then ?_
  refine gw_seq ?_
  refine gw_seq ?_
  refine gw_region ?_
  refine wl_ov (ov_move rfl) rfl ?_
  refine wl_ov (ov_len es52 rfl) rfl ?_
  refine wl_ov (ov_move rfl) rfl ?_
  refine wl_nil ?_
  refine nx_then ?_
  refine gw_block ?_
  refine gw_loop (γ := Nat) (fun (i : Nat) => i ≤ n) (fun (i : Nat) => [(0, .slice A n c), (1, .string q), (4, .int .i64 0), (5, .int .i64 0), (6, .int .i64 ((refF f (M.take i)).1)), (7, .int .i64 ((refF f (M.take i)).2)), (11, .slice A n c), (12, .int .i64 ((n : Nat) : Int)), (13, .int .i64 ((i : Nat) : Int))]) (fun (i : Nat) => fun _ => True) (fun (i : Nat) => []) (fun (i : Nat) => []) (fun (i : Nat) => [SlOld bkEnc 6 142 w.heap.size none A n l]) (fun (i : Nat) => n - i) 0 (Nat.zero_le _) ⟨rfl, rfl, rfl, rfl, (some_int (by rw [List.take_zero]; rfl)), (some_int (by rw [List.take_zero]; rfl)), rfl, rfl, rfl, trivial⟩ (fun _ hm => hm.pick [] [] [0] rfl rfl) ?_
  intro i hinv
  replace hinv : i ≤ n := hinv
  refine gw_seq ?_
  refine gw_region ?_
  refine wl_ov (ov_lss rfl rfl) rfl ?_
  refine wl_nil ?_
  refine nx_then ?_
  refine gw_seq ?_
  refine gw_cond rfl (fun hh => ?_) (fun hh => ?_)
  · have hi : ((i : Nat) : Int) < ((n : Nat) : Int) := by simpa using hh
    clear hh
    refine gw_skip ?_
    refine nx_then ?_
    refine gw_seq ?_
    refine gw_block ?_
    refine gw_seq ?_
    refine gw_region ?_
    obtain ⟨b, off, hA, _, _⟩ := hl.get (by omega)
    subst hA
    obtain ⟨x, hx⟩ : ∃ x, l[i]? = some x := ⟨_, List.getElem?_eq_getElem (by omega)⟩
    obtain ⟨ke, cl, fr, tt, md, od⟩ := x
    have hxM : M[i]? = some fr := by rw [hM, List.getElem?_map, hx]; rfl
    refine wl_ov (ov_index (j := i) es52 rfl rfl (by omega)) rfl ?_
    refine wl_ov (ov_elem (vs := [.string ke, .string cl, .int .i64 fr, .int .i64 tt, .int .i64 md, .int .i64 od]) rz142 rfl (fun _ hm => (hm.fact 0 rfl).1) hx rfl rfl) rfl ?_
    refine wl_alloc zc142 rfl fun g1 => ?_
    refine wl_stores (cs' := [.string ke, .string cl, .int .i64 fr, .int .i64 tt, .int .i64 md, .int .i64 od]) 0 rz142 rfl rfl rfl rfl rfl rfl rfl rfl ?_
    refine wl_nil ?_
    refine nx_then ?_
    refine gw_seq ?_
    refine gw_region ?_
    refine wl_ov (ov_move rfl) rfl ?_
    refine wl_ov (ov_move rfl) rfl ?_
    refine wl_ov (ov_field fo142_2 rfl rfl) rfl ?_
    refine wl_ov (ov_field fo35_0 rfl rfl) rfl ?_
    refine wl_ov (ov_load sc3 rfl (fun _ hm => hm.blkI 0 rfl) rfl) rfl ?_
    refine wl_callv (v := .int .i64 ((f fr : Nat) : Int)) rfl cb96 rfl rfl (fun wx hm => (by rw [hf]; exact onAt_any l _ n c q fr wx (hm.fact 0 rfl).1 hok hn htm)) ?_
    refine wl_ov (ov_assign rfl) rfl ?_
    refine wl_nil ?_
    refine nx_then ?_
    refine gw_seq ?_
    refine gw_region ?_
    refine wl_ov (ov_move rfl) rfl ?_
    refine wl_ov (ov_move rfl) rfl ?_
    refine wl_ov (ov_gtr rfl rfl) rfl ?_
    refine wl_ov (ov_move rfl) rfl ?_
    rcases Bool.eq_false_or_eq_true (decide ((refF f (M.take i)).1 < ((f fr : Nat) : Int))) with hg0 | hg0
    · refine wl_set 26 rfl (congrArg Value.bool hg0) ?_
      replace hg0 := of_decide_eq_true hg0
      refine wl_guard_off rfl rfl rfl (by decide) rfl ?_
      refine wl_guard_off rfl rfl rfl (by decide) rfl ?_
      refine wl_guard_off rfl rfl rfl (by decide) rfl ?_
      refine wl_guard_off rfl rfl rfl (by decide) rfl ?_
      refine wl_guard_undef rfl rfl rfl rfl ?_
      refine wl_guard_undef rfl rfl rfl rfl ?_
      refine wl_guard_off rfl rfl rfl (by decide) rfl ?_
      refine wl_guard_off rfl rfl rfl (by decide) rfl ?_
      refine wl_guard_undef rfl rfl rfl rfl ?_
      refine wl_guard_undef rfl rfl rfl rfl ?_
      refine wl_guard_undef rfl rfl rfl rfl ?_
      refine wl_guard_undef rfl rfl rfl rfl ?_
      refine wl_guard_undef rfl rfl rfl rfl ?_
      refine wl_guard_off rfl rfl rfl (by decide) rfl ?_
      refine wl_ov (ov_pick_t rfl rfl) rfl ?_
      refine wl_nil ?_
      refine nx_then ?_
      refine gw_cond rfl (fun _ => ?_) (fun hh => by cases hh)
      refine gw_draw (fun wz => Blk wz g1 142 [.string ke, .string cl, .int .i64 fr, .int .i64 tt, .int .i64 md, .int .i64 od] ∧ (SlOld bkEnc 6 142 w.heap.size none (some ⟨b, off, none⟩) n l) wz ∧ True) mixed ?_
      refine wa_take 0 rfl (by kernel_rfl) (by kernel_rfl) (by kernel_rfl) (listed' := #[true, false, false, false, false, false]) rfl (fun _ _ _ h => h) (fun _ hm => ⟨hm.blkI 0 rfl, hm.fact 0 rfl, trivial⟩) (ov_move rfl) rfl ?_
      refine wa_take 1 rfl (by kernel_rfl) (by kernel_rfl) (by kernel_rfl) (listed' := #[true, true, false, false, false, false]) rfl (fun _ _ _ h => h) (fun _ hm => ⟨hm.blkI 0 rfl, hm.fact 0 rfl, trivial⟩) (ov_field fo142_2 rfl rfl) rfl ?_
      refine wa_take 2 rfl (by kernel_rfl) (by kernel_rfl) (by kernel_rfl) (listed' := #[true, true, true, false, false, false]) rfl (fun _ _ _ h => h) (fun _ hm => ⟨hm.blkI 0 rfl, hm.fact 0 rfl, trivial⟩) (ov_field fo35_0 rfl rfl) rfl ?_
      refine wa_take 3 rfl (by kernel_rfl) (by kernel_rfl) (by kernel_rfl) (listed' := #[true, true, true, true, false, false]) rfl (fun _ _ _ h => h) (fun _ hm => ⟨hm.blkI 0 rfl, hm.fact 0 rfl, trivial⟩) (ov_load sc3 rfl (fun _ hm => hm.1) rfl) rfl ?_
      refine wa_take 4 rfl (by kernel_rfl) (by kernel_rfl) (by kernel_rfl) (listed' := #[true, true, true, true, true, false]) rfl (fun _ _ _ h => h) (fun _ hm => ⟨hm.blkI 0 rfl, hm.fact 0 rfl, trivial⟩) (ov_assign rfl) rfl ?_
      refine wa_take 5 rfl (by kernel_rfl) (by kernel_rfl) (by kernel_rfl) (listed' := #[true, true, true, true, true, true]) rfl (fun _ _ _ h => h) (fun _ hm => ⟨hm.blkI 0 rfl, hm.fact 0 rfl, trivial⟩) (ov_assign rfl) rfl ?_
      refine wa_done (by kernel_rfl) ?_
      refine nx_blk_nrm ?_
      refine nx_then ?_
      refine gw_region ?_
      refine wl_ov (ov_add rfl rfl (by omega) (by omega)) rfl ?_
      refine wl_ov (ov_move rfl) rfl ?_
      refine wl_nil ?_
      have hst := refF_stp (f := f) hxM (by omega)
      exact nx_round (i + 1) (by omega) (by omega) ⟨rfl, rfl, rfl, rfl, (some_int hst.1.symm), (some_int hst.2.symm), rfl, rfl, (some_int (by omega)), trivial⟩ (fun _ hm => hm.pick [] [] [0] rfl rfl)
    · refine wl_set 26 rfl (congrArg Value.bool hg0) ?_
      replace hg0 := of_decide_eq_false hg0
      refine wl_guard_on rfl rfl rfl ?_
      refine wl_ov (ov_move rfl) rfl ?_
      refine wl_guard_on rfl rfl rfl ?_
      refine wl_ov (ov_move rfl) rfl ?_
      refine wl_guard_on rfl rfl rfl ?_
      refine wl_ov (ov_eql rfl rfl) rfl ?_
      refine wl_guard_on rfl rfl rfl ?_
      refine wl_ov (ov_move rfl) rfl ?_
      rcases Bool.eq_false_or_eq_true (decide (((f fr : Nat) : Int) = (refF f (M.take i)).1)) with hg1 | hg1
      · refine wl_set 30 rfl (congrArg Value.bool hg1) ?_
        replace hg1 := of_decide_eq_true hg1
        refine wl_guard_on rfl rfl rfl ?_
        refine wl_ov (ov_move rfl) rfl ?_
        refine wl_guard_on rfl rfl rfl ?_
        refine wl_ov (ov_gtr rfl rfl) rfl ?_
        refine wl_guard_on rfl rfl rfl ?_
        refine wl_ov (ov_pick_t rfl rfl) rfl ?_
        refine wl_guard_on rfl rfl rfl ?_
        refine wl_ov (ov_move rfl) rfl ?_
        rcases Bool.eq_false_or_eq_true (decide (0 < ((f fr : Nat) : Int))) with hg2 | hg2
        · refine wl_set 34 rfl (congrArg Value.bool hg2) ?_
          replace hg2 := of_decide_eq_true hg2
          refine wl_guard_on rfl rfl rfl ?_
          refine wl_ov (ov_field fo142_2 rfl rfl) rfl ?_
          refine wl_guard_on rfl rfl rfl ?_
          refine wl_ov (ov_field fo35_0 rfl rfl) rfl ?_
          refine wl_guard_on rfl rfl rfl ?_
          refine wl_ov (ov_load sc3 rfl (fun _ hm => hm.blkI 0 rfl) rfl) rfl ?_
          refine wl_guard_on rfl rfl rfl ?_
          refine wl_ov (ov_move rfl) rfl ?_
          refine wl_guard_on rfl rfl rfl ?_
          refine wl_ov (ov_lss rfl rfl) rfl ?_
          refine wl_guard_on rfl rfl rfl ?_
          refine wl_ov (ov_pick_t rfl rfl) rfl ?_
          refine wl_ov (ov_pick_f rfl rfl) rfl ?_
          refine wl_nil ?_
          refine nx_then ?_
          refine gw_cond rfl (fun hh => ?_) (fun hh => ?_)
          · have hg3 : fr < (refF f (M.take i)).2 := by simpa using hh
            clear hh
            refine gw_draw (fun wz => Blk wz g1 142 [.string ke, .string cl, .int .i64 fr, .int .i64 tt, .int .i64 md, .int .i64 od] ∧ (SlOld bkEnc 6 142 w.heap.size none (some ⟨b, off, none⟩) n l) wz ∧ True) mixed ?_
            refine wa_take 0 rfl (by kernel_rfl) (by kernel_rfl) (by kernel_rfl) (listed' := #[true, false, false, false, false, false]) rfl (fun _ _ _ h => h) (fun _ hm => ⟨hm.blkI 0 rfl, hm.fact 0 rfl, trivial⟩) (ov_move rfl) rfl ?_
            refine wa_take 1 rfl (by kernel_rfl) (by kernel_rfl) (by kernel_rfl) (listed' := #[true, true, false, false, false, false]) rfl (fun _ _ _ h => h) (fun _ hm => ⟨hm.blkI 0 rfl, hm.fact 0 rfl, trivial⟩) (ov_field fo142_2 rfl rfl) rfl ?_
            refine wa_take 2 rfl (by kernel_rfl) (by kernel_rfl) (by kernel_rfl) (listed' := #[true, true, true, false, false, false]) rfl (fun _ _ _ h => h) (fun _ hm => ⟨hm.blkI 0 rfl, hm.fact 0 rfl, trivial⟩) (ov_field fo35_0 rfl rfl) rfl ?_
            refine wa_take 3 rfl (by kernel_rfl) (by kernel_rfl) (by kernel_rfl) (listed' := #[true, true, true, true, false, false]) rfl (fun _ _ _ h => h) (fun _ hm => ⟨hm.blkI 0 rfl, hm.fact 0 rfl, trivial⟩) (ov_load sc3 rfl (fun _ hm => hm.1) rfl) rfl ?_
            refine wa_take 4 rfl (by kernel_rfl) (by kernel_rfl) (by kernel_rfl) (listed' := #[true, true, true, true, true, false]) rfl (fun _ _ _ h => h) (fun _ hm => ⟨hm.blkI 0 rfl, hm.fact 0 rfl, trivial⟩) (ov_assign rfl) rfl ?_
            refine wa_take 5 rfl (by kernel_rfl) (by kernel_rfl) (by kernel_rfl) (listed' := #[true, true, true, true, true, true]) rfl (fun _ _ _ h => h) (fun _ hm => ⟨hm.blkI 0 rfl, hm.fact 0 rfl, trivial⟩) (ov_assign rfl) rfl ?_
            refine wa_done (by kernel_rfl) ?_
            refine nx_blk_nrm ?_
            refine nx_then ?_
            refine gw_region ?_
            refine wl_ov (ov_add rfl rfl (by omega) (by omega)) rfl ?_
            refine wl_ov (ov_move rfl) rfl ?_
            refine wl_nil ?_
            have hst := refF_stp (f := f) hxM (by omega)
            exact nx_round (i + 1) (by omega) (by omega) ⟨rfl, rfl, rfl, rfl, (some_int hst.1.symm), (some_int hst.2.symm), rfl, rfl, (some_int (by omega)), trivial⟩ (fun _ hm => hm.pick [] [] [0] rfl rfl)
          · have hg3 : ¬ (fr < (refF f (M.take i)).2) := by simpa using hh
            clear hh
            refine gw_skip ?_
            refine nx_blk_nrm ?_
            refine nx_then ?_
            refine gw_region ?_
            refine wl_ov (ov_add rfl rfl (by omega) (by omega)) rfl ?_
            refine wl_ov (ov_move rfl) rfl ?_
            refine wl_nil ?_
            have hst := refF_sty (f := f) hxM (by omega)
            exact nx_round (i + 1) (by omega) (by omega) ⟨rfl, rfl, rfl, rfl, (some_int (by rw [hst])), (some_int (by rw [hst])), rfl, rfl, (some_int (by omega)), trivial⟩ (fun _ hm => hm.pick [] [] [0] rfl rfl)
        · refine wl_set 34 rfl (congrArg Value.bool hg2) ?_
          replace hg2 := of_decide_eq_false hg2
          refine wl_guard_off rfl rfl rfl (by decide) rfl ?_
          refine wl_guard_off rfl rfl rfl (by decide) rfl ?_
          refine wl_guard_off rfl rfl rfl (by decide) rfl ?_
          refine wl_guard_off rfl rfl rfl (by decide) rfl ?_
          refine wl_guard_off rfl rfl rfl (by decide) rfl ?_
          refine wl_guard_on rfl rfl rfl ?_
          refine wl_ov (ov_pick_f rfl rfl) rfl ?_
          refine wl_ov (ov_pick_f rfl rfl) rfl ?_
          refine wl_nil ?_
          refine nx_then ?_
          refine gw_cond rfl (fun hh => by cases hh) (fun _ => ?_)
          refine gw_skip ?_
          refine nx_blk_nrm ?_
          refine nx_then ?_
          refine gw_region ?_
          refine wl_ov (ov_add rfl rfl (by omega) (by omega)) rfl ?_
          refine wl_ov (ov_move rfl) rfl ?_
          refine wl_nil ?_
          have hst := refF_sty (f := f) hxM (by omega)
          exact nx_round (i + 1) (by omega) (by omega) ⟨rfl, rfl, rfl, rfl, (some_int (by rw [hst])), (some_int (by rw [hst])), rfl, rfl, (some_int (by omega)), trivial⟩ (fun _ hm => hm.pick [] [] [0] rfl rfl)
      · refine wl_set 30 rfl (congrArg Value.bool hg1) ?_
        replace hg1 := of_decide_eq_false hg1
        refine wl_guard_off rfl rfl rfl (by decide) rfl ?_
        refine wl_guard_off rfl rfl rfl (by decide) rfl ?_
        refine wl_guard_on rfl rfl rfl ?_
        refine wl_ov (ov_pick_f rfl rfl) rfl ?_
        refine wl_guard_on rfl rfl rfl ?_
        refine wl_ov (ov_move rfl) rfl ?_
        refine wl_guard_off rfl rfl rfl (by decide) rfl ?_
        refine wl_guard_off rfl rfl rfl (by decide) rfl ?_
        refine wl_guard_off rfl rfl rfl (by decide) rfl ?_
        refine wl_guard_off rfl rfl rfl (by decide) rfl ?_
        refine wl_guard_off rfl rfl rfl (by decide) rfl ?_
        refine wl_guard_on rfl rfl rfl ?_
        refine wl_ov (ov_pick_f rfl rfl) rfl ?_
        refine wl_ov (ov_pick_f rfl rfl) rfl ?_
        refine wl_nil ?_
        refine nx_then ?_
        refine gw_cond rfl (fun hh => by cases hh) (fun _ => ?_)
        refine gw_skip ?_
        refine nx_blk_nrm ?_
        refine nx_then ?_
        refine gw_region ?_
        refine wl_ov (ov_add rfl rfl (by omega) (by omega)) rfl ?_
        refine wl_ov (ov_move rfl) rfl ?_
        refine wl_nil ?_
        have hst := refF_sty (f := f) hxM (by omega)
        exact nx_round (i + 1) (by omega) (by omega) ⟨rfl, rfl, rfl, rfl, (some_int (by rw [hst])), (some_int (by rw [hst])), rfl, rfl, (some_int (by omega)), trivial⟩ (fun _ hm => hm.pick [] [] [0] rfl rfl)
  · have hi : ¬ (((i : Nat) : Int) < ((n : Nat) : Int)) := by simpa using hh
    clear hh
    refine gw_exit ?_
    refine nx_then_exit ?_
    refine nx_then_exit ?_
    refine nx_blk_here ?_
    refine nx_then ?_
    refine gw_seq ?_
    refine gw_region ?_
    refine wl_ov (ov_move rfl) rfl ?_
    refine wl_ov (ov_move rfl) rfl ?_
    refine wl_ov (ov_assign rfl) rfl ?_
    refine wl_ov (ov_assign rfl) rfl ?_
    refine wl_nil ?_
    refine nx_then ?_
    refine gw_ret ?_
    have hall : M.take i = M := List.take_of_length_le (by omega)
    refine nx_ret2 rfl rfl rfl fun wx hm => ?_
    exact ⟨by rw [hall], hm.g⟩

def freeV (sl : List Sk) (l : List Bk) (q : ByteArray) (a b : Int) : Int := manyV sl q - maxF (onT (timT q l)) (onT (timT q l) a : Int) (frsM a b (l.map fun x => (x.fr, x.to_)))

set_option maxRecDepth 100000 in
set_option maxHeartbeats 1000000 in
theorem freeOf_any (sl : List Sk) (A1 : Option Addr) (n1 c1 : Nat) (l : List Bk) (A : Option Addr) (n c : Nat) (q : ByteArray) (a b : Int) (w : World) (hs : SlT skEnc 2 139 w A1 n1 sl) (hso : ∀ x ∈ sl, SkOk x) (hn1 : n1 ≤ 1000) (hl : SlT bkEnc 6 142 w A n l) (hok : ∀ x ∈ l, BkOk x) (hn : n ≤ 1000) (htm : BkTim l) (hb : 0 ≤ b ∧ b ≤ 5761440) :
    Calls Tryz.prog 27 #[.slice A1 n1 c1, .slice A n c, .string q, .agg #[.int .i64 a, .int .i64 b]] w (GotE w (freeV sl l q a b)) := by
  refine gw_enter ⟨46, w, none, []⟩ Tryz.func27 rfl Tryz.ntmps27 rfl (mem0 (X := [SlOld skEnc 2 139 w.heap.size none A1 n1 sl, SlOld bkEnc 6 142 w.heap.size none A n l]) (allF_cons hs.old (allF_cons hl.old allF_nil)) (allL_cons SlOld.lasts (allL_cons SlOld.lasts allL_nil))) ?_
  refine gw_seq ?_
  refine gw_region ?_
  have hlen := hl.len
  have hmb := manyV_bound hso q
  unfold freeV
  obtain ⟨f, hf⟩ : ∃ f, f = onT (timT q l) := ⟨_, rfl⟩
  have hfb : ∀ x, f x ≤ 1000 := fun x => by have h1 := onT_le (timT q l) x; have h2 := timT_len q l; rw [hf]; omega
  obtain ⟨M, hM⟩ : ∃ M, M = l.map (fun x : Bk => (x.fr, x.to_)) := ⟨_, rfl⟩
  have hMl : M.length = n := by rw [hM, List.length_map, hlen]
  rw [← hf, ← hM]
  have hmx : ∀ i, 0 ≤ maxF f (f a : Int) (frsM a b (M.take i)) ∧ maxF f (f a : Int) (frsM a b (M.take i)) ≤ 1000 := fun i => by
    obtain ⟨h1, _, h3⟩ := maxF_spec f (frsM a b (M.take i)) (f a : Int)
    have h4 := hfb a
    refine ⟨by omega, ?_⟩
    rcases h3 with h | ⟨x, _, h⟩
    · omega
    · have := hfb x; omega
  refine wl_box rfl rfl rfl fun g1 => ?_
  refine wl_ov (ov_assign rfl) rfl ?_
  refine wl_nil ?_
  refine nx_then ?_
  refine gw_seq ?_
  refine gw_region ?_
  refine wl_ov (ov_move rfl) rfl ?_
  refine wl_ov (ov_move rfl) rfl ?_
  refine wl_ov (ov_field fo35_0 rfl rfl) rfl ?_
  refine wl_ov (ov_load sc3 rfl (fun _ hm => hm.blkI 0 rfl) rfl) rfl ?_
  refine wl_callv (v := .int .i64 ((f a : Nat) : Int)) rfl cb96 rfl rfl (fun wx hm => (by rw [hf]; exact onAt_any l A n c q a wx (hm.fact 1 rfl).1 hok hn htm)) ?_
  refine wl_ov (ov_assign rfl) rfl ?_
  refine wl_nil ?_
  refine nx_then ?_
  refine gw_seq ?_
  refine gw_seq ?_
  refine gw_region ?_
  refine wl_ov (ov_move rfl) rfl ?_
  refine wl_ov (ov_len es52 rfl) rfl ?_
  refine wl_ov (ov_move rfl) rfl ?_
  refine wl_nil ?_
  refine nx_then ?_
  refine gw_block ?_
  refine gw_loop (γ := Nat) (fun (i : Nat) => i ≤ n) (fun (i : Nat) => [(0, .slice A1 n1 c1), (1, .slice A n c), (2, .string q), (7, .pointer (some ⟨g1, 0, none⟩)), (8, .int .i64 0), (9, .int .i64 (maxF f ((f a : Nat) : Int) (frsM a b (M.take i)))), (17, .slice A n c), (18, .int .i64 ((n : Nat) : Int)), (19, .int .i64 ((i : Nat) : Int))]) (fun (i : Nat) => fun _ => True) (fun (i : Nat) => [(g1, 35, [.int .i64 a, .int .i64 b])]) (fun (i : Nat) => []) (fun (i : Nat) => [SlOld skEnc 2 139 w.heap.size none A1 n1 sl, SlOld bkEnc 6 142 w.heap.size none A n l]) (fun (i : Nat) => n - i) 0 (Nat.zero_le _) ⟨rfl, rfl, rfl, rfl, rfl, (some_int (by rw [List.take_zero]; rfl)), rfl, rfl, rfl, trivial⟩ (fun _ hm => hm.pick [0] [] [0, 1] rfl rfl) ?_
  intro i hinv
  replace hinv : i ≤ n := hinv
  refine gw_seq ?_
  refine gw_region ?_
  refine wl_ov (ov_lss rfl rfl) rfl ?_
  refine wl_nil ?_
  refine nx_then ?_
  refine gw_seq ?_
  refine gw_cond rfl (fun hh => ?_) (fun hh => ?_)
  · have hi : ((i : Nat) : Int) < ((n : Nat) : Int) := by simpa using hh
    clear hh
    refine gw_skip ?_
    refine nx_then ?_
    refine gw_seq ?_
    refine gw_block ?_
    refine gw_seq ?_
    refine gw_region ?_
    obtain ⟨bb, off, hA, _, _⟩ := hl.get (by omega)
    subst hA
    obtain ⟨x, hx⟩ : ∃ x, l[i]? = some x := ⟨_, List.getElem?_eq_getElem (by omega)⟩
    obtain ⟨ke, cl, fr, tt, md, od⟩ := x
    have hxM : M[i]? = some (fr, tt) := by rw [hM, List.getElem?_map, hx]; rfl
    have hst := frsM_take (a := a) (b := b) hxM
    have hmi := hmx i
    dsimp only at hst
    refine wl_ov (ov_index (j := i) es52 rfl rfl (by omega)) rfl ?_
    refine wl_ov (ov_elem (vs := [.string ke, .string cl, .int .i64 fr, .int .i64 tt, .int .i64 md, .int .i64 od]) rz142 rfl (fun _ hm => (hm.fact 1 rfl).1) hx rfl rfl) rfl ?_
    refine wl_alloc zc142 rfl fun g2 => ?_
    refine wl_stores (cs' := [.string ke, .string cl, .int .i64 fr, .int .i64 tt, .int .i64 md, .int .i64 od]) 0 rz142 rfl rfl rfl rfl rfl rfl rfl rfl ?_
    refine wl_nil ?_
    refine nx_then ?_
    refine gw_seq ?_
    refine gw_region ?_
    refine wl_ov (ov_field fo142_2 rfl rfl) rfl ?_
    refine wl_ov (ov_field fo35_0 rfl rfl) rfl ?_
    refine wl_ov (ov_load sc3 rfl (fun _ hm => hm.blkI 0 rfl) rfl) rfl ?_
    refine wl_ov (ov_field fo35_0 rfl rfl) rfl ?_
    refine wl_ov (ov_load sc3 rfl (fun _ hm => hm.blkI 1 rfl) rfl) rfl ?_
    refine wl_ov (ov_field fo35_1 rfl rfl) rfl ?_
    refine wl_ov (ov_load sc3 rfl (fun _ hm => hm.blkI 1 rfl) rfl) rfl ?_
    refine wl_ov (ov_sub rfl rfl (by omega) (by omega)) rfl ?_
    refine wl_callw rfl cb97 rfl rfl (fun wx hm => (rin_any _ _ _ wx)) ?_
    refine wl_nil ?_
    refine nx_then ?_
    refine gw_cond rfl (fun hh => ?_) (fun hh => ?_)
    · have hq : (inB fr a (b - 1)) = true := by simpa using hh
      clear hh
      refine gw_region ?_
      rw [if_pos hq] at hst
      refine wl_ov (ov_move rfl) rfl ?_
      refine wl_ov (ov_move rfl) rfl ?_
      refine wl_ov (ov_move rfl) rfl ?_
      refine wl_ov (ov_field fo142_2 rfl rfl) rfl ?_
      refine wl_ov (ov_field fo35_0 rfl rfl) rfl ?_
      refine wl_ov (ov_load sc3 rfl (fun _ hm => hm.blkI 0 rfl) rfl) rfl ?_
      refine wl_callv (v := .int .i64 ((f fr : Nat) : Int)) rfl cb96 rfl rfl (fun wx hm => (by rw [hf]; exact onAt_any l _ n c q fr wx (hm.fact 1 rfl).1 hok hn htm)) ?_
      refine wl_ov (ov_max rfl rfl) rfl ?_
      refine wl_ov (ov_assign rfl) rfl ?_
      refine wl_nil ?_
      refine nx_blk_nrm ?_
      refine nx_then ?_
      refine gw_region ?_
      refine wl_ov (ov_add rfl rfl (by omega) (by omega)) rfl ?_
      refine wl_ov (ov_move rfl) rfl ?_
      refine wl_nil ?_
      exact nx_round (i + 1) (by omega) (by omega) ⟨rfl, rfl, rfl, rfl, rfl, (some_int (by rw [hst, maxF_app]; rfl)), rfl, rfl, (some_int (by omega)), trivial⟩ (fun _ hm => hm.pick [1] [] [0, 1] rfl rfl)
    · have hq : (inB fr a (b - 1)) = false := by simpa using hh
      clear hh
      refine gw_skip ?_
      refine nx_blk_nrm ?_
      refine nx_then ?_
      refine gw_region ?_
      rw [if_neg (by rw [hq]; decide), List.append_nil] at hst
      refine wl_ov (ov_add rfl rfl (by omega) (by omega)) rfl ?_
      refine wl_ov (ov_move rfl) rfl ?_
      refine wl_nil ?_
      exact nx_round (i + 1) (by omega) (by omega) ⟨rfl, rfl, rfl, rfl, rfl, (some_int (by rw [hst])), rfl, rfl, (some_int (by omega)), trivial⟩ (fun _ hm => hm.pick [1] [] [0, 1] rfl rfl)
  · have hi : ¬ (((i : Nat) : Int) < ((n : Nat) : Int)) := by simpa using hh
    clear hh
    refine gw_exit ?_
    refine nx_then_exit ?_
    refine nx_then_exit ?_
    refine nx_blk_here ?_
    refine nx_then ?_
    refine gw_seq ?_
    refine gw_region ?_
    have hall : M.take i = M := List.take_of_length_le (by omega)
    have hmi := hmx i
    rw [hall] at hmi ⊢
    refine wl_ov (ov_move rfl) rfl ?_
    refine wl_ov (ov_move rfl) rfl ?_
    refine wl_callv rfl cb98 rfl rfl (fun wx hm => (manyOf_any sl A1 n1 c1 q wx (hm.fact 0 rfl).1 hso hn1)) ?_
    refine wl_ov (ov_move rfl) rfl ?_
    refine wl_ov (ov_sub rfl rfl (by omega) (by omega)) rfl ?_
    refine wl_ov (ov_assign rfl) rfl ?_
    refine wl_nil ?_
    refine nx_then ?_
    refine gw_ret ?_
    refine nx_ret1 rfl rfl fun wx hm => ?_
    exact ⟨ret_int rfl, hm.g⟩

theorem checkE_eq (cs : List Cs) (l : List Bk) : checkE cs l = firstE [classesE cs, formE l, if l.any (fun b => noB cs b.cls) = true then 8 else 0] := by
  unfold checkE classedE
  by_cases h : classesE cs = 0
  · rw [h]
    by_cases h2 : formE l = 0
    · rw [if_neg (by simpa using h2), h2]; simp [firstE]
    · rw [if_pos h2]; simp [firstE, h2]
  · simp [firstE, h]
theorem checkE_ok {cs : List Cs} {l : List Bk} (h : checkE cs l = 0) : classesE cs = 0 ∧ formE l = 0 := by
  rw [checkE_eq] at h
  by_cases h1 : classesE cs = 0
  · refine ⟨h1, ?_⟩
    by_cases h2 : formE l = 0
    · exact h2
    · simp [firstE, h1, h2] at h
  · simp [firstE, h1] at h

set_option maxRecDepth 100000 in
set_option maxHeartbeats 400000 in
theorem bf1_any (cs : List Cs) (A0 : Option Addr) (n0 c0 : Nat) (gc : Nat) (w : World) (hcs : SlT csEnc 2 135 w A0 n0 cs) (hco : ∀ x ∈ cs, CsOk x) (hn0 : n0 ≤ 1000) (hgc : Blk w gc 50 [.slice A0 n0 c0]) :
    Calls Tryz.prog 150 #[.pointer (some ⟨gc, 0, none⟩)] w (GotE w (classesE cs)) := by
  refine gw_enter ⟨4, w, none, []⟩ Tryz.func150 rfl Tryz.ntmps150 rfl (mem0 (X := [SlOld csEnc 2 135 w.heap.size none A0 n0 cs, BlkOld w.heap.size none gc 50 [.slice A0 n0 c0]]) (allF_cons hcs.old (allF_cons hgc.old allF_nil)) (allL_cons SlOld.lasts (allL_cons BlkOld.lasts allL_nil))) ?_
  refine gw_seq ?_
  refine gw_region ?_
  obtain ⟨EE, hEE⟩ : ∃ E : Int, E = (classesE cs) := ⟨_, rfl⟩
  rw [← hEE]
  refine wl_ov (ov_assign rfl) rfl ?_
  refine wl_nil ?_
  refine nx_then ?_
  refine gw_seq ?_
  refine gw_region ?_
  refine wl_ov (ov_load (v := .slice A0 n0 c0) sc50 rfl (fun _ hm => (hm.fact 1 rfl).2) rfl) rfl ?_
  refine wl_callv (v := .int .i64 EE) rfl cb107 rfl rfl (fun wx hm => (by rw [hEE]; exact classesFault_any cs A0 n0 c0 wx (hm.fact 0 rfl).1 hco (by omega))) ?_
  refine wl_ov (ov_assign rfl) rfl ?_
  refine wl_nil ?_
  refine nx_then ?_
  refine gw_ret ?_
  refine nx_ret1 rfl rfl fun wx hm => ?_
  exact ⟨rfl, hm.g⟩

set_option maxRecDepth 100000 in
set_option maxHeartbeats 400000 in
theorem bf2_any (l : List Bk) (A : Option Addr) (n c : Nat) (gb : Nat) (w : World) (hl : SlT bkEnc 6 142 w A n l) (hok : ∀ x ∈ l, BkOk x) (hn : n ≤ 1000) (hgb : Blk w gb 52 [.slice A n c]) :
    Calls Tryz.prog 151 #[.pointer (some ⟨gb, 0, none⟩)] w (GotE w (formE l)) := by
  refine gw_enter ⟨4, w, none, []⟩ Tryz.func151 rfl Tryz.ntmps151 rfl (mem0 (X := [SlOld bkEnc 6 142 w.heap.size none A n l, BlkOld w.heap.size none gb 52 [.slice A n c]]) (allF_cons hl.old (allF_cons hgb.old allF_nil)) (allL_cons SlOld.lasts (allL_cons BlkOld.lasts allL_nil))) ?_
  refine gw_seq ?_
  refine gw_region ?_
  obtain ⟨EE, hEE⟩ : ∃ E : Int, E = (formE l) := ⟨_, rfl⟩
  rw [← hEE]
  refine wl_ov (ov_assign rfl) rfl ?_
  refine wl_nil ?_
  refine nx_then ?_
  refine gw_seq ?_
  refine gw_region ?_
  refine wl_ov (ov_load (v := .slice A n c) sc52 rfl (fun _ hm => (hm.fact 1 rfl).2) rfl) rfl ?_
  refine wl_callv (v := .int .i64 EE) rfl cb152 rfl rfl (fun wx hm => (by rw [hEE]; exact bookingForm_any l A n c wx (hm.fact 0 rfl).1 hok (by omega))) ?_
  refine wl_ov (ov_assign rfl) rfl ?_
  refine wl_nil ?_
  refine nx_then ?_
  refine gw_ret ?_
  refine nx_ret1 rfl rfl fun wx hm => ?_
  exact ⟨rfl, hm.g⟩

set_option maxRecDepth 100000 in
set_option maxHeartbeats 400000 in
theorem bf3_any (cs : List Cs) (A0 : Option Addr) (n0 c0 : Nat) (l : List Bk) (A : Option Addr) (n c : Nat) (gc gb : Nat) (w : World) (hcs : SlT csEnc 2 135 w A0 n0 cs) (hco : ∀ x ∈ cs, CsOk x) (hn0 : n0 ≤ 1000) (hl : SlT bkEnc 6 142 w A n l) (hok : ∀ x ∈ l, BkOk x) (hn : n ≤ 1000) (hgc : Blk w gc 50 [.slice A0 n0 c0]) (hgb : Blk w gb 52 [.slice A n c]) :
    Calls Tryz.prog 153 #[.pointer (some ⟨gc, 0, none⟩), .pointer (some ⟨gb, 0, none⟩)] w (GotE w (if l.any (fun b => noB cs b.cls) = true then 8 else 0)) := by
  refine gw_enter ⟨6, w, none, []⟩ Tryz.func153 rfl Tryz.ntmps153 rfl (mem0 (X := [SlOld csEnc 2 135 w.heap.size none A0 n0 cs, SlOld bkEnc 6 142 w.heap.size none A n l, BlkOld w.heap.size none gc 50 [.slice A0 n0 c0], BlkOld w.heap.size none gb 52 [.slice A n c]]) (allF_cons hcs.old (allF_cons hl.old (allF_cons hgc.old (allF_cons hgb.old allF_nil)))) (allL_cons SlOld.lasts (allL_cons SlOld.lasts (allL_cons BlkOld.lasts (allL_cons BlkOld.lasts allL_nil))))) ?_
  refine gw_seq ?_
  refine gw_region ?_
  obtain ⟨EE, hEE⟩ : ∃ E : Int, E = (if l.any (fun b => noB cs b.cls) = true then 8 else 0) := ⟨_, rfl⟩
  rw [← hEE]
  refine wl_ov (ov_assign rfl) rfl ?_
  refine wl_nil ?_
  refine nx_then ?_
  refine gw_seq ?_
  refine gw_region ?_
  refine wl_ov (ov_load (v := .slice A0 n0 c0) sc50 rfl (fun _ hm => (hm.fact 2 rfl).2) rfl) rfl ?_
  refine wl_ov (ov_load (v := .slice A n c) sc52 rfl (fun _ hm => (hm.fact 3 rfl).2) rfl) rfl ?_
  refine wl_callv (v := .int .i64 EE) rfl cb154 rfl rfl (fun wx hm => (by rw [hEE]; exact known_any cs A0 n0 c0 l A n c wx (hm.fact 0 rfl).1 hco hn0 (hm.fact 1 rfl).1 hok hn)) ?_
  refine wl_ov (ov_assign rfl) rfl ?_
  refine wl_nil ?_
  refine nx_then ?_
  refine gw_ret ?_
  refine nx_ret1 rfl rfl fun wx hm => ?_
  exact ⟨rfl, hm.g⟩

set_option maxRecDepth 100000 in
set_option maxHeartbeats 1000000 in
theorem bookingsFault_any (cs : List Cs) (A0 : Option Addr) (n0 c0 : Nat) (l : List Bk) (A : Option Addr) (n c : Nat) (w : World) (hcs : SlT csEnc 2 135 w A0 n0 cs) (hco : ∀ x ∈ cs, CsOk x) (hn0 : n0 ≤ 1000) (hl : SlT bkEnc 6 142 w A n l) (hok : ∀ x ∈ l, BkOk x) (hn : n ≤ 1000) :
    Calls Tryz.prog 81 #[.slice A0 n0 c0, .slice A n c] w (GotE w (checkE cs l)) := by
  refine gw_enter ⟨23, w, none, []⟩ Tryz.func81 rfl Tryz.ntmps81 rfl (mem0 (X := [SlOld csEnc 2 135 w.heap.size none A0 n0 cs, SlOld bkEnc 6 142 w.heap.size none A n l]) (allF_cons hcs.old (allF_cons hl.old allF_nil)) (allL_cons SlOld.lasts (allL_cons SlOld.lasts allL_nil))) ?_
  refine gw_seq ?_
  refine gw_region ?_
  rw [checkE_eq]
  obtain ⟨CE, hCE⟩ : ∃ E, E = classesE cs := ⟨_, rfl⟩
  obtain ⟨FE, hFE⟩ : ∃ E, E = formE l := ⟨_, rfl⟩
  obtain ⟨KE, hKE⟩ : ∃ E, E = (if l.any (fun b => noB cs b.cls) = true then (8 : Int) else 0) := ⟨_, rfl⟩
  rw [← hCE, ← hFE, ← hKE]
  refine wl_box rfl rfl rfl fun g1 => ?_
  refine wl_box rfl rfl rfl fun g2 => ?_
  refine wl_ov (ov_assign rfl) rfl ?_
  refine wl_nil ?_
  refine nx_then ?_
  refine gw_seq ?_
  refine gw_seq ?_
  refine gw_region ?_
  refine wl_ov (ov_makeFunc rfl rfl) rfl ?_
  refine wl_ov (ov_makeFunc rfl rfl) rfl ?_
  refine wl_ov (ov_makeFunc rfl rfl) rfl ?_
  refine wl_buildSlice (e := 66) (cs := [.func (.func 150) #[] #[.pointer (some ⟨g1, 0, none⟩)], .func (.func 151) #[] #[.pointer (some ⟨g2, 0, none⟩)], .func (.func 153) #[] #[.pointer (some ⟨g1, 0, none⟩), .pointer (some ⟨g2, 0, none⟩)]]) rfl (by kernel_rfl) rfl fun g3 => ?_
  refine wl_ov (ov_len es221 rfl) rfl ?_
  refine wl_set 12 (v' := .int .i64 3) rfl rfl ?_
  refine wl_ov (ov_move rfl) rfl ?_
  refine wl_nil ?_
  refine nx_then ?_
  refine gw_block ?_
  refine gw_rounds 4 ?_
  refine gr_next ?_
  refine gw_seq ?_
  refine gw_region ?_
  refine wl_ov (ov_lss rfl rfl) rfl ?_
  refine wl_set 14 (v' := .bool true) rfl (congrArg Value.bool (by decide)) ?_
  refine wl_nil ?_
  refine nx_then ?_
  refine gw_seq ?_
  refine gw_cond rfl (fun _ => ?_) (fun hh => by cases hh)
  refine gw_skip ?_
  refine nx_then ?_
  refine gw_seq ?_
  refine gw_block ?_
  refine gw_seq ?_
  refine gw_region ?_
  refine wl_ov (ov_index (j := 0) es221 rfl rfl (by decide)) rfl ?_
  refine wl_ov (ov_load sc66 rfl (fun _ hm => hm.blkI 0 rfl) rfl) rfl ?_
  refine wl_ov (ov_assign rfl) rfl ?_
  refine wl_nil ?_
  refine nx_then ?_
  refine gw_seq ?_
  refine gw_region ?_
  refine wl_ov (ov_move rfl) rfl ?_
  refine wl_callv (v := .int .i64 CE) rfl cb150 rfl rfl (fun wx hm => (by rw [hCE]; exact bf1_any cs A0 n0 c0 _ wx (hm.fact 0 rfl).1 hco hn0 (hm.blkI 2 rfl))) ?_
  refine wl_ov (ov_assign rfl) rfl ?_
  refine wl_nil ?_
  refine nx_then ?_
  refine gw_seq ?_
  refine gw_region ?_
  refine wl_ov (ov_move rfl) rfl ?_
  refine wl_ov (ov_neq rfl rfl) rfl ?_
  refine wl_nil ?_
  refine nx_then ?_
  refine gw_cond rfl (fun hh => ?_) (fun hh => ?_)
  · have h0 : ¬ (CE = 0) := by simpa using hh
    clear hh
    refine gw_seq ?_
    refine gw_region ?_
    refine wl_ov (ov_move rfl) rfl ?_
    refine wl_ov (ov_assign rfl) rfl ?_
    refine wl_nil ?_
    refine nx_then ?_
    refine gw_ret ?_
    refine nx_blk_ret ?_
    refine nx_then_ret ?_
    refine nx_then_ret ?_
    refine nx_blk_ret ?_
    refine nx_then_ret ?_
    refine nx_ret1 rfl rfl fun wx hm => ?_
    exact ⟨ret_int (by simp [firstE, h0]), hm.g⟩
  · have h0 : CE = 0 := by simpa using hh
    clear hh
    refine gw_skip ?_
    refine nx_blk_nrm ?_
    refine nx_then ?_
    refine gw_region ?_
    refine wl_ov (ov_add rfl rfl (by omega) (by omega)) rfl ?_
    refine wl_set 22 (v' := .int .i64 1) rfl rfl ?_
    refine wl_ov (ov_move rfl) rfl ?_
    refine wl_nil ?_
    refine nx_next ?_
    refine gr_next ?_
    refine gw_seq ?_
    refine gw_region ?_
    refine wl_ov (ov_lss rfl rfl) rfl ?_
    refine wl_set 14 (v' := .bool true) rfl (congrArg Value.bool (by decide)) ?_
    refine wl_nil ?_
    refine nx_then ?_
    refine gw_seq ?_
    refine gw_cond rfl (fun _ => ?_) (fun hh => by cases hh)
    refine gw_skip ?_
    refine nx_then ?_
    refine gw_seq ?_
    refine gw_block ?_
    refine gw_seq ?_
    refine gw_region ?_
    refine wl_ov (ov_index (j := 1) es221 rfl rfl (by decide)) rfl ?_
    refine wl_ov (ov_load sc66 rfl (fun _ hm => hm.blkI 0 rfl) rfl) rfl ?_
    refine wl_ov (ov_assign rfl) rfl ?_
    refine wl_nil ?_
    refine nx_then ?_
    refine gw_seq ?_
    refine gw_region ?_
    refine wl_ov (ov_move rfl) rfl ?_
    refine wl_callv (v := .int .i64 FE) rfl cb151 rfl rfl (fun wx hm => (by rw [hFE]; exact bf2_any l A n c _ wx (hm.fact 1 rfl).1 hok hn (hm.blkI 1 rfl))) ?_
    refine wl_ov (ov_assign rfl) rfl ?_
    refine wl_nil ?_
    refine nx_then ?_
    refine gw_seq ?_
    refine gw_region ?_
    refine wl_ov (ov_move rfl) rfl ?_
    refine wl_ov (ov_neq rfl rfl) rfl ?_
    refine wl_nil ?_
    refine nx_then ?_
    refine gw_cond rfl (fun hh => ?_) (fun hh => ?_)
    · have h1 : ¬ (FE = 0) := by simpa using hh
      clear hh
      refine gw_seq ?_
      refine gw_region ?_
      refine wl_ov (ov_move rfl) rfl ?_
      refine wl_ov (ov_assign rfl) rfl ?_
      refine wl_nil ?_
      refine nx_then ?_
      refine gw_ret ?_
      refine nx_blk_ret ?_
      refine nx_then_ret ?_
      refine nx_then_ret ?_
      refine nx_blk_ret ?_
      refine nx_then_ret ?_
      refine nx_ret1 rfl rfl fun wx hm => ?_
      exact ⟨ret_int (by simp [firstE, h0, h1]), hm.g⟩
    · have h1 : FE = 0 := by simpa using hh
      clear hh
      refine gw_skip ?_
      refine nx_blk_nrm ?_
      refine nx_then ?_
      refine gw_region ?_
      refine wl_ov (ov_add rfl rfl (by omega) (by omega)) rfl ?_
      refine wl_set 22 (v' := .int .i64 2) rfl rfl ?_
      refine wl_ov (ov_move rfl) rfl ?_
      refine wl_nil ?_
      refine nx_next ?_
      refine gr_next ?_
      refine gw_seq ?_
      refine gw_region ?_
      refine wl_ov (ov_lss rfl rfl) rfl ?_
      refine wl_set 14 (v' := .bool true) rfl (congrArg Value.bool (by decide)) ?_
      refine wl_nil ?_
      refine nx_then ?_
      refine gw_seq ?_
      refine gw_cond rfl (fun _ => ?_) (fun hh => by cases hh)
      refine gw_skip ?_
      refine nx_then ?_
      refine gw_seq ?_
      refine gw_block ?_
      refine gw_seq ?_
      refine gw_region ?_
      refine wl_ov (ov_index (j := 2) es221 rfl rfl (by decide)) rfl ?_
      refine wl_ov (ov_load sc66 rfl (fun _ hm => hm.blkI 0 rfl) rfl) rfl ?_
      refine wl_ov (ov_assign rfl) rfl ?_
      refine wl_nil ?_
      refine nx_then ?_
      refine gw_seq ?_
      refine gw_region ?_
      refine wl_ov (ov_move rfl) rfl ?_
      refine wl_callv (v := .int .i64 KE) rfl cb153 rfl rfl (fun wx hm => (by rw [hKE]; exact bf3_any cs A0 n0 c0 l A n c _ _ wx (hm.fact 0 rfl).1 hco hn0 (hm.fact 1 rfl).1 hok hn (hm.blkI 2 rfl) (hm.blkI 1 rfl))) ?_
      refine wl_ov (ov_assign rfl) rfl ?_
      refine wl_nil ?_
      refine nx_then ?_
      refine gw_seq ?_
      refine gw_region ?_
      refine wl_ov (ov_move rfl) rfl ?_
      refine wl_ov (ov_neq rfl rfl) rfl ?_
      refine wl_nil ?_
      refine nx_then ?_
      refine gw_cond rfl (fun hh => ?_) (fun hh => ?_)
      · have h2 : ¬ (KE = 0) := by simpa using hh
        clear hh
        refine gw_seq ?_
        refine gw_region ?_
        refine wl_ov (ov_move rfl) rfl ?_
        refine wl_ov (ov_assign rfl) rfl ?_
        refine wl_nil ?_
        refine nx_then ?_
        refine gw_ret ?_
        refine nx_blk_ret ?_
        refine nx_then_ret ?_
        refine nx_then_ret ?_
        refine nx_blk_ret ?_
        refine nx_then_ret ?_
        refine nx_ret1 rfl rfl fun wx hm => ?_
        exact ⟨ret_int (by simp [firstE, h0, h1, h2]), hm.g⟩
      · have h2 : KE = 0 := by simpa using hh
        clear hh
        refine gw_skip ?_
        refine nx_blk_nrm ?_
        refine nx_then ?_
        refine gw_region ?_
        refine wl_ov (ov_add rfl rfl (by omega) (by omega)) rfl ?_
        refine wl_set 22 (v' := .int .i64 3) rfl rfl ?_
        refine wl_ov (ov_move rfl) rfl ?_
        refine wl_nil ?_
        refine nx_next ?_
        refine gr_next ?_
        refine gw_seq ?_
        refine gw_region ?_
        refine wl_ov (ov_lss rfl rfl) rfl ?_
        refine wl_set 14 (v' := .bool false) rfl (congrArg Value.bool (by decide)) ?_
        refine wl_nil ?_
        refine nx_then ?_
        refine gw_seq ?_
        refine gw_cond rfl (fun hh => by cases hh) (fun _ => ?_)
        refine gw_exit ?_
        refine nx_then_exit ?_
        refine nx_then_exit ?_
        refine nx_blk_here ?_
        refine nx_then ?_
        refine gw_seq ?_
        refine gw_region ?_
        refine wl_ov (ov_assign rfl) rfl ?_
        refine wl_nil ?_
        refine nx_then ?_
        refine gw_ret ?_
        refine nx_ret1 rfl rfl fun wx hm => ?_
        exact ⟨ret_int (by simp [firstE, h0, h1, h2]), hm.g⟩

def busyE (cs : List Cs) (l : List Bk) (q : ByteArray) : Int := firstE [checkE cs l, whenE (noB cs q) 8]
def busyP (cs : List Cs) (l : List Bk) (q : ByteArray) : Int × Int := if busyE cs l q = 0 then busyT (timT q l) 0 5761440 else (0, 0)
def winB (a b : Int) : Bool := decide (a < 0) || decide (b ≤ a) || decide (5761439 < b)
def freeE (cs : List Cs) (sl : List Sk) (l : List Bk) (q : ByteArray) (a b : Int) : Int := firstE [firstE [stockE cs sl, checkE cs l], whenE (noB cs q) 8, whenE (winB a b) 1]
def freeP (cs : List Cs) (sl : List Sk) (l : List Bk) (q : ByteArray) (a b : Int) : Int := if freeE cs sl l q a b = 0 then manyV sl q - (busyT (timT q l) a b).1 else 0
theorem firstE_hd {a : Int} {r : List Int} (h : firstE (a :: r) = 0) : a = 0 ∧ firstE r = 0 := by
  by_cases ha : a = 0
  · subst ha; exact ⟨rfl, by unfold firstE at h; rw [if_pos rfl] at h; exact h⟩
  · unfold firstE at h; rw [if_neg ha] at h; exact absurd h ha
theorem busyE_ok {cs : List Cs} {l : List Bk} {q : ByteArray} (h : busyE cs l q = 0) : BkTim l := form_tim (checkE_ok (firstE_hd h).1).2
theorem freeE_ok {cs : List Cs} {sl : List Sk} {l : List Bk} {q : ByteArray} {a b : Int} (h : freeE cs sl l q a b = 0) : BkTim l ∧ 0 ≤ a ∧ a < b ∧ b ≤ 5761439 := by
  obtain ⟨h1, h2⟩ := firstE_hd h
  obtain ⟨_, h3⟩ := firstE_hd h2
  obtain ⟨_, h4⟩ := firstE_hd h1
  refine ⟨form_tim (checkE_ok (firstE_hd h4).1).2, ?_⟩
  cases hw : winB a b with
  | true => rw [hw] at h3; simp [firstE, whenE] at h3
  | false =>
    unfold winB at hw
    simp at hw
    omega
theorem busyT_le {T : List (Int × Int)} {a b : Int} {n : Nat} (h : T.length ≤ n) : 0 ≤ (busyT T a b).1 ∧ (busyT T a b).1 ≤ (n : Int) := by
  have h1 := busyF_all (f := onT T) (sortI_pair (a :: frsM a b T)) (by rw [sortI_len]; simp)
  have h2 := onT_le T (busyF (onT T) (sortI (a :: frsM a b T))).2
  have h3 := h1.2.1
  unfold busyT
  omega

set_option maxRecDepth 100000 in
set_option maxHeartbeats 1000000 in
theorem busy_any (cs : List Cs) (A0 : Option Addr) (n0 c0 : Nat) (l : List Bk) (A : Option Addr) (n c : Nat) (q : ByteArray) (w : World) (hcs : SlT csEnc 2 135 w A0 n0 cs) (hco : ∀ x ∈ cs, CsOk x) (hn0 : n0 ≤ 1000) (hl : SlT bkEnc 6 142 w A n l) (hok : ∀ x ∈ l, BkOk x) (hn : n ≤ 1000) :
    Calls Tryz.prog 18 #[.slice A0 n0 c0, .slice A n c, .string q] w (fun e w' => e = .returned (.tuple #[.int .i64 (busyP cs l q).1, .int .i64 (busyP cs l q).2, .int .i64 (busyE cs l q)]) ∧ w.grownBy w' none) := by
  refine gw_enter ⟨35, w, none, []⟩ Tryz.func18 rfl Tryz.ntmps18 rfl (mem0 (X := [SlOld csEnc 2 135 w.heap.size none A0 n0 cs, SlOld bkEnc 6 142 w.heap.size none A n l]) (allF_cons hcs.old (allF_cons hl.old allF_nil)) (allL_cons SlOld.lasts (allL_cons SlOld.lasts allL_nil))) ?_
  refine gw_seq ?_
  refine gw_region ?_
  have hlen := hl.len
  obtain ⟨CE, hCE⟩ : ∃ E, E = checkE cs l := ⟨_, rfl⟩
  obtain ⟨NB, hNB⟩ : ∃ E, E = noB cs q := ⟨_, rfl⟩
  obtain ⟨BE, hBE⟩ : ∃ E, E = busyE cs l q := ⟨_, rfl⟩
  have hone : BE = firstE [CE, whenE NB 8] := by rw [hBE, hCE, hNB]; rfl
  refine wl_ov (ov_assign rfl) rfl ?_
  refine wl_ov (ov_assign rfl) rfl ?_
  refine wl_ov (ov_assign rfl) rfl ?_
  refine wl_nil ?_
  refine nx_then ?_
  refine gw_seq ?_
  refine gw_seq ?_
  refine gw_region ?_
  refine wl_ov (ov_move rfl) rfl ?_
  refine wl_ov (ov_move rfl) rfl ?_
  refine wl_callv (v := .int .i64 CE) rfl cb24 rfl rfl (fun wx hm => (by rw [hCE]; exact bcheck_any cs A0 n0 c0 l A n c wx (hm.fact 0 rfl).1 hco hn0 (hm.fact 1 rfl).1 hok hn)) ?_
  refine wl_ov (ov_move rfl) rfl ?_
  refine wl_ov (ov_move rfl) rfl ?_
  refine wl_callv (v := .bool (!NB)) rfl cb86 rfl rfl (fun wx hm => (by rw [hNB]; exact hasClass_any cs A0 n0 c0 q wx (hm.fact 0 rfl).1 hco hn0)) ?_
  refine wl_ov (ov_un_not rfl) rfl ?_
  refine wl_set 18 (v' := .bool NB) rfl (congrArg Value.bool (Bool.not_not NB)) ?_
  refine wl_callw rfl cb85 rfl rfl (fun wx hm => (when_any _ _ wx)) ?_
  refine wl_buildSlice (e := 41) (cs := [.int .i64 CE, .int .i64 (whenE NB 8)]) rfl (by kernel_rfl) rfl fun g1 => ?_
  refine wl_callw (v := .int .i64 BE) rfl cb58 rfl rfl (fun wx hm => (by have h := first_any [CE, whenE NB 8] g1 2 _ wx (hm.blkI 0 rfl) (by simp); rw [← hone] at h; exact h)) ?_
  refine wl_ov (ov_assign rfl) rfl ?_
  refine wl_nil ?_
  refine nx_then ?_
  refine gw_seq ?_
  refine gw_region ?_
  refine wl_ov (ov_move rfl) rfl ?_
  refine wl_ov (ov_neq rfl rfl) rfl ?_
  refine wl_nil ?_
  refine nx_then ?_
  refine gw_cond rfl (fun hh => ?_) (fun hh => ?_)
  · have h1 : ¬ (BE = 0) := by simpa using hh
    clear hh
    refine gw_seq ?_
    refine gw_region ?_
    refine wl_ov (ov_move rfl) rfl ?_
    refine wl_ov (ov_assign rfl) rfl ?_
    refine wl_ov (ov_assign rfl) rfl ?_
    refine wl_ov (ov_assign rfl) rfl ?_
    refine wl_nil ?_
    refine nx_then ?_
    refine gw_ret ?_
    refine nx_then_ret ?_
    have h2 : ¬ BE = 0 := by simpa using h1
    refine nx_ret3 rfl rfl rfl rfl fun wx hm => ?_
    exact ⟨by unfold busyP; rw [← hBE, if_neg h2], hm.g⟩
  · have h1 : BE = 0 := by simpa using hh
    clear hh
    refine gw_skip ?_
    refine nx_then ?_
    refine gw_seq ?_
    refine gw_region ?_
    have h2 : BE = 0 := by simpa using h1
    have htm : BkTim l := busyE_ok (hBE.symm.trans h2)
    refine wl_ov (ov_move rfl) rfl ?_
    refine wl_ov (ov_move rfl) rfl ?_
    refine wl_callgo (γ := Option Addr × Nat × Nat) (val := (fun (g : Option Addr × Nat × Nat) => .slice g.1 g.2.1 g.2.2)) (φ := (fun (g : Option Addr × Nat × Nat) => (timT q l).length = g.2.1)) (fun (g : Option Addr × Nat × Nat) => ⟨.slice g.1 g.2.1 g.2.2, 35, 2, g.2.1, (timT q l).flatMap wEnc⟩) rfl cb88 rfl rfl (fun wx hm => (timesOf_any l A n c q wx (hm.fact 1 rfl).1 hok hn).mono fun _ _ ⟨A4, k, c4, he, ho, hk, hg⟩ => ⟨(A4, k, c4), he, hk, ho, hg⟩) ?_
    rintro ⟨A4, k, c4⟩ hk
    dsimp only at hk ⊢
    have hkn := timT_len q l
    have hbl := busyT_le (T := timT q l) (a := 0) (b := 5761440) (n := n) (by omega)
    obtain ⟨X1, hX1⟩ : ∃ v, v = (busyT (timT q l) 0 5761440).1 := ⟨_, rfl⟩
    obtain ⟨X2, hX2⟩ : ∃ v, v = (busyT (timT q l) 0 5761440).2 := ⟨_, rfl⟩
    rw [← hX1] at hbl
    refine wl_ov (ov_build (cs := [.int .i64 0, .int .i64 5761440]) rfl (by kernel_rfl)) rfl ?_
    refine wl_callv (v := .tuple #[.int .i64 X1, .int .i64 X2]) rfl cb87 rfl rfl (fun wx hm => (by rw [hX1, hX2]; exact busiest_any (timT q l) A4 k c4 0 5761440 wx (SlT.ofOwn w_len (hm.ownI 0 rfl) hk) (timT_ok htm q) (by omega) (by omega))) ?_
    refine wl_ov (ov_move rfl) rfl ?_
    refine wl_ov (ov_extract rfl rfl) rfl ?_
    refine wl_ov (ov_extract rfl rfl) rfl ?_
    refine wl_ov (ov_assign rfl) rfl ?_
    refine wl_ov (ov_assign rfl) rfl ?_
    refine wl_nil ?_
    refine nx_then ?_
    refine gw_seq ?_
    refine gw_region ?_
    refine wl_ov (ov_move rfl) rfl ?_
    refine wl_ov (ov_move rfl) rfl ?_
    refine wl_ov (ov_assign rfl) rfl ?_
    refine wl_ov (ov_assign rfl) rfl ?_
    refine wl_ov (ov_assign rfl) rfl ?_
    refine wl_nil ?_
    refine nx_then ?_
    refine gw_ret ?_
    refine nx_ret3 rfl rfl rfl rfl fun wx hm => ?_
    exact ⟨by unfold busyP; rw [← hBE, if_pos h2, ← hX1, ← hX2, h2], hm.g⟩

set_option maxRecDepth 100000 in
set_option maxHeartbeats 1000000 in
theorem free_any (cs : List Cs) (A0 : Option Addr) (n0 c0 : Nat) (sl : List Sk) (A1 : Option Addr) (n1 c1 : Nat) (l : List Bk) (A : Option Addr) (n c : Nat) (q : ByteArray) (a b : Int) (w : World) (hcs : SlT csEnc 2 135 w A0 n0 cs) (hco : ∀ x ∈ cs, CsOk x) (hn0 : n0 ≤ 1000) (hs : SlT skEnc 2 139 w A1 n1 sl) (hso : ∀ x ∈ sl, SkOk x) (hn1 : n1 ≤ 1000) (hl : SlT bkEnc 6 142 w A n l) (hok : ∀ x ∈ l, BkOk x) (hn : n ≤ 1000) :
    Calls Tryz.prog 19 #[.slice A0 n0 c0, .slice A1 n1 c1, .slice A n c, .string q, .agg #[.int .i64 a, .int .i64 b]] w (fun e w' => e = .returned (.tuple #[.int .i64 (freeP cs sl l q a b), .int .i64 (freeE cs sl l q a b)]) ∧ w.grownBy w' none) := by
  refine gw_enter ⟨58, w, none, []⟩ Tryz.func19 rfl Tryz.ntmps19 rfl (mem0 (X := [SlOld csEnc 2 135 w.heap.size none A0 n0 cs, SlOld skEnc 2 139 w.heap.size none A1 n1 sl, SlOld bkEnc 6 142 w.heap.size none A n l]) (allF_cons hcs.old (allF_cons hs.old (allF_cons hl.old allF_nil))) (allL_cons SlOld.lasts (allL_cons SlOld.lasts (allL_cons SlOld.lasts allL_nil)))) ?_
  refine gw_seq ?_
  refine gw_region ?_
  have hlen := hl.len
  obtain ⟨SE, hSE⟩ : ∃ E, E = firstE [stockE cs sl, checkE cs l] := ⟨_, rfl⟩
  obtain ⟨NB, hNB⟩ : ∃ E, E = noB cs q := ⟨_, rfl⟩
  obtain ⟨WB, hWB⟩ : ∃ E, E = winB a b := ⟨_, rfl⟩
  obtain ⟨FE, hFE⟩ : ∃ E, E = freeE cs sl l q a b := ⟨_, rfl⟩
  have hone : FE = firstE [SE, whenE NB 8, whenE WB 1] := by rw [hFE, hSE, hNB, hWB]; rfl
  refine wl_box rfl rfl rfl fun g1 => ?_
  refine wl_ov (ov_assign rfl) rfl ?_
  refine wl_ov (ov_assign rfl) rfl ?_
  refine wl_nil ?_
  refine nx_then ?_
  refine gw_seq ?_
  refine gw_seq ?_
  refine gw_draw (fun wz => Blk wz g1 35 [.int .i64 a, .int .i64 b] ∧ (SlOld csEnc 2 135 w.heap.size none A0 n0 cs) wz ∧ (SlOld skEnc 2 139 w.heap.size none A1 n1 sl) wz ∧ (SlOld bkEnc 6 142 w.heap.size none A n l) wz ∧ True) mixed ?_
  refine wa_take 0 rfl (by kernel_rfl) (by kernel_rfl) (by kernel_rfl) (listed' := #[true, false, false, false, false, false, false, false, false, false, false, false, false, false, false, false, false, false, false, false, false, false, false, false, false, false, false, false]) rfl (fun _ _ _ h => h) (fun _ hm => ⟨hm.blkI 0 rfl, hm.fact 0 rfl, hm.fact 1 rfl, hm.fact 2 rfl, trivial⟩) (ov_move rfl) rfl ?_
  refine wa_take 1 rfl (by kernel_rfl) (by kernel_rfl) (by kernel_rfl) (listed' := #[true, true, false, false, false, false, false, false, false, false, false, false, false, false, false, false, false, false, false, false, false, false, false, false, false, false, false, false]) rfl (fun _ _ _ h => h) (fun _ hm => ⟨hm.blkI 0 rfl, hm.fact 0 rfl, hm.fact 1 rfl, hm.fact 2 rfl, trivial⟩) (ov_move rfl) rfl ?_
  refine wa_take 2 rfl (by kernel_rfl) (by kernel_rfl) (by kernel_rfl) (listed' := #[true, true, true, false, false, false, false, false, false, false, false, false, false, false, false, false, false, false, false, false, false, false, false, false, false, false, false, false]) rfl (fun _ _ _ h => h) (fun _ hm => ⟨hm.blkI 0 rfl, hm.fact 0 rfl, hm.fact 1 rfl, hm.fact 2 rfl, trivial⟩) (ov_move rfl) rfl ?_
  refine wa_take 4 rfl (by kernel_rfl) (by kernel_rfl) (by kernel_rfl) (listed' := #[true, true, true, false, true, false, false, false, false, false, false, false, false, false, false, false, false, false, false, false, false, false, false, false, false, false, false, false]) rfl (fun _ _ _ h => h) (fun _ hm => ⟨hm.blkI 0 rfl, hm.fact 0 rfl, hm.fact 1 rfl, hm.fact 2 rfl, trivial⟩) (ov_move rfl) rfl ?_
  refine wa_take 5 rfl (by kernel_rfl) (by kernel_rfl) (by kernel_rfl) (listed' := #[true, true, true, false, true, true, false, false, false, false, false, false, false, false, false, false, false, false, false, false, false, false, false, false, false, false, false, false]) rfl (fun _ _ _ h => h) (fun _ hm => ⟨hm.blkI 0 rfl, hm.fact 0 rfl, hm.fact 1 rfl, hm.fact 2 rfl, trivial⟩) (ov_move rfl) rfl ?_
  refine wa_take 9 rfl (by kernel_rfl) (by kernel_rfl) (by kernel_rfl) (listed' := #[true, true, true, false, true, true, false, false, false, true, false, false, false, false, false, false, false, false, false, false, false, false, false, false, false, false, false, false]) rfl (fun _ _ _ h => h) (fun _ hm => ⟨hm.blkI 0 rfl, hm.fact 0 rfl, hm.fact 1 rfl, hm.fact 2 rfl, trivial⟩) (ov_field fo35_0 rfl rfl) rfl ?_
  refine wa_take 10 rfl (by kernel_rfl) (by kernel_rfl) (by kernel_rfl) (listed' := #[true, true, true, false, true, true, false, false, false, true, true, false, false, false, false, false, false, false, false, false, false, false, false, false, false, false, false, false]) rfl (fun _ _ _ h => h) (fun _ hm => ⟨hm.blkI 0 rfl, hm.fact 0 rfl, hm.fact 1 rfl, hm.fact 2 rfl, trivial⟩) (ov_load sc3 rfl (fun _ hm => hm.1) rfl) rfl ?_
  refine wa_take 11 rfl (by kernel_rfl) (by kernel_rfl) (by kernel_rfl) (listed' := #[true, true, true, false, true, true, false, false, false, true, true, true, false, false, false, false, false, false, false, false, false, false, false, false, false, false, false, false]) rfl (fun _ _ _ h => h) (fun _ hm => ⟨hm.blkI 0 rfl, hm.fact 0 rfl, hm.fact 1 rfl, hm.fact 2 rfl, trivial⟩) (ov_lss rfl rfl) rfl ?_
  refine wa_all [3] (by kernel_rfl) rfl ⟨⟨_, rfl, ?_⟩, trivial⟩
  refine wl_callv (v := .int .i64 SE) rfl cb89 rfl rfl (fun wx hm => (by rw [hSE]; exact checkAll_any cs A0 n0 c0 sl A1 n1 c1 l A n c wx (hm.fact 0 rfl).1 hco hn0 (hm.fact 1 rfl).1 hso hn1 (hm.fact 2 rfl).1 hok hn)) ?_
  refine wl_nil ?_
  refine nx_wa0 (listed' := #[true, true, true, true, true, true, false, false, false, true, true, true, false, false, false, false, false, false, false, false, false, false, false, false, false, false, false, false]) rfl (fun _ hm => ⟨hm.blkI 0 rfl, hm.fact 0 rfl, hm.fact 1 rfl, hm.fact 2 rfl, trivial⟩) ?_
  refine wa_all [6] (by kernel_rfl) rfl ⟨⟨_, rfl, ?_⟩, trivial⟩
  refine wl_callv (v := .bool (!NB)) rfl cb86 rfl rfl (fun wx hm => (by rw [hNB]; exact hasClass_any cs A0 n0 c0 q wx (hm.fact 0 rfl).1 hco hn0)) ?_
  refine wl_nil ?_
  refine nx_wa0 (listed' := #[true, true, true, true, true, true, true, false, false, true, true, true, false, false, false, false, false, false, false, false, false, false, false, false, false, false, false, false]) rfl (fun _ hm => ⟨hm.blkI 0 rfl, hm.fact 0 rfl, hm.fact 1 rfl, hm.fact 2 rfl, trivial⟩) ?_
  refine wa_take 7 rfl (by kernel_rfl) (by kernel_rfl) (by kernel_rfl) (listed' := #[true, true, true, true, true, true, true, true, false, true, true, true, false, false, false, false, false, false, false, false, false, false, false, false, false, false, false, false]) rfl (fun _ _ _ h => h) (fun _ hm => ⟨hm.blkI 0 rfl, hm.fact 0 rfl, hm.fact 1 rfl, hm.fact 2 rfl, trivial⟩) (ov_un_not rfl) rfl ?_
  refine wa_set 22 (v' := .bool NB) rfl (congrArg Value.bool (Bool.not_not NB)) ?_
  refine wa_all [8] (by kernel_rfl) rfl ⟨⟨_, rfl, ?_⟩, trivial⟩
  refine wl_callw rfl cb85 rfl rfl (fun wx hm => (when_any _ _ wx)) ?_
  refine wl_nil ?_
  refine nx_wa0 (listed' := #[true, true, true, true, true, true, true, true, true, true, true, true, false, false, false, false, false, false, false, false, false, false, false, false, false, false, false, false]) rfl (fun _ hm => ⟨hm.blkI 0 rfl, hm.fact 0 rfl, hm.fact 1 rfl, hm.fact 2 rfl, trivial⟩) ?_
  refine wa_take 12 rfl (by kernel_rfl) (by kernel_rfl) (by kernel_rfl) (listed' := #[true, true, true, true, true, true, true, true, true, true, true, true, true, false, false, false, false, false, false, false, false, false, false, false, false, false, false, false]) rfl (fun _ _ _ h => h) (fun _ hm => ⟨hm.blkI 0 rfl, hm.fact 0 rfl, hm.fact 1 rfl, hm.fact 2 rfl, trivial⟩) (ov_move rfl) rfl ?_
  rcases Bool.eq_false_or_eq_true (decide (a < 0)) with hg0 | hg0
  · refine wa_set 27 rfl (congrArg Value.bool hg0) ?_
    replace hg0 := of_decide_eq_true hg0
    have hwv : WB = true := by rw [hWB]; unfold winB; rw [decide_eq_true hg0]; rfl
    refine wa_take_off 13 rfl rfl rfl (by decide) (by kernel_rfl) (by kernel_rfl) (by kernel_rfl) (listed' := #[true, true, true, true, true, true, true, true, true, true, true, true, true, true, false, false, false, false, false, false, false, false, false, false, false, false, false, false]) rfl (fun _ _ _ h => h) (fun _ hm => ⟨hm.blkI 0 rfl, hm.fact 0 rfl, hm.fact 1 rfl, hm.fact 2 rfl, trivial⟩) rfl ?_
    refine wa_take_off 14 rfl rfl rfl (by decide) (by kernel_rfl) (by kernel_rfl) (by kernel_rfl) (listed' := #[true, true, true, true, true, true, true, true, true, true, true, true, true, true, true, false, false, false, false, false, false, false, false, false, false, false, false, false]) rfl (fun _ _ _ h => h) (fun _ hm => ⟨hm.blkI 0 rfl, hm.fact 0 rfl, hm.fact 1 rfl, hm.fact 2 rfl, trivial⟩) rfl ?_
    refine wa_take_off 15 rfl rfl rfl (by decide) (by kernel_rfl) (by kernel_rfl) (by kernel_rfl) (listed' := #[true, true, true, true, true, true, true, true, true, true, true, true, true, true, true, true, false, false, false, false, false, false, false, false, false, false, false, false]) rfl (fun _ _ _ h => h) (fun _ hm => ⟨hm.blkI 0 rfl, hm.fact 0 rfl, hm.fact 1 rfl, hm.fact 2 rfl, trivial⟩) rfl ?_
    refine wa_take_off 16 rfl rfl rfl (by decide) (by kernel_rfl) (by kernel_rfl) (by kernel_rfl) (listed' := #[true, true, true, true, true, true, true, true, true, true, true, true, true, true, true, true, true, false, false, false, false, false, false, false, false, false, false, false]) rfl (fun _ _ _ h => h) (fun _ hm => ⟨hm.blkI 0 rfl, hm.fact 0 rfl, hm.fact 1 rfl, hm.fact 2 rfl, trivial⟩) rfl ?_
    refine wa_take_off 17 rfl rfl rfl (by decide) (by kernel_rfl) (by kernel_rfl) (by kernel_rfl) (listed' := #[true, true, true, true, true, true, true, true, true, true, true, true, true, true, true, true, true, true, false, false, false, false, false, false, false, false, false, false]) rfl (fun _ _ _ h => h) (fun _ hm => ⟨hm.blkI 0 rfl, hm.fact 0 rfl, hm.fact 1 rfl, hm.fact 2 rfl, trivial⟩) rfl ?_
    refine wa_take 18 rfl (by kernel_rfl) (by kernel_rfl) (by kernel_rfl) (listed' := #[true, true, true, true, true, true, true, true, true, true, true, true, true, true, true, true, true, true, true, false, false, false, false, false, false, false, false, false]) rfl (fun _ _ _ h => h) (fun _ hm => ⟨hm.blkI 0 rfl, hm.fact 0 rfl, hm.fact 1 rfl, hm.fact 2 rfl, trivial⟩) (ov_pick_t rfl rfl) rfl ?_
    refine wa_take 19 rfl (by kernel_rfl) (by kernel_rfl) (by kernel_rfl) (listed' := #[true, true, true, true, true, true, true, true, true, true, true, true, true, true, true, true, true, true, true, true, false, false, false, false, false, false, false, false]) rfl (fun _ _ _ h => h) (fun _ hm => ⟨hm.blkI 0 rfl, hm.fact 0 rfl, hm.fact 1 rfl, hm.fact 2 rfl, trivial⟩) (ov_move rfl) rfl ?_
    refine wa_take_off 20 rfl rfl rfl (by decide) (by kernel_rfl) (by kernel_rfl) (by kernel_rfl) (listed' := #[true, true, true, true, true, true, true, true, true, true, true, true, true, true, true, true, true, true, true, true, true, false, false, false, false, false, false, false]) rfl (fun _ _ _ h => h) (fun _ hm => ⟨hm.blkI 0 rfl, hm.fact 0 rfl, hm.fact 1 rfl, hm.fact 2 rfl, trivial⟩) rfl ?_
    refine wa_take_off 21 rfl rfl rfl (by decide) (by kernel_rfl) (by kernel_rfl) (by kernel_rfl) (listed' := #[true, true, true, true, true, true, true, true, true, true, true, true, true, true, true, true, true, true, true, true, true, true, false, false, false, false, false, false]) rfl (fun _ _ _ h => h) (fun _ hm => ⟨hm.blkI 0 rfl, hm.fact 0 rfl, hm.fact 1 rfl, hm.fact 2 rfl, trivial⟩) rfl ?_
    refine wa_take_off 22 rfl rfl rfl (by decide) (by kernel_rfl) (by kernel_rfl) (by kernel_rfl) (listed' := #[true, true, true, true, true, true, true, true, true, true, true, true, true, true, true, true, true, true, true, true, true, true, true, false, false, false, false, false]) rfl (fun _ _ _ h => h) (fun _ hm => ⟨hm.blkI 0 rfl, hm.fact 0 rfl, hm.fact 1 rfl, hm.fact 2 rfl, trivial⟩) rfl ?_
    refine wa_take 23 rfl (by kernel_rfl) (by kernel_rfl) (by kernel_rfl) (listed' := #[true, true, true, true, true, true, true, true, true, true, true, true, true, true, true, true, true, true, true, true, true, true, true, true, false, false, false, false]) rfl (fun _ _ _ h => h) (fun _ hm => ⟨hm.blkI 0 rfl, hm.fact 0 rfl, hm.fact 1 rfl, hm.fact 2 rfl, trivial⟩) (ov_pick_t rfl rfl) rfl ?_
    refine wa_all [24] (by kernel_rfl) rfl ⟨⟨_, rfl, ?_⟩, trivial⟩
    refine wl_callw rfl cb85 rfl rfl (fun wx hm => (when_any _ _ wx)) ?_
    refine wl_nil ?_
    refine nx_wa0 (listed' := #[true, true, true, true, true, true, true, true, true, true, true, true, true, true, true, true, true, true, true, true, true, true, true, true, true, false, false, false]) rfl (fun _ hm => ⟨hm.blkI 0 rfl, hm.fact 0 rfl, hm.fact 1 rfl, hm.fact 2 rfl, trivial⟩) ?_
    refine wa_all [25] (by kernel_rfl) rfl ⟨⟨_, rfl, ?_⟩, trivial⟩
    refine wl_buildSlice (e := 41) (cs := [.int .i64 SE, .int .i64 (whenE NB 8), .int .i64 (whenE true 1)]) rfl (by kernel_rfl) rfl fun g2 => ?_
    refine wl_nil ?_
    refine nx_wa0 (listed' := #[true, true, true, true, true, true, true, true, true, true, true, true, true, true, true, true, true, true, true, true, true, true, true, true, true, true, false, false]) rfl (fun _ hm => ⟨hm.blkI 1 rfl, hm.fact 0 rfl, hm.fact 1 rfl, hm.fact 2 rfl, trivial⟩) ?_
    refine wa_all [26] (by kernel_rfl) rfl ⟨⟨_, rfl, ?_⟩, trivial⟩
    refine wl_callw (v := .int .i64 FE) rfl cb58 rfl rfl (fun wx hm => (by have h := first_any [SE, whenE NB 8, whenE true 1] g2 3 _ wx (hm.blkI 0 rfl) (by simp); rw [show firstE [SE, whenE NB 8, whenE true 1] = FE from by rw [hone, hwv]] at h; exact h)) ?_
    refine wl_nil ?_
    refine nx_wa0 (listed' := #[true, true, true, true, true, true, true, true, true, true, true, true, true, true, true, true, true, true, true, true, true, true, true, true, true, true, true, false]) rfl (fun _ hm => ⟨hm.blkI 1 rfl, hm.fact 0 rfl, hm.fact 1 rfl, hm.fact 2 rfl, trivial⟩) ?_
    refine wa_take 27 rfl (by kernel_rfl) (by kernel_rfl) (by kernel_rfl) (listed' := #[true, true, true, true, true, true, true, true, true, true, true, true, true, true, true, true, true, true, true, true, true, true, true, true, true, true, true, true]) rfl (fun _ _ _ h => h) (fun _ hm => ⟨hm.blkI 1 rfl, hm.fact 0 rfl, hm.fact 1 rfl, hm.fact 2 rfl, trivial⟩) (ov_assign rfl) rfl ?_
    refine wa_done (by kernel_rfl) ?_
    refine nx_then ?_
    refine gw_seq ?_
    refine gw_region ?_
    refine wl_ov (ov_move rfl) rfl ?_
    refine wl_ov (ov_neq rfl rfl) rfl ?_
    refine wl_nil ?_
    refine nx_then ?_
    refine gw_cond rfl (fun hh => ?_) (fun hh => ?_)
    · have h1 : ¬ (FE = 0) := by simpa using hh
      clear hh
      refine gw_seq ?_
      refine gw_region ?_
      refine wl_ov (ov_move rfl) rfl ?_
      refine wl_ov (ov_assign rfl) rfl ?_
      refine wl_ov (ov_assign rfl) rfl ?_
      refine wl_nil ?_
      refine nx_then ?_
      refine gw_ret ?_
      refine nx_then_ret ?_
      have h2 : ¬ FE = 0 := by simpa using h1
      refine nx_ret2 rfl rfl rfl fun wx hm => ?_
      exact ⟨by unfold freeP; rw [← hFE, if_neg h2], hm.g⟩
    · have h1 : FE = 0 := by simpa using hh
      clear hh
      refine gw_skip ?_
      refine nx_then ?_
      refine gw_seq ?_
      have h2 : FE = 0 := by simpa using h1
      obtain ⟨htm, hw0, hw1, hw2⟩ := freeE_ok (hFE.symm.trans h2)
      have hmb := manyV_bound hso q
      refine gw_draw (fun wz => Blk wz g2 41 [.int .i64 SE, .int .i64 (whenE NB 8), .int .i64 (whenE true 1)] ∧ Blk wz g1 35 [.int .i64 a, .int .i64 b] ∧ (SlOld csEnc 2 135 w.heap.size none A0 n0 cs) wz ∧ (SlOld skEnc 2 139 w.heap.size none A1 n1 sl) wz ∧ (SlOld bkEnc 6 142 w.heap.size none A n l) wz ∧ True) mixed ?_
      refine wa_take 0 rfl (by kernel_rfl) (by kernel_rfl) (by kernel_rfl) (listed' := #[true, false, false, false, false, false, false, false, false, false]) rfl (fun _ _ _ h => h) (fun _ hm => ⟨hm.blkI 0 rfl, hm.blkI 1 rfl, hm.fact 0 rfl, hm.fact 1 rfl, hm.fact 2 rfl, trivial⟩) (ov_move rfl) rfl ?_
      refine wa_take 1 rfl (by kernel_rfl) (by kernel_rfl) (by kernel_rfl) (listed' := #[true, true, false, false, false, false, false, false, false, false]) rfl (fun _ _ _ h => h) (fun _ hm => ⟨hm.blkI 0 rfl, hm.blkI 1 rfl, hm.fact 0 rfl, hm.fact 1 rfl, hm.fact 2 rfl, trivial⟩) (ov_move rfl) rfl ?_
      refine wa_take 3 rfl (by kernel_rfl) (by kernel_rfl) (by kernel_rfl) (listed' := #[true, true, false, true, false, false, false, false, false, false]) rfl (fun _ _ _ h => h) (fun _ hm => ⟨hm.blkI 0 rfl, hm.blkI 1 rfl, hm.fact 0 rfl, hm.fact 1 rfl, hm.fact 2 rfl, trivial⟩) (ov_loads rz35 rfl (fun _ hm => hm.2.1) rfl rfl) rfl ?_
      refine wa_all [2] (by kernel_rfl) rfl ⟨⟨_, rfl, ?_⟩, trivial⟩
      refine wl_callgo (γ := Option Addr × Nat × Nat) (val := (fun (g : Option Addr × Nat × Nat) => .slice g.1 g.2.1 g.2.2)) (φ := (fun (g : Option Addr × Nat × Nat) => (timT q l).length = g.2.1)) (fun (g : Option Addr × Nat × Nat) => ⟨.slice g.1 g.2.1 g.2.2, 35, 2, g.2.1, (timT q l).flatMap wEnc⟩) rfl cb88 rfl rfl (fun wx hm => (timesOf_any l A n c q wx (hm.fact 2 rfl).1 hok hn).mono fun _ _ ⟨A4, k, c4, he, ho, hk, hg⟩ => ⟨(A4, k, c4), he, hk, ho, hg⟩) ?_
      rintro ⟨A4, k, c4⟩ hk
      dsimp only at hk ⊢
      have hkn := timT_len q l
      have hbl := busyT_le (T := timT q l) (a := a) (b := b) (n := n) (by omega)
      obtain ⟨X1, hX1⟩ : ∃ v, v = (busyT (timT q l) a b).1 := ⟨_, rfl⟩
      obtain ⟨X2, hX2⟩ : ∃ v, v = (busyT (timT q l) a b).2 := ⟨_, rfl⟩
      rw [← hX1] at hbl
      refine wl_nil ?_
      refine nx_wa0 (listed' := #[true, true, true, true, false, false, false, false, false, false]) rfl (fun _ hm => ⟨hm.blkI 0 rfl, hm.blkI 1 rfl, hm.fact 0 rfl, hm.fact 1 rfl, hm.fact 2 rfl, trivial⟩) ?_
      refine wa_all [4] (by kernel_rfl) rfl ⟨⟨_, rfl, ?_⟩, trivial⟩
      refine wl_callv (v := .tuple #[.int .i64 X1, .int .i64 X2]) rfl cb87 rfl rfl (fun wx hm => (by rw [hX1, hX2]; exact busiest_any (timT q l) A4 k c4 a b wx (SlT.ofOwn w_len (hm.ownI 0 rfl) hk) (timT_ok htm q) (by omega) (by omega))) ?_
      refine wl_nil ?_
      refine nx_wa0 (listed' := #[true, true, true, true, true, false, false, false, false, false]) rfl (fun _ hm => ⟨hm.blkI 0 rfl, hm.blkI 1 rfl, hm.fact 0 rfl, hm.fact 1 rfl, hm.fact 2 rfl, trivial⟩) ?_
      refine wa_take 5 rfl (by kernel_rfl) (by kernel_rfl) (by kernel_rfl) (listed' := #[true, true, true, true, true, true, false, false, false, false]) rfl (fun _ _ _ h => h) (fun _ hm => ⟨hm.blkI 0 rfl, hm.blkI 1 rfl, hm.fact 0 rfl, hm.fact 1 rfl, hm.fact 2 rfl, trivial⟩) (ov_move rfl) rfl ?_
      refine wa_take 6 rfl (by kernel_rfl) (by kernel_rfl) (by kernel_rfl) (listed' := #[true, true, true, true, true, true, true, false, false, false]) rfl (fun _ _ _ h => h) (fun _ hm => ⟨hm.blkI 0 rfl, hm.blkI 1 rfl, hm.fact 0 rfl, hm.fact 1 rfl, hm.fact 2 rfl, trivial⟩) (ov_extract rfl rfl) rfl ?_
      refine wa_take 7 rfl (by kernel_rfl) (by kernel_rfl) (by kernel_rfl) (listed' := #[true, true, true, true, true, true, true, true, false, false]) rfl (fun _ _ _ h => h) (fun _ hm => ⟨hm.blkI 0 rfl, hm.blkI 1 rfl, hm.fact 0 rfl, hm.fact 1 rfl, hm.fact 2 rfl, trivial⟩) (ov_extract rfl rfl) rfl ?_
      refine wa_take 8 rfl (by kernel_rfl) (by kernel_rfl) (by kernel_rfl) (listed' := #[true, true, true, true, true, true, true, true, true, false]) rfl (fun _ _ _ h => h) (fun _ hm => ⟨hm.blkI 0 rfl, hm.blkI 1 rfl, hm.fact 0 rfl, hm.fact 1 rfl, hm.fact 2 rfl, trivial⟩) (ov_assign rfl) rfl ?_
      refine wa_take 9 rfl (by kernel_rfl) (by kernel_rfl) (by kernel_rfl) (listed' := #[true, true, true, true, true, true, true, true, true, true]) rfl (fun _ _ _ h => h) (fun _ hm => ⟨hm.blkI 0 rfl, hm.blkI 1 rfl, hm.fact 0 rfl, hm.fact 1 rfl, hm.fact 2 rfl, trivial⟩) (ov_assign rfl) rfl ?_
      refine wa_done (by kernel_rfl) ?_
      refine nx_then ?_
      refine gw_seq ?_
      refine gw_region ?_
      refine wl_ov (ov_move rfl) rfl ?_
      refine wl_ov (ov_move rfl) rfl ?_
      refine wl_callv rfl cb90 rfl rfl (fun wx hm => (many_any sl A1 n1 c1 q wx (hm.fact 1 rfl).1 hso hn1)) ?_
      refine wl_ov (ov_move rfl) rfl ?_
      refine wl_ov (ov_sub rfl rfl (by omega) (by omega)) rfl ?_
      refine wl_ov (ov_assign rfl) rfl ?_
      refine wl_ov (ov_assign rfl) rfl ?_
      refine wl_nil ?_
      refine nx_then ?_
      refine gw_ret ?_
      refine nx_ret2 rfl rfl rfl fun wx hm => ?_
      exact ⟨by unfold freeP; rw [← hFE, if_pos h2, ← hX1, h2], hm.g⟩
  · refine wa_set 27 rfl (congrArg Value.bool hg0) ?_
    replace hg0 := of_decide_eq_false hg0
    refine wa_take_on 13 rfl rfl rfl (by kernel_rfl) (by kernel_rfl) (by kernel_rfl) (listed' := #[true, true, true, true, true, true, true, true, true, true, true, true, true, true, false, false, false, false, false, false, false, false, false, false, false, false, false, false]) rfl (fun _ _ _ h => h) (fun _ hm => ⟨hm.blkI 0 rfl, hm.fact 0 rfl, hm.fact 1 rfl, hm.fact 2 rfl, trivial⟩) (ov_field fo35_0 rfl rfl) rfl ?_
    refine wa_take_on 14 rfl rfl rfl (by kernel_rfl) (by kernel_rfl) (by kernel_rfl) (listed' := #[true, true, true, true, true, true, true, true, true, true, true, true, true, true, true, false, false, false, false, false, false, false, false, false, false, false, false, false]) rfl (fun _ _ _ h => h) (fun _ hm => ⟨hm.blkI 0 rfl, hm.fact 0 rfl, hm.fact 1 rfl, hm.fact 2 rfl, trivial⟩) (ov_load sc3 rfl (fun _ hm => hm.1) rfl) rfl ?_
    refine wa_take_on 15 rfl rfl rfl (by kernel_rfl) (by kernel_rfl) (by kernel_rfl) (listed' := #[true, true, true, true, true, true, true, true, true, true, true, true, true, true, true, true, false, false, false, false, false, false, false, false, false, false, false, false]) rfl (fun _ _ _ h => h) (fun _ hm => ⟨hm.blkI 0 rfl, hm.fact 0 rfl, hm.fact 1 rfl, hm.fact 2 rfl, trivial⟩) (ov_field fo35_1 rfl rfl) rfl ?_
    refine wa_take_on 16 rfl rfl rfl (by kernel_rfl) (by kernel_rfl) (by kernel_rfl) (listed' := #[true, true, true, true, true, true, true, true, true, true, true, true, true, true, true, true, true, false, false, false, false, false, false, false, false, false, false, false]) rfl (fun _ _ _ h => h) (fun _ hm => ⟨hm.blkI 0 rfl, hm.fact 0 rfl, hm.fact 1 rfl, hm.fact 2 rfl, trivial⟩) (ov_load sc3 rfl (fun _ hm => hm.1) rfl) rfl ?_
    refine wa_take_on 17 rfl rfl rfl (by kernel_rfl) (by kernel_rfl) (by kernel_rfl) (listed' := #[true, true, true, true, true, true, true, true, true, true, true, true, true, true, true, true, true, true, false, false, false, false, false, false, false, false, false, false]) rfl (fun _ _ _ h => h) (fun _ hm => ⟨hm.blkI 0 rfl, hm.fact 0 rfl, hm.fact 1 rfl, hm.fact 2 rfl, trivial⟩) (ov_geq rfl rfl) rfl ?_
    refine wa_take 18 rfl (by kernel_rfl) (by kernel_rfl) (by kernel_rfl) (listed' := #[true, true, true, true, true, true, true, true, true, true, true, true, true, true, true, true, true, true, true, false, false, false, false, false, false, false, false, false]) rfl (fun _ _ _ h => h) (fun _ hm => ⟨hm.blkI 0 rfl, hm.fact 0 rfl, hm.fact 1 rfl, hm.fact 2 rfl, trivial⟩) (ov_pick_f rfl rfl) rfl ?_
    refine wa_take 19 rfl (by kernel_rfl) (by kernel_rfl) (by kernel_rfl) (listed' := #[true, true, true, true, true, true, true, true, true, true, true, true, true, true, true, true, true, true, true, true, false, false, false, false, false, false, false, false]) rfl (fun _ _ _ h => h) (fun _ hm => ⟨hm.blkI 0 rfl, hm.fact 0 rfl, hm.fact 1 rfl, hm.fact 2 rfl, trivial⟩) (ov_move rfl) rfl ?_
    rcases Bool.eq_false_or_eq_true (decide (b ≤ a)) with hg1 | hg1
    · refine wa_set 34 rfl (congrArg Value.bool hg1) ?_
      replace hg1 := of_decide_eq_true hg1
      have hwv : WB = true := by rw [hWB]; unfold winB; rw [decide_eq_true hg1, decide_eq_false hg0]; rfl
      refine wa_take_off 20 rfl rfl rfl (by decide) (by kernel_rfl) (by kernel_rfl) (by kernel_rfl) (listed' := #[true, true, true, true, true, true, true, true, true, true, true, true, true, true, true, true, true, true, true, true, true, false, false, false, false, false, false, false]) rfl (fun _ _ _ h => h) (fun _ hm => ⟨hm.blkI 0 rfl, hm.fact 0 rfl, hm.fact 1 rfl, hm.fact 2 rfl, trivial⟩) rfl ?_
      refine wa_take_off 21 rfl rfl rfl (by decide) (by kernel_rfl) (by kernel_rfl) (by kernel_rfl) (listed' := #[true, true, true, true, true, true, true, true, true, true, true, true, true, true, true, true, true, true, true, true, true, true, false, false, false, false, false, false]) rfl (fun _ _ _ h => h) (fun _ hm => ⟨hm.blkI 0 rfl, hm.fact 0 rfl, hm.fact 1 rfl, hm.fact 2 rfl, trivial⟩) rfl ?_
      refine wa_take_off 22 rfl rfl rfl (by decide) (by kernel_rfl) (by kernel_rfl) (by kernel_rfl) (listed' := #[true, true, true, true, true, true, true, true, true, true, true, true, true, true, true, true, true, true, true, true, true, true, true, false, false, false, false, false]) rfl (fun _ _ _ h => h) (fun _ hm => ⟨hm.blkI 0 rfl, hm.fact 0 rfl, hm.fact 1 rfl, hm.fact 2 rfl, trivial⟩) rfl ?_
      refine wa_take 23 rfl (by kernel_rfl) (by kernel_rfl) (by kernel_rfl) (listed' := #[true, true, true, true, true, true, true, true, true, true, true, true, true, true, true, true, true, true, true, true, true, true, true, true, false, false, false, false]) rfl (fun _ _ _ h => h) (fun _ hm => ⟨hm.blkI 0 rfl, hm.fact 0 rfl, hm.fact 1 rfl, hm.fact 2 rfl, trivial⟩) (ov_pick_t rfl rfl) rfl ?_
      refine wa_all [24] (by kernel_rfl) rfl ⟨⟨_, rfl, ?_⟩, trivial⟩
      refine wl_callw rfl cb85 rfl rfl (fun wx hm => (when_any _ _ wx)) ?_
      refine wl_nil ?_
      refine nx_wa0 (listed' := #[true, true, true, true, true, true, true, true, true, true, true, true, true, true, true, true, true, true, true, true, true, true, true, true, true, false, false, false]) rfl (fun _ hm => ⟨hm.blkI 0 rfl, hm.fact 0 rfl, hm.fact 1 rfl, hm.fact 2 rfl, trivial⟩) ?_
      refine wa_all [25] (by kernel_rfl) rfl ⟨⟨_, rfl, ?_⟩, trivial⟩
      refine wl_buildSlice (e := 41) (cs := [.int .i64 SE, .int .i64 (whenE NB 8), .int .i64 (whenE true 1)]) rfl (by kernel_rfl) rfl fun g3 => ?_
      refine wl_nil ?_
      refine nx_wa0 (listed' := #[true, true, true, true, true, true, true, true, true, true, true, true, true, true, true, true, true, true, true, true, true, true, true, true, true, true, false, false]) rfl (fun _ hm => ⟨hm.blkI 1 rfl, hm.fact 0 rfl, hm.fact 1 rfl, hm.fact 2 rfl, trivial⟩) ?_
      refine wa_all [26] (by kernel_rfl) rfl ⟨⟨_, rfl, ?_⟩, trivial⟩
      refine wl_callw (v := .int .i64 FE) rfl cb58 rfl rfl (fun wx hm => (by have h := first_any [SE, whenE NB 8, whenE true 1] g3 3 _ wx (hm.blkI 0 rfl) (by simp); rw [show firstE [SE, whenE NB 8, whenE true 1] = FE from by rw [hone, hwv]] at h; exact h)) ?_
      refine wl_nil ?_
      refine nx_wa0 (listed' := #[true, true, true, true, true, true, true, true, true, true, true, true, true, true, true, true, true, true, true, true, true, true, true, true, true, true, true, false]) rfl (fun _ hm => ⟨hm.blkI 1 rfl, hm.fact 0 rfl, hm.fact 1 rfl, hm.fact 2 rfl, trivial⟩) ?_
      refine wa_take 27 rfl (by kernel_rfl) (by kernel_rfl) (by kernel_rfl) (listed' := #[true, true, true, true, true, true, true, true, true, true, true, true, true, true, true, true, true, true, true, true, true, true, true, true, true, true, true, true]) rfl (fun _ _ _ h => h) (fun _ hm => ⟨hm.blkI 1 rfl, hm.fact 0 rfl, hm.fact 1 rfl, hm.fact 2 rfl, trivial⟩) (ov_assign rfl) rfl ?_
      refine wa_done (by kernel_rfl) ?_
      refine nx_then ?_
      refine gw_seq ?_
      refine gw_region ?_
      refine wl_ov (ov_move rfl) rfl ?_
      refine wl_ov (ov_neq rfl rfl) rfl ?_
      refine wl_nil ?_
      refine nx_then ?_
      refine gw_cond rfl (fun hh => ?_) (fun hh => ?_)
      · have h1 : ¬ (FE = 0) := by simpa using hh
        clear hh
        refine gw_seq ?_
        refine gw_region ?_
        refine wl_ov (ov_move rfl) rfl ?_
        refine wl_ov (ov_assign rfl) rfl ?_
        refine wl_ov (ov_assign rfl) rfl ?_
        refine wl_nil ?_
        refine nx_then ?_
        refine gw_ret ?_
        refine nx_then_ret ?_
        have h2 : ¬ FE = 0 := by simpa using h1
        refine nx_ret2 rfl rfl rfl fun wx hm => ?_
        exact ⟨by unfold freeP; rw [← hFE, if_neg h2], hm.g⟩
      · have h1 : FE = 0 := by simpa using hh
        clear hh
        refine gw_skip ?_
        refine nx_then ?_
        refine gw_seq ?_
        have h2 : FE = 0 := by simpa using h1
        obtain ⟨htm, hw0, hw1, hw2⟩ := freeE_ok (hFE.symm.trans h2)
        have hmb := manyV_bound hso q
        refine gw_draw (fun wz => Blk wz g3 41 [.int .i64 SE, .int .i64 (whenE NB 8), .int .i64 (whenE true 1)] ∧ Blk wz g1 35 [.int .i64 a, .int .i64 b] ∧ (SlOld csEnc 2 135 w.heap.size none A0 n0 cs) wz ∧ (SlOld skEnc 2 139 w.heap.size none A1 n1 sl) wz ∧ (SlOld bkEnc 6 142 w.heap.size none A n l) wz ∧ True) mixed ?_
        refine wa_take 0 rfl (by kernel_rfl) (by kernel_rfl) (by kernel_rfl) (listed' := #[true, false, false, false, false, false, false, false, false, false]) rfl (fun _ _ _ h => h) (fun _ hm => ⟨hm.blkI 0 rfl, hm.blkI 1 rfl, hm.fact 0 rfl, hm.fact 1 rfl, hm.fact 2 rfl, trivial⟩) (ov_move rfl) rfl ?_
        refine wa_take 1 rfl (by kernel_rfl) (by kernel_rfl) (by kernel_rfl) (listed' := #[true, true, false, false, false, false, false, false, false, false]) rfl (fun _ _ _ h => h) (fun _ hm => ⟨hm.blkI 0 rfl, hm.blkI 1 rfl, hm.fact 0 rfl, hm.fact 1 rfl, hm.fact 2 rfl, trivial⟩) (ov_move rfl) rfl ?_
        refine wa_take 3 rfl (by kernel_rfl) (by kernel_rfl) (by kernel_rfl) (listed' := #[true, true, false, true, false, false, false, false, false, false]) rfl (fun _ _ _ h => h) (fun _ hm => ⟨hm.blkI 0 rfl, hm.blkI 1 rfl, hm.fact 0 rfl, hm.fact 1 rfl, hm.fact 2 rfl, trivial⟩) (ov_loads rz35 rfl (fun _ hm => hm.2.1) rfl rfl) rfl ?_
        refine wa_all [2] (by kernel_rfl) rfl ⟨⟨_, rfl, ?_⟩, trivial⟩
        refine wl_callgo (γ := Option Addr × Nat × Nat) (val := (fun (g : Option Addr × Nat × Nat) => .slice g.1 g.2.1 g.2.2)) (φ := (fun (g : Option Addr × Nat × Nat) => (timT q l).length = g.2.1)) (fun (g : Option Addr × Nat × Nat) => ⟨.slice g.1 g.2.1 g.2.2, 35, 2, g.2.1, (timT q l).flatMap wEnc⟩) rfl cb88 rfl rfl (fun wx hm => (timesOf_any l A n c q wx (hm.fact 2 rfl).1 hok hn).mono fun _ _ ⟨A4, k, c4, he, ho, hk, hg⟩ => ⟨(A4, k, c4), he, hk, ho, hg⟩) ?_
        rintro ⟨A4, k, c4⟩ hk
        dsimp only at hk ⊢
        have hkn := timT_len q l
        have hbl := busyT_le (T := timT q l) (a := a) (b := b) (n := n) (by omega)
        obtain ⟨X1, hX1⟩ : ∃ v, v = (busyT (timT q l) a b).1 := ⟨_, rfl⟩
        obtain ⟨X2, hX2⟩ : ∃ v, v = (busyT (timT q l) a b).2 := ⟨_, rfl⟩
        rw [← hX1] at hbl
        refine wl_nil ?_
        refine nx_wa0 (listed' := #[true, true, true, true, false, false, false, false, false, false]) rfl (fun _ hm => ⟨hm.blkI 0 rfl, hm.blkI 1 rfl, hm.fact 0 rfl, hm.fact 1 rfl, hm.fact 2 rfl, trivial⟩) ?_
        refine wa_all [4] (by kernel_rfl) rfl ⟨⟨_, rfl, ?_⟩, trivial⟩
        refine wl_callv (v := .tuple #[.int .i64 X1, .int .i64 X2]) rfl cb87 rfl rfl (fun wx hm => (by rw [hX1, hX2]; exact busiest_any (timT q l) A4 k c4 a b wx (SlT.ofOwn w_len (hm.ownI 0 rfl) hk) (timT_ok htm q) (by omega) (by omega))) ?_
        refine wl_nil ?_
        refine nx_wa0 (listed' := #[true, true, true, true, true, false, false, false, false, false]) rfl (fun _ hm => ⟨hm.blkI 0 rfl, hm.blkI 1 rfl, hm.fact 0 rfl, hm.fact 1 rfl, hm.fact 2 rfl, trivial⟩) ?_
        refine wa_take 5 rfl (by kernel_rfl) (by kernel_rfl) (by kernel_rfl) (listed' := #[true, true, true, true, true, true, false, false, false, false]) rfl (fun _ _ _ h => h) (fun _ hm => ⟨hm.blkI 0 rfl, hm.blkI 1 rfl, hm.fact 0 rfl, hm.fact 1 rfl, hm.fact 2 rfl, trivial⟩) (ov_move rfl) rfl ?_
        refine wa_take 6 rfl (by kernel_rfl) (by kernel_rfl) (by kernel_rfl) (listed' := #[true, true, true, true, true, true, true, false, false, false]) rfl (fun _ _ _ h => h) (fun _ hm => ⟨hm.blkI 0 rfl, hm.blkI 1 rfl, hm.fact 0 rfl, hm.fact 1 rfl, hm.fact 2 rfl, trivial⟩) (ov_extract rfl rfl) rfl ?_
        refine wa_take 7 rfl (by kernel_rfl) (by kernel_rfl) (by kernel_rfl) (listed' := #[true, true, true, true, true, true, true, true, false, false]) rfl (fun _ _ _ h => h) (fun _ hm => ⟨hm.blkI 0 rfl, hm.blkI 1 rfl, hm.fact 0 rfl, hm.fact 1 rfl, hm.fact 2 rfl, trivial⟩) (ov_extract rfl rfl) rfl ?_
        refine wa_take 8 rfl (by kernel_rfl) (by kernel_rfl) (by kernel_rfl) (listed' := #[true, true, true, true, true, true, true, true, true, false]) rfl (fun _ _ _ h => h) (fun _ hm => ⟨hm.blkI 0 rfl, hm.blkI 1 rfl, hm.fact 0 rfl, hm.fact 1 rfl, hm.fact 2 rfl, trivial⟩) (ov_assign rfl) rfl ?_
        refine wa_take 9 rfl (by kernel_rfl) (by kernel_rfl) (by kernel_rfl) (listed' := #[true, true, true, true, true, true, true, true, true, true]) rfl (fun _ _ _ h => h) (fun _ hm => ⟨hm.blkI 0 rfl, hm.blkI 1 rfl, hm.fact 0 rfl, hm.fact 1 rfl, hm.fact 2 rfl, trivial⟩) (ov_assign rfl) rfl ?_
        refine wa_done (by kernel_rfl) ?_
        refine nx_then ?_
        refine gw_seq ?_
        refine gw_region ?_
        refine wl_ov (ov_move rfl) rfl ?_
        refine wl_ov (ov_move rfl) rfl ?_
        refine wl_callv rfl cb90 rfl rfl (fun wx hm => (many_any sl A1 n1 c1 q wx (hm.fact 1 rfl).1 hso hn1)) ?_
        refine wl_ov (ov_move rfl) rfl ?_
        refine wl_ov (ov_sub rfl rfl (by omega) (by omega)) rfl ?_
        refine wl_ov (ov_assign rfl) rfl ?_
        refine wl_ov (ov_assign rfl) rfl ?_
        refine wl_nil ?_
        refine nx_then ?_
        refine gw_ret ?_
        refine nx_ret2 rfl rfl rfl fun wx hm => ?_
        exact ⟨by unfold freeP; rw [← hFE, if_pos h2, ← hX1, h2], hm.g⟩
    · refine wa_set 34 rfl (congrArg Value.bool hg1) ?_
      replace hg1 := of_decide_eq_false hg1
      have hwv : WB = decide (5761439 < b) := by rw [hWB]; unfold winB; rw [decide_eq_false hg0, decide_eq_false hg1]; rfl
      refine wa_take_on 20 rfl rfl rfl (by kernel_rfl) (by kernel_rfl) (by kernel_rfl) (listed' := #[true, true, true, true, true, true, true, true, true, true, true, true, true, true, true, true, true, true, true, true, true, false, false, false, false, false, false, false]) rfl (fun _ _ _ h => h) (fun _ hm => ⟨hm.blkI 0 rfl, hm.fact 0 rfl, hm.fact 1 rfl, hm.fact 2 rfl, trivial⟩) (ov_field fo35_1 rfl rfl) rfl ?_
      refine wa_take_on 21 rfl rfl rfl (by kernel_rfl) (by kernel_rfl) (by kernel_rfl) (listed' := #[true, true, true, true, true, true, true, true, true, true, true, true, true, true, true, true, true, true, true, true, true, true, false, false, false, false, false, false]) rfl (fun _ _ _ h => h) (fun _ hm => ⟨hm.blkI 0 rfl, hm.fact 0 rfl, hm.fact 1 rfl, hm.fact 2 rfl, trivial⟩) (ov_load sc3 rfl (fun _ hm => hm.1) rfl) rfl ?_
      refine wa_take_on 22 rfl rfl rfl (by kernel_rfl) (by kernel_rfl) (by kernel_rfl) (listed' := #[true, true, true, true, true, true, true, true, true, true, true, true, true, true, true, true, true, true, true, true, true, true, true, false, false, false, false, false]) rfl (fun _ _ _ h => h) (fun _ hm => ⟨hm.blkI 0 rfl, hm.fact 0 rfl, hm.fact 1 rfl, hm.fact 2 rfl, trivial⟩) (ov_gtr rfl rfl) rfl ?_
      refine wa_take 23 rfl (by kernel_rfl) (by kernel_rfl) (by kernel_rfl) (listed' := #[true, true, true, true, true, true, true, true, true, true, true, true, true, true, true, true, true, true, true, true, true, true, true, true, false, false, false, false]) rfl (fun _ _ _ h => h) (fun _ hm => ⟨hm.blkI 0 rfl, hm.fact 0 rfl, hm.fact 1 rfl, hm.fact 2 rfl, trivial⟩) (ov_pick_f rfl rfl) rfl ?_
      refine wa_all [24] (by kernel_rfl) rfl ⟨⟨_, rfl, ?_⟩, trivial⟩
      refine wl_callw rfl cb85 rfl rfl (fun wx hm => (when_any _ _ wx)) ?_
      refine wl_nil ?_
      refine nx_wa0 (listed' := #[true, true, true, true, true, true, true, true, true, true, true, true, true, true, true, true, true, true, true, true, true, true, true, true, true, false, false, false]) rfl (fun _ hm => ⟨hm.blkI 0 rfl, hm.fact 0 rfl, hm.fact 1 rfl, hm.fact 2 rfl, trivial⟩) ?_
      refine wa_all [25] (by kernel_rfl) rfl ⟨⟨_, rfl, ?_⟩, trivial⟩
      refine wl_buildSlice (e := 41) (cs := [.int .i64 SE, .int .i64 (whenE NB 8), .int .i64 (whenE (decide (5761439 < b)) 1)]) rfl (by kernel_rfl) rfl fun g4 => ?_
      refine wl_nil ?_
      refine nx_wa0 (listed' := #[true, true, true, true, true, true, true, true, true, true, true, true, true, true, true, true, true, true, true, true, true, true, true, true, true, true, false, false]) rfl (fun _ hm => ⟨hm.blkI 1 rfl, hm.fact 0 rfl, hm.fact 1 rfl, hm.fact 2 rfl, trivial⟩) ?_
      refine wa_all [26] (by kernel_rfl) rfl ⟨⟨_, rfl, ?_⟩, trivial⟩
      refine wl_callw (v := .int .i64 FE) rfl cb58 rfl rfl (fun wx hm => (by have h := first_any [SE, whenE NB 8, whenE (decide (5761439 < b)) 1] g4 3 _ wx (hm.blkI 0 rfl) (by simp); rw [show firstE [SE, whenE NB 8, whenE (decide (5761439 < b)) 1] = FE from by rw [hone, hwv]] at h; exact h)) ?_
      refine wl_nil ?_
      refine nx_wa0 (listed' := #[true, true, true, true, true, true, true, true, true, true, true, true, true, true, true, true, true, true, true, true, true, true, true, true, true, true, true, false]) rfl (fun _ hm => ⟨hm.blkI 1 rfl, hm.fact 0 rfl, hm.fact 1 rfl, hm.fact 2 rfl, trivial⟩) ?_
      refine wa_take 27 rfl (by kernel_rfl) (by kernel_rfl) (by kernel_rfl) (listed' := #[true, true, true, true, true, true, true, true, true, true, true, true, true, true, true, true, true, true, true, true, true, true, true, true, true, true, true, true]) rfl (fun _ _ _ h => h) (fun _ hm => ⟨hm.blkI 1 rfl, hm.fact 0 rfl, hm.fact 1 rfl, hm.fact 2 rfl, trivial⟩) (ov_assign rfl) rfl ?_
      refine wa_done (by kernel_rfl) ?_
      refine nx_then ?_
      refine gw_seq ?_
      refine gw_region ?_
      refine wl_ov (ov_move rfl) rfl ?_
      refine wl_ov (ov_neq rfl rfl) rfl ?_
      refine wl_nil ?_
      refine nx_then ?_
      refine gw_cond rfl (fun hh => ?_) (fun hh => ?_)
      · have h1 : ¬ (FE = 0) := by simpa using hh
        clear hh
        refine gw_seq ?_
        refine gw_region ?_
        refine wl_ov (ov_move rfl) rfl ?_
        refine wl_ov (ov_assign rfl) rfl ?_
        refine wl_ov (ov_assign rfl) rfl ?_
        refine wl_nil ?_
        refine nx_then ?_
        refine gw_ret ?_
        refine nx_then_ret ?_
        have h2 : ¬ FE = 0 := by simpa using h1
        refine nx_ret2 rfl rfl rfl fun wx hm => ?_
        exact ⟨by unfold freeP; rw [← hFE, if_neg h2], hm.g⟩
      · have h1 : FE = 0 := by simpa using hh
        clear hh
        refine gw_skip ?_
        refine nx_then ?_
        refine gw_seq ?_
        have h2 : FE = 0 := by simpa using h1
        obtain ⟨htm, hw0, hw1, hw2⟩ := freeE_ok (hFE.symm.trans h2)
        have hmb := manyV_bound hso q
        refine gw_draw (fun wz => Blk wz g4 41 [.int .i64 SE, .int .i64 (whenE NB 8), .int .i64 (whenE (decide (5761439 < b)) 1)] ∧ Blk wz g1 35 [.int .i64 a, .int .i64 b] ∧ (SlOld csEnc 2 135 w.heap.size none A0 n0 cs) wz ∧ (SlOld skEnc 2 139 w.heap.size none A1 n1 sl) wz ∧ (SlOld bkEnc 6 142 w.heap.size none A n l) wz ∧ True) mixed ?_
        refine wa_take 0 rfl (by kernel_rfl) (by kernel_rfl) (by kernel_rfl) (listed' := #[true, false, false, false, false, false, false, false, false, false]) rfl (fun _ _ _ h => h) (fun _ hm => ⟨hm.blkI 0 rfl, hm.blkI 1 rfl, hm.fact 0 rfl, hm.fact 1 rfl, hm.fact 2 rfl, trivial⟩) (ov_move rfl) rfl ?_
        refine wa_take 1 rfl (by kernel_rfl) (by kernel_rfl) (by kernel_rfl) (listed' := #[true, true, false, false, false, false, false, false, false, false]) rfl (fun _ _ _ h => h) (fun _ hm => ⟨hm.blkI 0 rfl, hm.blkI 1 rfl, hm.fact 0 rfl, hm.fact 1 rfl, hm.fact 2 rfl, trivial⟩) (ov_move rfl) rfl ?_
        refine wa_take 3 rfl (by kernel_rfl) (by kernel_rfl) (by kernel_rfl) (listed' := #[true, true, false, true, false, false, false, false, false, false]) rfl (fun _ _ _ h => h) (fun _ hm => ⟨hm.blkI 0 rfl, hm.blkI 1 rfl, hm.fact 0 rfl, hm.fact 1 rfl, hm.fact 2 rfl, trivial⟩) (ov_loads rz35 rfl (fun _ hm => hm.2.1) rfl rfl) rfl ?_
        refine wa_all [2] (by kernel_rfl) rfl ⟨⟨_, rfl, ?_⟩, trivial⟩
        refine wl_callgo (γ := Option Addr × Nat × Nat) (val := (fun (g : Option Addr × Nat × Nat) => .slice g.1 g.2.1 g.2.2)) (φ := (fun (g : Option Addr × Nat × Nat) => (timT q l).length = g.2.1)) (fun (g : Option Addr × Nat × Nat) => ⟨.slice g.1 g.2.1 g.2.2, 35, 2, g.2.1, (timT q l).flatMap wEnc⟩) rfl cb88 rfl rfl (fun wx hm => (timesOf_any l A n c q wx (hm.fact 2 rfl).1 hok hn).mono fun _ _ ⟨A4, k, c4, he, ho, hk, hg⟩ => ⟨(A4, k, c4), he, hk, ho, hg⟩) ?_
        rintro ⟨A4, k, c4⟩ hk
        dsimp only at hk ⊢
        have hkn := timT_len q l
        have hbl := busyT_le (T := timT q l) (a := a) (b := b) (n := n) (by omega)
        obtain ⟨X1, hX1⟩ : ∃ v, v = (busyT (timT q l) a b).1 := ⟨_, rfl⟩
        obtain ⟨X2, hX2⟩ : ∃ v, v = (busyT (timT q l) a b).2 := ⟨_, rfl⟩
        rw [← hX1] at hbl
        refine wl_nil ?_
        refine nx_wa0 (listed' := #[true, true, true, true, false, false, false, false, false, false]) rfl (fun _ hm => ⟨hm.blkI 0 rfl, hm.blkI 1 rfl, hm.fact 0 rfl, hm.fact 1 rfl, hm.fact 2 rfl, trivial⟩) ?_
        refine wa_all [4] (by kernel_rfl) rfl ⟨⟨_, rfl, ?_⟩, trivial⟩
        refine wl_callv (v := .tuple #[.int .i64 X1, .int .i64 X2]) rfl cb87 rfl rfl (fun wx hm => (by rw [hX1, hX2]; exact busiest_any (timT q l) A4 k c4 a b wx (SlT.ofOwn w_len (hm.ownI 0 rfl) hk) (timT_ok htm q) (by omega) (by omega))) ?_
        refine wl_nil ?_
        refine nx_wa0 (listed' := #[true, true, true, true, true, false, false, false, false, false]) rfl (fun _ hm => ⟨hm.blkI 0 rfl, hm.blkI 1 rfl, hm.fact 0 rfl, hm.fact 1 rfl, hm.fact 2 rfl, trivial⟩) ?_
        refine wa_take 5 rfl (by kernel_rfl) (by kernel_rfl) (by kernel_rfl) (listed' := #[true, true, true, true, true, true, false, false, false, false]) rfl (fun _ _ _ h => h) (fun _ hm => ⟨hm.blkI 0 rfl, hm.blkI 1 rfl, hm.fact 0 rfl, hm.fact 1 rfl, hm.fact 2 rfl, trivial⟩) (ov_move rfl) rfl ?_
        refine wa_take 6 rfl (by kernel_rfl) (by kernel_rfl) (by kernel_rfl) (listed' := #[true, true, true, true, true, true, true, false, false, false]) rfl (fun _ _ _ h => h) (fun _ hm => ⟨hm.blkI 0 rfl, hm.blkI 1 rfl, hm.fact 0 rfl, hm.fact 1 rfl, hm.fact 2 rfl, trivial⟩) (ov_extract rfl rfl) rfl ?_
        refine wa_take 7 rfl (by kernel_rfl) (by kernel_rfl) (by kernel_rfl) (listed' := #[true, true, true, true, true, true, true, true, false, false]) rfl (fun _ _ _ h => h) (fun _ hm => ⟨hm.blkI 0 rfl, hm.blkI 1 rfl, hm.fact 0 rfl, hm.fact 1 rfl, hm.fact 2 rfl, trivial⟩) (ov_extract rfl rfl) rfl ?_
        refine wa_take 8 rfl (by kernel_rfl) (by kernel_rfl) (by kernel_rfl) (listed' := #[true, true, true, true, true, true, true, true, true, false]) rfl (fun _ _ _ h => h) (fun _ hm => ⟨hm.blkI 0 rfl, hm.blkI 1 rfl, hm.fact 0 rfl, hm.fact 1 rfl, hm.fact 2 rfl, trivial⟩) (ov_assign rfl) rfl ?_
        refine wa_take 9 rfl (by kernel_rfl) (by kernel_rfl) (by kernel_rfl) (listed' := #[true, true, true, true, true, true, true, true, true, true]) rfl (fun _ _ _ h => h) (fun _ hm => ⟨hm.blkI 0 rfl, hm.blkI 1 rfl, hm.fact 0 rfl, hm.fact 1 rfl, hm.fact 2 rfl, trivial⟩) (ov_assign rfl) rfl ?_
        refine wa_done (by kernel_rfl) ?_
        refine nx_then ?_
        refine gw_seq ?_
        refine gw_region ?_
        refine wl_ov (ov_move rfl) rfl ?_
        refine wl_ov (ov_move rfl) rfl ?_
        refine wl_callv rfl cb90 rfl rfl (fun wx hm => (many_any sl A1 n1 c1 q wx (hm.fact 1 rfl).1 hso hn1)) ?_
        refine wl_ov (ov_move rfl) rfl ?_
        refine wl_ov (ov_sub rfl rfl (by omega) (by omega)) rfl ?_
        refine wl_ov (ov_assign rfl) rfl ?_
        refine wl_ov (ov_assign rfl) rfl ?_
        refine wl_nil ?_
        refine nx_then ?_
        refine gw_ret ?_
        refine nx_ret2 rfl rfl rfl fun wx hm => ?_
        exact ⟨by unfold freeP; rw [← hFE, if_pos h2, ← hX1, h2], hm.g⟩

end Go.Proofs.YtcggbojhalbkjaaGreatDoor
