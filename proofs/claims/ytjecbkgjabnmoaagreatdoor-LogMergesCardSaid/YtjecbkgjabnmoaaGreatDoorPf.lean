/- Several texts as one: En Lo Et -/
import Derived.Test.YtjecbkgjabnmoaaGreatDoorPe
import Derived.Test.YtjecbkgjabnmoaaGreatDoorPb
import Derived.Test.YtjecbkgjabnmoaaGreatDoorPa
set_option maxRecDepth 100000
set_option maxHeartbeats 4000000
namespace Go.Proofs.YtjecbkgjabnmoaaGreatDoor
open Go.RowKit
def mergeM (l1 l2 : List Ev) : List Ev := compactF (isort evLt (l1 ++ l2))
def adjL : List Ev → Bool
  | x :: y :: r => decide (evOrd x y = 0) || adjL (y :: r)
  | _ => false
def mergeE (l : List Ev) : Int := if adjL l = true then 13 else 0
theorem adj_iff : ∀ {l : List Ev}, adjL l = true ↔ ∃ (i : Nat) (x y : Ev), l[i]? = some x ∧ l[i + 1]? = some y ∧ evOrd x y = 0
  | [] => ⟨fun h => (by cases h), fun ⟨i, x, y, h, _⟩ => by simp at h⟩
  | [z] => ⟨fun h => (by cases h), fun ⟨i, x, y, _, h, _⟩ => by simp at h⟩
  | x :: y :: r => by
    have ih := adj_iff (l := y :: r)
    show (decide (evOrd x y = 0) || adjL (y :: r)) = true ↔ _
    rw [Bool.or_eq_true, ih, decide_eq_true_eq]
    constructor
    · rintro (h | ⟨i, u, v, h1, h2, h3⟩)
      · exact ⟨0, x, y, rfl, rfl, h⟩
      · exact ⟨i + 1, u, v, by simpa using h1, by simpa using h2, h3⟩
    · rintro ⟨i, u, v, h1, h2, h3⟩
      cases i with
      | zero =>
        simp at h1 h2
        subst h1 h2
        exact .inl h3
      | succ i => exact .inr ⟨i, u, v, by simpa using h1, by simpa using h2, h3⟩
def adjU (l : List Ev) (k : Nat) : Prop := ∀ j, j + 1 < k → ∀ x y, l[j]? = some x → l[j + 1]? = some y → evOrd x y ≠ 0
theorem merge_bad {l : List Ev} {i : Nat} {x y : Ev} (hx : l[i]? = some x) (hy : l[i + 1]? = some y) (h : evOrd x y = 0) : mergeE l = 13 := by
  unfold mergeE
  rw [if_pos (adj_iff.2 ⟨i, x, y, hx, hy, h⟩)]
theorem merge_good {l : List Ev} (h : ∀ j x y, l[j]? = some x → l[j + 1]? = some y → evOrd x y ≠ 0) : mergeE l = 0 := by
  unfold mergeE
  rw [if_neg (fun hc => by
    obtain ⟨i, x, y, h1, h2, h3⟩ := adj_iff.1 hc
    exact h i x y h1 h2 h3)]
theorem adj_all {l : List Ev} {k : Nat} (h : adjU l k) (hk : l.length ≤ k) : ∀ j x y, l[j]? = some x → l[j + 1]? = some y → evOrd x y ≠ 0 := fun j x y h1 h2 => h j (by
  have := (List.getElem?_eq_some_iff.1 h2).1
  omega) x y h1 h2
theorem adj_next {l : List Ev} {i : Nat} {x y : Ev} (h : adjU l i) (hx : l[i - 1]? = some x) (hy : l[i - 1 + 1]? = some y) (hn : ¬ evOrd x y = 0) (h0 : 0 < i) : adjU l (i + 1) := fun j hj u v hu hv => by
  by_cases hji : j + 1 = i
  · obtain rfl : j = i - 1 := by omega
    rw [hx] at hu
    rw [hy] at hv
    cases hu; cases hv
    exact hn
  · exact h j (by omega) u v hu hv
theorem compF_len : ∀ (r : List Ev) (p : Ev), (compF p r).length ≤ r.length
  | [], _ => Nat.le_refl _
  | y :: r, p => by
    have := compF_len r y
    unfold compF
    split
    · rw [List.length_cons]; omega
    · rw [List.length_cons, List.length_cons]; omega
theorem compact_len : ∀ (l : List Ev), (compactF l).length ≤ l.length
  | [] => Nat.le_refl _
  | x :: r => by
    have := compF_len r x
    show (x :: compF x r).length ≤ _
    rw [List.length_cons, List.length_cons]; omega
theorem compF_mem : ∀ {r : List Ev} {p x : Ev}, x ∈ compF p r → x ∈ r
  | [], _, _, h => by cases h
  | y :: r, p, x, h => by
    unfold compF at h
    split at h
    · exact List.mem_cons_of_mem _ (compF_mem h)
    · rcases List.mem_cons.1 h with rfl | h
      · exact List.mem_cons_self ..
      · exact List.mem_cons_of_mem _ (compF_mem h)
theorem compact_mem : ∀ {l : List Ev} {x : Ev}, x ∈ compactF l → x ∈ l
  | [], _, h => by cases h
  | y :: r, x, h => by
    rcases List.mem_cons.1 (show x ∈ y :: compF y r from h) with rfl | h
    · exact List.mem_cons_self ..
    · exact List.mem_cons_of_mem _ (compF_mem h)
def mgE (sl : List St) (cl : List Cs) (vl : List Vh) (pl : List Pl) (l1 l2 : List Ev) : Int := firstE [fleetE sl cl vl pl, logE sl vl l1, logE sl vl l2, mergeE (mergeM l1 l2)]
theorem logsOf_any (l1 l2 : List Ev) (A1 A2 : Option Addr) (n1 c1 n2 c2 : Nat) (w : World) (h1 : SlT evEnc 5 92 w A1 n1 l1) (h2 : SlT evEnc 5 92 w A2 n2 l2) (hs1 : ShapeA A1 n1 c1) (hs2 : ShapeA A2 n2 c2) (hk1 : ∀ x ∈ l1, EvOk x) (hk2 : ∀ x ∈ l2, EvOk x) (hn : n1 + n2 ≤ 19) :
  Calls Tryz.prog 57 #[.slice A1 n1 c1, .slice A2 n2 c2] w (fun e w' => ∃ (A : Option Addr) (n c : Nat), e = .returned (.tuple #[.slice A n c, .int .i64 (mergeE (mergeM l1 l2))]) ∧ (mergeE (mergeM l1 l2) = 0 → SlT evEnc 5 92 w' A n (mergeM l1 l2) ∧ n ≤ 19) ∧ (mergeE (mergeM l1 l2) ≠ 0 → A = none ∧ n = 0 ∧ c = 0) ∧ w.grownBy w' none) := by
 refine gw_enter ⟨41, w, none, []⟩ Tryz.func57 rfl Tryz.ntmps57 rfl (mem0 (X := [SlOld evEnc 5 92 w.heap.size none A1 n1 l1, SlOld evEnc 5 92 w.heap.size none A2 n2 l2]) (allF_cons h1.old (allF_cons h2.old allF_nil)) (allL_cons SlOld.lasts (allL_cons SlOld.lasts allL_nil))) ?_
 refine sr_ ?_
 have hl1 := h1.len
 have hl2 := h2.len
 obtain ⟨ME, hME⟩ : ∃ z, z = mergeE (mergeM l1 l2) := ⟨_, rfl⟩
 rw [← hME]
 refine sg_ rfl (sg_ rfl (nn_ (sr_ (mv_ rfl (mv_ rfl ?_)))))
 refine wl_buildSlice (e := 48) (cs := [.slice A1 n1 c1, .slice A2 n2 c2]) rfl (by kernel_rfl) rfl fun g1 => ?_
 refine wl_callgo (γ := Option Addr × Nat × Nat) (val := (fun g => .slice g.1 g.2.1 g.2.2)) (φ := (fun g => g.2.1 = n1 + n2)) (fun g => ⟨.slice g.1 g.2.1 g.2.2, 92, 5, g.2.1, (l1 ++ l2).flatMap evEnc⟩) rfl cb133 rfl rfl (fun wx hm => (concat_any l1 l2 A1 A2 n1 c1 n2 c2 _ wx (hm.blkI 0 rfl) (hm.fact 0 rfl).1 (hm.fact 1 rfl).1 hs1 hs2 (by omega) (by omega)).mono fun _ _ ⟨A, n, c, he, ho, hn, hg⟩ => ⟨(A, n, c), he, hn, ho, hg⟩) ?_
 rintro ⟨A3, n3, c3⟩ hn3
 dsimp only at hn3 ⊢
 refine sg_ rfl (nn_ (sr_ (mv_ rfl ?_)))
 by_cases h30 : n3 = 0
 ·subst h30
  have hm0 : mergeM l1 l2 = [] := by
   have : (l1 ++ l2).length = 0 := by rw [List.length_append]; omega
   rw [mergeM, List.length_eq_zero_iff.1 this]; rfl
  refine wl_callv rfl cb134 rfl rfl (fun wx hm => (stable0_eo A3 c3 wx)) ?_
  refine nn_ (sr_ (mv_ rfl ?_))
  refine wl_callv rfl cb136 rfl rfl (fun wx hm => (compact0_any A3 c3 wx)) ?_
  have hE0 : ME = 0 := by rw [hME, hm0]; rfl
  refine sg_ rfl (nn_ (gw_seq (sr_ (mv_ rfl (wl_ov (ov_len es48 rfl) rfl ?_)))))
  refine wl_set 17 (v' := .int .i64 0) rfl rfl ?_
  refine mv_ rfl (nn_ (gw_block ?_))
  refine gw_rounds 1 ?_
  refine gr_next ?_
  refine sr_ (wl_ov (ov_lss rfl rfl) rfl ?_)
  refine wl_set 19 (v' := .bool false) rfl (congrArg Value.bool (by decide)) ?_
  refine nn_ (gw_seq (cf_ rfl ?_))
  refine gw_exit ?_
  refine nx_then_exit (nx_then_exit ?_)
  refine nx_blk_here ?_
  refine nx_then (gw_seq (sr_ (mv_ rfl (wl_ov (ov_len es48 rfl) rfl ?_))))
  refine wl_set 38 (v' := .int .i64 0) rfl rfl ?_
  refine wl_ov (ov_gtr rfl rfl) rfl ?_
  refine wl_set 39 (v' := .bool false) rfl (congrArg Value.bool (by decide)) ?_
  refine nn_ (cf_ rfl (gw_skip (nx_then (sr_ (mv_ rfl (sg_ rfl (sg_ rfl (nn_ ?_))))))))
  refine gw_ret ?_
  refine nx_ret2 rfl rfl rfl fun wx hm => ?_
  exact ⟨A3, 0, c3, by rw [hE0], fun _ => ⟨by rw [hm0]; exact SlT.nil_ _ _, by omega⟩, fun h => absurd hE0 h, hm.g⟩
 refine wl_look (R := ∃ g, A3 = some ⟨g, 0, none⟩) (fun wx hm => own_addr (hm.ownI 0 rfl) (by omega)) ?_
 rintro ⟨g5, rfl⟩
 have hll : (l1 ++ l2).length = n3 := by rw [List.length_append]; omega
 have hall : ∀ x ∈ l1 ++ l2, EvOk x := fun x hx => by
  rcases List.mem_append.1 hx with h | h
  ·exact hk1 x h
  exact hk2 x h
 refine wl_callr (v := .tuple #[]) (xs' := (isort evLt (l1 ++ l2)).flatMap evEnc) 0 rfl rfl rfl cb134 rfl rfl (fun wx hm => (stable_eo (l1 ++ l2) g5 n3 c3 _ wx (hm.ownI 0 rfl) hll (by omega) hall)) ?_
 refine nn_ (sr_ (mv_ rfl ?_))
 refine wl_callrn (γ := Nat × List Ev) (val := fun g => .slice (some ⟨g5, 0, none⟩) g.1 c3) (φ := fun g => g.2 = mergeM l1 l2 ∧ g.2.length = g.1 ∧ g.1 ≤ 19) (n' := fun g => g.1) (xs' := fun g => g.2.flatMap evEnc) 0 rfl rfl rfl cb136 rfl rfl (fun _ => rfl) (fun wx hm => (compact_any (isort evLt (l1 ++ l2)) g5 n3 c3 _ wx (hm.ownI 0 rfl) (by rw [isort_len]; exact hll) (by omega) (own_cap (hm.ownI 0 rfl))).mono fun _ _ ⟨k, ls, he, h1, h2, ho, hg⟩ => ⟨(k, ls), he, ⟨h1, h2, by dsimp only; rw [← h2, h1]; exact Nat.le_trans (compact_len _) (by rw [isort_len]; omega)⟩, ho, hg⟩) ?_
 rintro ⟨k, M⟩ ⟨hM, hMl, hk19⟩
 dsimp only at hM hMl hk19 ⊢
 have hMok : ∀ x ∈ M, EvOk x := fun x hx => hall x (isort_mem.1 (compact_mem (by rw [hM] at hx; exact hx)))
 have hME2 : ME = mergeE M := by rw [hME, hM]
 refine sg_ rfl (nn_ (gw_seq (sr_ (mv_ rfl (wl_ov (ov_len es48 rfl) rfl (mv_ rfl (nn_ (gw_block ?_))))))))
 refine gw_loop (γ := Nat) (fun (i : Nat) => i ≤ k ∧ adjU M i) (fun (i : Nat) => [(6, .slice (some ⟨g5, 0, none⟩) k c3), (17, .int .i64 ((k : Nat) : Int)), (18, .int .i64 ((i : Nat) : Int))]) (fun (i : Nat) => fun _ => True) (fun (i : Nat) => [(g1, 48, [.slice A1 n1 c1, .slice A2 n2 c2])]) (fun (i : Nat) => [⟨.slice (some ⟨g5, 0, none⟩) k c3, 92, 5, k, M.flatMap evEnc⟩]) (fun (i : Nat) => [SlOld evEnc 5 92 w.heap.size none A1 n1 l1, SlOld evEnc 5 92 w.heap.size none A2 n2 l2]) (fun (i : Nat) => k - i) 0 ⟨Nat.zero_le _, fun j h => by omega⟩ ⟨rfl, rfl, rfl, trivial⟩ (fun _ hm => hm.pick [0] [0] [0, 1] rfl rfl) ?_
 intro i hinv
 replace hinv : i ≤ k ∧ adjU M i := hinv
 refine sr_ ?_
 obtain ⟨hi0, hadj⟩ := hinv
 refine wl_ov (ov_lss rfl rfl) rfl (nn_ (gw_seq ?_))
 refine gw_cond rfl (fun hh => ?_) (fun hh => ?_)
 ·have hi : ((i : Nat) : Int) < ((k : Nat) : Int) := by simpa using hh
  clear hh
  refine gw_skip (nx_then (gw_seq (gw_block (sr_ ?_))))
  by_cases hi00 : i = 0
  ·refine mv_ rfl (sg_ rfl (nn_ (gw_seq ?_)))
   refine gd (fun wz => Blk wz g1 48 [.slice A1 n1 c1, .slice A2 n2 c2] ∧ (SlOld evEnc 5 92 w.heap.size none A1 n1 l1) wz ∧ (SlOld evEnc 5 92 w.heap.size none A2 n2 l2) wz ∧ True) mixed (fun _ hm => ⟨hm.bl 0, hm.fa 0, hm.fa 1, trivial⟩) fun z => ?_
   refine wt 0 15 1 rfl z (ov_move rfl) ?_
   refine wt 1 15 3 rfl z (ov_gtr rfl rfl) ?_
   refine wa_set 22 (v' := .bool false) rfl (congrArg Value.bool (decide_eq_false (by omega))) ?_
   refine wt 2 15 7 rfl z (ov_move rfl) ?_
   refine wtf 3 15 15 rfl rfl rfl z ?_
   refine wtf 4 15 31 rfl rfl rfl z ?_
   refine wtf 5 15 63 rfl rfl rfl z ?_
   refine wtf 6 15 127 rfl rfl rfl z ?_
   refine wtf 7 15 255 rfl rfl rfl z ?_
   refine wtf 8 15 511 rfl rfl rfl z ?_
   refine wtf 9 15 1023 rfl rfl rfl z ?_
   refine wtf 10 15 2047 rfl rfl rfl z ?_
   refine wtf 11 15 4095 rfl rfl rfl z ?_
   refine wtf 12 15 8191 rfl rfl rfl z ?_
   refine wtf 13 15 16383 rfl rfl rfl z ?_
   refine wt 14 15 32767 rfl z (ov_pick_f rfl rfl) ?_
   refine wa_done (by kernel_rfl) ?_
   refine nx_then (cf_ rfl (gw_skip (nx_blk_nrm (nx_then (gw_region (ad_ rfl rfl (mv_ rfl (wl_nil ?_))))))))
   exact nx_round (i + 1) ⟨by omega, fun j h => by omega⟩ (by omega) ⟨rfl, rfl, (some_int (by omega)), trivial⟩ (fun _ hm => hm.pick [0] [0] [0, 1] rfl rfl)
  have hin : i < k := by omega
  have hin1 : i - 1 < k := by omega
  obtain ⟨xx, hx⟩ : ∃ x, M[i]? = some x := ⟨_, List.getElem?_eq_getElem (by omega)⟩
  obtain ⟨e0, e1, e2, e3, e4⟩ := xx
  obtain ⟨yy, hy⟩ : ∃ x, M[i - 1]? = some x := ⟨_, List.getElem?_eq_getElem (by omega)⟩
  obtain ⟨p0, p1, p2, p3, p4⟩ := yy
  have hp0 := (hMok _ (List.mem_of_getElem? hy)).1
  have he0 := (hMok _ (List.mem_of_getElem? hx)).1
  refine mv_ rfl (sg_ rfl (nn_ (gw_seq ?_)))
  refine gd (fun wz => Blk wz g1 48 [.slice A1 n1 c1, .slice A2 n2 c2] ∧ (SlOld evEnc 5 92 w.heap.size none A1 n1 l1) wz ∧ (SlOld evEnc 5 92 w.heap.size none A2 n2 l2) wz ∧ wz.ownsRow w.heap.size 92 5 (.slice (some ⟨g5, 0, none⟩) k c3) k (M.flatMap evEnc) ∧ True) mixed (fun _ hm => ⟨hm.bl 0, hm.fa 0, hm.fa 1, hm.ownI 0 rfl, trivial⟩) fun z => ?_
  refine wt 0 15 1 rfl z (ov_move rfl) ?_
  refine wt 1 15 3 rfl z (ov_gtr rfl rfl) ?_
  refine wa_set 22 (v' := .bool true) rfl (congrArg Value.bool (decide_eq_true (by omega))) ?_
  refine wt 2 15 7 rfl z (ov_move rfl) ?_
  refine wto 3 15 15 rfl rfl rfl z (ov_move rfl) ?_
  refine wto 4 15 31 rfl rfl rfl z (ov_move rfl) ?_
  refine wto 5 15 63 rfl rfl rfl z (ov_sub rfl rfl (by omega) (by omega)) ?_
  refine wa_set 26 (v' := .int .i64 (((i - 1) : Nat) : Int)) rfl (congrArg (Value.int .i64) (by omega)) ?_
  refine wto 6 15 127 rfl rfl rfl z (ov_index (j := (i - 1)) es48 rfl rfl (by omega)) ?_
  refine wto 7 15 255 rfl rfl rfl z (ov_elem (vs := [.int .i64 p0, .string p1, .string p2, .int .i64 p3, .string p4]) rz92 rfl (fun _ hm => (SlT.ofOwn ev_len (hm.2.2.2.1) hMl)) hy rfl rfl) ?_
  refine wto 8 15 511 rfl rfl rfl z (ov_move rfl) ?_
  refine wto 9 15 1023 rfl rfl rfl z (ov_move rfl) ?_
  refine wto 10 15 2047 rfl rfl rfl z (ov_index (j := i) es48 rfl rfl (by omega)) ?_
  refine wto 11 15 4095 rfl rfl rfl z (ov_elem (vs := [.int .i64 e0, .string e1, .string e2, .int .i64 e3, .string e4]) rz92 rfl (fun _ hm => (SlT.ofOwn ev_len (hm.2.2.2.1) hMl)) hx rfl rfl) ?_
  refine wa1 12 rfl ?_
  refine wl_guard_on rfl rfl rfl ?_
  refine wl_callv rfl cb114 rfl rfl (fun wx hm => (eventOrder_any p0 p1 p2 p3 p4 e0 e1 e2 e3 e4 wx hp0 he0)) ?_
  refine wl_nil ?_
  refine nw 15 8191 (fun _ hm => ⟨hm.bl 0, hm.fa 0, hm.fa 1, hm.ownI 0 rfl, trivial⟩) fun z => ?_
  refine wto 13 15 16383 rfl rfl rfl z (ov_eql rfl rfl) ?_
  refine wt 14 15 32767 rfl z (ov_pick_t rfl rfl) ?_
  refine wa_done (by kernel_rfl) ?_
  refine nx_then ?_
  refine gw_cond rfl (fun hh => ?_) (fun hh => ?_)
  ·have hq : evOrd (⟨p0, p1, p2, p3, p4⟩ : Ev) (⟨e0, e1, e2, e3, e4⟩ : Ev) = 0 := by simpa using hh
   clear hh
   refine sr_ ?_
   have hE13 : ME = 13 := by rw [hME2]; exact merge_bad hy (by rw [show i - 1 + 1 = i by omega]; exact hx) hq
   refine sg_ rfl (sg_ rfl (nn_ ?_))
   refine gw_ret ?_
   refine nx_blk_ret (nx_then_ret (nx_then_ret (nx_blk_ret (nx_then_ret ?_))))
   refine nx_ret2 rfl rfl rfl fun wx hm => ?_
   exact ⟨none, 0, 0, by rw [hE13], fun h => (by rw [hE13] at h; cases h), fun _ => ⟨rfl, rfl, rfl⟩, hm.g⟩
  have hq : ¬ (evOrd (⟨p0, p1, p2, p3, p4⟩ : Ev) (⟨e0, e1, e2, e3, e4⟩ : Ev) = 0) := by simpa using hh
  clear hh
  refine gw_skip (nx_blk_nrm (nx_then (gw_region (ad_ rfl rfl (mv_ rfl (wl_nil ?_))))))
  exact nx_round (i + 1) ⟨by omega, adj_next hadj hy (by rw [show i - 1 + 1 = i by omega]; exact hx) hq (by omega)⟩ (by omega) ⟨rfl, rfl, (some_int (by omega)), trivial⟩ (fun _ hm => hm.pick [0] [0] [0, 1] rfl rfl)
 have hi : ¬ (((i : Nat) : Int) < ((k : Nat) : Int)) := by simpa using hh
 clear hh
 refine gw_exit ?_
 refine nx_then_exit (nx_then_exit ?_)
 refine nx_blk_here ?_
 refine nx_then (gw_seq (sr_ ?_))
 have hE0 : ME = 0 := by rw [hME2]; exact merge_good (adj_all hadj (by omega))
 refine mv_ rfl (wl_ov (ov_len es48 rfl) rfl ?_)
 refine wl_ov (ov_gtr rfl rfl) rfl ?_
 refine wl_set 39 (v' := .bool false) rfl (congrArg Value.bool (decide_eq_false (by omega))) ?_
 refine nn_ (cf_ rfl (gw_skip (nx_then (sr_ (mv_ rfl (sg_ rfl (sg_ rfl (nn_ ?_))))))))
 refine gw_ret ?_
 refine nx_ret2 rfl rfl rfl fun wx hm => ?_
 exact ⟨_, k, c3, by rw [hE0], fun _ => ⟨by rw [← hM]; exact SlT.ofOwn ev_len (hm.ownI 0 rfl) hMl, hk19⟩, fun h => absurd hE0 h, hm.g⟩
theorem merge_any (sl : List St) (cl : List Cs) (vl : List Vh) (pl : List Pl) (sA cA vA pA : Option Addr) (sn sc cn cc vn vc pn pc : Nat) (l1 l2 : List Ev) (A1 A2 : Option Addr) (n1 c1 n2 c2 : Nat) (w : World) (hs : SlT stEnc 15 140 w sA sn sl) (hc : SlT csEnc 2 159 w cA cn cl) (hv : SlT vhEnc 2 77 w vA vn vl) (hp : SlT plEnc 3 143 w pA pn pl) (hsok : ∀ x ∈ sl, StOk x) (hcok : ∀ x ∈ cl, CsOk x) (hvok : ∀ x ∈ vl, VhOk x) (hpok : ∀ x ∈ pl, PlOk x) (hsn : sn ≤ 1000) (hcn : cn ≤ 1000) (hvn : vn ≤ 1000) (hpn : pn ≤ 1000) (h1 : SlT evEnc 5 92 w A1 n1 l1) (h2 : SlT evEnc 5 92 w A2 n2 l2) (hs1 : ShapeA A1 n1 c1) (hs2 : ShapeA A2 n2 c2) (hk1 : ∀ x ∈ l1, EvOk x) (hk2 : ∀ x ∈ l2, EvOk x) (hn : n1 + n2 ≤ 19) :
  Calls Tryz.prog 55 #[.agg #[.slice sA sn sc, .slice cA cn cc, .slice vA vn vc, .slice pA pn pc], .slice A1 n1 c1, .slice A2 n2 c2] w (fun e w' => ∃ (A : Option Addr) (n c : Nat), e = .returned (.tuple #[.slice A n c, .int .i64 (mgE sl cl vl pl l1 l2)]) ∧ (mgE sl cl vl pl l1 l2 = 0 → SlT evEnc 5 92 w' A n (mergeM l1 l2) ∧ n ≤ 19) ∧ (mgE sl cl vl pl l1 l2 ≠ 0 → A = none ∧ n = 0 ∧ c = 0) ∧ w.grownBy w' none) := by
 refine gw_enter ⟨57, w, none, []⟩ Tryz.func55 rfl Tryz.ntmps55 rfl (mem0 (X := [SlOld stEnc 15 140 w.heap.size none sA sn sl, SlOld csEnc 2 159 w.heap.size none cA cn cl, SlOld vhEnc 2 77 w.heap.size none vA vn vl, SlOld plEnc 3 143 w.heap.size none pA pn pl, SlOld evEnc 5 92 w.heap.size none A1 n1 l1, SlOld evEnc 5 92 w.heap.size none A2 n2 l2]) (allF_cons hs.old (allF_cons hc.old (allF_cons hv.old (allF_cons hp.old (allF_cons h1.old (allF_cons h2.old allF_nil)))))) (allL_cons SlOld.lasts (allL_cons SlOld.lasts (allL_cons SlOld.lasts (allL_cons SlOld.lasts (allL_cons SlOld.lasts (allL_cons SlOld.lasts allL_nil))))))) ?_
 refine sr_ ?_
 have hl1 := h1.len
 have hl2 := h2.len
 obtain ⟨FE, hFE⟩ : ∃ z, z = fleetE sl cl vl pl := ⟨_, rfl⟩
 obtain ⟨LA, hLA⟩ : ∃ z, z = logE sl vl l1 := ⟨_, rfl⟩
 obtain ⟨LB, hLB⟩ : ∃ z, z = logE sl vl l2 := ⟨_, rfl⟩
 obtain ⟨TE, hTE⟩ : ∃ z, z = mgE sl cl vl pl l1 l2 := ⟨_, rfl⟩
 rw [← hTE]
 have hT0 : TE = firstE [FE, LA, LB, mergeE (mergeM l1 l2)] := by rw [hTE, hFE, hLA, hLB]; rfl
 refine wl_box rfl rfl rfl fun g1 => ?_
 refine sg_ rfl (sg_ rfl (nn_ (gw_seq (sr_ ?_))))
 refine wl_ov (ov_loads rz31 rfl (fun _ hm => hm.blkI 0 rfl) rfl rfl) rfl ?_
 refine wl_callv (v := .int .i64 FE) rfl cb23 rfl rfl (fun wx hm => (by rw [hFE]; exact checkFleet_any sl cl vl pl sA cA vA pA sn sc cn cc vn vc pn pc wx (hm.fact 0 rfl).1 (hm.fact 1 rfl).1 (hm.fact 2 rfl).1 (hm.fact 3 rfl).1 hsok hcok hvok hpok hsn hcn hvn hpn)) ?_
 refine sg_ rfl (nn_ (sr_ (mv_ rfl (wl_ov (ov_neq rfl rfl) rfl (nn_ ?_)))))
 refine gw_cond rfl (fun hh => ?_) (fun hh => ?_)
 ·have hc1 : ¬ (FE = 0) := by simpa using hh
  clear hh
  refine sr_ ?_
  have h2 : FE ≠ 0 := by simpa using hc1
  have h3 : TE = FE := by rw [hT0]; exact fe_hd h2
  refine mv_ rfl (sg_ rfl (sg_ rfl (nn_ ?_)))
  refine gw_ret ?_
  refine nx_then_ret ?_
  refine nx_ret2 rfl rfl rfl fun wx hm => ?_
  exact ⟨none, 0, 0, by rw [h3], fun h => absurd h (by rw [h3]; exact h2), fun _ => ⟨rfl, rfl, rfl⟩, hm.g⟩
 have hc1 : FE = 0 := by simpa using hh
 clear hh
 refine gw_skip (nx_then (gw_seq (gw_seq ?_)))
 have h20 : FE = 0 := by simpa using hc1
 have hrise : Rise vl := fleet_rise (hFE.symm.trans h20)
 have hT1 : TE = firstE [LA, LB, mergeE (mergeM l1 l2)] := by rw [hT0, h20]; exact fe_tl
 refine gd (fun wz => Blk wz g1 31 [.slice sA sn sc, .slice cA cn cc, .slice vA vn vc, .slice pA pn pc] ∧ (SlOld stEnc 15 140 w.heap.size none sA sn sl) wz ∧ (SlOld csEnc 2 159 w.heap.size none cA cn cl) wz ∧ (SlOld vhEnc 2 77 w.heap.size none vA vn vl) wz ∧ (SlOld plEnc 3 143 w.heap.size none pA pn pl) wz ∧ (SlOld evEnc 5 92 w.heap.size none A1 n1 l1) wz ∧ (SlOld evEnc 5 92 w.heap.size none A2 n2 l2) wz ∧ True) mixed (fun _ hm => ⟨hm.bl 0, hm.fa 0, hm.fa 1, hm.fa 2, hm.fa 3, hm.fa 4, hm.fa 5, trivial⟩) fun z => ?_
 refine wt 0 9 1 rfl z (ov_loads rz31 rfl (fun _ hm => hm.1) rfl rfl) ?_
 refine wt 1 9 3 rfl z (ov_move rfl) ?_
 refine wt 3 9 11 rfl z (ov_loads rz31 rfl (fun _ hm => hm.1) rfl rfl) ?_
 refine wt 4 9 27 rfl z (ov_move rfl) ?_
 refine wa1 2 rfl ?_
 refine wl_callv (v := .int .i64 LA) rfl cb132 rfl rfl (fun wx hm => (by rw [hLA]; exact check_any sl vl sA cA vA pA sn sc cn cc vn vc pn pc l1 A1 n1 c1 wx (hm.fact 0 rfl).1 (hm.fact 2 rfl).1 hsok hsn hvn (hm.fact 4 rfl).1 hk1 (by omega) hrise)) ?_
 refine wl_nil ?_
 refine nw 9 31 (fun _ hm => ⟨hm.bl 0, hm.fa 0, hm.fa 1, hm.fa 2, hm.fa 3, hm.fa 4, hm.fa 5, trivial⟩) fun z => ?_
 refine wa1 5 rfl ?_
 refine wl_callv (v := .int .i64 LB) rfl cb132 rfl rfl (fun wx hm => (by rw [hLB]; exact check_any sl vl sA cA vA pA sn sc cn cc vn vc pn pc l2 A2 n2 c2 wx (hm.fact 0 rfl).1 (hm.fact 2 rfl).1 hsok hsn hvn (hm.fact 5 rfl).1 hk2 (by omega) hrise)) ?_
 refine wl_nil ?_
 refine nw 9 63 (fun _ hm => ⟨hm.bl 0, hm.fa 0, hm.fa 1, hm.fa 2, hm.fa 3, hm.fa 4, hm.fa 5, trivial⟩) fun z => ?_
 refine wa1 6 rfl ?_
 refine wl_buildSlice (e := 35) (cs := [.int .i64 LA, .int .i64 LB]) rfl (by kernel_rfl) rfl fun g2 => ?_
 refine wl_nil ?_
 refine nw 9 127 (fun _ hm => ⟨hm.bl 1, hm.fa 0, hm.fa 1, hm.fa 2, hm.fa 3, hm.fa 4, hm.fa 5, trivial⟩) fun z => ?_
 refine wa1 7 rfl ?_
 refine wl_callw rfl cb78 rfl rfl (fun wx hm => (first_any [LA, LB] _ _ _ wx (hm.blkI 0 rfl) (by simp))) ?_
 refine wl_nil ?_
 refine nw 9 255 (fun _ hm => ⟨hm.bl 1, hm.fa 0, hm.fa 1, hm.fa 2, hm.fa 3, hm.fa 4, hm.fa 5, trivial⟩) fun z => ?_
 refine wt 8 9 511 rfl z (ov_assign rfl) ?_
 refine wa_done (by kernel_rfl) ?_
 refine nx_then (sr_ (mv_ rfl (wl_ov (ov_neq rfl rfl) rfl (nn_ ?_))))
 refine gw_cond rfl (fun hh => ?_) (fun hh => ?_)
 ·have hc3 : ¬ (firstE [LA, LB] = 0) := by simpa using hh
  clear hh
  refine sr_ ?_
  have h4 : firstE [LA, LB] ≠ 0 := by simpa using hc3
  have h5 : TE = firstE [LA, LB] := by
   rw [hT1]
   by_cases hA0 : LA = 0
   ·simp only [hA0, fe_tl] at h4 ⊢
    by_cases hB0 : LB = 0
    ·rw [hB0] at h4; exact absurd rfl h4
    rw [fe_hd hB0, fe_hd hB0]
   rw [fe_hd hA0, fe_hd hA0]
  refine mv_ rfl (sg_ rfl (sg_ rfl (nn_ ?_)))
  refine gw_ret ?_
  refine nx_then_ret ?_
  refine nx_ret2 rfl rfl rfl fun wx hm => ?_
  exact ⟨none, 0, 0, by rw [h5], fun h => absurd h (by rw [h5]; exact h4), fun _ => ⟨rfl, rfl, rfl⟩, hm.g⟩
 have hc3 : firstE [LA, LB] = 0 := by simpa using hh
 clear hh
 refine gw_skip (nx_then (sr_ ?_))
 have h4 : firstE [LA, LB] = 0 := by simpa using hc3
 have hA0 : LA = 0 := fe_all h4 _ (by simp)
 have hB0 : LB = 0 := fe_all h4 _ (by simp)
 have hME : TE = mergeE (mergeM l1 l2) := by
  rw [hT1, hA0, hB0, fe_tl, fe_tl]
  by_cases h : mergeE (mergeM l1 l2) = 0
  ·rw [h]; rfl
  exact fe_hd h
 refine mv_ rfl (mv_ rfl ?_)
 refine wl_buildSlice (e := 48) (cs := [.slice A1 n1 c1, .slice A2 n2 c2]) rfl (by kernel_rfl) rfl fun g3 => ?_
 refine wl_callgo (γ := Option Addr × Nat × Nat) (val := (fun g => .slice g.1 g.2.1 g.2.2)) (φ := (fun g => g.2.1 = n1 + n2)) (fun g => ⟨.slice g.1 g.2.1 g.2.2, 92, 5, g.2.1, (l1 ++ l2).flatMap evEnc⟩) rfl cb133 rfl rfl (fun wx hm => (concat_any l1 l2 A1 A2 n1 c1 n2 c2 _ wx (hm.blkI 0 rfl) (hm.fact 4 rfl).1 (hm.fact 5 rfl).1 hs1 hs2 (by omega) (by omega)).mono fun _ _ ⟨A, n, c, he, ho, hn, hg⟩ => ⟨(A, n, c), he, hn, ho, hg⟩) ?_
 rintro ⟨A3, n3, c3⟩ hn3
 dsimp only at hn3 ⊢
 refine sg_ rfl (nn_ (sr_ (mv_ rfl ?_)))
 by_cases h30 : n3 = 0
 ·subst h30
  have hm0 : mergeM l1 l2 = [] := by
   have : (l1 ++ l2).length = 0 := by rw [List.length_append]; omega
   rw [mergeM, List.length_eq_zero_iff.1 this]; rfl
  refine wl_callv rfl cb134 rfl rfl (fun wx hm => (stable0_bt A3 c3 wx)) ?_
  refine nn_ (sr_ (mv_ rfl ?_))
  refine wl_callv rfl cb136 rfl rfl (fun wx hm => (compact0_any A3 c3 wx)) ?_
  have hE0 : TE = 0 := by rw [hME, hm0]; rfl
  refine sg_ rfl (nn_ (gw_seq (sr_ (sg_ rfl (nn_ (gw_block ?_))))))
  refine gw_rounds 1 ?_
  refine gr_next ?_
  refine gw_seq (sr_ (mv_ rfl (mv_ rfl (wl_ov (ov_len es48 rfl) rfl ?_))))
  refine wl_set 38 (v' := .int .i64 0) rfl rfl ?_
  refine wl_ov (ov_lss rfl rfl) rfl ?_
  refine wl_set 39 (v' := .bool false) rfl (congrArg Value.bool (by decide)) ?_
  refine nn_ (cf_ rfl ?_)
  refine gw_exit ?_
  refine nx_then_exit (nx_then_exit ?_)
  refine nx_blk_here ?_
  refine nx_then (gw_seq (sr_ (mv_ rfl (wl_ov (ov_len es48 rfl) rfl ?_))))
  refine wl_set 54 (v' := .int .i64 0) rfl rfl ?_
  refine wl_ov (ov_gtr rfl rfl) rfl ?_
  refine wl_set 55 (v' := .bool false) rfl (congrArg Value.bool (by decide)) ?_
  refine nn_ (cf_ rfl (gw_skip (nx_then (sr_ (mv_ rfl (sg_ rfl (sg_ rfl (nn_ ?_))))))))
  refine gw_ret ?_
  refine nx_ret2 rfl rfl rfl fun wx hm => ?_
  exact ⟨A3, 0, c3, by rw [hE0], fun _ => ⟨by rw [hm0]; exact SlT.nil_ _ _, by omega⟩, fun h => absurd hE0 h, hm.g⟩
 refine wl_look (R := ∃ g, A3 = some ⟨g, 0, none⟩) (fun wx hm => own_addr (hm.ownI 0 rfl) (by omega)) ?_
 rintro ⟨g5, rfl⟩
 have hll : (l1 ++ l2).length = n3 := by rw [List.length_append]; omega
 refine wl_callr (v := .tuple #[]) (xs' := (isort evLt (l1 ++ l2)).flatMap evEnc) 0 rfl rfl rfl cb134 rfl rfl (fun wx hm => (stable_bt (l1 ++ l2) g5 n3 c3 _ wx (hm.ownI 0 rfl) hll (by omega) )) ?_
 refine nn_ (sr_ (mv_ rfl ?_))
 refine wl_callrn (γ := Nat × List Ev) (val := fun g => .slice (some ⟨g5, 0, none⟩) g.1 c3) (φ := fun g => g.2 = mergeM l1 l2 ∧ g.2.length = g.1 ∧ g.1 ≤ 19) (n' := fun g => g.1) (xs' := fun g => g.2.flatMap evEnc) 0 rfl rfl rfl cb136 rfl rfl (fun _ => rfl) (fun wx hm => (compact_any (isort evLt (l1 ++ l2)) g5 n3 c3 _ wx (hm.ownI 0 rfl) (by rw [isort_len]; exact hll) (by omega) (own_cap (hm.ownI 0 rfl))).mono fun _ _ ⟨k, ls, he, h1, h2, ho, hg⟩ => ⟨(k, ls), he, ⟨h1, h2, by dsimp only; rw [← h2, h1]; exact Nat.le_trans (compact_len _) (by rw [isort_len]; omega)⟩, ho, hg⟩) ?_
 rintro ⟨k, M⟩ ⟨hM, hMl, hk19⟩
 dsimp only at hM hMl hk19 ⊢
 have hME2 : TE = mergeE M := by rw [hME, hM]
 refine sg_ rfl (nn_ (gw_seq (sr_ (sg_ rfl (nn_ (gw_block ?_))))))
 refine gw_loop (γ := Nat) (fun (i : Nat) => 1 ≤ i ∧ i ≤ k + 1 ∧ adjU M i) (fun (i : Nat) => [(10, .slice (some ⟨g5, 0, none⟩) k c3), (11, .int .i64 ((i : Nat) : Int))]) (fun (i : Nat) => fun _ => True) (fun (i : Nat) => [(g3, 48, [.slice A1 n1 c1, .slice A2 n2 c2]), (g2, 35, [.int .i64 LA, .int .i64 LB]), (g1, 31, [.slice sA sn sc, .slice cA cn cc, .slice vA vn vc, .slice pA pn pc])]) (fun (i : Nat) => [⟨.slice (some ⟨g5, 0, none⟩) k c3, 92, 5, k, M.flatMap evEnc⟩]) (fun (i : Nat) => [SlOld stEnc 15 140 w.heap.size none sA sn sl, SlOld csEnc 2 159 w.heap.size none cA cn cl, SlOld vhEnc 2 77 w.heap.size none vA vn vl, SlOld plEnc 3 143 w.heap.size none pA pn pl, SlOld evEnc 5 92 w.heap.size none A1 n1 l1, SlOld evEnc 5 92 w.heap.size none A2 n2 l2]) (fun (i : Nat) => k + 1 - i) 1 ⟨Nat.le_refl _, by omega, fun j h => by omega⟩ ⟨rfl, rfl, trivial⟩ (fun _ hm => hm.pick [0, 1, 2] [0] [0, 1, 2, 3, 4, 5] rfl rfl) ?_
 intro i hinv
 replace hinv : 1 ≤ i ∧ i ≤ k + 1 ∧ adjU M i := hinv
 refine gw_seq (sr_ ?_)
 obtain ⟨hi1, hi0, hadj⟩ := hinv
 refine mv_ rfl (mv_ rfl (wl_ov (ov_len es48 rfl) rfl (wl_ov (ov_lss rfl rfl) rfl (nn_ ?_))))
 refine gw_cond rfl (fun hh => ?_) (fun hh => ?_)
 ·have hi : ((i : Nat) : Int) < ((k : Nat) : Int) := by simpa using hh
  clear hh
  refine gw_skip (nx_then (gw_seq (gw_block (gw_seq ?_))))
  have hin : i < k := by omega
  have hin1 : i - 1 < k := by omega
  obtain ⟨xx, hx⟩ : ∃ x, M[i]? = some x := ⟨_, List.getElem?_eq_getElem (by omega)⟩
  obtain ⟨e0, e1, e2, e3, e4⟩ := xx
  obtain ⟨yy, hy⟩ : ∃ x, M[i - 1]? = some x := ⟨_, List.getElem?_eq_getElem (by omega)⟩
  obtain ⟨p0, p1, p2, p3, p4⟩ := yy
  refine gd (fun wz => Blk wz g3 48 [.slice A1 n1 c1, .slice A2 n2 c2] ∧ Blk wz g2 35 [.int .i64 LA, .int .i64 LB] ∧ Blk wz g1 31 [.slice sA sn sc, .slice cA cn cc, .slice vA vn vc, .slice pA pn pc] ∧ (SlOld stEnc 15 140 w.heap.size none sA sn sl) wz ∧ (SlOld csEnc 2 159 w.heap.size none cA cn cl) wz ∧ (SlOld vhEnc 2 77 w.heap.size none vA vn vl) wz ∧ (SlOld plEnc 3 143 w.heap.size none pA pn pl) wz ∧ (SlOld evEnc 5 92 w.heap.size none A1 n1 l1) wz ∧ (SlOld evEnc 5 92 w.heap.size none A2 n2 l2) wz ∧ wz.ownsRow w.heap.size 92 5 (.slice (some ⟨g5, 0, none⟩) k c3) k (M.flatMap evEnc) ∧ True) mixed (fun _ hm => ⟨hm.bl 0, hm.bl 1, hm.bl 2, hm.fa 0, hm.fa 1, hm.fa 2, hm.fa 3, hm.fa 4, hm.fa 5, hm.ownI 0 rfl, trivial⟩) fun z => ?_
  refine wt 0 11 1 rfl z (ov_move rfl) ?_
  refine wt 1 11 3 rfl z (ov_move rfl) ?_
  refine wt 2 11 7 rfl z (ov_sub rfl rfl (by omega) (by omega)) ?_
  refine wa_set 44 (v' := .int .i64 (((i - 1) : Nat) : Int)) rfl (congrArg (Value.int .i64) (by omega)) ?_
  refine wt 3 11 15 rfl z (ov_index (j := (i - 1)) es48 rfl rfl (by omega)) ?_
  refine wt 4 11 31 rfl z (ov_elem (vs := [.int .i64 p0, .string p1, .string p2, .int .i64 p3, .string p4]) rz92 rfl (fun _ hm => (SlT.ofOwn ev_len (hm.2.2.2.2.2.2.2.2.2.1) hMl)) hy rfl rfl) ?_
  refine wt 5 11 63 rfl z (ov_move rfl) ?_
  refine wt 6 11 127 rfl z (ov_move rfl) ?_
  refine wt 7 11 255 rfl z (ov_index (j := i) es48 rfl rfl (by omega)) ?_
  refine wt 8 11 511 rfl z (ov_elem (vs := [.int .i64 e0, .string e1, .string e2, .int .i64 e3, .string e4]) rz92 rfl (fun _ hm => (SlT.ofOwn ev_len (hm.2.2.2.2.2.2.2.2.2.1) hMl)) hx rfl rfl) ?_
  refine wa1 9 rfl ?_
  refine wl_callv (v := .int .i64 (evOrd (⟨p0, p1, p2, p3, p4⟩ : Ev) (⟨e0, e1, e2, e3, e4⟩ : Ev))) rfl cb135 rfl rfl (fun wx hm => (byTime_any p0 p1 p2 p3 p4 e0 e1 e2 e3 e4 wx)) ?_
  refine wl_nil ?_
  refine nw 11 1023 (fun _ hm => ⟨hm.bl 0, hm.bl 1, hm.bl 2, hm.fa 0, hm.fa 1, hm.fa 2, hm.fa 3, hm.fa 4, hm.fa 5, hm.ownI 0 rfl, trivial⟩) fun z => ?_
  refine wt 10 11 2047 rfl z (ov_eql rfl rfl) ?_
  refine wa_done (by kernel_rfl) ?_
  refine nx_then ?_
  refine gw_cond rfl (fun hh => ?_) (fun hh => ?_)
  ·have hq : evOrd (⟨p0, p1, p2, p3, p4⟩ : Ev) (⟨e0, e1, e2, e3, e4⟩ : Ev) = 0 := by simpa using hh
   clear hh
   refine sr_ ?_
   have hE13 : TE = 13 := by rw [hME2]; exact merge_bad hy (by rw [show i - 1 + 1 = i by omega]; exact hx) hq
   refine sg_ rfl (sg_ rfl (nn_ ?_))
   refine gw_ret ?_
   refine nx_blk_ret (nx_then_ret (nx_then_ret (nx_blk_ret (nx_then_ret ?_))))
   refine nx_ret2 rfl rfl rfl fun wx hm => ?_
   exact ⟨none, 0, 0, by rw [hE13], fun h => (by rw [hE13] at h; cases h), fun _ => ⟨rfl, rfl, rfl⟩, hm.g⟩
  have hq : ¬ (evOrd (⟨p0, p1, p2, p3, p4⟩ : Ev) (⟨e0, e1, e2, e3, e4⟩ : Ev) = 0) := by simpa using hh
  clear hh
  refine gw_skip (nx_blk_nrm (nx_then (gw_region (mv_ rfl (ad_ rfl rfl (sg_ rfl (wl_nil ?_)))))))
  exact nx_round (i + 1) ⟨by omega, by omega, adj_next hadj hy (by rw [show i - 1 + 1 = i by omega]; exact hx) hq (by omega)⟩ (by omega) ⟨rfl, (some_int (by omega)), trivial⟩ (fun _ hm => hm.pick [0, 1, 2] [0] [0, 1, 2, 3, 4, 5] rfl rfl)
 have hi : ¬ (((i : Nat) : Int) < ((k : Nat) : Int)) := by simpa using hh
 clear hh
 refine gw_exit ?_
 refine nx_then_exit (nx_then_exit ?_)
 refine nx_blk_here ?_
 refine nx_then (gw_seq (sr_ ?_))
 have hE0 : TE = 0 := by rw [hME2]; exact merge_good (adj_all hadj (by omega))
 refine mv_ rfl (wl_ov (ov_len es48 rfl) rfl ?_)
 refine wl_ov (ov_gtr rfl rfl) rfl ?_
 refine wl_set 55 (v' := .bool false) rfl (congrArg Value.bool (decide_eq_false (by omega))) ?_
 refine nn_ (cf_ rfl (gw_skip (nx_then (sr_ (mv_ rfl (sg_ rfl (sg_ rfl (nn_ ?_))))))))
 refine gw_ret ?_
 refine nx_ret2 rfl rfl rfl fun wx hm => ?_
 exact ⟨_, k, c3, by rw [hE0], fun _ => ⟨by rw [← hM]; exact SlT.ofOwn ev_len (hm.ownI 0 rfl) hMl, hk19⟩, fun h => absurd hE0 h, hm.g⟩
end Go.Proofs.YtjecbkgjabnmoaaGreatDoor
namespace Go.Proofs.YtjecbkgjabnmoaaGreatDoor
open Go.RowKit
theorem b_ne_selfL (a : ByteArray) : (!(a.toList == a.toList)) = false := by simp
theorem nanL (a : ByteArray) (w : World) : Calls Tryz.prog 225 #[.string a] w (fun e w' => e = .returned (.bool false) ∧ w.grownBy w' none) := by
 refine gw_enter ⟨6, w, none, []⟩ Tryz.func225 rfl Tryz.ntmps225 rfl (mem0 (X := []) allF_nil allL_nil) ?_
 refine sr_ (sg_ rfl (nn_ (sr_ (mv_ rfl (mv_ rfl (wl_ov (ov_sneq rfl rfl) rfl ?_))))))
 refine wl_set 5 (v' := .bool false) rfl (congrArg Value.bool (b_ne_selfL a)) ?_
 refine sg_ rfl (nn_ ?_)
 refine gw_ret ?_
 refine nx_ret1 rfl rfl fun wx hm => ?_
 exact ⟨rfl, hm.g⟩
theorem cmpL (a b : ByteArray) (w : World) : Calls Tryz.prog 159 #[.string a, .string b] w (fun e w' => e = .returned (.int .i64 (cmpS a b)) ∧ w.grownBy w' none) := by
 refine gw_enter ⟨20, w, none, []⟩ Tryz.func159 rfl Tryz.ntmps159 rfl (mem0 (X := []) allF_nil allL_nil) ?_
 refine sr_ (sg_ rfl (nn_ (sr_ (mv_ rfl ?_))))
 refine wl_callv rfl cb225 rfl rfl (fun wx hm => (nanL _ wx)) ?_
 refine sg_ rfl (nn_ (sr_ (mv_ rfl ?_)))
 refine wl_callv rfl cb225 rfl rfl (fun wx hm => (nanL _ wx)) ?_
 refine sg_ rfl (nn_ (gw_seq (sr_ (mv_ rfl (nn_ (cf_ rfl (gw_skip (nx_then (gw_seq (gw_seq ?_))))))))))
 refine gw_region (mv_ rfl (nn_ (cf_ rfl (gw_skip (nx_then (gw_seq (sr_ (mv_ rfl (mv_ rfl ?_)))))))))
 refine wl_ov (ov_slss rfl rfl) rfl ?_
 refine nn_ ?_
 refine gw_cond rfl (fun hh => ?_) (fun hh => ?_)
 ·have h1 : (Op.bytesLess a.toList b.toList) = true := by simpa using hh
  clear hh
  refine sr_ (sg_ rfl ?_)
  refine wl_set 4 (v' := .int .i64 (-1)) rfl rfl ?_
  refine nn_ ?_
  refine gw_ret ?_
  refine nx_then_ret ?_
  refine nx_ret1 rfl rfl fun wx hm => ?_
  refine ⟨?_, hm.g⟩
  unfold cmpS; rw [if_pos h1]
 have h1 : (Op.bytesLess a.toList b.toList) = false := by simpa using hh
 clear hh
 refine gw_skip (nx_then (gw_seq (sr_ (mv_ rfl (mv_ rfl ?_)))))
 refine wl_ov (ov_sgtr rfl rfl) rfl ?_
 refine nn_ ?_
 refine gw_cond rfl (fun hh => ?_) (fun hh => ?_)
 ·have h2 : (Op.bytesLess a.toList b.toList || a.toList == b.toList) = false := by simpa only [Bool.not_eq_true', Bool.not_eq_false'] using hh
  clear hh
  refine sr_ (sg_ rfl (nn_ ?_))
  refine gw_ret ?_
  refine nx_then_ret ?_
  refine nx_ret1 rfl rfl fun wx hm => ?_
  refine ⟨?_, hm.g⟩
  unfold cmpS; rw [if_neg (by rw [h1]; decide), if_pos h2]
 have h2 : (Op.bytesLess a.toList b.toList || a.toList == b.toList) = true := by simpa only [Bool.not_eq_true', Bool.not_eq_false'] using hh
 clear hh
 refine gw_skip (nx_then (sr_ (sg_ rfl (nn_ ?_))))
 refine gw_ret ?_
 refine nx_ret1 rfl rfl fun wx hm => ?_
 refine ⟨?_, hm.g⟩
 unfold cmpS; rw [if_neg (by rw [h1]; decide), if_neg (by rw [h2]; decide)]
theorem hasL1 (gk : Nat) (w : World) (hk : Blk w gk 9 [.string ⟨#[115]⟩]) : Calls Tryz.prog 191 #[.agg #[.string ⟨#[115]⟩, .int .i64 0, .int .i64 0, .int .i64 0, .int .i64 0, .int .i64 0, .int .i64 0, .int .i64 0, .int .i64 0, .int .i64 0, .int .i64 0, .int .i64 0, .int .i64 0, .int .i64 0, .int .i64 0], .pointer (some ⟨gk, 0, none⟩)] w (fun e w' => e = .returned (.bool true) ∧ w.grownBy w' none) := by
 refine gw_enter ⟨8, w, none, []⟩ Tryz.func191 rfl Tryz.ntmps191 rfl (mem0 (X := [BlkOld w.heap.size none gk 9 [.string ⟨#[115]⟩]]) (allF_cons hk.old allF_nil) (allL_cons BlkOld.lasts allL_nil)) ?_
 refine sr_ ?_
 refine wl_box rfl rfl rfl fun g1 => ?_
 refine sg_ rfl (nn_ (sr_ (fd_ fo140_0 rfl rfl (lk_ sc9 0 rfl rfl rfl ?_))))
 refine wl_ov (ov_load (v := .string ⟨#[115]⟩) sc9 rfl (fun _ hm => (hm.fact 0 rfl).2) rfl) rfl ?_
 refine wl_ov (ov_seql rfl rfl) rfl ?_
 refine wl_set 7 (v' := .bool true) rfl (congrArg Value.bool (by decide +kernel)) ?_
 refine sg_ rfl (nn_ ?_)
 refine gw_ret ?_
 refine nx_ret1 rfl rfl fun wx hm => ?_
 exact ⟨rfl, hm.g⟩
theorem ixL (gs : Nat) (gk : Nat) (w : World) (hbs : Blk w gs 140 [.string ⟨#[115]⟩, .int .i64 0, .int .i64 0, .int .i64 0, .int .i64 0, .int .i64 0, .int .i64 0, .int .i64 0, .int .i64 0, .int .i64 0, .int .i64 0, .int .i64 0, .int .i64 0, .int .i64 0, .int .i64 0]) (hk : Blk w gk 9 [.string ⟨#[115]⟩]) : Calls Tryz.prog 127 #[.slice (some ⟨gs, 0, none⟩) 1 1, .func (.func 191) #[] #[.pointer (some ⟨gk, 0, none⟩)]] w (fun e w' => e = .returned (.int .i64 0) ∧ w.grownBy w' none) := by
 refine gw_enter ⟨19, w, none, []⟩ Tryz.func127 rfl Tryz.ntmps127 rfl (mem0 (X := [BlkOld w.heap.size none gs 140 [.string ⟨#[115]⟩, .int .i64 0, .int .i64 0, .int .i64 0, .int .i64 0, .int .i64 0, .int .i64 0, .int .i64 0, .int .i64 0, .int .i64 0, .int .i64 0, .int .i64 0, .int .i64 0, .int .i64 0, .int .i64 0], BlkOld w.heap.size none gk 9 [.string ⟨#[115]⟩]]) (allF_cons hbs.old (allF_cons hk.old allF_nil)) (allL_cons BlkOld.lasts (allL_cons BlkOld.lasts allL_nil))) ?_
 refine sr_ (sg_ rfl (nn_ (gw_seq (sr_ (mv_ rfl (wl_ov (ov_len es26 rfl) rfl ?_))))))
 refine wl_set 7 (v' := .int .i64 1) rfl rfl ?_
 refine mv_ rfl (nn_ (gw_block ?_))
 refine gw_rounds 4 ?_
 refine gr_next ?_
 refine sr_ (wl_ov (ov_lss rfl rfl) rfl ?_)
 refine wl_set 9 (v' := .bool true) rfl (congrArg Value.bool (by decide)) ?_
 refine nn_ (gw_seq (ct_ rfl (gw_skip (nx_then (gw_seq (gw_block (sr_ (mv_ rfl (sg_ rfl (nn_ ?_))))))))))
 refine sr_ (mv_ rfl (mv_ rfl (mv_ rfl ?_)))
 refine wl_ov (ov_index (j := 0) es26 rfl rfl (by decide)) rfl ?_
 refine wl_ov (ov_loads (vs := [.string ⟨#[115]⟩, .int .i64 0, .int .i64 0, .int .i64 0, .int .i64 0, .int .i64 0, .int .i64 0, .int .i64 0, .int .i64 0, .int .i64 0, .int .i64 0, .int .i64 0, .int .i64 0, .int .i64 0, .int .i64 0]) rz140 rfl (fun _ hm => (hm.fact 0 rfl).2) rfl rfl) rfl ?_
 refine wl_callv rfl cb191 rfl rfl (fun wx hm => (hasL1 gk wx (hm.fact 1 rfl).2)) ?_
 refine nn_ (ct_ rfl (sr_ (mv_ rfl (sg_ rfl (nn_ ?_)))))
 refine gw_ret ?_
 refine nx_blk_ret (nx_then_ret (nx_then_ret (nx_blk_ret (nx_then_ret ?_))))
 refine nx_ret1 rfl rfl fun wx hm => ?_
 exact ⟨rfl, hm.g⟩
theorem cfL (gs : Nat) (gk : Nat) (w : World) (hbs : Blk w gs 140 [.string ⟨#[115]⟩, .int .i64 0, .int .i64 0, .int .i64 0, .int .i64 0, .int .i64 0, .int .i64 0, .int .i64 0, .int .i64 0, .int .i64 0, .int .i64 0, .int .i64 0, .int .i64 0, .int .i64 0, .int .i64 0]) (hk : Blk w gk 9 [.string ⟨#[115]⟩]) : Calls Tryz.prog 190 #[.slice (some ⟨gs, 0, none⟩) 1 1, .func (.func 191) #[] #[.pointer (some ⟨gk, 0, none⟩)]] w (fun e w' => e = .returned (.bool true) ∧ w.grownBy w' none) := by
 refine gw_enter ⟨9, w, none, []⟩ Tryz.func190 rfl Tryz.ntmps190 rfl (mem0 (X := [BlkOld w.heap.size none gs 140 [.string ⟨#[115]⟩, .int .i64 0, .int .i64 0, .int .i64 0, .int .i64 0, .int .i64 0, .int .i64 0, .int .i64 0, .int .i64 0, .int .i64 0, .int .i64 0, .int .i64 0, .int .i64 0, .int .i64 0, .int .i64 0], BlkOld w.heap.size none gk 9 [.string ⟨#[115]⟩]]) (allF_cons hbs.old (allF_cons hk.old allF_nil)) (allL_cons BlkOld.lasts (allL_cons BlkOld.lasts allL_nil))) ?_
 refine sr_ (sg_ rfl (nn_ (sr_ (mv_ rfl (mv_ rfl ?_)))))
 refine wl_callv rfl cb127 rfl rfl (fun wx hm => (ixL gs gk wx (hm.fact 0 rfl).2 (hm.fact 1 rfl).2)) ?_
 refine wl_ov (ov_geq rfl rfl) rfl ?_
 refine wl_set 8 (v' := .bool true) rfl (congrArg Value.bool (by decide)) ?_
 refine sg_ rfl (nn_ ?_)
 refine gw_ret ?_
 refine nx_ret1 rfl rfl fun wx hm => ?_
 exact ⟨rfl, hm.g⟩
theorem hasStL (gs : Nat) (gc : Nat) (gv : Nat) (w : World) (hbs : Blk w gs 140 [.string ⟨#[115]⟩, .int .i64 0, .int .i64 0, .int .i64 0, .int .i64 0, .int .i64 0, .int .i64 0, .int .i64 0, .int .i64 0, .int .i64 0, .int .i64 0, .int .i64 0, .int .i64 0, .int .i64 0, .int .i64 0]) (hbc : Blk w gc 159 [.string ⟨#[99]⟩, .string ⟨#[]⟩]) (hbv : Blk w gv 77 [.string ⟨#[118]⟩, .string ⟨#[99]⟩]) : Calls Tryz.prog 120 #[.agg #[.slice (some ⟨gs, 0, none⟩) 1 1, .slice (some ⟨gc, 0, none⟩) 1 1, .slice (some ⟨gv, 0, none⟩) 1 1, .slice none 0 0], .string ⟨#[115]⟩] w (fun e w' => e = .returned (.bool true) ∧ w.grownBy w' none) := by
 refine gw_enter ⟨9, w, none, []⟩ Tryz.func120 rfl Tryz.ntmps120 rfl (mem0 (X := [BlkOld w.heap.size none gs 140 [.string ⟨#[115]⟩, .int .i64 0, .int .i64 0, .int .i64 0, .int .i64 0, .int .i64 0, .int .i64 0, .int .i64 0, .int .i64 0, .int .i64 0, .int .i64 0, .int .i64 0, .int .i64 0, .int .i64 0, .int .i64 0], BlkOld w.heap.size none gc 159 [.string ⟨#[99]⟩, .string ⟨#[]⟩], BlkOld w.heap.size none gv 77 [.string ⟨#[118]⟩, .string ⟨#[99]⟩]]) (allF_cons hbs.old (allF_cons hbc.old (allF_cons hbv.old allF_nil))) (allL_cons BlkOld.lasts (allL_cons BlkOld.lasts (allL_cons BlkOld.lasts allL_nil)))) ?_
 refine sr_ ?_
 refine wl_box rfl rfl rfl fun g1 => ?_
 refine wl_box rfl rfl rfl fun g2 => ?_
 refine sg_ rfl (nn_ (sr_ (fd_ fo31_0 rfl rfl (lk_ sc26 1 rfl rfl rfl (wl_ov (ov_makeFunc rfl rfl) rfl ?_)))))
 refine wl_callv rfl cb190 rfl rfl (fun wx hm => (cfL gs _ wx (hm.fact 0 rfl).2 (hm.blkI 0 rfl))) ?_
 refine sg_ rfl (nn_ ?_)
 refine gw_ret ?_
 refine nx_ret1 rfl rfl fun wx hm => ?_
 exact ⟨rfl, hm.g⟩
theorem vL1 (w : World) : Calls Tryz.prog 165 #[.agg #[.string ⟨#[118]⟩, .string ⟨#[99]⟩], .string ⟨#[118]⟩] w (fun e w' => e = .returned (.int .i64 0) ∧ w.grownBy w' none) := by
 refine gw_enter ⟨9, w, none, []⟩ Tryz.func165 rfl Tryz.ntmps165 rfl (mem0 (X := []) allF_nil allL_nil) ?_
 refine sr_ ?_
 refine wl_box rfl rfl rfl fun g1 => ?_
 refine sg_ rfl (nn_ (sr_ (fd_ fo77_0 rfl rfl (lk_ sc9 0 rfl rfl rfl (mv_ rfl ?_)))))
 refine wl_callv (v := .int .i64 0) rfl cb159 rfl rfl (fun wx hm => (by have h := cmpL ⟨#[118]⟩ ⟨#[118]⟩ wx; rw [show cmpS ⟨#[118]⟩ ⟨#[118]⟩ = 0 by decide +kernel] at h; exact h)) ?_
 refine sg_ rfl (nn_ ?_)
 refine gw_ret ?_
 refine nx_ret1 rfl rfl fun wx hm => ?_
 exact ⟨rfl, hm.g⟩
theorem bsL (gv : Nat) (w : World) (hbv : Blk w gv 77 [.string ⟨#[118]⟩, .string ⟨#[99]⟩]) : Calls Tryz.prog 164 #[.slice (some ⟨gv, 0, none⟩) 1 1, .string ⟨#[118]⟩, .func (.func 165) #[] #[]] w (fun e w' => e = .returned (.tuple #[.int .i64 0, .bool true]) ∧ w.grownBy w' none) := by
 refine gw_enter ⟨49, w, none, []⟩ Tryz.func164 rfl Tryz.ntmps164 rfl (mem0 (X := [BlkOld w.heap.size none gv 77 [.string ⟨#[118]⟩, .string ⟨#[99]⟩]]) (allF_cons hbv.old allF_nil) (allL_cons BlkOld.lasts allL_nil)) ?_
 refine sr_ (sg_ rfl (sg_ rfl (nn_ (sr_ (mv_ rfl (wl_ov (ov_len es28 rfl) rfl ?_))))))
 refine wl_set 13 (v' := .int .i64 1) rfl rfl ?_
 refine sg_ rfl (nn_ (sr_ (mv_ rfl (sg_ rfl (sg_ rfl (nn_ (gw_seq (gw_block ?_))))))))
 refine gw_rounds 4 ?_
 refine gr_next ?_
 refine gw_seq (sr_ (mv_ rfl (mv_ rfl (wl_ov (ov_lss rfl rfl) rfl ?_))))
 refine wl_set 17 (v' := .bool true) rfl (congrArg Value.bool (by decide)) ?_
 refine nn_ (ct_ rfl (gw_skip (nx_then (gw_block (sr_ (mv_ rfl (mv_ rfl (ad_ rfl rfl ?_))))))))
 refine wl_set 20 (v' := .int .i64 1) rfl rfl ?_
 refine wl_ov (ov_u64 (a := 1) (by kernel_rfl) (by kernel_rfl) rfl (by omega)) rfl ?_
 refine wl_ov (ov_shru1 (a := 1) rfl rfl) rfl ?_
 refine wl_ov (ov_i64 (a := 1 / 2) (by kernel_rfl) (by kernel_rfl) rfl (by omega)) rfl ?_
 refine wl_set 23 (v' := .int .i64 0) rfl rfl ?_
 refine sg_ rfl (nn_ (sr_ (mv_ rfl (mv_ rfl (mv_ rfl ?_)))))
 refine wl_ov (ov_index (j := 0) es28 rfl rfl (by decide)) rfl ?_
 refine wl_ov (ov_loads (vs := [.string ⟨#[118]⟩, .string ⟨#[99]⟩]) rz77 rfl (fun _ hm => (hm.fact 0 rfl).2) rfl rfl) rfl ?_
 refine mv_ rfl ?_
 refine wl_callv rfl cb165 rfl rfl (fun wx hm => (vL1 wx)) ?_
 refine wl_ov (ov_lss rfl rfl) rfl ?_
 refine wl_set 31 (v' := .bool false) rfl (congrArg Value.bool (by decide)) ?_
 refine nn_ (cf_ rfl (gw_region (mv_ rfl (sg_ rfl (wl_nil (nx_blk_nrm ?_))))))
 refine nx_next ?_
 refine gr_next ?_
 refine gw_seq (sr_ (mv_ rfl (mv_ rfl (wl_ov (ov_lss rfl rfl) rfl ?_))))
 refine wl_set 17 (v' := .bool false) rfl (congrArg Value.bool (by decide)) ?_
 refine nn_ (cf_ rfl ?_)
 refine gw_exit ?_
 refine nx_then_exit (nx_then_exit ?_)
 refine nx_blk_here ?_
 refine nx_then (sr_ (mv_ rfl (mv_ rfl (mv_ rfl (wl_ov (ov_lss rfl rfl) rfl ?_)))))
 refine wl_set 38 (v' := .bool true) rfl (congrArg Value.bool (by decide)) ?_
 refine mv_ rfl (wl_guard_on rfl rfl rfl (mv_ rfl (wl_guard_on rfl rfl rfl (mv_ rfl (wl_guard_on rfl rfl rfl (mv_ rfl (wl_guard_on rfl rfl rfl ?_)))))))
 refine wl_ov (ov_index (j := 0) es28 rfl rfl (by decide)) rfl ?_
 refine wl_guard_on rfl rfl rfl ?_
 refine wl_ov (ov_loads (vs := [.string ⟨#[118]⟩, .string ⟨#[99]⟩]) rz77 rfl (fun _ hm => (hm.fact 0 rfl).2) rfl rfl) rfl ?_
 refine wl_guard_on rfl rfl rfl (mv_ rfl (wl_guard_on rfl rfl rfl ?_))
 refine wl_callv rfl cb165 rfl rfl (fun wx hm => (vL1 wx)) ?_
 refine wl_guard_on rfl rfl rfl (wl_ov (ov_eql rfl rfl) rfl ?_)
 refine wl_set 47 (v' := .bool true) rfl (congrArg Value.bool (by decide)) ?_
 refine pt_ rfl rfl (sg_ rfl (sg_ rfl (nn_ ?_)))
 refine gw_ret ?_
 refine nx_ret2 rfl rfl rfl fun wx hm => ?_
 exact ⟨rfl, hm.g⟩
theorem vehL (gs : Nat) (gc : Nat) (gv : Nat) (w : World) (hbs : Blk w gs 140 [.string ⟨#[115]⟩, .int .i64 0, .int .i64 0, .int .i64 0, .int .i64 0, .int .i64 0, .int .i64 0, .int .i64 0, .int .i64 0, .int .i64 0, .int .i64 0, .int .i64 0, .int .i64 0, .int .i64 0, .int .i64 0]) (hbc : Blk w gc 159 [.string ⟨#[99]⟩, .string ⟨#[]⟩]) (hbv : Blk w gv 77 [.string ⟨#[118]⟩, .string ⟨#[99]⟩]) : Calls Tryz.prog 80 #[.agg #[.slice (some ⟨gs, 0, none⟩) 1 1, .slice (some ⟨gc, 0, none⟩) 1 1, .slice (some ⟨gv, 0, none⟩) 1 1, .slice none 0 0], .string ⟨#[118]⟩] w (fun e w' => e = .returned (.int .i64 0) ∧ w.grownBy w' none) := by
 refine gw_enter ⟨17, w, none, []⟩ Tryz.func80 rfl Tryz.ntmps80 rfl (mem0 (X := [BlkOld w.heap.size none gs 140 [.string ⟨#[115]⟩, .int .i64 0, .int .i64 0, .int .i64 0, .int .i64 0, .int .i64 0, .int .i64 0, .int .i64 0, .int .i64 0, .int .i64 0, .int .i64 0, .int .i64 0, .int .i64 0, .int .i64 0, .int .i64 0], BlkOld w.heap.size none gc 159 [.string ⟨#[99]⟩, .string ⟨#[]⟩], BlkOld w.heap.size none gv 77 [.string ⟨#[118]⟩, .string ⟨#[99]⟩]]) (allF_cons hbs.old (allF_cons hbc.old (allF_cons hbv.old allF_nil))) (allL_cons BlkOld.lasts (allL_cons BlkOld.lasts (allL_cons BlkOld.lasts allL_nil)))) ?_
 refine sr_ ?_
 refine wl_box rfl rfl rfl fun g1 => ?_
 refine sg_ rfl (nn_ (sr_ (fd_ fo31_2 rfl rfl (lk_ sc28 0 rfl rfl rfl (mv_ rfl ?_)))))
 refine wl_callv rfl cb164 rfl rfl (fun wx hm => (bsL gv wx (hm.fact 2 rfl).2)) ?_
 refine mv_ rfl (wl_ov (ov_extract rfl rfl) rfl (wl_ov (ov_extract rfl rfl) rfl (sg_ rfl (sg_ rfl (nn_ (gw_seq (sr_ (mv_ rfl (wl_ov (ov_un_not rfl) rfl ?_)))))))))
 refine wl_set 15 (v' := .bool false) rfl (congrArg Value.bool (by decide)) ?_
 refine nn_ (cf_ rfl (gw_skip (nx_then (sr_ (mv_ rfl (sg_ rfl (nn_ ?_)))))))
 refine gw_ret ?_
 refine nx_ret1 rfl rfl fun wx hm => ?_
 exact ⟨rfl, hm.g⟩
theorem oneS_ok : ∀ x ∈ [(⟨⟨#[115]⟩, [0, 0, 0, 0, 0, 0, 0, 0, 0, 0, 0, 0, 0, 0]⟩ : St)], StOk x := fun x hx => by
  rw [List.mem_singleton.1 hx]; exact ⟨rfl, by decide, by decide⟩
theorem oneC_ok : ∀ x ∈ [(⟨⟨#[99]⟩, ⟨#[]⟩⟩ : Cs)], CsOk x := fun x hx => by
  rw [List.mem_singleton.1 hx]; exact ⟨by decide, by decide⟩
theorem oneS_zero : stationsE [(⟨⟨#[115]⟩, [0, 0, 0, 0, 0, 0, 0, 0, 0, 0, 0, 0, 0, 0]⟩ : St)] = 0 := by decide +kernel
theorem oneC_zero : classesE [(⟨⟨#[99]⟩, ⟨#[]⟩⟩ : Cs)] = 0 := by decide +kernel
theorem oneC_ix : ixP (csP ⟨#[99]⟩) [(⟨⟨#[99]⟩, ⟨#[]⟩⟩ : Cs)] 0 = 0 := by decide +kernel
theorem slS {w : World} {g : Nat} (h : Blk w g 140 [.string ⟨#[115]⟩, .int .i64 0, .int .i64 0, .int .i64 0, .int .i64 0, .int .i64 0, .int .i64 0, .int .i64 0, .int .i64 0, .int .i64 0, .int .i64 0, .int .i64 0, .int .i64 0, .int .i64 0, .int .i64 0]) : SlT stEnc 15 140 w (some ⟨g, 0, none⟩) 1 [(⟨⟨#[115]⟩, [0, 0, 0, 0, 0, 0, 0, 0, 0, 0, 0, 0, 0, 0]⟩ : St)] := ⟨rfl, fun _ => ⟨g, 0, _, _, rfl, h, fun i x hx j v hv => by
  match i, hx with
  | 0, hx =>
    simp only [List.getElem?_cons_zero, Option.some.injEq] at hx
    subst hx
    rw [show 0 + 0 * 15 + j = j by omega, List.getElem?_toArray]; exact hv
  | i + 1, hx => simp at hx⟩⟩
theorem platesL (gs : Nat) (gc : Nat) (gv : Nat) (w : World) (hbs : Blk w gs 140 [.string ⟨#[115]⟩, .int .i64 0, .int .i64 0, .int .i64 0, .int .i64 0, .int .i64 0, .int .i64 0, .int .i64 0, .int .i64 0, .int .i64 0, .int .i64 0, .int .i64 0, .int .i64 0, .int .i64 0, .int .i64 0]) (hbc : Blk w gc 159 [.string ⟨#[99]⟩, .string ⟨#[]⟩]) (hbv : Blk w gv 77 [.string ⟨#[118]⟩, .string ⟨#[99]⟩]) : Calls Tryz.prog 99 #[.agg #[.slice (some ⟨gs, 0, none⟩) 1 1, .slice (some ⟨gc, 0, none⟩) 1 1, .slice (some ⟨gv, 0, none⟩) 1 1, .slice none 0 0]] w (fun e w' => e = .returned (.int .i64 0) ∧ w.grownBy w' none) := by
 refine gw_enter ⟨97, w, none, []⟩ Tryz.func99 rfl Tryz.ntmps99 rfl (mem0 (X := [BlkOld w.heap.size none gs 140 [.string ⟨#[115]⟩, .int .i64 0, .int .i64 0, .int .i64 0, .int .i64 0, .int .i64 0, .int .i64 0, .int .i64 0, .int .i64 0, .int .i64 0, .int .i64 0, .int .i64 0, .int .i64 0, .int .i64 0, .int .i64 0], BlkOld w.heap.size none gc 159 [.string ⟨#[99]⟩, .string ⟨#[]⟩], BlkOld w.heap.size none gv 77 [.string ⟨#[118]⟩, .string ⟨#[99]⟩]]) (allF_cons hbs.old (allF_cons hbc.old (allF_cons hbv.old allF_nil))) (allL_cons BlkOld.lasts (allL_cons BlkOld.lasts (allL_cons BlkOld.lasts allL_nil)))) ?_
 refine sr_ ?_
 refine wl_box rfl rfl rfl fun g1 => ?_
 refine sg_ rfl (nn_ (gw_seq (sr_ (fd_ fo31_3 rfl rfl (lk_ sc29 0 rfl rfl rfl (wl_ov (ov_len es29 rfl) rfl ?_))))))
 refine wl_set 10 (v' := .int .i64 0) rfl rfl ?_
 refine wl_ov (ov_gtr rfl rfl) rfl ?_
 refine wl_set 11 (v' := .bool false) rfl (congrArg Value.bool (by decide)) ?_
 refine nn_ (cf_ rfl (gw_skip (nx_then (gw_seq (sr_ (fd_ fo31_3 rfl rfl (lk_ sc29 0 rfl rfl rfl (wl_ov (ov_len es29 rfl) rfl ?_))))))))
 refine wl_set 14 (v' := .int .i64 0) rfl rfl ?_
 refine mv_ rfl (nn_ (gw_block ?_))
 refine gw_rounds 4 ?_
 refine gr_next ?_
 refine sr_ (wl_ov (ov_lss rfl rfl) rfl ?_)
 refine wl_set 16 (v' := .bool false) rfl (congrArg Value.bool (by decide)) ?_
 refine nn_ (gw_seq (cf_ rfl ?_))
 refine gw_exit ?_
 refine nx_then_exit (nx_then_exit ?_)
 refine nx_blk_here ?_
 refine nx_then (sr_ (sg_ rfl (nn_ ?_)))
 refine gw_ret ?_
 refine nx_ret1 rfl rfl fun wx hm => ?_
 exact ⟨rfl, hm.g⟩
theorem fleetL (gs : Nat) (gc : Nat) (gv : Nat) (w : World) (hbs : Blk w gs 140 [.string ⟨#[115]⟩, .int .i64 0, .int .i64 0, .int .i64 0, .int .i64 0, .int .i64 0, .int .i64 0, .int .i64 0, .int .i64 0, .int .i64 0, .int .i64 0, .int .i64 0, .int .i64 0, .int .i64 0, .int .i64 0]) (hbc : Blk w gc 159 [.string ⟨#[99]⟩, .string ⟨#[]⟩]) (hbv : Blk w gv 77 [.string ⟨#[118]⟩, .string ⟨#[99]⟩]) : Calls Tryz.prog 23 #[.agg #[.slice (some ⟨gs, 0, none⟩) 1 1, .slice (some ⟨gc, 0, none⟩) 1 1, .slice (some ⟨gv, 0, none⟩) 1 1, .slice none 0 0]] w (fun e w' => e = .returned (.int .i64 0) ∧ w.grownBy w' none) := by
 refine gw_enter ⟨60, w, none, []⟩ Tryz.func23 rfl Tryz.ntmps23 rfl (mem0 (X := [BlkOld w.heap.size none gs 140 [.string ⟨#[115]⟩, .int .i64 0, .int .i64 0, .int .i64 0, .int .i64 0, .int .i64 0, .int .i64 0, .int .i64 0, .int .i64 0, .int .i64 0, .int .i64 0, .int .i64 0, .int .i64 0, .int .i64 0, .int .i64 0], BlkOld w.heap.size none gc 159 [.string ⟨#[99]⟩, .string ⟨#[]⟩], BlkOld w.heap.size none gv 77 [.string ⟨#[118]⟩, .string ⟨#[99]⟩]]) (allF_cons hbs.old (allF_cons hbc.old (allF_cons hbv.old allF_nil))) (allL_cons BlkOld.lasts (allL_cons BlkOld.lasts (allL_cons BlkOld.lasts allL_nil)))) ?_
 refine sr_ ?_
 refine wl_box rfl rfl rfl fun g1 => ?_
 refine sg_ rfl (nn_ (gw_seq (gw_seq ?_)))
 refine gd (fun wz => Blk wz g1 31 [.slice (some ⟨gs, 0, none⟩) 1 1, .slice (some ⟨gc, 0, none⟩) 1 1, .slice (some ⟨gv, 0, none⟩) 1 1, .slice none 0 0] ∧ (BlkOld w.heap.size none gs 140 [.string ⟨#[115]⟩, .int .i64 0, .int .i64 0, .int .i64 0, .int .i64 0, .int .i64 0, .int .i64 0, .int .i64 0, .int .i64 0, .int .i64 0, .int .i64 0, .int .i64 0, .int .i64 0, .int .i64 0, .int .i64 0]) wz ∧ (BlkOld w.heap.size none gc 159 [.string ⟨#[99]⟩, .string ⟨#[]⟩]) wz ∧ (BlkOld w.heap.size none gv 77 [.string ⟨#[118]⟩, .string ⟨#[99]⟩]) wz ∧ True) mixed (fun _ hm => ⟨hm.bl 0, hm.fa 0, hm.fa 1, hm.fa 2, trivial⟩) fun z => ?_
 refine wt 0 14 1 rfl z (ov_field fo31_0 rfl rfl) ?_
 refine wt 1 14 3 rfl z (ov_load sc26 rfl (fun _ hm => hm.1) rfl) ?_
 refine wt 3 14 11 rfl z (ov_field fo31_1 rfl rfl) ?_
 refine wt 4 14 27 rfl z (ov_load sc27 rfl (fun _ hm => hm.1) rfl) ?_
 refine wt 6 14 91 rfl z (ov_field fo31_2 rfl rfl) ?_
 refine wt 7 14 219 rfl z (ov_load sc28 rfl (fun _ hm => hm.1) rfl) ?_
 refine wt 8 14 475 rfl z (ov_len es28 rfl) ?_
 refine wa_set 14 (v' := .int .i64 1) rfl rfl ?_
 refine wt 9 14 987 rfl z (ov_gtr rfl rfl) ?_
 refine wa_set 15 (v' := .bool false) rfl (congrArg Value.bool (by decide)) ?_
 refine wa1 2 rfl ?_
 refine wl_callv (v := .int .i64 0) rfl cb95 rfl rfl (fun wx hm => (by have h := checkStations_any [(⟨⟨#[115]⟩, [0, 0, 0, 0, 0, 0, 0, 0, 0, 0, 0, 0, 0, 0]⟩ : St)] _ 1 1 wx (slS (hm.fact 0 rfl).2) oneS_ok (by omega); rw [oneS_zero] at h; exact h)) ?_
 refine wl_nil ?_
 refine nw 14 991 (fun _ hm => ⟨hm.bl 0, hm.fa 0, hm.fa 1, hm.fa 2, trivial⟩) fun z => ?_
 refine wa1 5 rfl ?_
 refine wl_callv (v := .int .i64 0) rfl cb96 rfl rfl (fun wx hm => (by have h := checkClasses_any [(⟨⟨#[99]⟩, ⟨#[]⟩⟩ : Cs)] _ 1 1 wx (SlT.ofBlk (l := [(⟨⟨#[99]⟩, ⟨#[]⟩⟩ : Cs)]) cs_len (hm.fact 1 rfl).2) oneC_ok (by omega); rw [oneC_zero] at h; exact h)) ?_
 refine wl_nil ?_
 refine nw 14 1023 (fun _ hm => ⟨hm.bl 0, hm.fa 0, hm.fa 1, hm.fa 2, trivial⟩) fun z => ?_
 refine wa1 10 rfl ?_
 refine wl_callw (v := .int .i64 0) rfl cb79 rfl rfl (fun wx hm => (by have h := when_any false 2 wx; rw [show whenE false 2 = 0 by decide +kernel] at h; exact h)) ?_
 refine wl_nil ?_
 refine nw 14 2047 (fun _ hm => ⟨hm.bl 0, hm.fa 0, hm.fa 1, hm.fa 2, trivial⟩) fun z => ?_
 refine wa1 11 rfl ?_
 refine wl_buildSlice (e := 35) (cs := [.int .i64 0, .int .i64 0, .int .i64 0]) rfl (by kernel_rfl) rfl fun g2 => ?_
 refine wl_nil ?_
 refine nw 14 4095 (fun _ hm => ⟨hm.bl 1, hm.fa 0, hm.fa 1, hm.fa 2, trivial⟩) fun z => ?_
 refine wa1 12 rfl ?_
 refine wl_callw (v := .int .i64 0) rfl cb78 rfl rfl (fun wx hm => (by have h := first_any [0, 0, 0] g2 3 _ wx (hm.blkI 0 rfl) (by simp); rw [show firstE [0, 0, 0] = 0 by decide] at h; exact h)) ?_
 refine wl_nil ?_
 refine nw 14 8191 (fun _ hm => ⟨hm.bl 1, hm.fa 0, hm.fa 1, hm.fa 2, trivial⟩) fun z => ?_
 refine wt 13 14 16383 rfl z (ov_assign rfl) ?_
 refine wa_done (by kernel_rfl) ?_
 refine nx_then (sr_ (mv_ rfl (wl_ov (ov_neq rfl rfl) rfl ?_)))
 refine wl_set 20 (v' := .bool false) rfl (congrArg Value.bool (by decide)) ?_
 refine nn_ (cf_ rfl (gw_skip (nx_then (gw_seq (sr_ (fd_ fo31_2 rfl rfl (lk_ sc28 1 rfl rfl rfl (wl_ov (ov_len es28 rfl) rfl ?_))))))))
 refine wl_set 24 (v' := .int .i64 1) rfl rfl ?_
 refine mv_ rfl (nn_ (gw_block ?_))
 refine gw_rounds 4 ?_
 refine gr_next ?_
 refine sr_ (wl_ov (ov_lss rfl rfl) rfl ?_)
 refine wl_set 26 (v' := .bool true) rfl (congrArg Value.bool (by decide)) ?_
 refine nn_ (gw_seq (ct_ rfl (gw_skip (nx_then (gw_seq (gw_block (sr_ (mv_ rfl ?_))))))))
 refine wl_ov (ov_index (j := 0) es28 rfl rfl (by decide)) rfl ?_
 refine wl_ov (ov_loads (vs := [.string ⟨#[118]⟩, .string ⟨#[99]⟩]) rz77 rfl (fun _ hm => (hm.fact 2 rfl).2) rfl rfl) rfl ?_
 refine wl_alloc zc77 rfl fun g3 => ?_
 refine sg_ rfl ?_
 refine wl_stores (cs' := [.string ⟨#[118]⟩, .string ⟨#[99]⟩]) 0 rz77 rfl rfl rfl rfl rfl rfl rfl rfl ?_
 refine nn_ (gw_block (sr_ (fd_ fo77_0 rfl rfl (lk_ sc9 0 rfl rfl rfl ?_))))
 refine wl_callw (v := .bool true) rfl cb97 rfl rfl (fun wx hm => (by have h := isKey_any ⟨#[118]⟩ wx (by decide); rw [show keyB ⟨#[118]⟩ = true by decide +kernel] at h; exact h)) ?_
 refine wl_ov (ov_un_not rfl) rfl ?_
 refine wl_set 34 (v' := .bool false) rfl (congrArg Value.bool (by decide)) ?_
 refine sg_ rfl (nn_ (cf_ rfl (gw_seq ?_)))
 refine gd (fun wz => Blk wz g3 77 [.string ⟨#[118]⟩, .string ⟨#[99]⟩] ∧ Blk wz g2 35 [.int .i64 0, .int .i64 0, .int .i64 0] ∧ Blk wz g1 31 [.slice (some ⟨gs, 0, none⟩) 1 1, .slice (some ⟨gc, 0, none⟩) 1 1, .slice (some ⟨gv, 0, none⟩) 1 1, .slice none 0 0] ∧ (BlkOld w.heap.size none gs 140 [.string ⟨#[115]⟩, .int .i64 0, .int .i64 0, .int .i64 0, .int .i64 0, .int .i64 0, .int .i64 0, .int .i64 0, .int .i64 0, .int .i64 0, .int .i64 0, .int .i64 0, .int .i64 0, .int .i64 0, .int .i64 0]) wz ∧ (BlkOld w.heap.size none gc 159 [.string ⟨#[99]⟩, .string ⟨#[]⟩]) wz ∧ (BlkOld w.heap.size none gv 77 [.string ⟨#[118]⟩, .string ⟨#[99]⟩]) wz ∧ True) mixed (fun _ hm => ⟨hm.bl 0, hm.bl 1, hm.bl 2, hm.fa 0, hm.fa 1, hm.fa 2, trivial⟩) fun z => ?_
 refine wt 0 15 1 rfl z (ov_move rfl) ?_
 refine wt 1 15 3 rfl z (ov_gtr rfl rfl) ?_
 refine wa_set 37 (v' := .bool false) rfl (congrArg Value.bool (by decide)) ?_
 refine wt 2 15 7 rfl z (ov_move rfl) ?_
 refine wtf 3 15 15 rfl rfl rfl z ?_
 refine wtf 4 15 31 rfl rfl rfl z ?_
 refine wtf 5 15 63 rfl rfl rfl z ?_
 refine wtf 6 15 127 rfl rfl rfl z ?_
 refine wtf 7 15 255 rfl rfl rfl z ?_
 refine wtf 8 15 511 rfl rfl rfl z ?_
 refine wtf 9 15 1023 rfl rfl rfl z ?_
 refine wtf 10 15 2047 rfl rfl rfl z ?_
 refine wtf 11 15 4095 rfl rfl rfl z ?_
 refine wtf 12 15 8191 rfl rfl rfl z ?_
 refine wt 13 15 16383 rfl z (ov_pick_f rfl rfl) ?_
 refine wt 14 15 32767 rfl z (ov_assign rfl) ?_
 refine wa_done (by kernel_rfl) ?_
 refine nx_then (cf_ rfl (sr_ (fd_ fo31_1 rfl rfl (lk_ sc27 2 rfl rfl rfl (fd_ fo77_1 rfl rfl (lk_ sc9 0 rfl rfl rfl ?_))))))
 refine wl_callv (v := .int .i64 0) rfl cb98 rfl rfl (fun wx hm => (by have h := classAt_any [(⟨⟨#[99]⟩, ⟨#[]⟩⟩ : Cs)] _ 1 1 ⟨#[99]⟩ wx (SlT.ofBlk (l := [(⟨⟨#[99]⟩, ⟨#[]⟩⟩ : Cs)]) cs_len (hm.fact 1 rfl).2) (by omega); rw [oneC_ix] at h; exact h)) ?_
 refine wl_ov (ov_lss rfl rfl) rfl ?_
 refine wl_set 56 (v' := .bool false) rfl (congrArg Value.bool (by decide)) ?_
 refine sg_ rfl (nn_ (cf_ rfl (gw_skip (nx_blk_nrm (nx_blk_nrm (nx_then (gw_region (ad_ rfl rfl ?_))))))))
 refine wl_set 57 (v' := .int .i64 1) rfl rfl ?_
 refine mv_ rfl (wl_nil ?_)
 refine nx_next ?_
 refine gr_next ?_
 refine sr_ (wl_ov (ov_lss rfl rfl) rfl ?_)
 refine wl_set 26 (v' := .bool false) rfl (congrArg Value.bool (by decide)) ?_
 refine nn_ (gw_seq (cf_ rfl ?_))
 refine gw_exit ?_
 refine nx_then_exit (nx_then_exit ?_)
 refine nx_blk_here ?_
 refine nx_then (sr_ ?_)
 refine wl_ov (ov_loads rz31 rfl (fun _ hm => hm.blkI 2 rfl) rfl rfl) rfl ?_
 refine wl_callv rfl cb99 rfl rfl (fun wx hm => (platesL gs gc gv wx (hm.fact 0 rfl).2 (hm.fact 1 rfl).2 (hm.fact 2 rfl).2)) ?_
 refine sg_ rfl (nn_ ?_)
 refine gw_ret ?_
 refine nx_ret1 rfl rfl fun wx hm => ?_
 exact ⟨rfl, hm.g⟩
theorem momL (w : World) : Calls Tryz.prog 166 #[.int .i64 5] w (fun e w' => e = .returned (.bool true) ∧ w.grownBy w' none) := by
 refine gw_enter ⟨5, w, none, []⟩ Tryz.func166 rfl Tryz.ntmps166 rfl (mem0 (X := []) allF_nil allL_nil) ?_
 refine sr_ (sg_ rfl (nn_ (sr_ (mv_ rfl ?_))))
 refine wl_callw (v := .bool true) rfl cb126 rfl rfl (fun wx hm => (by have h := in_any 5 0 5761439 wx; rw [show inB 5 0 5761439 = true by decide +kernel] at h; exact h)) ?_
 refine sg_ rfl (nn_ ?_)
 refine gw_ret ?_
 refine nx_ret1 rfl rfl fun wx hm => ?_
 exact ⟨rfl, hm.g⟩
theorem logL (gs : Nat) (gc : Nat) (gv : Nat) (ge : Nat) (w : World) (hbs : Blk w gs 140 [.string ⟨#[115]⟩, .int .i64 0, .int .i64 0, .int .i64 0, .int .i64 0, .int .i64 0, .int .i64 0, .int .i64 0, .int .i64 0, .int .i64 0, .int .i64 0, .int .i64 0, .int .i64 0, .int .i64 0, .int .i64 0]) (hbc : Blk w gc 159 [.string ⟨#[99]⟩, .string ⟨#[]⟩]) (hbv : Blk w gv 77 [.string ⟨#[118]⟩, .string ⟨#[99]⟩]) (hbe : Blk w ge 92 [.int .i64 5, .string ⟨#[118]⟩, .string ⟨#[115]⟩, .int .i64 1, .string ⟨#[]⟩]) : Calls Tryz.prog 132 #[.agg #[.slice (some ⟨gs, 0, none⟩) 1 1, .slice (some ⟨gc, 0, none⟩) 1 1, .slice (some ⟨gv, 0, none⟩) 1 1, .slice none 0 0], .slice (some ⟨ge, 0, none⟩) 1 1] w (fun e w' => e = .returned (.int .i64 0) ∧ w.grownBy w' none) := by
 refine gw_enter ⟨81, w, none, []⟩ Tryz.func132 rfl Tryz.ntmps132 rfl (mem0 (X := [BlkOld w.heap.size none gs 140 [.string ⟨#[115]⟩, .int .i64 0, .int .i64 0, .int .i64 0, .int .i64 0, .int .i64 0, .int .i64 0, .int .i64 0, .int .i64 0, .int .i64 0, .int .i64 0, .int .i64 0, .int .i64 0, .int .i64 0, .int .i64 0], BlkOld w.heap.size none gc 159 [.string ⟨#[99]⟩, .string ⟨#[]⟩], BlkOld w.heap.size none gv 77 [.string ⟨#[118]⟩, .string ⟨#[99]⟩], BlkOld w.heap.size none ge 92 [.int .i64 5, .string ⟨#[118]⟩, .string ⟨#[115]⟩, .int .i64 1, .string ⟨#[]⟩]]) (allF_cons hbs.old (allF_cons hbc.old (allF_cons hbv.old (allF_cons hbe.old allF_nil)))) (allL_cons BlkOld.lasts (allL_cons BlkOld.lasts (allL_cons BlkOld.lasts (allL_cons BlkOld.lasts allL_nil))))) ?_
 refine sr_ ?_
 refine wl_box rfl rfl rfl fun g1 => ?_
 refine sg_ rfl (nn_ (gw_seq (sr_ (mv_ rfl (wl_ov (ov_len es48 rfl) rfl ?_)))))
 refine wl_set 9 (v' := .int .i64 1) rfl rfl ?_
 refine wl_ov (ov_gtr rfl rfl) rfl ?_
 refine wl_set 10 (v' := .bool false) rfl (congrArg Value.bool (by decide)) ?_
 refine nn_ (cf_ rfl (gw_skip (nx_then (gw_seq (sr_ (mv_ rfl (wl_ov (ov_len es48 rfl) rfl ?_)))))))
 refine wl_set 12 (v' := .int .i64 1) rfl rfl ?_
 refine mv_ rfl (nn_ (gw_block ?_))
 refine gw_rounds 4 ?_
 refine gr_next ?_
 refine sr_ (wl_ov (ov_lss rfl rfl) rfl ?_)
 refine wl_set 14 (v' := .bool true) rfl (congrArg Value.bool (by decide)) ?_
 refine nn_ (gw_seq (ct_ rfl (gw_skip (nx_then (gw_seq (gw_block (sr_ (mv_ rfl ?_))))))))
 refine wl_ov (ov_index (j := 0) es48 rfl rfl (by decide)) rfl ?_
 refine wl_ov (ov_loads (vs := [.int .i64 5, .string ⟨#[118]⟩, .string ⟨#[115]⟩, .int .i64 1, .string ⟨#[]⟩]) rz92 rfl (fun _ hm => (hm.fact 3 rfl).2) rfl rfl) rfl ?_
 refine wl_alloc zc92 rfl fun g2 => ?_
 refine sg_ rfl ?_
 refine wl_stores (cs' := [.int .i64 5, .string ⟨#[118]⟩, .string ⟨#[115]⟩, .int .i64 1, .string ⟨#[]⟩]) 0 rz92 rfl rfl rfl rfl rfl rfl rfl rfl ?_
 refine nn_ (sr_ (fd_ fo92_3 rfl rfl (lk_ sc3 0 rfl rfl rfl (wl_ov (ov_eql rfl rfl) rfl ?_))))
 refine wl_set 20 (v' := .bool false) rfl (congrArg Value.bool (by decide)) ?_
 refine sg_ rfl (nn_ (gw_block (sr_ (fd_ fo92_0 rfl rfl (lk_ sc3 0 rfl rfl rfl ?_)))))
 refine wl_callv rfl cb166 rfl rfl (fun wx hm => (momL wx)) ?_
 refine wl_ov (ov_un_not rfl) rfl ?_
 refine wl_set 25 (v' := .bool false) rfl (congrArg Value.bool (by decide)) ?_
 refine sg_ rfl (nn_ (cf_ rfl (sr_ ?_)))
 refine wl_ov (ov_loads rz31 rfl (fun _ hm => hm.blkI 1 rfl) rfl rfl) rfl ?_
 refine fd_ fo92_1 rfl rfl (lk_ sc9 0 rfl rfl rfl ?_)
 refine wl_callv rfl cb80 rfl rfl (fun wx hm => (vehL gs gc gv wx (hm.fact 0 rfl).2 (hm.fact 1 rfl).2 (hm.fact 2 rfl).2)) ?_
 refine wl_ov (ov_lss rfl rfl) rfl ?_
 refine wl_set 31 (v' := .bool false) rfl (congrArg Value.bool (by decide)) ?_
 refine mv_ rfl (wl_guard_on rfl rfl rfl ?_)
 refine wl_ov (ov_loads rz31 rfl (fun _ hm => hm.blkI 1 rfl) rfl rfl) rfl ?_
 refine wl_guard_on rfl rfl rfl (fd_ fo92_2 rfl rfl (wl_guard_on rfl rfl rfl (lk_ sc9 0 rfl rfl rfl (wl_guard_on rfl rfl rfl ?_))))
 refine wl_callv rfl cb120 rfl rfl (fun wx hm => (hasStL gs gc gv wx (hm.fact 0 rfl).2 (hm.fact 1 rfl).2 (hm.fact 2 rfl).2)) ?_
 refine wl_guard_on rfl rfl rfl (wl_ov (ov_un_not rfl) rfl ?_)
 refine wl_set 37 (v' := .bool false) rfl (congrArg Value.bool (by decide)) ?_
 refine pf_ rfl rfl (sg_ rfl (nn_ (cf_ rfl (sr_ (fd_ fo92_3 rfl rfl (lk_ sc3 0 rfl rfl rfl ?_))))))
 refine wl_callw (v := .bool true) rfl cb126 rfl rfl (fun wx hm => (by have h := in_any 1 1 8 wx; rw [show inB 1 1 8 = true by decide +kernel] at h; exact h)) ?_
 refine wl_ov (ov_un_not rfl) rfl ?_
 refine wl_set 43 (v' := .bool false) rfl (congrArg Value.bool (by decide)) ?_
 refine sg_ rfl (nn_ (cf_ rfl (sr_ (fd_ fo92_4 rfl rfl (lk_ sc9 0 rfl rfl rfl (wl_ov (ov_sneq rfl rfl) rfl ?_))))))
 refine wl_set 47 (v' := .bool false) rfl (congrArg Value.bool (by decide +kernel)) ?_
 refine mv_ rfl (goff rfl rfl rfl (goff rfl rfl rfl (pf_ rfl rfl (sg_ rfl (nn_ (cf_ rfl (sr_ (mv_ rfl (mv_ rfl (goff rfl rfl rfl (goff rfl rfl rfl ?_)))))))))))
 refine goff rfl rfl rfl (goff rfl rfl rfl (goff rfl rfl rfl (pf_ rfl rfl (sg_ rfl (nn_ (cf_ rfl (sr_ (fd_ fo92_4 rfl rfl (lk_ sc9 0 rfl rfl rfl (fd_ fo92_2 rfl rfl (lk_ sc9 0 rfl rfl rfl ?_)))))))))))
 refine wl_ov (ov_seql rfl rfl) rfl ?_
 refine wl_set 66 (v' := .bool false) rfl (congrArg Value.bool (by decide +kernel)) ?_
 refine sg_ rfl (nn_ (cf_ rfl (gw_seq ?_)))
 refine gd (fun wz => Blk wz g2 92 [.int .i64 5, .string ⟨#[118]⟩, .string ⟨#[115]⟩, .int .i64 1, .string ⟨#[]⟩] ∧ Blk wz g1 31 [.slice (some ⟨gs, 0, none⟩) 1 1, .slice (some ⟨gc, 0, none⟩) 1 1, .slice (some ⟨gv, 0, none⟩) 1 1, .slice none 0 0] ∧ (BlkOld w.heap.size none gs 140 [.string ⟨#[115]⟩, .int .i64 0, .int .i64 0, .int .i64 0, .int .i64 0, .int .i64 0, .int .i64 0, .int .i64 0, .int .i64 0, .int .i64 0, .int .i64 0, .int .i64 0, .int .i64 0, .int .i64 0, .int .i64 0]) wz ∧ (BlkOld w.heap.size none gc 159 [.string ⟨#[99]⟩, .string ⟨#[]⟩]) wz ∧ (BlkOld w.heap.size none gv 77 [.string ⟨#[118]⟩, .string ⟨#[99]⟩]) wz ∧ (BlkOld w.heap.size none ge 92 [.int .i64 5, .string ⟨#[118]⟩, .string ⟨#[115]⟩, .int .i64 1, .string ⟨#[]⟩]) wz ∧ True) mixed (fun _ hm => ⟨hm.bl 0, hm.bl 1, hm.fa 0, hm.fa 1, hm.fa 2, hm.fa 3, trivial⟩) fun z => ?_
 refine wt 0 13 1 rfl z (ov_move rfl) ?_
 refine wt 1 13 3 rfl z (ov_gtr rfl rfl) ?_
 refine wa_set 69 (v' := .bool false) rfl (congrArg Value.bool (by decide)) ?_
 refine wt 2 13 7 rfl z (ov_move rfl) ?_
 refine wtf 3 13 15 rfl rfl rfl z ?_
 refine wtf 4 13 31 rfl rfl rfl z ?_
 refine wtf 5 13 63 rfl rfl rfl z ?_
 refine wtf 6 13 127 rfl rfl rfl z ?_
 refine wtf 7 13 255 rfl rfl rfl z ?_
 refine wtf 8 13 511 rfl rfl rfl z ?_
 refine wtf 9 13 1023 rfl rfl rfl z ?_
 refine wtf 10 13 2047 rfl rfl rfl z ?_
 refine wt 11 13 4095 rfl z (ov_pick_f rfl rfl) ?_
 refine wt 12 13 8191 rfl z (ov_assign rfl) ?_
 refine wa_done (by kernel_rfl) ?_
 refine nx_then (cf_ rfl (gw_skip (nx_blk_nrm (nx_blk_nrm (nx_then (gw_region (ad_ rfl rfl ?_)))))))
 refine wl_set 80 (v' := .int .i64 1) rfl rfl ?_
 refine mv_ rfl (wl_nil ?_)
 refine nx_next ?_
 refine gr_next ?_
 refine sr_ (wl_ov (ov_lss rfl rfl) rfl ?_)
 refine wl_set 14 (v' := .bool false) rfl (congrArg Value.bool (by decide)) ?_
 refine nn_ (gw_seq (cf_ rfl ?_))
 refine gw_exit ?_
 refine nx_then_exit (nx_then_exit ?_)
 refine nx_blk_here ?_
 refine nx_then (sr_ (sg_ rfl (nn_ ?_)))
 refine gw_ret ?_
 refine nx_ret1 rfl rfl fun wx hm => ?_
 exact ⟨rfl, hm.g⟩
theorem checkL (gs : Nat) (gc : Nat) (gv : Nat) (ge : Nat) (w : World) (hbs : Blk w gs 140 [.string ⟨#[115]⟩, .int .i64 0, .int .i64 0, .int .i64 0, .int .i64 0, .int .i64 0, .int .i64 0, .int .i64 0, .int .i64 0, .int .i64 0, .int .i64 0, .int .i64 0, .int .i64 0, .int .i64 0, .int .i64 0]) (hbc : Blk w gc 159 [.string ⟨#[99]⟩, .string ⟨#[]⟩]) (hbv : Blk w gv 77 [.string ⟨#[118]⟩, .string ⟨#[99]⟩]) (hbe : Blk w ge 92 [.int .i64 5, .string ⟨#[118]⟩, .string ⟨#[115]⟩, .int .i64 1, .string ⟨#[]⟩]) : Calls Tryz.prog 56 #[.agg #[.slice (some ⟨gs, 0, none⟩) 1 1, .slice (some ⟨gc, 0, none⟩) 1 1, .slice (some ⟨gv, 0, none⟩) 1 1, .slice none 0 0], .slice (some ⟨ge, 0, none⟩) 1 1] w (fun e w' => e = .returned (.int .i64 0) ∧ w.grownBy w' none) := by
 refine gw_enter ⟨14, w, none, []⟩ Tryz.func56 rfl Tryz.ntmps56 rfl (mem0 (X := [BlkOld w.heap.size none gs 140 [.string ⟨#[115]⟩, .int .i64 0, .int .i64 0, .int .i64 0, .int .i64 0, .int .i64 0, .int .i64 0, .int .i64 0, .int .i64 0, .int .i64 0, .int .i64 0, .int .i64 0, .int .i64 0, .int .i64 0, .int .i64 0], BlkOld w.heap.size none gc 159 [.string ⟨#[99]⟩, .string ⟨#[]⟩], BlkOld w.heap.size none gv 77 [.string ⟨#[118]⟩, .string ⟨#[99]⟩], BlkOld w.heap.size none ge 92 [.int .i64 5, .string ⟨#[118]⟩, .string ⟨#[115]⟩, .int .i64 1, .string ⟨#[]⟩]]) (allF_cons hbs.old (allF_cons hbc.old (allF_cons hbv.old (allF_cons hbe.old allF_nil)))) (allL_cons BlkOld.lasts (allL_cons BlkOld.lasts (allL_cons BlkOld.lasts (allL_cons BlkOld.lasts allL_nil))))) ?_
 refine sr_ ?_
 refine wl_box rfl rfl rfl fun g1 => ?_
 refine sg_ rfl (nn_ (gw_seq (sr_ ?_)))
 refine wl_ov (ov_loads rz31 rfl (fun _ hm => hm.blkI 0 rfl) rfl rfl) rfl ?_
 refine wl_callv rfl cb23 rfl rfl (fun wx hm => (fleetL gs gc gv wx (hm.fact 0 rfl).2 (hm.fact 1 rfl).2 (hm.fact 2 rfl).2)) ?_
 refine sg_ rfl (nn_ (sr_ (mv_ rfl (wl_ov (ov_neq rfl rfl) rfl ?_))))
 refine wl_set 9 (v' := .bool false) rfl (congrArg Value.bool (by decide)) ?_
 refine nn_ (cf_ rfl (gw_skip (nx_then (sr_ ?_))))
 refine wl_ov (ov_loads rz31 rfl (fun _ hm => hm.blkI 0 rfl) rfl rfl) rfl ?_
 refine mv_ rfl ?_
 refine wl_callv rfl cb132 rfl rfl (fun wx hm => (logL gs gc gv ge wx (hm.fact 0 rfl).2 (hm.fact 1 rfl).2 (hm.fact 2 rfl).2 (hm.fact 3 rfl).2)) ?_
 refine sg_ rfl (nn_ ?_)
 refine gw_ret ?_
 refine nx_ret1 rfl rfl fun wx hm => ?_
 exact ⟨rfl, hm.g⟩
theorem followL (w : World) : Calls Tryz.prog 105 #[.agg #[.int .i64 0, .string ⟨#[]⟩, .int .i64 0], .agg #[.int .i64 5, .string ⟨#[118]⟩, .string ⟨#[115]⟩, .int .i64 1, .string ⟨#[]⟩]] w (fun e w' => e = .returned (.tuple #[.agg #[.int .i64 1, .string ⟨#[115]⟩, .int .i64 5], .bool true]) ∧ w.grownBy w' none) := by
 refine gw_enter ⟨74, w, none, []⟩ Tryz.func105 rfl Tryz.ntmps105 rfl (mem0 (X := []) allF_nil allL_nil) ?_
 refine sr_ ?_
 refine wl_box rfl rfl rfl fun g1 => ?_
 refine wl_box rfl rfl rfl fun g2 => ?_
 refine wl_alloc zc132 rfl fun g3 => ?_
 refine sg_ rfl (nn_ (sr_ (fd_ fo132_1 rfl rfl (lk_ sc9 2 rfl rfl rfl (fd_ fo92_2 rfl rfl (lk_ sc9 1 rfl rfl rfl (wl_ov (ov_seql rfl rfl) rfl ?_)))))))
 refine wl_set 15 (v' := .bool false) rfl (congrArg Value.bool (by decide +kernel)) ?_
 refine sg_ rfl (nn_ (sr_ (fd_ fo132_0 rfl rfl (lk_ sc3 2 rfl rfl rfl (wl_ov (ov_eql rfl rfl) rfl ?_)))))
 refine wl_set 18 (v' := .bool false) rfl (congrArg Value.bool (by decide)) ?_
 refine mv_ rfl (goff rfl rfl rfl (pf_ rfl rfl (sg_ rfl (nn_ (gw_seq ?_)))))
 refine gd (fun wz => Blk wz g3 132 [.int .i64 0, .string ⟨#[]⟩, .int .i64 0] ∧ Blk wz g2 92 [.int .i64 5, .string ⟨#[118]⟩, .string ⟨#[115]⟩, .int .i64 1, .string ⟨#[]⟩] ∧ Blk wz g1 132 [.int .i64 0, .string ⟨#[]⟩, .int .i64 0] ∧ True) mixed (fun _ hm => ⟨hm.bl 0, hm.bl 1, hm.bl 2, trivial⟩) fun z => ?_
 refine wt 0 5 1 rfl z (ov_field fo92_2 rfl rfl) ?_
 refine wt 1 5 3 rfl z (ov_load sc9 rfl (fun _ hm => hm.2.1) rfl) ?_
 refine wt 2 5 7 rfl z (ov_assign rfl) ?_
 refine wt 3 5 15 rfl z (ov_assign rfl) ?_
 refine wt 4 5 31 rfl z (ov_assign rfl) ?_
 refine wa_done (by kernel_rfl) ?_
 refine nx_then (gw_seq (sr_ (fd_ fo92_3 rfl rfl (lk_ sc3 1 rfl rfl rfl (nn_ (gw_block (sr_ (wl_ov (ov_eql rfl rfl) rfl ?_))))))))
 refine wl_set 27 (v' := .bool true) rfl (congrArg Value.bool (by decide)) ?_
 refine sg_ rfl (nn_ (ct_ rfl ?_))
 refine gd (fun wz => Blk wz g3 132 [.int .i64 0, .string ⟨#[]⟩, .int .i64 0] ∧ Blk wz g2 92 [.int .i64 5, .string ⟨#[118]⟩, .string ⟨#[115]⟩, .int .i64 1, .string ⟨#[]⟩] ∧ Blk wz g1 132 [.int .i64 0, .string ⟨#[]⟩, .int .i64 0] ∧ True) mixed (fun _ hm => ⟨hm.bl 0, hm.bl 1, hm.bl 2, trivial⟩) fun z => ?_
 refine wt 0 5 1 rfl z (ov_field fo132_0 rfl rfl) ?_
 refine wt 1 5 3 rfl z (ov_load sc3 rfl (fun _ hm => hm.2.2.1) rfl) ?_
 refine wt 2 5 7 rfl z (ov_eql rfl rfl) ?_
 refine wa_set 30 (v' := .bool true) rfl (congrArg Value.bool (by decide)) ?_
 refine wt 3 5 15 rfl z (ov_assign rfl) ?_
 refine wt 4 5 31 rfl z (ov_assign rfl) ?_
 refine wa_done (by kernel_rfl) ?_
 refine nx_blk_nrm (nx_then (gw_seq (sr_ (mv_ rfl (wl_ov (ov_un_not rfl) rfl ?_)))))
 refine wl_set 67 (v' := .bool false) rfl (congrArg Value.bool (by decide)) ?_
 refine nn_ (cf_ rfl (gw_skip (nx_then (sr_ (mv_ rfl (mv_ rfl (fd_ fo92_0 rfl rfl (lk_ sc3 1 rfl rfl rfl ?_))))))))
 refine wl_ov (ov_build (cs := [.int .i64 1, .string ⟨#[115]⟩, .int .i64 5]) rfl (by kernel_rfl)) rfl ?_
 refine wl_stores (cs' := [.int .i64 1, .string ⟨#[115]⟩, .int .i64 5]) 0 rz132 rfl rfl rfl rfl rfl rfl rfl rfl ?_
 refine sg_ rfl (nn_ ?_)
 refine gw_ret ?_
 refine nx_retct 0 rfl rz132 rfl rfl rfl rfl fun wx hm => ?_
 exact ⟨rfl, hm.g⟩
theorem statesL (ge : Nat) (w : World) (hbe : Blk w ge 92 [.int .i64 5, .string ⟨#[118]⟩, .string ⟨#[115]⟩, .int .i64 1, .string ⟨#[]⟩]) : Calls Tryz.prog 121 #[.slice (some ⟨ge, 0, none⟩) 1 1, .int .i64 7] w (fun e w' => ∃ g, e = .returned (.map (some g)) ∧ MapAt g #[⟨.string ⟨#[118]⟩, .agg #[.int .i64 1, .string ⟨#[115]⟩, .int .i64 5], 0⟩] 1 w' ∧ w.grownBy w' none) := by
 refine gw_enter ⟨33, w, none, []⟩ Tryz.func121 rfl Tryz.ntmps121 rfl (mem0 (X := [BlkOld w.heap.size none ge 92 [.int .i64 5, .string ⟨#[118]⟩, .string ⟨#[115]⟩, .int .i64 1, .string ⟨#[]⟩]]) (allF_cons hbe.old allF_nil) (allL_cons BlkOld.lasts allL_nil)) ?_
 refine sr_ (sg_ rfl (nn_ (sr_ ?_)))
 refine wl_makeMap rfl fun g1 => ?_
 refine sg_ rfl (nn_ (gw_seq (sr_ (mv_ rfl (wl_ov (ov_len es48 rfl) rfl ?_)))))
 refine wl_set 10 (v' := .int .i64 1) rfl rfl ?_
 refine mv_ rfl (nn_ (gw_block ?_))
 refine gw_rounds 4 ?_
 refine gr_next ?_
 refine sr_ (wl_ov (ov_lss rfl rfl) rfl ?_)
 refine wl_set 12 (v' := .bool true) rfl (congrArg Value.bool (by decide)) ?_
 refine nn_ (gw_seq (ct_ rfl (gw_skip (nx_then (gw_seq (gw_block (sr_ ?_)))))))
 refine wl_ov (ov_index (j := 0) es48 rfl rfl (by decide)) rfl ?_
 refine wl_ov (ov_loads (vs := [.int .i64 5, .string ⟨#[118]⟩, .string ⟨#[115]⟩, .int .i64 1, .string ⟨#[]⟩]) rz92 rfl (fun _ hm => (hm.fact 1 rfl).2) rfl rfl) rfl ?_
 refine wl_alloc zc92 rfl fun g2 => ?_
 refine wl_stores (cs' := [.int .i64 5, .string ⟨#[118]⟩, .string ⟨#[115]⟩, .int .i64 1, .string ⟨#[]⟩]) 0 rz92 rfl rfl rfl rfl rfl rfl rfl rfl ?_
 refine nn_ (gw_seq (sr_ (fd_ fo92_0 rfl rfl (lk_ sc3 0 rfl rfl rfl (mv_ rfl ?_)))))
 refine wl_ov (ov_gtr rfl rfl) rfl ?_
 refine wl_set 18 (v' := .bool false) rfl (congrArg Value.bool (by decide)) ?_
 refine nn_ (cf_ rfl (gw_skip (nx_then ?_)))
 refine gd (fun wz => Blk wz g2 92 [.int .i64 5, .string ⟨#[118]⟩, .string ⟨#[115]⟩, .int .i64 1, .string ⟨#[]⟩] ∧ (BlkOld w.heap.size none ge 92 [.int .i64 5, .string ⟨#[118]⟩, .string ⟨#[115]⟩, .int .i64 1, .string ⟨#[]⟩]) wz ∧ True) mixed (fun _ hm => ⟨hm.bl 0, hm.fa 1, trivial⟩) fun z => ?_
 refine wt 0 13 1 rfl z (ov_move rfl) ?_
 refine wt 1 13 3 rfl z (ov_field fo92_1 rfl rfl) ?_
 refine wt 2 13 7 rfl z (ov_load sc9 rfl (fun _ hm => hm.1) rfl) ?_
 refine wt 3 13 15 rfl z (ov_move rfl) ?_
 refine wt 4 13 31 rfl z (ov_field fo92_1 rfl rfl) ?_
 refine wt 5 13 63 rfl z (ov_load sc9 rfl (fun _ hm => hm.1) rfl) ?_
 refine wt 7 13 191 rfl z (ov_loads rz92 rfl (fun _ hm => hm.1) rfl rfl) ?_
 refine wa1 6 rfl ?_
 refine wl_ov (ov_lookup0 (k := 9) (e := 132) (z := .agg #[.int .i64 0, .string ⟨#[]⟩, .int .i64 0]) (by kernel_rfl) (by kernel_rfl) (by kernel_rfl) rfl rfl (fun _ hm => (hm.fact 0 rfl).2) (by kernel_rfl)) rfl ?_
 refine wl_nil ?_
 refine nw 13 255 (fun _ hm => ⟨hm.bl 0, hm.fa 1, trivial⟩) fun z => ?_
 refine wa1 8 rfl ?_
 refine wl_callv rfl cb105 rfl rfl (fun wx hm => (followL wx)) ?_
 refine wl_nil ?_
 refine nw 13 511 (fun _ hm => ⟨hm.bl 0, hm.fa 1, trivial⟩) fun z => ?_
 refine wt 9 13 1023 rfl z (ov_move rfl) ?_
 refine wt 10 13 2047 rfl z (ov_extract rfl rfl) ?_
 refine wt 11 13 4095 rfl z (ov_extract rfl rfl) ?_
 refine wa1 12 rfl ?_
 refine wl_mapPush (k := 9) (e := 132) (X' := [BlkOld w.heap.size none ge 92 [.int .i64 5, .string ⟨#[118]⟩, .string ⟨#[115]⟩, .int .i64 1, .string ⟨#[]⟩]]) 0 (by kernel_rfl) (by kernel_rfl) rfl rfl rfl rfl (by kernel_rfl) (far_cons (i := 1) BlkOld.far rfl far_nil) ?_
 refine wl_nil ?_
 refine nw 13 8191 (fun _ hm => ⟨hm.bl 0, hm.fa 1, trivial⟩) fun z => ?_
 refine wa_done (by kernel_rfl) ?_
 refine nx_blk_nrm (nx_then (gw_region (ad_ rfl rfl ?_)))
 refine wl_set 31 (v' := .int .i64 1) rfl rfl ?_
 refine mv_ rfl (wl_nil ?_)
 refine nx_next ?_
 refine gr_next ?_
 refine sr_ (wl_ov (ov_lss rfl rfl) rfl ?_)
 refine wl_set 12 (v' := .bool false) rfl (congrArg Value.bool (by decide)) ?_
 refine nn_ (gw_seq (cf_ rfl ?_))
 refine gw_exit ?_
 refine nx_then_exit (nx_then_exit ?_)
 refine nx_blk_here ?_
 refine nx_then (sr_ (mv_ rfl (sg_ rfl (nn_ ?_))))
 refine gw_ret ?_
 refine nx_ret1 rfl rfl fun wx hm => ?_
 exact ⟨g1, rfl, ((hm.fact 0 rfl)).2, hm.g⟩
theorem stateL (gs : Nat) (gc : Nat) (gv : Nat) (ge : Nat) (w : World) (hbs : Blk w gs 140 [.string ⟨#[115]⟩, .int .i64 0, .int .i64 0, .int .i64 0, .int .i64 0, .int .i64 0, .int .i64 0, .int .i64 0, .int .i64 0, .int .i64 0, .int .i64 0, .int .i64 0, .int .i64 0, .int .i64 0, .int .i64 0]) (hbc : Blk w gc 159 [.string ⟨#[99]⟩, .string ⟨#[]⟩]) (hbv : Blk w gv 77 [.string ⟨#[118]⟩, .string ⟨#[99]⟩]) (hbe : Blk w ge 92 [.int .i64 5, .string ⟨#[118]⟩, .string ⟨#[115]⟩, .int .i64 1, .string ⟨#[]⟩]) : Calls Tryz.prog 72 #[.agg #[.slice (some ⟨gs, 0, none⟩) 1 1, .slice (some ⟨gc, 0, none⟩) 1 1, .slice (some ⟨gv, 0, none⟩) 1 1, .slice none 0 0], .slice (some ⟨ge, 0, none⟩) 1 1, .string ⟨#[118]⟩, .int .i64 7] w (fun e w' => e = .returned (.tuple #[.agg #[.int .i64 1, .string ⟨#[115]⟩, .int .i64 5], .int .i64 0]) ∧ w.grownBy w' none) := by
 refine gw_enter ⟨37, w, none, []⟩ Tryz.func72 rfl Tryz.ntmps72 rfl (mem0 (X := [BlkOld w.heap.size none gs 140 [.string ⟨#[115]⟩, .int .i64 0, .int .i64 0, .int .i64 0, .int .i64 0, .int .i64 0, .int .i64 0, .int .i64 0, .int .i64 0, .int .i64 0, .int .i64 0, .int .i64 0, .int .i64 0, .int .i64 0, .int .i64 0], BlkOld w.heap.size none gc 159 [.string ⟨#[99]⟩, .string ⟨#[]⟩], BlkOld w.heap.size none gv 77 [.string ⟨#[118]⟩, .string ⟨#[99]⟩], BlkOld w.heap.size none ge 92 [.int .i64 5, .string ⟨#[118]⟩, .string ⟨#[115]⟩, .int .i64 1, .string ⟨#[]⟩]]) (allF_cons hbs.old (allF_cons hbc.old (allF_cons hbv.old (allF_cons hbe.old allF_nil)))) (allL_cons BlkOld.lasts (allL_cons BlkOld.lasts (allL_cons BlkOld.lasts (allL_cons BlkOld.lasts allL_nil))))) ?_
 refine sr_ ?_
 refine wl_box rfl rfl rfl fun g1 => ?_
 refine wl_alloc zc132 rfl fun g2 => ?_
 refine sg_ rfl (nn_ (gw_seq (sr_ ?_)))
 refine wl_ov (ov_loads rz31 rfl (fun _ hm => hm.blkI 1 rfl) rfl rfl) rfl ?_
 refine mv_ rfl ?_
 refine wl_callv rfl cb56 rfl rfl (fun wx hm => (checkL gs gc gv ge wx (hm.fact 0 rfl).2 (hm.fact 1 rfl).2 (hm.fact 2 rfl).2 (hm.fact 3 rfl).2)) ?_
 refine sg_ rfl (nn_ (sr_ (mv_ rfl (wl_ov (ov_neq rfl rfl) rfl ?_))))
 refine wl_set 16 (v' := .bool false) rfl (congrArg Value.bool (by decide)) ?_
 refine nn_ (cf_ rfl (gw_skip (nx_then (gw_seq (sr_ ?_)))))
 refine wl_ov (ov_loads rz31 rfl (fun _ hm => hm.blkI 1 rfl) rfl rfl) rfl ?_
 refine mv_ rfl ?_
 refine wl_callv rfl cb80 rfl rfl (fun wx hm => (vehL gs gc gv wx (hm.fact 0 rfl).2 (hm.fact 1 rfl).2 (hm.fact 2 rfl).2)) ?_
 refine wl_ov (ov_lss rfl rfl) rfl ?_
 refine wl_set 22 (v' := .bool false) rfl (congrArg Value.bool (by decide)) ?_
 refine wl_callw (v := .int .i64 0) rfl cb79 rfl rfl (fun wx hm => (by have h := when_any false 8 wx; rw [show whenE false 8 = 0 by decide +kernel] at h; exact h)) ?_
 refine mv_ rfl ?_
 refine wl_callw (v := .int .i64 0) rfl cb81 rfl rfl (fun wx hm => (by have h := moment_any 7 wx; rw [show momentE 7 = 0 by decide +kernel] at h; exact h)) ?_
 refine wl_buildSlice (e := 35) (cs := [.int .i64 0, .int .i64 0]) rfl (by kernel_rfl) rfl fun g3 => ?_
 refine wl_callw (v := .int .i64 0) rfl cb78 rfl rfl (fun wx hm => (by have h := first_any [0, 0] g3 2 _ wx (hm.blkI 0 rfl) (by simp); rw [show firstE [0, 0] = 0 by decide] at h; exact h)) ?_
 refine sg_ rfl (nn_ (sr_ (mv_ rfl (wl_ov (ov_neq rfl rfl) rfl ?_))))
 refine wl_set 29 (v' := .bool false) rfl (congrArg Value.bool (by decide)) ?_
 refine nn_ (cf_ rfl (gw_skip (nx_then (sr_ (mv_ rfl (mv_ rfl ?_))))))
 refine wl_callx (γ := Nat) (val := (fun g => .map (some g))) (φ := (fun g => True)) (Y := (fun g => fun wy => OwnMap 0 g #[⟨.string ⟨#[118]⟩, .agg #[.int .i64 1, .string ⟨#[115]⟩, .int .i64 5], 0⟩] 1 wy)) rfl cb121 rfl rfl (fun wx hm => (statesL ge wx (hm.fact 3 rfl).2).mono fun _ _ ⟨g, he, hm2, hg⟩ => ⟨g, he, trivial, hg, ⟨Nat.zero_le _, hm2⟩⟩) (fun _ => OwnMap.lasts2) ?_
 rintro gm hphi
 clear hphi
 refine mv_ rfl ?_
 refine wl_ov (ov_lookup (k := 9) (e := 132) (i := 0) (v := .agg #[.int .i64 1, .string ⟨#[115]⟩, .int .i64 5]) (by kernel_rfl) (by kernel_rfl) rfl rfl (fun _ hm => (hm.fact 0 rfl).2) (by kernel_rfl)) rfl ?_
 refine wl_stores (cs' := [.int .i64 1, .string ⟨#[115]⟩, .int .i64 5]) 1 rz132 rfl rfl rfl rfl rfl rfl rfl rfl ?_
 refine sg_ rfl (nn_ ?_)
 refine gw_ret ?_
 refine nx_retct 1 rfl rz132 rfl rfl rfl rfl fun wx hm => ?_
 exact ⟨rfl, hm.g⟩
set_option maxRecDepth 100000 in
theorem same_state_eql (x0 : Int) (x1 : ByteArray) (x2 : Int) (w : World) : (binOp .eql 132 (.agg #[.int .i64 x0, .string x1, .int .i64 x2]) (.agg #[.int .i64 x0, .string x1, .int .i64 x2])).run Tryz.prog w = .ok (.bool true) w := by
  have hS : Tryz.prog.underlying 132 = some (.struct (Tryz.prog.fieldsOf 132)) := by kernel_rfl
  have hp : Tryz.prog.stoodInHeld 132 = false := by kernel_rfl
  rw [run_eql_struct, show (10000 : Nat) = 9999 + 1 from rfl, run_equalIn_agg w 9999 132 _ _ hS hp]
  simp only [Program.fieldsOf, Tryz.underlying132]
  have u3 := Tryz.underlying3
  have u9 := Tryz.underlying9
  clear hS hp
  go_simp
theorem guard_state : Tryz.prog.eqGuardType Tryz.prog.depth 132 = false := by kernel_rfl
theorem lots_any (w : World) : Calls Tryz.prog 26 #[] w (fun e w' => e = .returned (.bool true) ∧ w.grownBy w' none) := by
 refine gw_enter ⟨25, w, none, []⟩ Tryz.func26 rfl Tryz.ntmps26 rfl (mem0 (X := []) allF_nil allL_nil) ?_
 refine sr_ (sg_ rfl (nn_ (sr_ ?_)))
 refine wl_ov (ov_build (cs := [.string ⟨#[115]⟩, .int .i64 0, .int .i64 0, .int .i64 0, .int .i64 0, .int .i64 0, .int .i64 0, .int .i64 0, .int .i64 0, .int .i64 0, .int .i64 0, .int .i64 0, .int .i64 0, .int .i64 0, .int .i64 0]) rfl (by kernel_rfl)) rfl ?_
 refine wl_buildSlice (e := 140) (cs := [.string ⟨#[115]⟩, .int .i64 0, .int .i64 0, .int .i64 0, .int .i64 0, .int .i64 0, .int .i64 0, .int .i64 0, .int .i64 0, .int .i64 0, .int .i64 0, .int .i64 0, .int .i64 0, .int .i64 0, .int .i64 0]) rfl (by kernel_rfl) rfl fun g1 => ?_
 refine wl_ov (ov_build (cs := [.string ⟨#[99]⟩, .string ⟨#[]⟩]) rfl (by kernel_rfl)) rfl ?_
 refine wl_buildSlice (e := 159) (cs := [.string ⟨#[99]⟩, .string ⟨#[]⟩]) rfl (by kernel_rfl) rfl fun g2 => ?_
 refine wl_ov (ov_build (cs := [.string ⟨#[118]⟩, .string ⟨#[99]⟩]) rfl (by kernel_rfl)) rfl ?_
 refine wl_buildSlice (e := 77) (cs := [.string ⟨#[118]⟩, .string ⟨#[99]⟩]) rfl (by kernel_rfl) rfl fun g3 => ?_
 refine wl_ov (ov_build (cs := [.slice (some ⟨g1, 0, none⟩) 1 1, .slice (some ⟨g2, 0, none⟩) 1 1, .slice (some ⟨g3, 0, none⟩) 1 1, .slice none 0 0]) rfl (by kernel_rfl)) rfl ?_
 refine wl_alloc zc31 rfl fun g4 => ?_
 refine wl_stores (cs' := [.slice (some ⟨g1, 0, none⟩) 1 1, .slice (some ⟨g2, 0, none⟩) 1 1, .slice (some ⟨g3, 0, none⟩) 1 1, .slice none 0 0]) 0 rz31 rfl rfl rfl rfl rfl rfl rfl rfl ?_
 refine nn_ (sr_ ?_)
 refine wl_ov (ov_loads rz31 rfl (fun _ hm => hm.blkI 0 rfl) rfl rfl) rfl ?_
 refine wl_ov (ov_build (cs := [.int .i64 5, .string ⟨#[118]⟩, .string ⟨#[115]⟩, .int .i64 1, .string ⟨#[]⟩]) rfl (by kernel_rfl)) rfl ?_
 refine wl_buildSlice (e := 92) (cs := [.int .i64 5, .string ⟨#[118]⟩, .string ⟨#[115]⟩, .int .i64 1, .string ⟨#[]⟩]) rfl (by kernel_rfl) rfl fun g5 => ?_
 refine wl_callv rfl cb72 rfl rfl (fun wx hm => (stateL g1 g2 g3 g5 wx (hm.blkI 4 rfl) (hm.blkI 3 rfl) (hm.blkI 2 rfl) (hm.blkI 0 rfl))) ?_
 refine mv_ rfl (wl_ov (ov_extract rfl rfl) rfl (wl_ov (ov_extract rfl rfl) rfl ?_))
 refine wl_alloc zc132 rfl fun g6 => ?_
 refine wl_stores (cs' := [.int .i64 1, .string ⟨#[115]⟩, .int .i64 5]) 0 rz132 rfl rfl rfl rfl rfl rfl rfl rfl ?_
 refine sg_ rfl (nn_ (sr_ (mv_ rfl (wl_ov (ov_eql rfl rfl) rfl ?_))))
 refine wl_set 19 (v' := .bool true) rfl (congrArg Value.bool (by decide)) ?_
 refine mv_ rfl (wl_guard_on rfl rfl rfl ?_)
 refine wl_ov (ov_loads rz132 rfl (fun _ hm => hm.blkI 0 rfl) rfl rfl) rfl ?_
 refine wl_guard_on rfl rfl rfl ?_
 refine wl_ov (ov_build (cs := [.int .i64 1, .string ⟨#[115]⟩, .int .i64 5]) rfl (by kernel_rfl)) rfl ?_
 refine wl_guard_on rfl rfl rfl ?_
 refine wl_ov (ov_bin rfl rfl (cmp_agg guard_state (fun wx => same_state_eql 1 ⟨#[115]⟩ 5 wx))) rfl ?_
 refine pt_ rfl rfl (sg_ rfl (nn_ ?_))
 refine gw_ret ?_
 refine nx_ret1 rfl rfl fun wx hm => ?_
 exact ⟨rfl, hm.g⟩
end Go.Proofs.YtjecbkgjabnmoaaGreatDoor
namespace Go.Proofs.YtjecbkgjabnmoaaGreatDoor
open Go.RowKit
theorem shape_drop {A : Option Addr} {n c lo sz : Nat} (h : ShapeA A n c) (hlo : lo ≤ n) : ShapeA (if c = lo then A else A.map (fun a : Addr => a.add (lo * sz))) (n - lo) (c - lo) := by
  rcases h with ⟨rfl, rfl, rfl⟩ | ⟨b, off, rfl⟩
  · obtain rfl : lo = 0 := by omega
    exact .inl ⟨rfl, rfl, rfl⟩
  · right
    by_cases hc : c = lo
    · exact ⟨b, off, by rw [if_pos hc]⟩
    · exact ⟨b, off + lo * sz, by rw [if_neg hc]; simp [Option.map, add_addr]⟩
theorem equal_none (w : World) : Calls Tryz.prog 58 #[.slice none 0 0, .slice none 0 0] w (fun e w' => e = .returned (.bool true) ∧ w.grownBy w' none) := equal_evs [] none none 0 0 0 w (SlT.nil_ _ _) (SlT.nil_ _ _) (by omega)
theorem logMerges_walk (a0 : Option Addr) (len0 cap0 : Nat) (z0 : List Int) (w : World) (hR : RowIn w a0 len0 cap0 z0) :
  Calls Tryz.prog 7 #[.slice a0 len0 cap0] w fun e w' => e = .returned (.bool true) ∧ Below w.heap.size w w' := by
 refine gw_enter ⟨71, w, none, []⟩ Tryz.func7 rfl Tryz.ntmps7 rfl (mem0 (X := []) allF_nil allL_nil) ?_
 refine sr_ (sg_ rfl (nn_ (sr_ (mv_ rfl ?_))))
 refine wl_ov (ov_build (cs := [.slice a0 len0 cap0, .int .i64 0]) rfl (by kernel_rfl)) rfl ?_
 refine wl_box rfl rfl rfl fun sb => ?_
 refine sg_ rfl (nn_ (sr_ (mv_ rfl (mv_ rfl ?_))))
 refine wl_law [140, 159, 77, 143, 92] hR 0 rfl fun w1 B hg1 hsb => ?_
 refine wl_got (γ := Int) (val := fun v => .int .i64 v) (φ := fun v => 0 ≤ v ∧ (v ≤ 8 ∨ v = 0)) rfl cb28 rfl rfl rfl rfl (fun wx hm => (range_any _ _ wx B sb _ hm.k (by omega) (by omega) (by omega) (by omega) (by omega))) fun v1 hv1 => ?_
 have hv8 : v1 ≤ 8 := by omega
 obtain ⟨q, hq⟩ := Int.eq_ofNat_of_zero_le (show 0 ≤ v1 by omega)
 have hq20 : q ≤ 20 := by omega
 subst hq
 have hq8 : q ≤ 8 := by omega
 refine wl_calls (γ := Option Addr × Option Addr × Option Addr × Option Addr × Nat × Nat × Nat × Nat × Nat × Nat × Nat × List St × List Cs × List Vh × List Pl × Option Addr × Nat × Nat × List Ev) (val := (fun g => .tuple #[.agg #[.slice g.1 g.2.2.2.2.1 g.2.2.2.2.2.1, .slice g.2.1 4 g.2.2.2.2.2.2.1, .slice g.2.2.1 g.2.2.2.2.2.2.2.1 g.2.2.2.2.2.2.2.2.1, .slice g.2.2.2.1 g.2.2.2.2.2.2.2.2.2.1 g.2.2.2.2.2.2.2.2.2.2.1], .slice g.2.2.2.2.2.2.2.2.2.2.2.2.2.2.2.1 g.2.2.2.2.2.2.2.2.2.2.2.2.2.2.2.2.1 g.2.2.2.2.2.2.2.2.2.2.2.2.2.2.2.2.2.1, .int .i64 (evsE g.2.2.2.2.2.2.2.2.2.2.2.1 g.2.2.2.2.2.2.2.2.2.2.2.2.1 g.2.2.2.2.2.2.2.2.2.2.2.2.2.1 g.2.2.2.2.2.2.2.2.2.2.2.2.2.2.1 g.2.2.2.2.2.2.2.2.2.2.2.2.2.2.2.2.2.2)])) (φ := (fun g => (FlOk g.2.2.2.2.2.2.2.2.2.2.2.1 g.2.2.2.2.2.2.2.2.2.2.2.2.1 g.2.2.2.2.2.2.2.2.2.2.2.2.2.1 g.2.2.2.2.2.2.2.2.2.2.2.2.2.2.1 g.2.2.2.2.1 g.2.2.2.2.2.2.2.1 g.2.2.2.2.2.2.2.2.2.1 ∧ ShapeA g.2.2.2.1 g.2.2.2.2.2.2.2.2.2.1 g.2.2.2.2.2.2.2.2.2.2.1 ∧ g.2.2.2.2.2.2.2.2.2.1 ≤ g.2.2.2.2.2.2.2.2.2.2.1) ∧ (g.2.2.2.2.2.2.2.2.2.2.2.2.2.2.2.2.2.2.length = g.2.2.2.2.2.2.2.2.2.2.2.2.2.2.2.2.1 ∧ (∀ x ∈ g.2.2.2.2.2.2.2.2.2.2.2.2.2.2.2.2.2.2, EvOk x) ∧ g.2.2.2.2.2.2.2.2.2.2.2.2.2.2.2.2.1 ≤ q) ∧ ShapeA g.2.2.2.2.2.2.2.2.2.2.2.2.2.2.2.1 g.2.2.2.2.2.2.2.2.2.2.2.2.2.2.2.2.1 g.2.2.2.2.2.2.2.2.2.2.2.2.2.2.2.2.2.1 ∧ g.2.2.2.2.2.2.2.2.2.2.2.2.2.2.2.2.1 ≤ g.2.2.2.2.2.2.2.2.2.2.2.2.2.2.2.2.2.1)) (Y := (fun g => fun wy => SlT stEnc 15 140 wy g.1 g.2.2.2.2.1 g.2.2.2.2.2.2.2.2.2.2.2.1 ∧ SlT csEnc 2 159 wy g.2.1 4 g.2.2.2.2.2.2.2.2.2.2.2.2.1 ∧ SlT vhEnc 2 77 wy g.2.2.1 g.2.2.2.2.2.2.2.1 g.2.2.2.2.2.2.2.2.2.2.2.2.2.1 ∧ SlT plEnc 3 143 wy g.2.2.2.1 g.2.2.2.2.2.2.2.2.2.1 g.2.2.2.2.2.2.2.2.2.2.2.2.2.2.1 ∧ SlT evEnc 5 92 wy g.2.2.2.2.2.2.2.2.2.2.2.2.2.2.2.1 g.2.2.2.2.2.2.2.2.2.2.2.2.2.2.2.2.1 g.2.2.2.2.2.2.2.2.2.2.2.2.2.2.2.2.2.2)) (m' := 0 + 2000) rfl cb27 rfl rfl rfl rfl (fun wx hm => (scene_any q wx B sb _ hm.k (by omega) (by omega)).mono fun _ _ ⟨sA, cA, vA, pA, sn, sc, cc, vn, vc, pn, pc, sl, cl, vl, pl, eA, en, ec, el, he, hok, hel, hS, hg, ho, h1, h2, h3, h4⟩ => ⟨(sA, cA, vA, pA, sn, sc, cc, vn, vc, pn, pc, sl, cl, vl, pl, eA, en, ec, el), he, ⟨hok, hel, own_shape ho, own_cap ho⟩, hS.more (by omega), hg, h1, h2, h3, h4, SlT.ofOwn ev_len ho hel.1⟩) (fun _ => (SlT.lasts2 rfl).and_ ((SlT.lasts2 rfl).and_ ((SlT.lasts2 rfl).and_ ((SlT.lasts2 rfl).and_ (SlT.lasts2 rfl))))) ?_
 rintro ⟨sA, cA, vA, pA, sn, sc, cc, vn, vc, pn, pc, sl, cl, vl, pl, eA, en, ec, el⟩ hsc
 dsimp only at hsc ⊢
 obtain ⟨⟨⟨⟨hsok, hsn10⟩, hcok, ⟨hvB, hvn10⟩, hpB, hpn10⟩, hsh, hpnc⟩, ⟨hell, heok, henq⟩, hesh, henc⟩ := hsc
 have hvok : ∀ x ∈ vl, VhOk x := fun x hx => vhB_ok (hvB x hx)
 have hpok : ∀ x ∈ pl, PlOk x := fun x hx => plB_ok (hpB x hx)
 refine mv_ rfl (wl_ov (ov_extract rfl rfl) rfl (wl_ov (ov_extract rfl rfl) rfl (wl_ov (ov_extract rfl rfl) rfl ?_)))
 refine wl_alloc zc31 rfl fun g2 => ?_
 refine wl_stores (cs' := [.slice sA sn sc, .slice cA 4 cc, .slice vA vn vc, .slice pA pn pc]) 0 rz31 rfl rfl rfl rfl rfl rfl rfl rfl ?_
 refine sg_ rfl (sg_ rfl (nn_ (gw_seq ?_)))
 refine gd (fun wz => Blk wz g2 31 [.slice sA sn sc, .slice cA 4 cc, .slice vA vn vc, .slice pA pn pc] ∧ (fun wy => SlT stEnc 15 140 wy sA sn sl ∧ SlT csEnc 2 159 wy cA 4 cl ∧ SlT vhEnc 2 77 wy vA vn vl ∧ SlT plEnc 3 143 wy pA pn pl ∧ SlT evEnc 5 92 wy eA en el) wz ∧ True) mixed (fun _ hm => ⟨hm.bl 0, hm.fa 0, trivial⟩) fun z => ?_
 refine wt 0 6 1 rfl z (ov_move rfl) ?_
 refine wt 1 6 3 rfl z (ov_loads rz31 rfl (fun _ hm => hm.1) rfl rfl) ?_
 refine wt 2 6 7 rfl z (ov_move rfl) ?_
 refine wa1 3 rfl ?_
 refine wl_got (γ := Int) (val := fun v => .int .i64 v) (φ := fun v => 0 ≤ v ∧ (v ≤ 6 ∨ v = 0)) rfl cb28 rfl rfl rfl rfl (fun wx hm => (range_any _ _ wx B sb _ hm.k (by omega) (by omega) (by omega) (by omega) (by omega))) fun v3 hv3 => ?_
 have hw6 : v3 ≤ 6 := by omega
 obtain ⟨q2, hq2⟩ := Int.eq_ofNat_of_zero_le (show 0 ≤ v3 by omega)
 have hq26 : q2 ≤ 6 := by omega
 subst hq2
 refine wl_nil ?_
 refine nw 6 15 (fun _ hm => ⟨hm.bl 0, hm.fa 0, trivial⟩) fun z => ?_
 refine wa1 4 rfl ?_
 refine wl_calls (γ := Option Addr × Nat × Nat × List Ev) (val := (fun g => .slice g.1 g.2.1 g.2.2.1)) (φ := (fun g => g.2.2.2.length = g.2.1 ∧ (∀ x ∈ g.2.2.2, EvOk x) ∧ g.2.1 ≤ 8 ∧ ShapeA g.1 g.2.1 g.2.2.1)) (Y := (fun g => fun wy => SlT evEnc 5 92 wy g.1 g.2.1 g.2.2.2)) (m' := 0 + 3000) rfl cb39 rfl rfl rfl rfl (fun wx hm => (glog_any sl vl sA cA vA pA sn sc 4 cc vn vc pn pc q2 wx B sb _ hm.k (by omega) (hm.fact 0 rfl).1 (hm.fact 0 rfl).2.2.1 hsok hvok (by omega) (by omega) (by omega)).mono fun _ _ ⟨A, n, c, l, he, ho, hl, hok, hn, hS, hg⟩ => ⟨(A, n, c, l), he, ⟨hl, hok, by dsimp only; omega, own_shape ho⟩, hS.more (by omega), hg, SlT.ofOwn ev_len ho hl⟩) (fun _ => SlT.lasts2 rfl) ?_
 rintro ⟨lA, ln, lc, ll⟩ hlg
 dsimp only at hlg ⊢
 refine wl_nil ?_
 refine nw 6 31 (fun _ hm => ⟨hm.bl 0, hm.fa 1, trivial⟩) fun z => ?_
 refine wt 5 6 63 rfl z (ov_assign rfl) ?_
 refine wa_done (by kernel_rfl) ?_
 refine nx_then ?_
 refine gw_cut (γ := Option Addr × Nat × Nat × List Ev) (I := (fun g => g.2.2.2.length = g.2.1 ∧ (∀ x ∈ g.2.2.2, EvOk x) ∧ g.2.1 ≤ 8 ∧ ShapeA g.1 g.2.1 g.2.2.1)) (S' := (fun g => [(2, .bool false), (4, .pointer (some ⟨g2, 0, none⟩)), (5, .slice eA en ec), (6, .int .i64 (evsE sl cl vl pl el)), (7, .slice g.1 g.2.1 g.2.2.1)])) (K' := (fun g => fun w => Strm 25 w B sb (0 + 4000))) (L' := (fun g => [(g2, 31, [.slice sA sn sc, .slice cA 4 cc, .slice vA vn vc, .slice pA pn pc])])) (O' := (fun g => [])) (X' := (fun g => [fun wy => SlT evEnc 5 92 wy g.1 g.2.1 g.2.2.2, fun wy => SlT stEnc 15 140 wy sA sn sl ∧ SlT csEnc 2 159 wy cA 4 cl ∧ SlT vhEnc 2 77 wy vA vn vl ∧ SlT plEnc 3 143 wy pA pn pl ∧ SlT evEnc 5 92 wy eA en el])) ?_ ?_
 ·refine sr_ (mv_ rfl ?_)
  refine wl_got (γ := Bool) (val := fun v => .bool v) (φ := fun v => True) rfl cb53 rfl rfl rfl rfl (fun wx hm => ((flip_any _ wx B sb _ hm.k (by omega) (by omega) (by omega)).mono fun _ _ ⟨v, he, hS, hg⟩ => ⟨v, trivial, he, hS, hg⟩)) fun f4 _ => ?_
  refine nn_ ?_
  refine gw_cond rfl (fun hh => ?_) (fun hh => ?_)
  ·have hf : f4 = true := by simpa using hh
   clear hh
   refine gw_region ?_
   have hh2 : en / 2 ≤ en := by omega
   refine mv_ rfl (mv_ rfl (wl_ov (ov_len es48 rfl) rfl ?_))
   refine wl_ov (ov_quo rfl rfl (by omega) (by omega) (by omega)) rfl ?_
   refine wl_set 32 (v' := .int .i64 (((en / 2) : Nat) : Int)) rfl (congrArg (Value.int .i64) (by omega)) ?_
   refine wl_ov (ov_sliceLo (lo := (en / 2)) es48 rfl rfl rfl (by omega)) rfl ?_
   refine wl_callgo (γ := Option Addr × Nat) (val := (fun g => .slice g.1 (en - (en / 2)) g.2)) (φ := (fun g => True)) (fun g => ⟨.slice g.1 (en - (en / 2)) g.2, 92, 5, en - (en / 2), (el.drop (en / 2)).flatMap evEnc⟩) rfl cb54 rfl rfl (fun wx hm => (cloneEvents_all (el.drop (en / 2)) _ _ _ wx ((hm.fact 1 rfl).2.2.2.2.dropS (en / 2) hh2 henc) (shape_drop hesh hh2) (by omega)).mono fun _ _ ⟨A, c, he, ho, hg⟩ => ⟨(A, c), he, trivial, ho, hg⟩) ?_
   rintro ⟨A3, c3⟩ hphi
   dsimp only at hphi ⊢
   have hdl : (el.drop (en / 2)).length = en - (en / 2) := by rw [List.length_drop]; omega
   refine wl_also (Y := fun wy => SlT evEnc 5 92 wy A3 (en - (en / 2)) (el.drop (en / 2))) (SlT.lasts2 rfl) (fun wx hm => SlT.ofOwn ev_len (hm.ownI 0 rfl) hdl) ?_
   refine wl_look (R := ShapeA A3 (en - (en / 2)) c3) (fun wx hm => own_shape (hm.ownI 0 rfl)) ?_
   intro hsh3
   refine sg_ rfl (wl_nil ?_)
   exact nx_meet (A3, en - (en / 2), c3, el.drop (en / 2)) ⟨hdl, (fun x hx => heok x (List.mem_of_mem_drop hx)), by dsimp only; omega, hsh3⟩ ⟨rfl, rfl, rfl, rfl, rfl, trivial⟩ (fun _ hm => (hm.more rfl (by first | omega | (dsimp only; omega))).pick [0] [] [0, 2] rfl rfl)
  have hf : f4 = false := by simpa using hh
  clear hh
  refine gw_skip ?_
  exact nx_meet (lA, ln, lc, ll) hlg ⟨rfl, rfl, rfl, rfl, rfl, trivial⟩ (fun _ hm => (hm.more rfl (by first | omega | (dsimp only; omega))).pick [0] [] [0, 1] rfl rfl)
 rintro ⟨bA, bn, bc, bl⟩ hinv
 replace hinv : bl.length = bn ∧ (∀ x ∈ bl, EvOk x) ∧ bn ≤ 8 ∧ ShapeA bA bn bc := hinv
 dsimp only
 refine sr_ ?_
 obtain ⟨hbl, hbok, hb8, hbsh⟩ := hinv
 refine wl_ov (ov_loads rz31 rfl (fun _ hm => hm.blkI 0 rfl) rfl rfl) rfl ?_
 refine mv_ rfl (mv_ rfl ?_)
 refine wl_nest none [92] fun w2 hm_w2 => ⟨_, _, _, _, mem0 (X := [BlkOld w2.heap.size none g2 31 [.slice sA sn sc, .slice cA 4 cc, .slice vA vn vc, .slice pA pn pc], SlOld stEnc 15 140 w2.heap.size none sA sn sl, SlOld csEnc 2 159 w2.heap.size none cA 4 cl, SlOld vhEnc 2 77 w2.heap.size none vA vn vl, SlOld plEnc 3 143 w2.heap.size none pA pn pl, SlOld evEnc 5 92 w2.heap.size none eA en el, SlOld evEnc 5 92 w2.heap.size none bA bn bl]) (allF_cons (hm_w2.blkI 0 rfl).old (allF_cons (SlT.old (hm_w2.fact 1 rfl).1) (allF_cons (SlT.old (hm_w2.fact 1 rfl).2.1) (allF_cons (SlT.old (hm_w2.fact 1 rfl).2.2.1) (allF_cons (SlT.old (hm_w2.fact 1 rfl).2.2.2.1) (allF_cons (SlT.old (hm_w2.fact 1 rfl).2.2.2.2) (allF_cons (SlT.old (hm_w2.fact 0 rfl)) allF_nil))))))) (allL_cons BlkOld.lasts (allL_cons SlOld.lasts (allL_cons SlOld.lasts (allL_cons SlOld.lasts (allL_cons SlOld.lasts (allL_cons SlOld.lasts (allL_cons SlOld.lasts allL_nil))))))), ?_⟩
 obtain ⟨FE, hFE⟩ : ∃ z, z = evsE sl cl vl pl el := ⟨_, rfl⟩
 obtain ⟨LB, hLB⟩ : ∃ z, z = logE sl vl bl := ⟨_, rfl⟩
 obtain ⟨ME, hME⟩ : ∃ z, z = mergeE (mergeM el bl) := ⟨_, rfl⟩
 have hT0 : mgE sl cl vl pl el bl = firstE [fleetE sl cl vl pl, logE sl vl el, LB, ME] := by rw [hLB, hME]; rfl
 rw [← hFE]
 by_cases h1 : FE = 0
 ·subst h1
  obtain ⟨hf0, hl0⟩ := evs_ok hFE.symm
  have hT1 : mgE sl cl vl pl el bl = firstE [LB, ME] := by rw [hT0, hf0, hl0, fe_tl, fe_tl]
  by_cases h2 : LB = 0
  ·subst h2
   by_cases h3 : ME = 0
   ·subst h3
    have hTE : mgE sl cl vl pl el bl = 0 := by rw [hT1, fe_tl]; rfl
    refine wl_callx (γ := Option Addr × Nat × Nat) (val := (fun g => .tuple #[.slice g.1 g.2.1 g.2.2, .int .i64 0])) (φ := (fun g => g.2.1 ≤ 19)) (Y := (fun g => fun wy => SlT evEnc 5 92 wy g.1 g.2.1 (mergeM el bl))) rfl cb55 rfl rfl (fun wx hm => (by have h := merge_any sl cl vl pl sA cA vA pA sn sc 4 cc vn vc pn pc el bl eA bA en ec bn bc wx (hm.fact 1 rfl).1 (hm.fact 2 rfl).1 (hm.fact 3 rfl).1 (hm.fact 4 rfl).1 hsok hcok hvok hpok (by omega) (by omega) (by omega) (by omega) (hm.fact 5 rfl).1 (hm.fact 6 rfl).1 hesh hbsh heok hbok (by omega); rw [hTE] at h; exact h.mono fun _ _ ⟨A, n, c, he, h1, _, hg⟩ => ⟨(A, n, c), he, (h1 rfl).2, hg, (h1 rfl).1⟩)) (fun _ => SlT.lasts2 rfl) ?_
    rintro ⟨mA, mn, mc⟩ hm19
    dsimp only at hm19 ⊢
    refine mv_ rfl (wl_ov (ov_extract rfl rfl) rfl (wl_ov (ov_extract rfl rfl) rfl (sg_ rfl (sg_ rfl (nn_ (gw_seq (sr_ ?_)))))))
    refine wl_ov (ov_loads (vs := [.slice sA sn sc, .slice cA 4 cc, .slice vA vn vc, .slice pA pn pc]) rz31 rfl (fun _ hm => (hm.fact 1 rfl).2) rfl rfl) rfl ?_
    refine mv_ rfl ?_
    refine wl_callv (v := .int .i64 0) rfl cb56 rfl rfl (fun wx hm => (by have h := check2_any sl cl vl pl sA cA vA pA sn sc 4 cc vn vc pn pc el eA en ec wx (hm.fact 2 rfl).1 (hm.fact 3 rfl).1 (hm.fact 4 rfl).1 (hm.fact 5 rfl).1 hsok hcok hvok hpok (by omega) (by omega) (by omega) (by omega) (hm.fact 6 rfl).1 heok (by omega); rw [← hFE] at h; exact h)) ?_
    refine mv_ rfl (wl_ov (ov_neq rfl rfl) rfl ?_)
    refine wl_set 46 (v' := .bool false) rfl (congrArg Value.bool (by decide)) ?_
    refine nn_ (cf_ rfl (gw_skip (nx_then (sr_ (sg_ rfl (nn_ (gw_seq (sr_ (mv_ rfl ?_)))))))))
    refine wl_ov (ov_eql rfl rfl) rfl ?_
    refine wl_set 48 (v' := .bool true) rfl (congrArg Value.bool (by decide)) ?_
    refine nn_ (ct_ rfl (gw_region ?_))
    refine wl_ov (ov_loads (vs := [.slice sA sn sc, .slice cA 4 cc, .slice vA vn vc, .slice pA pn pc]) rz31 rfl (fun _ hm => (hm.fact 1 rfl).2) rfl rfl) rfl ?_
    refine mv_ rfl ?_
    refine wl_callv (v := .int .i64 0) rfl cb40 rfl rfl (fun wx hm => (by have h := logFault_any sl vl sA cA vA pA sn sc 4 cc vn vc pn pc bl bA bn bc wx (hm.fact 2 rfl).1 (hm.fact 4 rfl).1 hsok (by omega) (by omega) (hm.fact 7 rfl).1 hbok (by omega); rw [← hLB] at h; exact h)) ?_
    refine sg_ rfl (nn_ (gw_seq (sr_ (mv_ rfl (wl_ov (ov_eql rfl rfl) rfl ?_)))))
    refine wl_set 53 (v' := .bool true) rfl (congrArg Value.bool (by decide)) ?_
    refine nn_ (ct_ rfl (gw_region (mv_ rfl (mv_ rfl ?_))))
    refine wl_callx (γ := Option Addr × Nat × Nat) (val := (fun g => .tuple #[.slice g.1 g.2.1 g.2.2, .int .i64 0])) (φ := (fun g => g.2.1 ≤ 19)) (Y := (fun g => fun wy => SlT evEnc 5 92 wy g.1 g.2.1 (mergeM el bl))) rfl cb57 rfl rfl (fun wx hm => (by have h := logsOf_any el bl eA bA en ec bn bc wx (hm.fact 6 rfl).1 (hm.fact 7 rfl).1 hesh hbsh heok hbok (by omega); rw [← hME] at h; exact h.mono fun _ _ ⟨A, n, c, he, h1, _, hg⟩ => ⟨(A, n, c), he, (h1 rfl).2, hg, (h1 rfl).1⟩)) (fun _ => SlT.lasts2 rfl) ?_
    rintro ⟨rA, rn, rc⟩ hr19
    dsimp only at hr19 ⊢
    refine mv_ rfl (wl_ov (ov_extract rfl rfl) rfl (wl_ov (ov_extract rfl rfl) rfl (sg_ rfl (sg_ rfl (nn_ (sr_ (mv_ rfl (mv_ rfl (wl_ov (ov_eql rfl rfl) rfl ?_)))))))))
    refine wl_set 62 (v' := .bool true) rfl (congrArg Value.bool (by decide)) ?_
    refine mv_ rfl (wl_guard_on rfl rfl rfl (mv_ rfl (wl_guard_on rfl rfl rfl (mv_ rfl (wl_guard_on rfl rfl rfl ?_)))))
    refine wl_look (R := mn = rn) (fun wx hm => by have h3 := ((hm.fact 1 rfl)).len; have h4 := ((hm.fact 0 rfl)).len; omega) ?_
    intro hbd
    subst hbd
    refine wl_callv rfl cb58 rfl rfl (fun wx hm => (equal_evs (mergeM el bl) mA rA mn mc rc wx (hm.fact 1 rfl) (hm.fact 0 rfl) (by omega))) ?_
    refine pt_ rfl rfl (mv_ rfl (wl_guard_on rfl rfl rfl ?_))
    refine wl_callv rfl cb26 rfl rfl (fun wx hm => (lots_any wx)) ?_
    refine pt_ rfl rfl (sg_ rfl (nn_ ?_))
    refine gw_ret ?_
    refine nx_ret1 rfl rfl fun wx hm => ?_
    exact ⟨rfl, law_end hg1 hsb (grow_trans hm_w2.g (grow_weak hm.g))⟩
   have hne : ME ≠ 0 := h3
   have hTE : mgE sl cl vl pl el bl = ME := by rw [hT1, fe_tl, fe_hd h3]
   refine wl_callv (v := .tuple #[.slice none 0 0, .int .i64 ME]) rfl cb55 rfl rfl (fun wx hm => (by have h := merge_any sl cl vl pl sA cA vA pA sn sc 4 cc vn vc pn pc el bl eA bA en ec bn bc wx (hm.fact 1 rfl).1 (hm.fact 2 rfl).1 (hm.fact 3 rfl).1 (hm.fact 4 rfl).1 hsok hcok hvok hpok (by omega) (by omega) (by omega) (by omega) (hm.fact 5 rfl).1 (hm.fact 6 rfl).1 hesh hbsh heok hbok (by omega); rw [hTE] at h; refine h.mono ?_; rintro e w3 ⟨A, n, c, rfl, _, h3, hg⟩; obtain ⟨rfl, rfl, rfl⟩ := h3 hne; exact ⟨rfl, hg⟩)) ?_
   refine mv_ rfl (wl_ov (ov_extract rfl rfl) rfl (wl_ov (ov_extract rfl rfl) rfl (sg_ rfl (sg_ rfl (nn_ (gw_seq (sr_ ?_)))))))
   refine wl_ov (ov_loads (vs := [.slice sA sn sc, .slice cA 4 cc, .slice vA vn vc, .slice pA pn pc]) rz31 rfl (fun _ hm => (hm.fact 0 rfl).2) rfl rfl) rfl ?_
   refine mv_ rfl ?_
   refine wl_callv (v := .int .i64 0) rfl cb56 rfl rfl (fun wx hm => (by have h := check2_any sl cl vl pl sA cA vA pA sn sc 4 cc vn vc pn pc el eA en ec wx (hm.fact 1 rfl).1 (hm.fact 2 rfl).1 (hm.fact 3 rfl).1 (hm.fact 4 rfl).1 hsok hcok hvok hpok (by omega) (by omega) (by omega) (by omega) (hm.fact 5 rfl).1 heok (by omega); rw [← hFE] at h; exact h)) ?_
   refine mv_ rfl (wl_ov (ov_neq rfl rfl) rfl ?_)
   refine wl_set 46 (v' := .bool false) rfl (congrArg Value.bool (by decide)) ?_
   refine nn_ (cf_ rfl (gw_skip (nx_then (sr_ (sg_ rfl (nn_ (gw_seq (sr_ (mv_ rfl ?_)))))))))
   refine wl_ov (ov_eql rfl rfl) rfl ?_
   refine wl_set 48 (v' := .bool true) rfl (congrArg Value.bool (by decide)) ?_
   refine nn_ (ct_ rfl (gw_region ?_))
   refine wl_ov (ov_loads (vs := [.slice sA sn sc, .slice cA 4 cc, .slice vA vn vc, .slice pA pn pc]) rz31 rfl (fun _ hm => (hm.fact 0 rfl).2) rfl rfl) rfl ?_
   refine mv_ rfl ?_
   refine wl_callv (v := .int .i64 0) rfl cb40 rfl rfl (fun wx hm => (by have h := logFault_any sl vl sA cA vA pA sn sc 4 cc vn vc pn pc bl bA bn bc wx (hm.fact 1 rfl).1 (hm.fact 3 rfl).1 hsok (by omega) (by omega) (hm.fact 6 rfl).1 hbok (by omega); rw [← hLB] at h; exact h)) ?_
   refine sg_ rfl (nn_ (gw_seq (sr_ (mv_ rfl (wl_ov (ov_eql rfl rfl) rfl ?_)))))
   refine wl_set 53 (v' := .bool true) rfl (congrArg Value.bool (by decide)) ?_
   refine nn_ (ct_ rfl (gw_region (mv_ rfl (mv_ rfl ?_))))
   refine wl_callv (v := .tuple #[.slice none 0 0, .int .i64 ME]) rfl cb57 rfl rfl (fun wx hm => (by have h := logsOf_any el bl eA bA en ec bn bc wx (hm.fact 5 rfl).1 (hm.fact 6 rfl).1 hesh hbsh heok hbok (by omega); rw [← hME] at h; refine h.mono ?_; rintro e w3 ⟨A, n, c, rfl, _, h3, hg⟩; obtain ⟨rfl, rfl, rfl⟩ := h3 hne; exact ⟨rfl, hg⟩)) ?_
   refine mv_ rfl (wl_ov (ov_extract rfl rfl) rfl (wl_ov (ov_extract rfl rfl) rfl (sg_ rfl (sg_ rfl (nn_ (sr_ (mv_ rfl (mv_ rfl (wl_ov (ov_eql rfl rfl) rfl ?_)))))))))
   refine wl_set 62 (v' := .bool true) rfl (congrArg Value.bool (by simp)) ?_
   refine mv_ rfl (wl_guard_on rfl rfl rfl (mv_ rfl (wl_guard_on rfl rfl rfl (mv_ rfl (wl_guard_on rfl rfl rfl ?_)))))
   refine wl_callv rfl cb58 rfl rfl (fun wx hm => (equal_none wx)) ?_
   refine pt_ rfl rfl (mv_ rfl (wl_guard_on rfl rfl rfl ?_))
   refine wl_callv rfl cb26 rfl rfl (fun wx hm => (lots_any wx)) ?_
   refine pt_ rfl rfl (sg_ rfl (nn_ ?_))
   refine gw_ret ?_
   refine nx_ret1 rfl rfl fun wx hm => ?_
   exact ⟨rfl, law_end hg1 hsb (grow_trans hm_w2.g (grow_weak hm.g))⟩
  have hne : LB ≠ 0 := h2
  have hTE : mgE sl cl vl pl el bl = LB := by rw [hT1, fe_hd h2]
  refine wl_callv (v := .tuple #[.slice none 0 0, .int .i64 LB]) rfl cb55 rfl rfl (fun wx hm => (by have h := merge_any sl cl vl pl sA cA vA pA sn sc 4 cc vn vc pn pc el bl eA bA en ec bn bc wx (hm.fact 1 rfl).1 (hm.fact 2 rfl).1 (hm.fact 3 rfl).1 (hm.fact 4 rfl).1 hsok hcok hvok hpok (by omega) (by omega) (by omega) (by omega) (hm.fact 5 rfl).1 (hm.fact 6 rfl).1 hesh hbsh heok hbok (by omega); rw [hTE] at h; refine h.mono ?_; rintro e w3 ⟨A, n, c, rfl, _, h3, hg⟩; obtain ⟨rfl, rfl, rfl⟩ := h3 hne; exact ⟨rfl, hg⟩)) ?_
  refine mv_ rfl (wl_ov (ov_extract rfl rfl) rfl (wl_ov (ov_extract rfl rfl) rfl (sg_ rfl (sg_ rfl (nn_ (gw_seq (sr_ ?_)))))))
  refine wl_ov (ov_loads (vs := [.slice sA sn sc, .slice cA 4 cc, .slice vA vn vc, .slice pA pn pc]) rz31 rfl (fun _ hm => (hm.fact 0 rfl).2) rfl rfl) rfl ?_
  refine mv_ rfl ?_
  refine wl_callv (v := .int .i64 0) rfl cb56 rfl rfl (fun wx hm => (by have h := check2_any sl cl vl pl sA cA vA pA sn sc 4 cc vn vc pn pc el eA en ec wx (hm.fact 1 rfl).1 (hm.fact 2 rfl).1 (hm.fact 3 rfl).1 (hm.fact 4 rfl).1 hsok hcok hvok hpok (by omega) (by omega) (by omega) (by omega) (hm.fact 5 rfl).1 heok (by omega); rw [← hFE] at h; exact h)) ?_
  refine mv_ rfl (wl_ov (ov_neq rfl rfl) rfl ?_)
  refine wl_set 46 (v' := .bool false) rfl (congrArg Value.bool (by decide)) ?_
  refine nn_ (cf_ rfl (gw_skip (nx_then (sr_ (sg_ rfl (nn_ (gw_seq (sr_ (mv_ rfl ?_)))))))))
  refine wl_ov (ov_eql rfl rfl) rfl ?_
  refine wl_set 48 (v' := .bool true) rfl (congrArg Value.bool (by decide)) ?_
  refine nn_ (ct_ rfl (gw_region ?_))
  refine wl_ov (ov_loads (vs := [.slice sA sn sc, .slice cA 4 cc, .slice vA vn vc, .slice pA pn pc]) rz31 rfl (fun _ hm => (hm.fact 0 rfl).2) rfl rfl) rfl ?_
  refine mv_ rfl ?_
  refine wl_callv (v := .int .i64 LB) rfl cb40 rfl rfl (fun wx hm => (by have h := logFault_any sl vl sA cA vA pA sn sc 4 cc vn vc pn pc bl bA bn bc wx (hm.fact 1 rfl).1 (hm.fact 3 rfl).1 hsok (by omega) (by omega) (hm.fact 6 rfl).1 hbok (by omega); rw [← hLB] at h; exact h)) ?_
  refine sg_ rfl (nn_ (gw_seq (sr_ (mv_ rfl (wl_ov (ov_eql rfl rfl) rfl ?_)))))
  refine wl_set 53 (v' := .bool false) rfl (congrArg Value.bool (decide_eq_false h2)) ?_
  refine nn_ (cf_ rfl (gw_skip (nx_then (sr_ (mv_ rfl (mv_ rfl (wl_ov (ov_eql rfl rfl) rfl ?_)))))))
  refine wl_set 62 (v' := .bool true) rfl (congrArg Value.bool (by simp)) ?_
  refine mv_ rfl (wl_guard_on rfl rfl rfl (mv_ rfl (wl_guard_on rfl rfl rfl (mv_ rfl (wl_guard_on rfl rfl rfl ?_)))))
  refine wl_callv rfl cb58 rfl rfl (fun wx hm => (equal_none wx)) ?_
  refine pt_ rfl rfl (mv_ rfl (wl_guard_on rfl rfl rfl ?_))
  refine wl_callv rfl cb26 rfl rfl (fun wx hm => (lots_any wx)) ?_
  refine pt_ rfl rfl (sg_ rfl (nn_ ?_))
  refine gw_ret ?_
  refine nx_ret1 rfl rfl fun wx hm => ?_
  exact ⟨rfl, law_end hg1 hsb (grow_trans hm_w2.g (grow_weak hm.g))⟩
 have hne : FE ≠ 0 := h1
 have hTE : mgE sl cl vl pl el bl = FE := by
  rw [hT0]
  unfold evsE at hFE
  by_cases h : fleetE sl cl vl pl = 0
  ·simp only [h, fe_tl] at hFE ⊢
   have h2 : logE sl vl el ≠ 0 := fun e => hne (by rw [hFE, e]; rfl)
   rw [fe_hd h2] at hFE ⊢
   exact hFE.symm
  rw [fe_hd h] at hFE ⊢
  exact hFE.symm
 refine wl_callv (v := .tuple #[.slice none 0 0, .int .i64 FE]) rfl cb55 rfl rfl (fun wx hm => (by have h := merge_any sl cl vl pl sA cA vA pA sn sc 4 cc vn vc pn pc el bl eA bA en ec bn bc wx (hm.fact 1 rfl).1 (hm.fact 2 rfl).1 (hm.fact 3 rfl).1 (hm.fact 4 rfl).1 hsok hcok hvok hpok (by omega) (by omega) (by omega) (by omega) (hm.fact 5 rfl).1 (hm.fact 6 rfl).1 hesh hbsh heok hbok (by omega); rw [hTE] at h; refine h.mono ?_; rintro e w3 ⟨A, n, c, rfl, _, h3, hg⟩; obtain ⟨rfl, rfl, rfl⟩ := h3 hne; exact ⟨rfl, hg⟩)) ?_
 refine mv_ rfl (wl_ov (ov_extract rfl rfl) rfl (wl_ov (ov_extract rfl rfl) rfl (sg_ rfl (sg_ rfl (nn_ (gw_seq (sr_ ?_)))))))
 refine wl_ov (ov_loads (vs := [.slice sA sn sc, .slice cA 4 cc, .slice vA vn vc, .slice pA pn pc]) rz31 rfl (fun _ hm => (hm.fact 0 rfl).2) rfl rfl) rfl ?_
 refine mv_ rfl ?_
 refine wl_callv (v := .int .i64 FE) rfl cb56 rfl rfl (fun wx hm => (by rw [hFE]; exact check2_any sl cl vl pl sA cA vA pA sn sc 4 cc vn vc pn pc el eA en ec wx (hm.fact 1 rfl).1 (hm.fact 2 rfl).1 (hm.fact 3 rfl).1 (hm.fact 4 rfl).1 hsok hcok hvok hpok (by omega) (by omega) (by omega) (by omega) (hm.fact 5 rfl).1 heok (by omega))) ?_
 refine mv_ rfl (wl_ov (ov_neq rfl rfl) rfl ?_)
 refine wl_set 46 (v' := .bool false) rfl (congrArg Value.bool (by simp)) ?_
 refine nn_ (cf_ rfl (gw_skip (nx_then (sr_ (sg_ rfl (nn_ (gw_seq (sr_ (mv_ rfl ?_)))))))))
 refine wl_ov (ov_eql rfl rfl) rfl ?_
 refine wl_set 48 (v' := .bool false) rfl (congrArg Value.bool (decide_eq_false h1)) ?_
 refine nn_ (cf_ rfl (gw_skip (nx_then (gw_seq (sr_ (mv_ rfl (wl_ov (ov_eql rfl rfl) rfl ?_)))))))
 refine wl_set 53 (v' := .bool false) rfl (congrArg Value.bool (decide_eq_false h1)) ?_
 refine nn_ (cf_ rfl (gw_skip (nx_then (sr_ (mv_ rfl (mv_ rfl (wl_ov (ov_eql rfl rfl) rfl ?_)))))))
 refine wl_set 62 (v' := .bool true) rfl (congrArg Value.bool (by simp)) ?_
 refine mv_ rfl (wl_guard_on rfl rfl rfl (mv_ rfl (wl_guard_on rfl rfl rfl (mv_ rfl (wl_guard_on rfl rfl rfl ?_)))))
 refine wl_callv rfl cb58 rfl rfl (fun wx hm => (equal_none wx)) ?_
 refine pt_ rfl rfl (mv_ rfl (wl_guard_on rfl rfl rfl ?_))
 refine wl_callv rfl cb26 rfl rfl (fun wx hm => (lots_any wx)) ?_
 refine pt_ rfl rfl (sg_ rfl (nn_ ?_))
 refine gw_ret ?_
 refine nx_ret1 rfl rfl fun wx hm => ?_
 exact ⟨rfl, law_end hg1 hsb (grow_trans hm_w2.g (grow_weak hm.g))⟩
end Go.Proofs.YtjecbkgjabnmoaaGreatDoor
