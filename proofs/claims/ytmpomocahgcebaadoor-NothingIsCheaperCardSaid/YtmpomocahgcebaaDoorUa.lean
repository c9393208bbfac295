/- The reference on hires: seasons, prices, the order of divisions. -/
import Derived.Test.YtmpomocahgcebaaDoorTm
import Derived.Test.YtmpomocahgcebaaDoorTd
import Derived.Test.YtmpomocahgcebaaDoorTj
namespace Go.Proofs.YtmpomocahgcebaaDoor
open Go.RowKit

set_option maxRecDepth 100000 in
set_option maxHeartbeats 400000 in
theorem rbegin_any (A : Option Addr) (n c0 : Nat) (c : ByteArray) (fr tt : Int) (D : Nat) (i : Nat) (w : World) (h0 : 0 ≤ fr) (h00 : fr ≤ 5761439) (hi : i ≤ 10000) :
    Calls Tryd.prog 155 #[.agg #[.slice A n c0, .string c, .int .i64 fr, .int .i64 tt, .int .i64 ((D : Nat) : Int)], .int .i64 ((i : Nat) : Int)] w (fun e w' => e = .returned (.int .i64 (begV fr i)) ∧ w.grownBy w' none) := by
  refine gw_enter ⟨11, w, none, []⟩ Tryd.func155 rfl Tryd.ntmps155 rfl (mem0 (X := []) allF_nil allL_nil) ?_
  refine gw_seq ?_
  refine gw_region ?_
  refine wl_box rfl rfl rfl fun g1 => ?_
  refine wl_ov (ov_assign rfl) rfl ?_
  refine wl_nil ?_
  refine nx_then ?_
  refine gw_seq ?_
  refine gw_region ?_
  refine wl_ov (ov_field fo170_2 rfl rfl) rfl ?_
  refine wl_ov (ov_field fo56_0 rfl rfl) rfl ?_
  refine wl_ov (ov_load sc3 rfl (fun _ hm => hm.blkI 0 rfl) rfl) rfl ?_
  refine wl_ov (ov_move rfl) rfl ?_
  refine wl_ov (ov_mul rfl rfl (by omega) (by omega)) rfl ?_
  refine wl_ov (ov_add rfl rfl (by omega) (by omega)) rfl ?_
  refine wl_ov (ov_assign rfl) rfl ?_
  refine wl_nil ?_
  refine nx_then ?_
  refine gw_ret ?_
  refine nx_ret1 rfl rfl fun wx hm => ?_
  exact ⟨rfl, hm.g⟩

set_option maxRecDepth 100000 in
set_option maxHeartbeats 400000 in
theorem rend_any (A : Option Addr) (n c0 : Nat) (c : ByteArray) (fr tt : Int) (D : Nat) (i : Nat) (w : World) (h0 : 0 ≤ fr) (h00 : fr ≤ 5761439) (hi : i ≤ 9000) :
    Calls Tryd.prog 156 #[.agg #[.slice A n c0, .string c, .int .i64 fr, .int .i64 tt, .int .i64 ((D : Nat) : Int)], .int .i64 ((i : Nat) : Int)] w (fun e w' => e = .returned (.int .i64 (endV fr tt i)) ∧ w.grownBy w' none) := by
  refine gw_enter ⟨13, w, none, []⟩ Tryd.func156 rfl Tryd.ntmps156 rfl (mem0 (X := []) allF_nil allL_nil) ?_
  refine gw_seq ?_
  refine gw_region ?_
  refine wl_box rfl rfl rfl fun g1 => ?_
  refine wl_ov (ov_assign rfl) rfl ?_
  refine wl_nil ?_
  refine nx_then ?_
  refine gw_seq ?_
  refine gw_draw (fun wz => Blk wz g1 170 [.slice A n c0, .string c, .int .i64 fr, .int .i64 tt, .int .i64 ((D : Nat) : Int)] ∧ True) mixed ?_
  refine wa_take 0 rfl (by kernel_rfl) (by kernel_rfl) (by kernel_rfl) (listed' := #[true, false, false, false, false, false, false, false, false]) rfl (fun _ _ _ h => h) (fun _ hm => ⟨hm.blkI 0 rfl, trivial⟩) (ov_field fo170_2 rfl rfl) rfl ?_
  refine wa_take 1 rfl (by kernel_rfl) (by kernel_rfl) (by kernel_rfl) (listed' := #[true, true, false, false, false, false, false, false, false]) rfl (fun _ _ _ h => h) (fun _ hm => ⟨hm.blkI 0 rfl, trivial⟩) (ov_field fo56_1 rfl rfl) rfl ?_
  refine wa_take 2 rfl (by kernel_rfl) (by kernel_rfl) (by kernel_rfl) (listed' := #[true, true, true, false, false, false, false, false, false]) rfl (fun _ _ _ h => h) (fun _ hm => ⟨hm.blkI 0 rfl, trivial⟩) (ov_load sc3 rfl (fun _ hm => hm.1) rfl) rfl ?_
  refine wa_take 3 rfl (by kernel_rfl) (by kernel_rfl) (by kernel_rfl) (listed' := #[true, true, true, true, false, false, false, false, false]) rfl (fun _ _ _ h => h) (fun _ hm => ⟨hm.blkI 0 rfl, trivial⟩) (ov_loads rz170 rfl (fun _ hm => hm.1) rfl rfl) rfl ?_
  refine wa_take 4 rfl (by kernel_rfl) (by kernel_rfl) (by kernel_rfl) (listed' := #[true, true, true, true, true, false, false, false, false]) rfl (fun _ _ _ h => h) (fun _ hm => ⟨hm.blkI 0 rfl, trivial⟩) (ov_move rfl) rfl ?_
  refine wa_take 5 rfl (by kernel_rfl) (by kernel_rfl) (by kernel_rfl) (listed' := #[true, true, true, true, true, true, false, false, false]) rfl (fun _ _ _ h => h) (fun _ hm => ⟨hm.blkI 0 rfl, trivial⟩) (ov_add rfl rfl (by omega) (by omega)) rfl ?_
  refine wa_set 10 (v' := .int .i64 ((i + 1 : Nat) : Int)) rfl (congrArg (Value.int .i64) (by omega)) ?_
  refine wa_all [6] (by kernel_rfl) rfl ⟨⟨_, rfl, ?_⟩, trivial⟩
  refine wl_callv rfl cb155 rfl rfl (fun wx hm => (rbegin_any A n c0 c fr tt D (i + 1) wx h0 h00 (by omega))) ?_
  refine wl_nil ?_
  refine nx_wa0 (listed' := #[true, true, true, true, true, true, true, false, false]) rfl (fun _ hm => ⟨hm.blkI 0 rfl, trivial⟩) ?_
  refine wa_take 7 rfl (by kernel_rfl) (by kernel_rfl) (by kernel_rfl) (listed' := #[true, true, true, true, true, true, true, true, false]) rfl (fun _ _ _ h => h) (fun _ hm => ⟨hm.blkI 0 rfl, trivial⟩) (ov_min rfl rfl) rfl ?_
  refine wa_take 8 rfl (by kernel_rfl) (by kernel_rfl) (by kernel_rfl) (listed' := #[true, true, true, true, true, true, true, true, true]) rfl (fun _ _ _ h => h) (fun _ hm => ⟨hm.blkI 0 rfl, trivial⟩) (ov_assign rfl) rfl ?_
  refine wa_done (by kernel_rfl) ?_
  refine nx_then ?_
  refine gw_ret ?_
  refine nx_ret1 rfl rfl fun wx hm => ?_
  exact ⟨ret_int (by unfold endV begV; rw [Int.min_comm]; simp), hm.g⟩

theorem bool_wk {a b : Int} : decide (5760 ≤ a) = decide (0 ≤ b) ↔ (5760 ≤ a ↔ 0 ≤ b) := by simp
set_option maxRecDepth 100000 in
set_option maxHeartbeats 400000 in
theorem rweekend_any (x : Int) (w : World) (h0 : 0 ≤ x) (h1 : x ≤ 100000000) :
    Calls Tryd.prog 157 #[.int .i64 x] w (fun e w' => ∃ v : Int, e = .returned (.tuple #[.int .i64 v, .bool (decide (5760 ≤ (x + 10080 - 720) % 10080))]) ∧ ((5760 ≤ (x + 10080 - 720) % 10080 ∧ 0 ≤ wkE x ∧ v = wkE x) ∨ (¬ 5760 ≤ (x + 10080 - 720) % 10080 ∧ ¬ 0 ≤ wkE x)) ∧ w.grownBy w' none) := by
  refine gw_enter ⟨15, w, none, []⟩ Tryd.func157 rfl Tryd.ntmps157 rfl (mem0 (X := []) allF_nil allL_nil) ?_
  refine gw_seq ?_
  refine gw_region ?_
  have hr0 : 0 ≤ (x + 10080 - 720) % 10080 := Int.emod_nonneg _ (by omega)
  have hr1 : (x + 10080 - 720) % 10080 < 10080 := Int.emod_lt_of_pos _ (by omega)
  refine wl_ov (ov_assign rfl) rfl ?_
  refine wl_ov (ov_assign rfl) rfl ?_
  refine wl_nil ?_
  refine nx_then ?_
  refine gw_seq ?_
  refine gw_region ?_
  refine wl_ov (ov_move rfl) rfl ?_
  refine wl_ov (ov_add rfl rfl (by omega) (by omega)) rfl ?_
  refine wl_ov (ov_sub rfl rfl (by omega) (by omega)) rfl ?_
  refine wl_ov (ov_rem rfl rfl (by omega) (by omega) (by omega)) rfl ?_
  refine wl_ov (ov_assign rfl) rfl ?_
  refine wl_nil ?_
  refine nx_then ?_
  refine gw_seq ?_
  refine gw_region ?_
  refine wl_ov (ov_move rfl) rfl ?_
  refine wl_ov (ov_move rfl) rfl ?_
  refine wl_ov (ov_sub rfl rfl (by omega) (by omega)) rfl ?_
  refine wl_ov (ov_add rfl rfl (by omega) (by omega)) rfl ?_
  refine wl_ov (ov_move rfl) rfl ?_
  refine wl_ov (ov_geq rfl rfl) rfl ?_
  refine wl_ov (ov_assign rfl) rfl ?_
  refine wl_ov (ov_assign rfl) rfl ?_
  refine wl_nil ?_
  refine nx_then ?_
  refine gw_ret ?_
  refine nx_ret2 rfl rfl rfl fun wx hm => ?_
  refine ⟨x - (x + 10080 - 720) % 10080 + 10080, rfl, ?_, hm.g⟩
  unfold wkE
  split
  · omega
  · split
    · omega
    · omega

/-- The season of a rental day, as the reference has it. -/
def seaR (l : List Rt) (c : ByteArray) (fr : Int) (D i : Nat) : Rt := if i < D then rateV l c (begV fr i / 1440) else rateZ
def seaB (l : List Rt) (c : ByteArray) (fr : Int) (D i : Nat) : Bool := decide (i < D ∧ 0 ≤ seaV l c fr i)
theorem seaB_yes {l : List Rt} {c : ByteArray} {fr : Int} {D i : Nat} (h : seaB l c fr D i = true) : i < D ∧ ∃ (k : Nat) (r : Rt), seaV l c fr i = (k : Int) ∧ l[k]? = some r ∧ rateP c (begV fr i / 1440) r = true ∧ seaR l c fr D i = r := by
  obtain ⟨h1, h2⟩ := of_decide_eq_true h
  obtain ⟨k, hk⟩ := Int.eq_ofNat_of_zero_le h2
  obtain ⟨r, hr, hp⟩ := ixP_get (p := rateP c (begV fr i / 1440)) (l := l) h2
  rw [show ixP (rateP c (begV fr i / 1440)) l 0 = (k : Int) from hk, Int.toNat_natCast] at hr
  refine ⟨h1, k, r, hk, hr, hp, ?_⟩
  unfold seaR
  rw [if_pos h1, rateV_at hk hr]
theorem seaB_no {l : List Rt} {c : ByteArray} {fr : Int} {D i : Nat} (h : seaB l c fr D i = false) (hi : i < D) : seaV l c fr i = -1 := by
  have h1 := of_decide_eq_false h
  have h2 := ixP_bound (p := rateP c (begV fr i / 1440)) l
  have h3 : ¬ 0 ≤ seaV l c fr i := fun e => h1 ⟨hi, e⟩
  have h4 : seaV l c fr i = ixP (rateP c (begV fr i / 1440)) l 0 := rfl
  omega
theorem sea_take {l : List Rt} {c : ByteArray} {fr : Int} {D i j mm : Nat} (h : seaV l c fr (i + j) = -1) (hj : j < mm) (hD : i + j < D) : (-1 : Int) ∈ ((seasons l c fr D).drop i).take mm := by
  apply List.mem_of_getElem? (i := j)
  rw [List.getElem?_take, if_pos hj, List.getElem?_drop, seasons_get hD, h]
theorem sea_none {l : List Rt} {c : ByteArray} {fr : Int} {D i mm : Nat} (h : ∀ j, j < mm → 0 ≤ seaV l c fr (i + j)) : ¬ (-1 : Int) ∈ ((seasons l c fr D).drop i).take mm := fun e => by
  obtain ⟨j, hj, he⟩ := List.getElem_of_mem e
  have hj2 : j < mm ∧ i + j < D := by simp [seasons] at hj; omega
  have h1 : (((seasons l c fr D).drop i).take mm)[j]? = some (-1) := by rw [List.getElem?_eq_getElem hj, he]
  rw [List.getElem?_take, if_pos hj2.1, List.getElem?_drop, seasons_get hj2.2] at h1
  have h2 := h j hj2.1
  injection h1 with h1
  omega

set_option maxRecDepth 100000 in
set_option maxHeartbeats 400000 in
theorem season_any (l : List Rt) (A : Option Addr) (n c0 : Nat) (c : ByteArray) (fr tt : Int) (D : Nat) (i : Nat) (w : World) (hl : SlT rtEnc 7 61 w A n l) (hn : n ≤ 1000000) (hpos : ∀ r ∈ l, RtPos r) (h0 : 0 ≤ fr) (h00 : fr ≤ 5761439) (hi : i ≤ 1000) (hD : D ≤ 5000) :
    Calls Tryd.prog 119 #[.agg #[.slice A n c0, .string c, .int .i64 fr, .int .i64 tt, .int .i64 ((D : Nat) : Int)], .int .i64 ((i : Nat) : Int)] w (fun e w' => e = .returned (.tuple #[.agg (rtEnc (seaR l c fr D i)).toArray, .bool (seaB l c fr D i)]) ∧ w.grownBy w' none) := by
  refine gw_enter ⟨24, w, none, []⟩ Tryd.func119 rfl Tryd.ntmps119 rfl (mem0 (X := [SlOld rtEnc 7 61 w.heap.size none A n l]) (allF_cons hl.old allF_nil) (allL_cons SlOld.lasts allL_nil)) ?_
  refine gw_seq ?_
  refine gw_region ?_
  refine wl_box rfl rfl rfl fun g1 => ?_
  refine wl_alloc zc61 rfl fun g2 => ?_
  refine wl_ov (ov_assign rfl) rfl ?_
  refine wl_nil ?_
  refine nx_then ?_
  refine gw_seq ?_
  refine gw_seq ?_
  refine gw_region ?_
  refine wl_ov (ov_move rfl) rfl ?_
  refine wl_ov (ov_field fo170_3 rfl rfl) rfl ?_
  refine wl_ov (ov_load sc3 rfl (fun _ hm => hm.blkI 1 rfl) rfl) rfl ?_
  refine wl_ov (ov_sub rfl rfl (by omega) (by omega)) rfl ?_
  refine wl_callw rfl cb91 rfl rfl (fun wx hm => (rin_any _ _ _ wx)) ?_
  refine wl_ov (ov_un_not rfl) rfl ?_
  refine wl_nil ?_
  refine nx_then ?_
  refine gw_cond rfl (fun hh => ?_) (fun hh => ?_)
  · have h1 : (inB ((i : Nat) : Int) 0 (((D : Nat) : Int) - 1)) = false := by simpa using hh
    clear hh
    refine gw_seq ?_
    refine gw_region ?_
    refine wl_ov (ov_build (cs := [.string ⟨#[]⟩, .int .i64 0, .int .i64 0, .int .i64 0, .int .i64 0, .int .i64 0, .int .i64 0]) rfl (by kernel_rfl)) rfl ?_
    refine wl_stores (cs' := [.string ⟨#[]⟩, .int .i64 0, .int .i64 0, .int .i64 0, .int .i64 0, .int .i64 0, .int .i64 0]) 0 rz61 rfl rfl rfl rfl rfl rfl rfl rfl ?_
    refine wl_ov (ov_assign rfl) rfl ?_
    refine wl_nil ?_
    refine nx_then ?_
    refine gw_ret ?_
    refine nx_then_ret ?_
    refine nx_retct 0 rfl rz61 rfl rfl rfl rfl fun wx hm => ?_
    have hi2 : ¬ i < D := by have h1 := inB_false.1 h1; omega
    refine ⟨?_, hm.g⟩
    unfold seaR seaB
    rw [if_neg hi2, decide_eq_false (fun h => hi2 h.1)]; rfl
  · have h1 : (inB ((i : Nat) : Int) 0 (((D : Nat) : Int) - 1)) = true := by simpa using hh
    clear hh
    refine gw_skip ?_
    refine nx_then ?_
    refine gw_seq ?_
    have hi2 : i < D := by have h1 := inB_iff.1 h1; omega
    obtain ⟨RV, hRV⟩ : ∃ R, R = rateV l c (begV fr i / 1440) := ⟨_, rfl⟩
    obtain ⟨r0, r1, r2, r3, r4, r5, r6⟩ := RV
    have hbv : 0 ≤ begV fr i ∧ begV fr i ≤ 100000000 := by unfold begV; omega
    have hbv0 := hbv.1
    have hbv1 := hbv.2
    refine gw_draw (fun wz => Blk wz g1 170 [.slice A n c0, .string c, .int .i64 fr, .int .i64 tt, .int .i64 ((D : Nat) : Int)] ∧ (SlOld rtEnc 7 61 w.heap.size none A n l) wz ∧ True) mixed ?_
    refine wa_take 0 rfl (by kernel_rfl) (by kernel_rfl) (by kernel_rfl) (listed' := #[true, false, false, false, false, false, false, false, false, false, false, false, false]) rfl (fun _ _ _ h => h) (fun _ hm => ⟨hm.blkI 1 rfl, hm.fact 0 rfl, trivial⟩) (ov_field fo170_0 rfl rfl) rfl ?_
    refine wa_take 1 rfl (by kernel_rfl) (by kernel_rfl) (by kernel_rfl) (listed' := #[true, true, false, false, false, false, false, false, false, false, false, false, false]) rfl (fun _ _ _ h => h) (fun _ hm => ⟨hm.blkI 1 rfl, hm.fact 0 rfl, trivial⟩) (ov_load sc53 rfl (fun _ hm => hm.1) rfl) rfl ?_
    refine wa_take 2 rfl (by kernel_rfl) (by kernel_rfl) (by kernel_rfl) (listed' := #[true, true, true, false, false, false, false, false, false, false, false, false, false]) rfl (fun _ _ _ h => h) (fun _ hm => ⟨hm.blkI 1 rfl, hm.fact 0 rfl, trivial⟩) (ov_field fo170_1 rfl rfl) rfl ?_
    refine wa_take 3 rfl (by kernel_rfl) (by kernel_rfl) (by kernel_rfl) (listed' := #[true, true, true, true, false, false, false, false, false, false, false, false, false]) rfl (fun _ _ _ h => h) (fun _ hm => ⟨hm.blkI 1 rfl, hm.fact 0 rfl, trivial⟩) (ov_load sc9 rfl (fun _ hm => hm.1) rfl) rfl ?_
    refine wa_take 4 rfl (by kernel_rfl) (by kernel_rfl) (by kernel_rfl) (listed' := #[true, true, true, true, true, false, false, false, false, false, false, false, false]) rfl (fun _ _ _ h => h) (fun _ hm => ⟨hm.blkI 1 rfl, hm.fact 0 rfl, trivial⟩) (ov_loads rz170 rfl (fun _ hm => hm.1) rfl rfl) rfl ?_
    refine wa_take 5 rfl (by kernel_rfl) (by kernel_rfl) (by kernel_rfl) (listed' := #[true, true, true, true, true, true, false, false, false, false, false, false, false]) rfl (fun _ _ _ h => h) (fun _ hm => ⟨hm.blkI 1 rfl, hm.fact 0 rfl, trivial⟩) (ov_move rfl) rfl ?_
    refine wa_all [6] (by kernel_rfl) rfl ⟨⟨_, rfl, ?_⟩, trivial⟩
    refine wl_callv rfl cb155 rfl rfl (fun wx hm => (rbegin_any A n c0 c fr tt D i wx h0 h00 (by omega))) ?_
    refine wl_nil ?_
    refine nx_wa0 (listed' := #[true, true, true, true, true, true, true, false, false, false, false, false, false]) rfl (fun _ hm => ⟨hm.blkI 1 rfl, hm.fact 0 rfl, trivial⟩) ?_
    refine wa_take 7 rfl (by kernel_rfl) (by kernel_rfl) (by kernel_rfl) (listed' := #[true, true, true, true, true, true, true, true, false, false, false, false, false]) rfl (fun _ _ _ h => h) (fun _ hm => ⟨hm.blkI 1 rfl, hm.fact 0 rfl, trivial⟩) (ov_quo rfl rfl (by omega) (by omega) (by omega)) rfl ?_
    refine wa_all [8] (by kernel_rfl) rfl ⟨⟨_, rfl, ?_⟩, trivial⟩
    refine wl_callv (v := .tuple #[.agg #[.string r0, .int .i64 r1, .int .i64 r2, .int .i64 r3, .int .i64 r4, .int .i64 r5, .int .i64 r6], .bool (decide (0 ≤ seaV l c fr i))]) rfl cb40 rfl rfl (fun wx hm => (by have h := rateAt_any l A n c0 c (begV fr i / 1440) wx (hm.fact 0 rfl).1 hn hpos; rw [← hRV] at h; exact h)) ?_
    refine wl_nil ?_
    refine nx_wa0 (listed' := #[true, true, true, true, true, true, true, true, true, false, false, false, false]) rfl (fun _ hm => ⟨hm.blkI 1 rfl, hm.fact 0 rfl, trivial⟩) ?_
    refine wa_take 9 rfl (by kernel_rfl) (by kernel_rfl) (by kernel_rfl) (listed' := #[true, true, true, true, true, true, true, true, true, true, false, false, false]) rfl (fun _ _ _ h => h) (fun _ hm => ⟨hm.blkI 1 rfl, hm.fact 0 rfl, trivial⟩) (ov_extract rfl rfl) rfl ?_
    refine wa_take 10 rfl (by kernel_rfl) (by kernel_rfl) (by kernel_rfl) (listed' := #[true, true, true, true, true, true, true, true, true, true, true, false, false]) rfl (fun _ _ _ h => h) (fun _ hm => ⟨hm.blkI 1 rfl, hm.fact 0 rfl, trivial⟩) (ov_extract rfl rfl) rfl ?_
    refine wa_all [11] (by kernel_rfl) rfl ⟨⟨_, rfl, ?_⟩, trivial⟩
    refine wl_stores (cs' := [.string r0, .int .i64 r1, .int .i64 r2, .int .i64 r3, .int .i64 r4, .int .i64 r5, .int .i64 r6]) 0 rz61 rfl rfl rfl rfl rfl rfl rfl rfl ?_
    refine wl_nil ?_
    refine nx_wa0 (listed' := #[true, true, true, true, true, true, true, true, true, true, true, true, false]) rfl (fun _ hm => ⟨hm.blkI 1 rfl, hm.fact 0 rfl, trivial⟩) ?_
    refine wa_take 12 rfl (by kernel_rfl) (by kernel_rfl) (by kernel_rfl) (listed' := #[true, true, true, true, true, true, true, true, true, true, true, true, true]) rfl (fun _ _ _ h => h) (fun _ hm => ⟨hm.blkI 1 rfl, hm.fact 0 rfl, trivial⟩) (ov_assign rfl) rfl ?_
    refine wa_done (by kernel_rfl) ?_
    refine nx_then ?_
    refine gw_ret ?_
    refine nx_retct 0 rfl rz61 rfl rfl rfl rfl fun wx hm => ?_
    refine ⟨?_, hm.g⟩
    unfold seaR seaB
    rw [if_pos hi2, ← hRV, show decide (i < D ∧ 0 ≤ seaV l c fr i) = decide (0 ≤ seaV l c fr i) by simp [hi2]]; rfl

def sgnV (x : Int) : Int := if x < 0 then -1 else if 0 < x then 1 else 0
def cmpP (p q : Pc) : Int := if p.kind ≠ q.kind then sgnV (p.kind - q.kind) else sgnV (p.days - q.days)
/-- The comparison of two lists of one length. -/
def cmpF : List Pc → List Pc → Int
  | p :: r, q :: t => if cmpP p q = 0 then cmpF r t else cmpP p q
  | _, _ => 0
theorem sgn_lt {a b : Int} : sgnV (a - b) < 0 ↔ a < b := by unfold sgnV; split <;> (try split) <;> omega
theorem sgn_zero {a b : Int} : sgnV (a - b) = 0 ↔ a = b := by unfold sgnV; split <;> (try split) <;> omega
theorem cmpF_lt : ∀ {a b : List Pc}, a.length = b.length → (cmpF a b < 0 ↔ lexLt a b)
  | [], [], _ => by simp [cmpF, lexLt]
  | [], _ :: _, h => by simp at h
  | _ :: _, [], h => by simp at h
  | p :: r, q :: t, h => by
    have ih := cmpF_lt (a := r) (b := t) (by simpa using h)
    simp only [cmpF, lexLt]
    have key : cmpP p q = 0 ↔ p.kind = q.kind ∧ p.days = q.days := by
      unfold cmpP
      by_cases h1 : p.kind = q.kind
      · rw [if_neg (by simpa using h1), sgn_zero]; simp [h1]
      · rw [if_pos h1, sgn_zero]; simp [h1]
    have key2 : cmpP p q < 0 ↔ p.kind < q.kind ∨ (p.kind = q.kind ∧ p.days < q.days) := by
      unfold cmpP
      by_cases h1 : p.kind = q.kind
      · rw [if_neg (by simpa using h1), sgn_lt]; simp [h1]
      · rw [if_pos h1, sgn_lt]; simp [h1]
    by_cases h0 : cmpP p q = 0
    · rw [if_pos h0, ih]
      obtain ⟨e1, e2⟩ := key.1 h0
      constructor
      · exact fun e => .inr ⟨e1, e2, e⟩
      · rintro (e | ⟨_, _, e⟩)
        · omega
        · exact e
    · rw [if_neg h0, key2]
      constructor
      · exact .inl
      · rintro (e | ⟨e1, e2, _⟩)
        · exact e
        · exact absurd (key.2 ⟨e1, e2⟩) h0
theorem cmpF_at {a b : List Pc} {k : Nat} {p q : Pc} (hp : a[k]? = some p) (hq : b[k]? = some q) : cmpF (a.drop k) (b.drop k) = if cmpP p q = 0 then cmpF (a.drop (k + 1)) (b.drop (k + 1)) else cmpP p q := by
  obtain ⟨h1, rfl⟩ := List.getElem?_eq_some_iff.1 hp
  obtain ⟨h2, rfl⟩ := List.getElem?_eq_some_iff.1 hq
  rw [List.drop_eq_getElem_cons h1, List.drop_eq_getElem_cons h2]; rfl
/-- What lessWay says. -/
def wltB (x y : Int) (a b : List Pc) : Bool := if x ≠ y then decide (x < y) else if a.length ≠ b.length then decide (a.length < b.length) else decide (cmpF a b < 0)
theorem wltB_iff {a b : List Pc} : wltB (pcSum a) (pcSum b) a b = true ↔ WLt a b := by
  unfold wltB WLt
  by_cases h1 : pcSum a = pcSum b
  · rw [if_neg (by simpa using h1)]
    by_cases h2 : a.length = b.length
    · rw [if_neg (by simpa using h2), decide_eq_true_iff, cmpF_lt h2]
      simp [h1, h2]
    · rw [if_pos h2, decide_eq_true_iff]
      simp [h1, h2]
  · rw [if_pos h1, decide_eq_true_iff]
    simp [h1]
def PcSm (p : Pc) : Prop := (0 ≤ p.kind ∧ p.kind ≤ 10) ∧ (0 ≤ p.days ∧ p.days ≤ 10)
theorem chain_small {pr : Int → Nat → Int → Option Int} : ∀ {ps : List Pc} {i j : Nat}, Chain pr i j ps → ∀ p ∈ ps, PcSm p
  | [], _, _, _, p, h => by cases h
  | q :: r, i, j, h, p, hp => by
    rcases List.mem_cons.1 hp with rfl | hp
    · have h1 := h.1
      exact ⟨⟨by have := h1.1; omega, by have := h1.2.1; omega⟩, by have := h1.2.2.1; omega, by have := h1.2.2.2.1; omega⟩
    · exact chain_small h.2 p hp

set_option maxRecDepth 100000 in
set_option maxHeartbeats 400000 in
theorem sign_any (x : Int) (w : World) : Calls Tryd.prog 160 #[.int .i64 x] w (GotE w (sgnV x)) := by
  refine gw_enter ⟨9, w, none, []⟩ Tryd.func160 rfl Tryd.ntmps160 rfl (mem0 (X := []) allF_nil allL_nil) ?_
  refine gw_seq ?_
  refine gw_region ?_
  refine wl_ov (ov_assign rfl) rfl ?_
  refine wl_nil ?_
  refine nx_then ?_
  refine gw_seq ?_
  refine gw_block ?_
  refine gw_seq ?_
  refine gw_region ?_
  refine wl_ov (ov_move rfl) rfl ?_
  refine wl_ov (ov_lss rfl rfl) rfl ?_
  refine wl_ov (ov_assign rfl) rfl ?_
  refine wl_nil ?_
  refine nx_then ?_
  refine gw_cond rfl (fun hh => ?_) (fun hh => ?_)
  · have h1 : x < 0 := by simpa using hh
    clear hh
    refine gw_seq ?_
    refine gw_region ?_
    refine wl_ov (ov_assign rfl) rfl ?_
    refine wl_set 2 (v' := .int .i64 (-1)) rfl rfl ?_
    refine wl_nil ?_
    refine nx_then ?_
    refine gw_ret ?_
    refine nx_blk_ret ?_
    refine nx_then_ret ?_
    refine nx_ret1 rfl rfl fun wx hm => ?_
    exact ⟨ret_int (by unfold sgnV; rw [if_pos h1]), hm.g⟩
  · have h1 : ¬ (x < 0) := by simpa using hh
    clear hh
    refine gw_seq ?_
    refine gw_region ?_
    refine wl_ov (ov_move rfl) rfl ?_
    refine wl_ov (ov_gtr rfl rfl) rfl ?_
    refine wl_ov (ov_assign rfl) rfl ?_
    refine wl_nil ?_
    refine nx_then ?_
    refine gw_cond rfl (fun hh => ?_) (fun hh => ?_)
    · have h2 : 0 < x := by simpa using hh
      clear hh
      refine gw_seq ?_
      refine gw_region ?_
      refine wl_ov (ov_assign rfl) rfl ?_
      refine wl_nil ?_
      refine nx_then ?_
      refine gw_ret ?_
      refine nx_blk_ret ?_
      refine nx_then_ret ?_
      refine nx_ret1 rfl rfl fun wx hm => ?_
      exact ⟨ret_int (by unfold sgnV; rw [if_neg h1, if_pos h2]), hm.g⟩
    · have h2 : ¬ (0 < x) := by simpa using hh
      clear hh
      refine gw_skip ?_
      refine nx_blk_nrm ?_
      refine nx_then ?_
      refine gw_seq ?_
      refine gw_region ?_
      refine wl_ov (ov_assign rfl) rfl ?_
      refine wl_nil ?_
      refine nx_then ?_
      refine gw_ret ?_
      refine nx_ret1 rfl rfl fun wx hm => ?_
      exact ⟨ret_int (by unfold sgnV; rw [if_neg h1, if_neg h2]), hm.g⟩

set_option maxRecDepth 100000 in
set_option maxHeartbeats 400000 in
theorem cmpPc_any (x0 x1 x2 y0 y1 y2 : Int) (w : World) (hx : PcSm ⟨x0, x1, x2⟩) (hy : PcSm ⟨y0, y1, y2⟩) :
    Calls Tryd.prog 159 #[.agg #[.int .i64 x0, .int .i64 x1, .int .i64 x2], .agg #[.int .i64 y0, .int .i64 y1, .int .i64 y2]] w (GotE w (cmpP ⟨x0, x1, x2⟩ ⟨y0, y1, y2⟩)) := by
  refine gw_enter ⟨22, w, none, []⟩ Tryd.func159 rfl Tryd.ntmps159 rfl (mem0 (X := []) allF_nil allL_nil) ?_
  refine gw_seq ?_
  refine gw_region ?_
  obtain ⟨⟨a1, a2⟩, a3, a4⟩ := hx
  obtain ⟨⟨e1, e2⟩, e3, e4⟩ := hy
  dsimp only at a1 a2 a3 a4 e1 e2 e3 e4
  refine wl_box rfl rfl rfl fun g1 => ?_
  refine wl_box rfl rfl rfl fun g2 => ?_
  refine wl_ov (ov_assign rfl) rfl ?_
  refine wl_nil ?_
  refine nx_then ?_
  refine gw_seq ?_
  refine gw_seq ?_
  refine gw_region ?_
  refine wl_ov (ov_field fo79_0 rfl rfl) rfl ?_
  refine wl_ov (ov_load sc3 rfl (fun _ hm => hm.blkI 1 rfl) rfl) rfl ?_
  refine wl_ov (ov_field fo79_0 rfl rfl) rfl ?_
  refine wl_ov (ov_load sc3 rfl (fun _ hm => hm.blkI 0 rfl) rfl) rfl ?_
  refine wl_ov (ov_neq rfl rfl) rfl ?_
  refine wl_nil ?_
  refine nx_then ?_
  refine gw_cond rfl (fun hh => ?_) (fun hh => ?_)
  · have h1 : ¬ (x0 = y0) := by simpa using hh
    clear hh
    refine gw_seq ?_
    refine gw_region ?_
    refine wl_ov (ov_field fo79_0 rfl rfl) rfl ?_
    refine wl_ov (ov_load sc3 rfl (fun _ hm => hm.blkI 1 rfl) rfl) rfl ?_
    refine wl_ov (ov_field fo79_0 rfl rfl) rfl ?_
    refine wl_ov (ov_load sc3 rfl (fun _ hm => hm.blkI 0 rfl) rfl) rfl ?_
    refine wl_ov (ov_sub rfl rfl (by omega) (by omega)) rfl ?_
    refine wl_callv rfl cb160 rfl rfl (fun wx hm => (sign_any _ wx)) ?_
    refine wl_ov (ov_assign rfl) rfl ?_
    refine wl_nil ?_
    refine nx_then ?_
    refine gw_ret ?_
    refine nx_then_ret ?_
    refine nx_ret1 rfl rfl fun wx hm => ?_
    exact ⟨ret_int (by unfold cmpP; rw [if_pos h1]), hm.g⟩
  · have h1 : x0 = y0 := by simpa using hh
    clear hh
    refine gw_skip ?_
    refine nx_then ?_
    refine gw_seq ?_
    refine gw_region ?_
    refine wl_ov (ov_field fo79_1 rfl rfl) rfl ?_
    refine wl_ov (ov_load sc3 rfl (fun _ hm => hm.blkI 1 rfl) rfl) rfl ?_
    refine wl_ov (ov_field fo79_1 rfl rfl) rfl ?_
    refine wl_ov (ov_load sc3 rfl (fun _ hm => hm.blkI 0 rfl) rfl) rfl ?_
    refine wl_ov (ov_sub rfl rfl (by omega) (by omega)) rfl ?_
    refine wl_callv rfl cb160 rfl rfl (fun wx hm => (sign_any _ wx)) ?_
    refine wl_ov (ov_assign rfl) rfl ?_
    refine wl_nil ?_
    refine nx_then ?_
    refine gw_ret ?_
    refine nx_ret1 rfl rfl fun wx hm => ?_
    exact ⟨ret_int (by unfold cmpP; rw [if_neg (by simpa using h1)]), hm.g⟩

set_option maxRecDepth 100000 in
set_option maxHeartbeats 400000 in
theorem compare_any (ps qs : List Pc) (A A2 : Option Addr) (n c1 c2 : Nat) (w : World) (hp : SlT pcEnc 3 79 w A n ps) (hq : SlT pcEnc 3 79 w A2 n qs) (hn : n ≤ 1000000) (hps : ∀ p ∈ ps, PcSm p) (hqs : ∀ p ∈ qs, PcSm p) :
    Calls Tryd.prog 158 #[.slice A n c1, .slice A2 n c2, .func (.func 159) #[] #[]] w (GotE w (cmpF ps qs)) := by
  refine gw_enter ⟨39, w, none, []⟩ Tryd.func158 rfl Tryd.ntmps158 rfl (mem0 (X := [SlOld pcEnc 3 79 w.heap.size none A n ps, SlOld pcEnc 3 79 w.heap.size none A2 n qs]) (allF_cons hp.old (allF_cons hq.old allF_nil)) (allL_cons SlOld.lasts (allL_cons SlOld.lasts allL_nil))) ?_
  refine gw_seq ?_
  refine gw_region ?_
  have hpl := hp.len
  have hql := hq.len
  refine wl_ov (ov_assign rfl) rfl ?_
  refine wl_nil ?_
  refine nx_then ?_
  refine gw_seq ?_
  refine gw_seq ?_
  refine gw_region ?_
  refine wl_ov (ov_move rfl) rfl ?_
  refine wl_ov (ov_len es72 rfl) rfl ?_
  refine wl_ov (ov_move rfl) rfl ?_
  refine wl_nil ?_
  refine nx_then ?_
  refine gw_block ?_
  refine gw_loop (γ := Nat) (fun (k : Nat) => k ≤ n ∧ cmpF ps qs = cmpF (ps.drop k) (qs.drop k)) (fun (k : Nat) => [(0, .slice A n c1), (1, .slice A2 n c2), (2, .func (.func 159) #[] #[]), (11, .slice A n c1), (12, .int .i64 ((n : Nat) : Int)), (13, .int .i64 ((k : Nat) : Int))]) (fun (k : Nat) => fun _ => True) (fun (k : Nat) => []) (fun (k : Nat) => []) (fun (k : Nat) => [SlOld pcEnc 3 79 w.heap.size none A n ps, SlOld pcEnc 3 79 w.heap.size none A2 n qs]) (fun (k : Nat) => n - k) 0 ⟨Nat.zero_le _, rfl⟩ ⟨rfl, rfl, rfl, rfl, rfl, rfl, trivial⟩ (fun _ hm => hm.pick [] [] [0, 1] rfl rfl) ?_
  intro k hinv
  replace hinv : k ≤ n ∧ cmpF ps qs = cmpF (ps.drop k) (qs.drop k) := hinv
  refine gw_seq ?_
  refine gw_region ?_
  refine wl_ov (ov_lss rfl rfl) rfl ?_
  refine wl_nil ?_
  refine nx_then ?_
  refine gw_seq ?_
  refine gw_cond rfl (fun hh => ?_) (fun hh => ?_)
  · have hk : ((k : Nat) : Int) < ((n : Nat) : Int) := by simpa using hh
    clear hh
    refine gw_skip ?_
    refine nx_then ?_
    refine gw_seq ?_
    refine gw_block ?_
    refine gw_seq ?_
    refine gw_region ?_
    obtain ⟨b, off, hA, _, _⟩ := hp.get (by omega)
    subst hA
    obtain ⟨b2, off2, hA, _, _⟩ := hq.get (by omega)
    subst hA
    obtain ⟨x, hx1⟩ : ∃ x, ps[k]? = some x := ⟨_, List.getElem?_eq_getElem (by omega)⟩
    obtain ⟨x0, x1, x2⟩ := x
    obtain ⟨y, hy1⟩ : ∃ x, qs[k]? = some x := ⟨_, List.getElem?_eq_getElem (by omega)⟩
    obtain ⟨y0, y1, y2⟩ := y
    have hat := cmpF_at hx1 hy1
    refine wl_ov (ov_move rfl) rfl ?_
    refine wl_ov (ov_index (j := k) es72 rfl rfl (by omega)) rfl ?_
    refine wl_ov (ov_elem (vs := [.int .i64 x0, .int .i64 x1, .int .i64 x2]) rz79 rfl (fun _ hm => (hm.fact 0 rfl).1) hx1 rfl rfl) rfl ?_
    refine wl_alloc zc79 rfl fun g1 => ?_
    refine wl_ov (ov_assign rfl) rfl ?_
    refine wl_stores (cs' := [.int .i64 x0, .int .i64 x1, .int .i64 x2]) 0 rz79 rfl rfl rfl rfl rfl rfl rfl rfl ?_
    refine wl_nil ?_
    refine nx_then ?_
    refine gw_seq ?_
    refine gw_seq ?_
    refine gw_region ?_
    refine wl_ov (ov_move rfl) rfl ?_
    refine wl_ov (ov_move rfl) rfl ?_
    refine wl_ov (ov_len es72 rfl) rfl ?_
    refine wl_ov (ov_geq rfl rfl) rfl ?_
    refine wl_set 21 (v' := .bool false) rfl (congrArg Value.bool (decide_eq_false (by omega))) ?_
    refine wl_nil ?_
    refine nx_then ?_
    refine gw_cond rfl (fun hh => by cases hh) (fun _ => ?_)
    refine gw_skip ?_
    refine nx_then ?_
    refine gw_seq ?_
    refine gw_region ?_
    refine wl_ov (ov_move rfl) rfl ?_
    refine wl_ov (ov_move rfl) rfl ?_
    refine wl_ov (ov_index (j := k) es72 rfl rfl (by omega)) rfl ?_
    refine wl_ov (ov_elem (vs := [.int .i64 y0, .int .i64 y1, .int .i64 y2]) rz79 rfl (fun _ hm => (hm.fact 1 rfl).1) hy1 rfl rfl) rfl ?_
    refine wl_alloc zc79 rfl fun g2 => ?_
    refine wl_stores (cs' := [.int .i64 y0, .int .i64 y1, .int .i64 y2]) 0 rz79 rfl rfl rfl rfl rfl rfl rfl rfl ?_
    refine wl_nil ?_
    refine nx_then ?_
    refine gw_seq ?_
    refine gw_region ?_
    refine wl_ov (ov_move rfl) rfl ?_
    refine wl_ov (ov_loads rz79 rfl (fun _ hm => hm.blkI 1 rfl) rfl rfl) rfl ?_
    refine wl_ov (ov_loads rz79 rfl (fun _ hm => hm.blkI 0 rfl) rfl rfl) rfl ?_
    refine wl_callv rfl cb159 rfl rfl (fun wx hm => (cmpPc_any x0 x1 x2 y0 y1 y2 wx (hps _ (List.mem_of_getElem? hx1)) (hqs _ (List.mem_of_getElem? hy1)))) ?_
    refine wl_ov (ov_assign rfl) rfl ?_
    refine wl_nil ?_
    refine nx_then ?_
    refine gw_seq ?_
    refine gw_region ?_
    refine wl_ov (ov_move rfl) rfl ?_
    refine wl_ov (ov_neq rfl rfl) rfl ?_
    refine wl_nil ?_
    refine nx_then ?_
    refine gw_cond rfl (fun hh => ?_) (fun hh => ?_)
    · have h1 : ¬ (cmpP ⟨x0, x1, x2⟩ ⟨y0, y1, y2⟩ = 0) := by simpa using hh
      clear hh
      refine gw_seq ?_
      refine gw_region ?_
      refine wl_ov (ov_move rfl) rfl ?_
      refine wl_ov (ov_assign rfl) rfl ?_
      refine wl_nil ?_
      refine nx_then ?_
      refine gw_ret ?_
      refine nx_blk_ret ?_
      refine nx_then_ret ?_
      refine nx_then_ret ?_
      refine nx_blk_ret ?_
      refine nx_then_ret ?_
      refine nx_ret1 rfl rfl fun wx hm => ?_
      exact ⟨ret_int (by rw [hinv.2, hat, if_neg h1]), hm.g⟩
    · have h1 : cmpP ⟨x0, x1, x2⟩ ⟨y0, y1, y2⟩ = 0 := by simpa using hh
      clear hh
      refine gw_skip ?_
      refine nx_blk_nrm ?_
      refine nx_then ?_
      refine gw_region ?_
      refine wl_ov (ov_add rfl rfl (by omega) (by omega)) rfl ?_
      refine wl_ov (ov_move rfl) rfl ?_
      refine wl_nil ?_
      exact nx_round (k + 1) ⟨by omega, by rw [hinv.2, hat, if_pos (by simpa using h1)]⟩ (by omega) ⟨rfl, rfl, rfl, rfl, rfl, (some_int (by omega)), trivial⟩ (fun _ hm => hm.pick [] [] [0, 1] rfl rfl)
  · have hk : ¬ (((k : Nat) : Int) < ((n : Nat) : Int)) := by simpa using hh
    clear hh
    refine gw_exit ?_
    refine nx_then_exit ?_
    refine nx_then_exit ?_
    refine nx_blk_here ?_
    refine nx_then ?_
    refine gw_seq ?_
    refine gw_seq ?_
    refine gw_region ?_
    refine wl_ov (ov_move rfl) rfl ?_
    refine wl_ov (ov_len es72 rfl) rfl ?_
    refine wl_ov (ov_move rfl) rfl ?_
    refine wl_ov (ov_len es72 rfl) rfl ?_
    refine wl_ov (ov_lss rfl rfl) rfl ?_
    refine wl_set 38 (v' := .bool false) rfl (congrArg Value.bool (decide_eq_false (by omega))) ?_
    refine wl_nil ?_
    refine nx_then ?_
    refine gw_cond rfl (fun hh => by cases hh) (fun _ => ?_)
    refine gw_skip ?_
    refine nx_then ?_
    refine gw_seq ?_
    refine gw_region ?_
    refine wl_ov (ov_assign rfl) rfl ?_
    refine wl_nil ?_
    refine nx_then ?_
    refine gw_ret ?_
    refine nx_ret1 rfl rfl fun wx hm => ?_
    exact ⟨ret_int (by rw [hinv.2, List.drop_eq_nil_of_le (by omega)]; unfold cmpF; rfl), hm.g⟩

set_option maxRecDepth 100000 in
set_option maxHeartbeats 400000 in
theorem lessWay_any (x y : Int) (ps qs : List Pc) (A A2 : Option Addr) (n n2 c1 c2 : Nat) (w : World) (hp : SlT pcEnc 3 79 w A n ps) (hq : SlT pcEnc 3 79 w A2 n2 qs) (hn : n ≤ 1000000) (hps : ∀ p ∈ ps, PcSm p) (hqs : ∀ p ∈ qs, PcSm p) :
    Calls Tryd.prog 116 #[.agg #[.int .i64 x, .slice A n c1], .agg #[.int .i64 y, .slice A2 n2 c2]] w (fun e w' => e = .returned (.bool (wltB x y ps qs)) ∧ w.grownBy w' none) := by
  refine gw_enter ⟨35, w, none, []⟩ Tryd.func116 rfl Tryd.ntmps116 rfl (mem0 (X := [SlOld pcEnc 3 79 w.heap.size none A n ps, SlOld pcEnc 3 79 w.heap.size none A2 n2 qs]) (allF_cons hp.old (allF_cons hq.old allF_nil)) (allL_cons SlOld.lasts (allL_cons SlOld.lasts allL_nil))) ?_
  refine gw_seq ?_
  refine gw_region ?_
  have hpl := hp.len
  have hql := hq.len
  refine wl_box rfl rfl rfl fun g1 => ?_
  refine wl_box rfl rfl rfl fun g2 => ?_
  refine wl_ov (ov_assign rfl) rfl ?_
  refine wl_nil ?_
  refine nx_then ?_
  refine gw_seq ?_
  refine gw_seq ?_
  refine gw_region ?_
  refine wl_ov (ov_field fo174_0 rfl rfl) rfl ?_
  refine wl_ov (ov_load sc3 rfl (fun _ hm => hm.blkI 1 rfl) rfl) rfl ?_
  refine wl_ov (ov_field fo174_0 rfl rfl) rfl ?_
  refine wl_ov (ov_load sc3 rfl (fun _ hm => hm.blkI 0 rfl) rfl) rfl ?_
  refine wl_ov (ov_neq rfl rfl) rfl ?_
  refine wl_nil ?_
  refine nx_then ?_
  refine gw_cond rfl (fun hh => ?_) (fun hh => ?_)
  · have h1 : ¬ (x = y) := by simpa using hh
    clear hh
    refine gw_seq ?_
    refine gw_region ?_
    refine wl_ov (ov_field fo174_0 rfl rfl) rfl ?_
    refine wl_ov (ov_load sc3 rfl (fun _ hm => hm.blkI 1 rfl) rfl) rfl ?_
    refine wl_ov (ov_field fo174_0 rfl rfl) rfl ?_
    refine wl_ov (ov_load sc3 rfl (fun _ hm => hm.blkI 0 rfl) rfl) rfl ?_
    refine wl_ov (ov_lss rfl rfl) rfl ?_
    refine wl_ov (ov_assign rfl) rfl ?_
    refine wl_nil ?_
    refine nx_then ?_
    refine gw_ret ?_
    refine nx_then_ret ?_
    refine nx_ret1 rfl rfl fun wx hm => ?_
    exact ⟨by unfold wltB; rw [if_pos h1], hm.g⟩
  · have h1 : x = y := by simpa using hh
    clear hh
    refine gw_skip ?_
    refine nx_then ?_
    refine gw_seq ?_
    refine gw_seq ?_
    refine gw_region ?_
    refine wl_ov (ov_field fo174_1 rfl rfl) rfl ?_
    refine wl_ov (ov_load sc72 rfl (fun _ hm => hm.blkI 1 rfl) rfl) rfl ?_
    refine wl_ov (ov_len es72 rfl) rfl ?_
    refine wl_ov (ov_field fo174_1 rfl rfl) rfl ?_
    refine wl_ov (ov_load sc72 rfl (fun _ hm => hm.blkI 0 rfl) rfl) rfl ?_
    refine wl_ov (ov_len es72 rfl) rfl ?_
    refine wl_ov (ov_neq rfl rfl) rfl ?_
    refine wl_nil ?_
    refine nx_then ?_
    refine gw_cond rfl (fun hh => ?_) (fun hh => ?_)
    · have h2 : ¬ (((n : Nat) : Int) = ((n2 : Nat) : Int)) := by simpa using hh
      clear hh
      refine gw_seq ?_
      refine gw_region ?_
      refine wl_ov (ov_field fo174_1 rfl rfl) rfl ?_
      refine wl_ov (ov_load sc72 rfl (fun _ hm => hm.blkI 1 rfl) rfl) rfl ?_
      refine wl_ov (ov_len es72 rfl) rfl ?_
      refine wl_ov (ov_field fo174_1 rfl rfl) rfl ?_
      refine wl_ov (ov_load sc72 rfl (fun _ hm => hm.blkI 0 rfl) rfl) rfl ?_
      refine wl_ov (ov_len es72 rfl) rfl ?_
      refine wl_ov (ov_lss rfl rfl) rfl ?_
      refine wl_ov (ov_assign rfl) rfl ?_
      refine wl_nil ?_
      refine nx_then ?_
      refine gw_ret ?_
      refine nx_then_ret ?_
      refine nx_ret1 rfl rfl fun wx hm => ?_
      have h3 : ps.length ≠ qs.length := by omega
      exact ⟨by unfold wltB; rw [if_neg (by simpa using h1), if_pos h3, hpl, hql]; simp, hm.g⟩
    · have h2 : ((n : Nat) : Int) = ((n2 : Nat) : Int) := by simpa using hh
      clear hh
      refine gw_skip ?_
      refine nx_then ?_
      refine gw_seq ?_
      refine gw_region ?_
      have h3 : n2 = n := by omega
      subst h3
      refine wl_ov (ov_field fo174_1 rfl rfl) rfl ?_
      refine wl_ov (ov_load sc72 rfl (fun _ hm => hm.blkI 1 rfl) rfl) rfl ?_
      refine wl_ov (ov_field fo174_1 rfl rfl) rfl ?_
      refine wl_ov (ov_load sc72 rfl (fun _ hm => hm.blkI 0 rfl) rfl) rfl ?_
      refine wl_callv rfl cb158 rfl rfl (fun wx hm => (compare_any ps qs A A2 n2 c1 c2 wx (hm.fact 0 rfl).1 (hm.fact 1 rfl).1 hn hps hqs)) ?_
      refine wl_ov (ov_lss rfl rfl) rfl ?_
      refine wl_ov (ov_assign rfl) rfl ?_
      refine wl_nil ?_
      refine nx_then ?_
      refine gw_ret ?_
      refine nx_ret1 rfl rfl fun wx hm => ?_
      exact ⟨by unfold wltB; rw [if_neg (by simpa using h1), if_neg (show ¬ ps.length ≠ qs.length by omega)], hm.g⟩

end Go.Proofs.YtmpomocahgcebaaDoor
