/- A hire by its seasons: begin, end, weekend, rent, the price of a piece. -/
import Derived.Test.YtcggbojhalbkjaaTd
namespace Go.Proofs.Ytcggbojhalbkjaa
open Go.RowKit

def itEnc (z : Int) : List Value := [.int .i64 z]
theorem it_len (z : Int) : (itEnc z).length = 1 := rfl
theorem slice_cut {b o i mm c : Nat} (h : i < c) : Value.slice (if c = i then (some ⟨b, o, none⟩ : Option Addr) else Option.map (fun a : Addr => a.add (i * 1)) (some ⟨b, o, none⟩)) (i + mm - i) (c - i) = .slice (some ⟨b, o + i, none⟩) mm (c - i) := by
  rw [if_neg (by omega), Nat.add_sub_cancel_left]
  simp only [Option.map_some, Nat.mul_one, Value.slice.injEq, Option.some.injEq, and_self, and_true]
  exact add_addr b o i
theorem SlT.cut {α : Type} {enc : α → List Value} {T : TypeId} {w : World} {b o n i mm : Nat} {l : List α} (h : SlT enc 1 T w (some ⟨b, o, none⟩) n l) (h1 : i + mm ≤ n) (h2 : i < n) : SlT enc 1 T w (some ⟨b, o + i, none⟩) mm ((l.drop i).take mm) := by
  have hb := h.between i (i + mm) (by omega) h1 (Nat.le_refl n)
  rw [if_neg (by omega), Nat.add_sub_cancel_left] at hb
  simp only [Option.map_some, Nat.mul_one] at hb
  rw [add_addr] at hb
  exact hb
theorem ge_self (x : Int) : ixP (fun y => decide (x = y)) [] 0 = -1 := rfl

set_option maxRecDepth 100000 in
set_option maxHeartbeats 400000 in
theorem index_int (l : List Int) (A : Option Addr) (n c0 : Nat) (x : Int) (w : World) (hl : SlT itEnc 1 3 w A n l) (hn : n ≤ 1000000) :
    Calls Try.prog 53 #[.slice A n c0, .int .i64 x] w (GotE w (ixP (fun y => decide (x = y)) l 0)) := by
  refine gw_enter ⟨19, w, none, []⟩ Try.func53 rfl Try.ntmps53 rfl (mem0 (X := [SlOld itEnc 1 3 w.heap.size none A n l]) (allF_cons hl.old allF_nil) (allL_cons SlOld.lasts allL_nil)) ?_
  refine gw_seq ?_
  refine gw_region ?_
  have hlen := hl.len
  refine wl_ov (ov_assign rfl) rfl ?_
  refine wl_nil ?_
  refine nx_then ?_
  refine gw_seq ?_
  refine gw_seq ?_
  refine gw_region ?_
  refine wl_ov (ov_move rfl) rfl ?_
  refine wl_ov (ov_len es22 rfl) rfl ?_
  refine wl_ov (ov_move rfl) rfl ?_
  refine wl_nil ?_
  refine nx_then ?_
  refine gw_block ?_
  refine gw_loop (γ := Nat) (fun (k : Nat) => k ≤ n ∧ ixP (fun y => decide (x = y)) l 0 = ixP (fun y => decide (x = y)) (l.drop k) k) (fun (k : Nat) => [(0, .slice A n c0), (1, .int .i64 x), (7, .int .i64 ((n : Nat) : Int)), (8, .int .i64 ((k : Nat) : Int))]) (fun (k : Nat) => fun _ => True) (fun (k : Nat) => []) (fun (k : Nat) => []) (fun (k : Nat) => [SlOld itEnc 1 3 w.heap.size none A n l]) (fun (k : Nat) => n - k) 0 ⟨Nat.zero_le _, rfl⟩ ⟨rfl, rfl, rfl, rfl, trivial⟩ (fun _ hm => hm.pick [] [] [0] rfl rfl) ?_
  intro k hinv
  replace hinv : k ≤ n ∧ ixP (fun y => decide (x = y)) l 0 = ixP (fun y => decide (x = y)) (l.drop k) k := hinv
  refine gw_seq ?_
  refine gw_region ?_
  refine wl_ov (ov_lss rfl rfl) rfl ?_
  refine wl_nil ?_
  refine nx_then ?_
  refine gw_seq ?_
  refine gw_cond rfl (fun hh => ?_) (fun hh => ?_)
  · have hk : ((k : Nat) : Int) < ((n : Nat) : Int) := by simpa using hh
    clear hh
    refine gw_skip ?_
    refine nx_then ?_
    refine gw_seq ?_
    refine gw_block ?_
    refine gw_seq ?_
    refine gw_region ?_
    obtain ⟨b, off, hA, _, _⟩ := hl.get (by omega)
    subst hA
    obtain ⟨z0, hx⟩ : ∃ x, l[k]? = some x := ⟨_, List.getElem?_eq_getElem (by omega)⟩
    have hat := ixP_at (p := fun y => decide (x = y)) hx
    refine wl_ov (ov_move rfl) rfl ?_
    refine wl_ov (ov_assign rfl) rfl ?_
    refine wl_nil ?_
    refine nx_then ?_
    refine gw_seq ?_
    refine gw_region ?_
    refine wl_ov (ov_move rfl) rfl ?_
    refine wl_ov (ov_move rfl) rfl ?_
    refine wl_ov (ov_move rfl) rfl ?_
    refine wl_ov (ov_index (j := k) es22 rfl rfl (by omega)) rfl ?_
    refine wl_ov (ov_elem1 (k := 0) (v := .int .i64 z0) sc3 rfl (fun _ hm => (hm.fact 0 rfl).1) hx rfl rfl) rfl ?_
    refine wl_ov (ov_eql rfl rfl) rfl ?_
    refine wl_nil ?_
    refine nx_then ?_
    refine gw_cond rfl (fun hh => ?_) (fun hh => ?_)
    · have hq : x = z0 := by simpa using hh
      clear hh
      refine gw_seq ?_
      refine gw_region ?_
      refine wl_ov (ov_move rfl) rfl ?_
      refine wl_ov (ov_assign rfl) rfl ?_
      refine wl_nil ?_
      refine nx_then ?_
      refine gw_ret ?_
      refine nx_blk_ret ?_
      refine nx_then_ret ?_
      refine nx_then_ret ?_
      refine nx_blk_ret ?_
      refine nx_then_ret ?_
      refine nx_ret1 rfl rfl fun wx hm => ?_
      exact ⟨ret_int (by rw [hinv.2, hat, if_pos (decide_eq_true hq)]), hm.g⟩
    · have hq : ¬ (x = z0) := by simpa using hh
      clear hh
      refine gw_skip ?_
      refine nx_blk_nrm ?_
      refine nx_then ?_
      refine gw_region ?_
      refine wl_ov (ov_add rfl rfl (by omega) (by omega)) rfl ?_
      refine wl_ov (ov_move rfl) rfl ?_
      refine wl_nil ?_
      exact nx_round (k + 1) ⟨by omega, by rw [hinv.2, hat, if_neg (by rw [decide_eq_false hq]; decide)]⟩ (by omega) ⟨rfl, rfl, rfl, (some_int (by omega)), trivial⟩ (fun _ hm => hm.pick [] [] [0] rfl rfl)
  · have hk : ¬ (((k : Nat) : Int) < ((n : Nat) : Int)) := by simpa using hh
    clear hh
    refine gw_exit ?_
    refine nx_then_exit ?_
    refine nx_then_exit ?_
    refine nx_blk_here ?_
    refine nx_then ?_
    refine gw_seq ?_
    refine gw_region ?_
    refine wl_ov (ov_assign rfl) rfl ?_
    refine wl_set 4 (v' := .int .i64 (-1)) rfl rfl ?_
    refine wl_nil ?_
    refine nx_then ?_
    refine gw_ret ?_
    refine nx_ret1 rfl rfl fun wx hm => ?_
    exact ⟨ret_int (by rw [hinv.2, List.drop_eq_nil_of_le (by omega)]; rfl), hm.g⟩

set_option maxRecDepth 100000 in
set_option maxHeartbeats 400000 in
theorem contains_int (l : List Int) (A : Option Addr) (n c0 : Nat) (x : Int) (w : World) (hl : SlT itEnc 1 3 w A n l) (hn : n ≤ 1000000) :
    Calls Try.prog 38 #[.slice A n c0, .int .i64 x] w (fun e w' => e = .returned (.bool (decide (x ∈ l))) ∧ w.grownBy w' none) := by
  refine gw_enter ⟨9, w, none, []⟩ Try.func38 rfl Try.ntmps38 rfl (mem0 (X := [SlOld itEnc 1 3 w.heap.size none A n l]) (allF_cons hl.old allF_nil) (allL_cons SlOld.lasts allL_nil)) ?_
  refine gw_seq ?_
  refine gw_region ?_
  refine wl_ov (ov_assign rfl) rfl ?_
  refine wl_nil ?_
  refine nx_then ?_
  refine gw_seq ?_
  refine gw_region ?_
  refine wl_ov (ov_move rfl) rfl ?_
  refine wl_ov (ov_move rfl) rfl ?_
  refine wl_callv rfl cb53 rfl rfl (fun wx hm => (index_int l A n c0 x wx (hm.fact 0 rfl).1 hn)) ?_
  refine wl_ov (ov_geq rfl rfl) rfl ?_
  refine wl_ov (ov_assign rfl) rfl ?_
  refine wl_nil ?_
  refine nx_then ?_
  refine gw_ret ?_
  refine nx_ret1 rfl rfl fun wx hm => ?_
  exact ⟨by rw [ix_mem], hm.g⟩

set_option maxRecDepth 100000 in
set_option maxHeartbeats 400000 in
theorem tbegin_any (A : Option Addr) (n c0 : Nat) (fr tt : Int) (vs : Value) (i : Nat) (w : World) (h0 : 0 ≤ fr) (h1 : fr ≤ 5761439) (hi : i ≤ 10000) :
    Calls Try.prog 35 #[.agg #[.slice A n c0, .int .i64 fr, .int .i64 tt, vs], .int .i64 ((i : Nat) : Int)] w (fun e w' => e = .returned (.int .i64 (begV fr i)) ∧ w.grownBy w' none) := by
  refine gw_enter ⟨11, w, none, []⟩ Try.func35 rfl Try.ntmps35 rfl (mem0 (X := []) allF_nil allL_nil) ?_
  refine gw_seq ?_
  refine gw_region ?_
  refine wl_box rfl rfl rfl fun g1 => ?_
  refine wl_ov (ov_assign rfl) rfl ?_
  refine wl_nil ?_
  refine nx_then ?_
  refine gw_seq ?_
  refine gw_region ?_
  refine wl_ov (ov_field fo54_1 rfl rfl) rfl ?_
  refine wl_ov (ov_field fo30_0 rfl rfl) rfl ?_
  refine wl_ov (ov_load sc3 rfl (fun _ hm => hm.blkI 0 rfl) rfl) rfl ?_
  refine wl_ov (ov_move rfl) rfl ?_
  refine wl_ov (ov_mul rfl rfl (by omega) (by omega)) rfl ?_
  refine wl_ov (ov_add rfl rfl (by omega) (by omega)) rfl ?_
  refine wl_ov (ov_assign rfl) rfl ?_
  refine wl_nil ?_
  refine nx_then ?_
  refine gw_ret ?_
  refine nx_ret1 rfl rfl fun wx hm => ?_
  exact ⟨rfl, hm.g⟩

set_option maxRecDepth 100000 in
set_option maxHeartbeats 400000 in
theorem tend_any (A : Option Addr) (n c0 : Nat) (fr tt : Int) (vs : Value) (i : Nat) (w : World) (h0 : 0 ≤ fr) (h1 : fr ≤ 5761439) (hi : i ≤ 9000) :
    Calls Try.prog 40 #[.agg #[.slice A n c0, .int .i64 fr, .int .i64 tt, vs], .int .i64 ((i : Nat) : Int)] w (fun e w' => e = .returned (.int .i64 (endV fr tt i)) ∧ w.grownBy w' none) := by
  refine gw_enter ⟨13, w, none, []⟩ Try.func40 rfl Try.ntmps40 rfl (mem0 (X := []) allF_nil allL_nil) ?_
  refine gw_seq ?_
  refine gw_region ?_
  refine wl_box rfl rfl rfl fun g1 => ?_
  refine wl_ov (ov_assign rfl) rfl ?_
  refine wl_nil ?_
  refine nx_then ?_
  refine gw_seq ?_
  refine gw_draw (fun wz => Blk wz g1 54 [.slice A n c0, .int .i64 fr, .int .i64 tt, vs] ∧ True) mixed ?_
  refine wa_take 0 rfl (by kernel_rfl) (by kernel_rfl) (by kernel_rfl) (listed' := #[true, false, false, false, false, false, false, false, false]) rfl (fun _ _ _ h => h) (fun _ hm => ⟨hm.blkI 0 rfl, trivial⟩) (ov_loads rz54 rfl (fun _ hm => hm.1) rfl rfl) rfl ?_
  refine wa_take 1 rfl (by kernel_rfl) (by kernel_rfl) (by kernel_rfl) (listed' := #[true, true, false, false, false, false, false, false, false]) rfl (fun _ _ _ h => h) (fun _ hm => ⟨hm.blkI 0 rfl, trivial⟩) (ov_move rfl) rfl ?_
  refine wa_take 2 rfl (by kernel_rfl) (by kernel_rfl) (by kernel_rfl) (listed' := #[true, true, true, false, false, false, false, false, false]) rfl (fun _ _ _ h => h) (fun _ hm => ⟨hm.blkI 0 rfl, trivial⟩) (ov_add rfl rfl (by omega) (by omega)) rfl ?_
  refine wa_set 7 (v' := .int .i64 ((i + 1 : Nat) : Int)) rfl (congrArg (Value.int .i64) (by omega)) ?_
  refine wa_take 4 rfl (by kernel_rfl) (by kernel_rfl) (by kernel_rfl) (listed' := #[true, true, true, false, true, false, false, false, false]) rfl (fun _ _ _ h => h) (fun _ hm => ⟨hm.blkI 0 rfl, trivial⟩) (ov_field fo54_1 rfl rfl) rfl ?_
  refine wa_take 5 rfl (by kernel_rfl) (by kernel_rfl) (by kernel_rfl) (listed' := #[true, true, true, false, true, true, false, false, false]) rfl (fun _ _ _ h => h) (fun _ hm => ⟨hm.blkI 0 rfl, trivial⟩) (ov_field fo30_1 rfl rfl) rfl ?_
  refine wa_take 6 rfl (by kernel_rfl) (by kernel_rfl) (by kernel_rfl) (listed' := #[true, true, true, false, true, true, true, false, false]) rfl (fun _ _ _ h => h) (fun _ hm => ⟨hm.blkI 0 rfl, trivial⟩) (ov_load sc3 rfl (fun _ hm => hm.1) rfl) rfl ?_
  refine wa_all [3] (by kernel_rfl) rfl ⟨⟨_, rfl, ?_⟩, trivial⟩
  refine wl_callv rfl cb35 rfl rfl (fun wx hm => (tbegin_any A n c0 fr tt vs (i + 1) wx h0 h1 (by omega))) ?_
  refine wl_nil ?_
  refine nx_wa0 (listed' := #[true, true, true, true, true, true, true, false, false]) rfl (fun _ hm => ⟨hm.blkI 0 rfl, trivial⟩) ?_
  refine wa_take 7 rfl (by kernel_rfl) (by kernel_rfl) (by kernel_rfl) (listed' := #[true, true, true, true, true, true, true, true, false]) rfl (fun _ _ _ h => h) (fun _ hm => ⟨hm.blkI 0 rfl, trivial⟩) (ov_min rfl rfl) rfl ?_
  refine wa_take 8 rfl (by kernel_rfl) (by kernel_rfl) (by kernel_rfl) (listed' := #[true, true, true, true, true, true, true, true, true]) rfl (fun _ _ _ h => h) (fun _ hm => ⟨hm.blkI 0 rfl, trivial⟩) (ov_assign rfl) rfl ?_
  refine wa_done (by kernel_rfl) ?_
  refine nx_then ?_
  refine gw_ret ?_
  refine nx_ret1 rfl rfl fun wx hm => ?_
  exact ⟨by unfold endV begV; simp, hm.g⟩

set_option maxRecDepth 100000 in
set_option maxHeartbeats 400000 in
theorem tweekend_any (x : Int) (w : World) (h0 : 0 ≤ x) (h1 : x ≤ 100000000) :
    Calls Try.prog 39 #[.int .i64 x] w (GotE w (wkE x)) := by
  refine gw_enter ⟨32, w, none, []⟩ Try.func39 rfl Try.ntmps39 rfl (mem0 (X := []) allF_nil allL_nil) ?_
  refine gw_seq ?_
  refine gw_region ?_
  have hr0 : 0 ≤ x % 10080 := Int.emod_nonneg _ (by omega)
  have hr1 : x % 10080 < 10080 := Int.emod_lt_of_pos _ (by omega)
  refine wl_ov (ov_assign rfl) rfl ?_
  refine wl_nil ?_
  refine nx_then ?_
  refine gw_seq ?_
  refine gw_region ?_
  refine wl_ov (ov_move rfl) rfl ?_
  refine wl_ov (ov_move rfl) rfl ?_
  refine wl_ov (ov_rem rfl rfl (by omega) (by omega) (by omega)) rfl ?_
  refine wl_ov (ov_sub rfl rfl (by omega) (by omega)) rfl ?_
  refine wl_ov (ov_assign rfl) rfl ?_
  refine wl_nil ?_
  refine nx_then ?_
  refine gw_seq ?_
  refine gw_seq ?_
  refine gw_region ?_
  refine wl_ov (ov_move rfl) rfl ?_
  refine wl_ov (ov_sub rfl rfl (by omega) (by omega)) rfl ?_
  refine wl_ov (ov_move rfl) rfl ?_
  refine wl_ov (ov_add rfl rfl (by omega) (by omega)) rfl ?_
  refine wl_buildSlice (e := 3) (cs := [.int .i64 ((x - (x % 10080)) - 4320), .int .i64 ((x - (x % 10080)) + 5760)]) rfl (by kernel_rfl) rfl fun g1 => ?_
  refine wl_ov (ov_len es22 rfl) rfl ?_
  refine wl_set 16 (v' := .int .i64 2) rfl rfl ?_
  refine wl_ov (ov_move rfl) rfl ?_
  refine wl_nil ?_
  refine nx_then ?_
  refine gw_block ?_
  refine gw_rounds 3 ?_
  refine gr_next ?_
  refine gw_seq ?_
  refine gw_region ?_
  refine wl_ov (ov_lss rfl rfl) rfl ?_
  refine wl_set 18 (v' := .bool true) rfl (congrArg Value.bool (by decide)) ?_
  refine wl_nil ?_
  refine nx_then ?_
  refine gw_seq ?_
  refine gw_cond rfl (fun _ => ?_) (fun hh => by cases hh)
  refine gw_skip ?_
  refine nx_then ?_
  refine gw_seq ?_
  refine gw_block ?_
  refine gw_seq ?_
  refine gw_region ?_
  refine wl_ov (ov_index (j := 0) es22 rfl rfl (by decide)) rfl ?_
  refine wl_ov (ov_load sc3 rfl (fun _ hm => hm.blkI 0 rfl) rfl) rfl ?_
  refine wl_ov (ov_assign rfl) rfl ?_
  refine wl_nil ?_
  refine nx_then ?_
  refine gw_seq ?_
  refine gw_region ?_
  refine wl_ov (ov_move rfl) rfl ?_
  refine wl_ov (ov_add rfl rfl (by omega) (by omega)) rfl ?_
  refine wl_ov (ov_assign rfl) rfl ?_
  refine wl_nil ?_
  refine nx_then ?_
  refine gw_seq ?_
  refine gw_region ?_
  refine wl_ov (ov_move rfl) rfl ?_
  refine wl_ov (ov_move rfl) rfl ?_
  refine wl_ov (ov_move rfl) rfl ?_
  refine wl_ov (ov_add rfl rfl (by omega) (by omega)) rfl ?_
  refine wl_ov (ov_sub rfl rfl (by omega) (by omega)) rfl ?_
  refine wl_callw rfl cb20 rfl rfl (fun wx hm => (in_any _ _ _ wx)) ?_
  refine wl_nil ?_
  refine nx_then ?_
  refine gw_cond rfl (fun hh => ?_) (fun hh => ?_)
  · have h1 : (inB x (((x - (x % 10080)) - 4320) + 720) (((((x - (x % 10080)) - 4320) + 720) + 4320) - 1)) = true := by simpa using hh
    clear hh
    refine gw_seq ?_
    refine gw_region ?_
    refine wl_ov (ov_move rfl) rfl ?_
    refine wl_ov (ov_add rfl rfl (by omega) (by omega)) rfl ?_
    refine wl_ov (ov_assign rfl) rfl ?_
    refine wl_nil ?_
    refine nx_then ?_
    refine gw_ret ?_
    refine nx_blk_ret ?_
    refine nx_then_ret ?_
    refine nx_then_ret ?_
    refine nx_blk_ret ?_
    refine nx_then_ret ?_
    refine nx_ret1 rfl rfl fun wx hm => ?_
    have h1 := inB_iff.1 h1
    refine ⟨ret_int ?_, hm.g⟩
    unfold wkE; rw [if_pos (by omega)]; omega
  · have h1 : (inB x (((x - (x % 10080)) - 4320) + 720) (((((x - (x % 10080)) - 4320) + 720) + 4320) - 1)) = false := by simpa using hh
    clear hh
    refine gw_skip ?_
    refine nx_blk_nrm ?_
    refine nx_then ?_
    refine gw_region ?_
    refine wl_ov (ov_add rfl rfl (by omega) (by omega)) rfl ?_
    refine wl_set 31 (v' := .int .i64 1) rfl rfl ?_
    refine wl_ov (ov_move rfl) rfl ?_
    refine wl_nil ?_
    refine nx_next ?_
    refine gr_next ?_
    refine gw_seq ?_
    refine gw_region ?_
    refine wl_ov (ov_lss rfl rfl) rfl ?_
    refine wl_set 18 (v' := .bool true) rfl (congrArg Value.bool (by decide)) ?_
    refine wl_nil ?_
    refine nx_then ?_
    refine gw_seq ?_
    refine gw_cond rfl (fun _ => ?_) (fun hh => by cases hh)
    refine gw_skip ?_
    refine nx_then ?_
    refine gw_seq ?_
    refine gw_block ?_
    refine gw_seq ?_
    refine gw_region ?_
    refine wl_ov (ov_index (j := 1) es22 rfl rfl (by decide)) rfl ?_
    refine wl_ov (ov_load sc3 rfl (fun _ hm => hm.blkI 0 rfl) rfl) rfl ?_
    refine wl_ov (ov_assign rfl) rfl ?_
    refine wl_nil ?_
    refine nx_then ?_
    refine gw_seq ?_
    refine gw_region ?_
    refine wl_ov (ov_move rfl) rfl ?_
    refine wl_ov (ov_add rfl rfl (by omega) (by omega)) rfl ?_
    refine wl_ov (ov_assign rfl) rfl ?_
    refine wl_nil ?_
    refine nx_then ?_
    refine gw_seq ?_
    refine gw_region ?_
    refine wl_ov (ov_move rfl) rfl ?_
    refine wl_ov (ov_move rfl) rfl ?_
    refine wl_ov (ov_move rfl) rfl ?_
    refine wl_ov (ov_add rfl rfl (by omega) (by omega)) rfl ?_
    refine wl_ov (ov_sub rfl rfl (by omega) (by omega)) rfl ?_
    refine wl_callw rfl cb20 rfl rfl (fun wx hm => (in_any _ _ _ wx)) ?_
    refine wl_nil ?_
    refine nx_then ?_
    refine gw_cond rfl (fun hh => ?_) (fun hh => ?_)
    · have h2 : (inB x (((x - (x % 10080)) + 5760) + 720) (((((x - (x % 10080)) + 5760) + 720) + 4320) - 1)) = true := by simpa using hh
      clear hh
      refine gw_seq ?_
      refine gw_region ?_
      refine wl_ov (ov_move rfl) rfl ?_
      refine wl_ov (ov_add rfl rfl (by omega) (by omega)) rfl ?_
      refine wl_ov (ov_assign rfl) rfl ?_
      refine wl_nil ?_
      refine nx_then ?_
      refine gw_ret ?_
      refine nx_blk_ret ?_
      refine nx_then_ret ?_
      refine nx_then_ret ?_
      refine nx_blk_ret ?_
      refine nx_then_ret ?_
      refine nx_ret1 rfl rfl fun wx hm => ?_
      have h1 := inB_false.1 h1
      have h2 := inB_iff.1 h2
      refine ⟨ret_int ?_, hm.g⟩
      unfold wkE; rw [if_neg (by omega), if_pos (by omega)]; omega
    · have h2 : (inB x (((x - (x % 10080)) + 5760) + 720) (((((x - (x % 10080)) + 5760) + 720) + 4320) - 1)) = false := by simpa using hh
      clear hh
      refine gw_skip ?_
      refine nx_blk_nrm ?_
      refine nx_then ?_
      refine gw_region ?_
      refine wl_ov (ov_add rfl rfl (by omega) (by omega)) rfl ?_
      refine wl_set 31 (v' := .int .i64 2) rfl rfl ?_
      refine wl_ov (ov_move rfl) rfl ?_
      refine wl_nil ?_
      refine nx_next ?_
      refine gr_next ?_
      refine gw_seq ?_
      refine gw_region ?_
      refine wl_ov (ov_lss rfl rfl) rfl ?_
      refine wl_set 18 (v' := .bool false) rfl (congrArg Value.bool (by decide)) ?_
      refine wl_nil ?_
      refine nx_then ?_
      refine gw_seq ?_
      refine gw_cond rfl (fun hh => by cases hh) (fun _ => ?_)
      refine gw_exit ?_
      refine nx_then_exit ?_
      refine nx_then_exit ?_
      refine nx_blk_here ?_
      refine nx_then ?_
      refine gw_seq ?_
      refine gw_region ?_
      refine wl_ov (ov_assign rfl) rfl ?_
      refine wl_set 2 (v' := .int .i64 (-1)) rfl rfl ?_
      refine wl_nil ?_
      refine nx_then ?_
      refine gw_ret ?_
      refine nx_ret1 rfl rfl fun wx hm => ?_
      have h1 := inB_false.1 h1
      have h2 := inB_false.1 h2
      refine ⟨ret_int ?_, hm.g⟩
      unfold wkE; rw [if_neg (by omega), if_neg (by omega)]

set_option maxRecDepth 100000 in
set_option maxHeartbeats 1000000 in
theorem trent_any (l : List Rt) (A : Option Addr) (n c0 : Nat) (c : ByteArray) (fr tt : Int) (w : World) (hl : SlT rtEnc 7 47 w A n l) (hn : n ≤ 1000000) (hpos : ∀ r ∈ l, RtPos r) (ht : timeE fr tt = 0) :
    Calls Try.prog 18 #[.slice A n c0, .string c, .agg #[.int .i64 fr, .int .i64 tt]] w (fun e w' => ∃ A2 c2, e = .returned (.agg #[.slice A n c0, .int .i64 fr, .int .i64 tt, .slice A2 (daysV fr tt).toNat c2]) ∧ w.grownBy w' none ∧ SlT itEnc 1 3 w' A2 (daysV fr tt).toNat (seasons l c fr (daysV fr tt).toNat) ∧ (daysV fr tt).toNat ≤ c2) := by
  refine gw_enter ⟨31, w, none, []⟩ Try.func18 rfl Try.ntmps18 rfl (mem0 (X := [SlOld rtEnc 7 47 w.heap.size none A n l]) (allF_cons hl.old allF_nil) (allL_cons SlOld.lasts allL_nil)) ?_
  refine gw_seq ?_
  refine gw_region ?_
  obtain ⟨h0, h1, h2, h3⟩ := timeE_ok ht
  have hD1 := timeE_days ht
  obtain ⟨D, hDn⟩ := Int.eq_ofNat_of_zero_le (show 0 ≤ daysV fr tt by omega)
  have hDN : (daysV fr tt).toNat = D := by omega
  rw [hDN]
  have hD2 : D ≤ 120 := by omega
  refine wl_box rfl rfl rfl fun g1 => ?_
  refine wl_alloc zc54 rfl fun g2 => ?_
  refine wl_nil ?_
  refine nx_then ?_
  refine gw_seq ?_
  refine gw_region ?_
  refine wl_ov (ov_move rfl) rfl ?_
  refine wl_ov (ov_loads rz30 rfl (fun _ hm => hm.blkI 1 rfl) rfl rfl) rfl ?_
  refine wl_ov (ov_build (cs := [.slice A n c0, .int .i64 fr, .int .i64 tt, .slice none 0 0]) rfl (by kernel_rfl)) rfl ?_
  refine wl_alloc zc54 rfl fun g3 => ?_
  refine wl_stores (cs' := [.slice A n c0, .int .i64 fr, .int .i64 tt, .slice none 0 0]) 0 rz54 rfl rfl rfl rfl rfl rfl rfl rfl ?_
  refine wl_nil ?_
  refine nx_then ?_
  refine gw_seq ?_
  refine gw_seq ?_
  refine gw_region ?_
  refine wl_ov (ov_loads rz30 rfl (fun _ hm => hm.blkI 2 rfl) rfl rfl) rfl ?_
  refine wl_callv rfl cb33 rfl rfl (fun wx hm => (days_any _ _ wx (by omega) (by omega) (by omega))) ?_
  refine wl_ov (ov_move rfl) rfl ?_
  refine wl_nil ?_
  refine nx_then ?_
  refine gw_block ?_
  refine gw_nilOwn 3 1 ?_
  refine gw_set 13 (v' := .int .i64 ((D : Nat) : Int)) rfl (congrArg (Value.int .i64) hDn) ?_
  refine gw_loop (γ := Nat × Value × List Value) (fun (g : Nat × Value × List Value) => g.1 ≤ D ∧ g.2.2 = (seasons l c fr g.1).flatMap itEnc) (fun (g : Nat × Value × List Value) => [(0, .slice A n c0), (1, .string c), (6, .pointer (some ⟨g2, 0, none⟩)), (7, .pointer (some ⟨g3, 0, none⟩)), (13, .int .i64 ((D : Nat) : Int)), (14, .int .i64 ((g.1 : Nat) : Int))]) (fun (g : Nat × Value × List Value) => fun _ => True) (fun (g : Nat × Value × List Value) => [(g3, 54, [.slice A n c0, .int .i64 fr, .int .i64 tt, g.2.1]), (g2, 54, [.slice none 0 0, .int .i64 0, .int .i64 0, .slice none 0 0])]) (fun (g : Nat × Value × List Value) => [⟨g.2.1, 3, 1, g.1, g.2.2⟩]) (fun (g : Nat × Value × List Value) => [SlOld rtEnc 7 47 w.heap.size none A n l]) (fun (g : Nat × Value × List Value) => D - g.1) (0, .slice none 0 0, []) ⟨Nat.zero_le _, rfl⟩ ⟨rfl, rfl, rfl, rfl, rfl, rfl, trivial⟩ (fun _ hm => hm.pick [0, 1] [0] [0] rfl rfl) ?_
  rintro ⟨k, v, xs⟩ hinv
  replace hinv : k ≤ D ∧ xs = (seasons l c fr k).flatMap itEnc := hinv
  dsimp only
  refine gw_seq ?_
  refine gw_region ?_
  obtain ⟨hi0, rfl⟩ := hinv
  refine wl_ov (ov_lss rfl rfl) rfl ?_
  refine wl_nil ?_
  refine nx_then ?_
  refine gw_seq ?_
  refine gw_cond rfl (fun hh => ?_) (fun hh => ?_)
  · have hk : ((k : Nat) : Int) < ((D : Nat) : Int) := by simpa using hh
    clear hh
    refine gw_skip ?_
    refine nx_then ?_
    refine gw_seq ?_
    refine gw_block ?_
    refine gw_seq ?_
    refine gw_region ?_
    obtain ⟨S, hS⟩ : ∃ S, S = seaV l c fr k := ⟨_, rfl⟩
    have hbv : 0 ≤ begV fr k ∧ begV fr k ≤ 10000000 := by unfold begV; omega
    have hbv0 := hbv.1
    have hbv1 := hbv.2
    refine wl_ov (ov_move rfl) rfl ?_
    refine wl_ov (ov_assign rfl) rfl ?_
    refine wl_nil ?_
    refine nx_then ?_
    refine gw_draw (fun wz => Blk wz g2 54 [.slice none 0 0, .int .i64 0, .int .i64 0, .slice none 0 0] ∧ (SlOld rtEnc 7 47 w.heap.size none A n l) wz ∧ True) mixed ?_
    refine wa_take 0 rfl (by kernel_rfl) (by kernel_rfl) (by kernel_rfl) (listed' := #[true, false, false, false, false, false, false, false, false, false, false, false, false]) rfl (fun _ _ _ h => h) (fun _ hm => ⟨hm.blkI 1 rfl, hm.fact 0 rfl, trivial⟩) (ov_field fo54_2 rfl rfl) rfl ?_
    refine wa_take 2 rfl (by kernel_rfl) (by kernel_rfl) (by kernel_rfl) (listed' := #[true, false, true, false, false, false, false, false, false, false, false, false, false]) rfl (fun _ _ _ h => h) (fun _ hm => ⟨hm.blkI 1 rfl, hm.fact 0 rfl, trivial⟩) (ov_move rfl) rfl ?_
    refine wa_take 3 rfl (by kernel_rfl) (by kernel_rfl) (by kernel_rfl) (listed' := #[true, false, true, true, false, false, false, false, false, false, false, false, false]) rfl (fun _ _ _ h => h) (fun _ hm => ⟨hm.blkI 1 rfl, hm.fact 0 rfl, trivial⟩) (ov_move rfl) rfl ?_
    refine wa_take 5 rfl (by kernel_rfl) (by kernel_rfl) (by kernel_rfl) (listed' := #[true, false, true, true, false, true, false, false, false, false, false, false, false]) rfl (fun _ _ _ h => h) (fun _ hm => ⟨hm.blkI 1 rfl, hm.fact 0 rfl, trivial⟩) (ov_move rfl) rfl ?_
    refine wa_all [1, 4] (by kernel_rfl) rfl ⟨⟨_, rfl, ?_⟩, ⟨_, rfl, ?_⟩, trivial⟩
    · refine wl_ov (ov_load sc22 rfl (fun _ hm => hm.blkI 0 rfl) rfl) rfl ?_
      refine wl_nil ?_
      refine nx_wa0 (listed' := #[true, true, true, true, false, true, false, false, false, false, false, false, false]) rfl (fun _ hm => ⟨hm.blkI 1 rfl, hm.fact 0 rfl, trivial⟩) ?_
      refine wa_all [4] (by kernel_rfl) rfl ⟨⟨_, rfl, ?_⟩, trivial⟩
      refine wl_ov (ov_loads rz54 rfl (fun _ hm => hm.blkI 0 rfl) rfl rfl) rfl ?_
      refine wl_nil ?_
      refine nx_wa0 (listed' := #[true, true, true, true, true, true, false, false, false, false, false, false, false]) rfl (fun _ hm => ⟨hm.blkI 1 rfl, hm.fact 0 rfl, trivial⟩) ?_
      refine wa_all [6] (by kernel_rfl) rfl ⟨⟨_, rfl, ?_⟩, trivial⟩
      refine wl_callv rfl cb35 rfl rfl (fun wx hm => (tbegin_any A n c0 fr tt v k wx h0 (by omega) (by omega))) ?_
      refine wl_nil ?_
      refine nx_wa0 (listed' := #[true, true, true, true, true, true, true, false, false, false, false, false, false]) rfl (fun _ hm => ⟨hm.blkI 1 rfl, hm.fact 0 rfl, trivial⟩) ?_
      refine wa_take 7 rfl (by kernel_rfl) (by kernel_rfl) (by kernel_rfl) (listed' := #[true, true, true, true, true, true, true, true, false, false, false, false, false]) rfl (fun _ _ _ h => h) (fun _ hm => ⟨hm.blkI 1 rfl, hm.fact 0 rfl, trivial⟩) (ov_quo rfl rfl (by omega) (by omega) (by omega)) rfl ?_
      refine wa_all [8] (by kernel_rfl) rfl ⟨⟨_, rfl, ?_⟩, trivial⟩
      refine wl_callv (v := .int .i64 S) rfl cb34 rfl rfl (fun wx hm => (by rw [hS]; exact rateOn_any l A n c0 c (begV fr k / 1440) wx (hm.fact 0 rfl).1 hn hpos)) ?_
      refine wl_nil ?_
      refine nx_wa0 (listed' := #[true, true, true, true, true, true, true, true, true, false, false, false, false]) rfl (fun _ hm => ⟨hm.blkI 1 rfl, hm.fact 0 rfl, trivial⟩) ?_
      refine wa_all [9] (by kernel_rfl) rfl ⟨⟨_, rfl, ?_⟩, trivial⟩
      refine wl_buildSlice (e := 3) (cs := [.int .i64 S]) rfl (by kernel_rfl) rfl fun g4 => ?_
      refine wl_nil ?_
      refine nx_wa0 (listed' := #[true, true, true, true, true, true, true, true, true, true, false, false, false]) rfl (fun _ hm => ⟨hm.blkI 2 rfl, hm.fact 0 rfl, trivial⟩) ?_
      refine wa_all [10] (by kernel_rfl) rfl ⟨⟨_, rfl, ?_⟩, trivial⟩
      refine wl_append (news := [.int .i64 S]) 0 0 ap22 rfl rfl rfl rfl rfl rfl rfl (by omega) (by unfold maxLen; omega) rfl rfl fun v2 hv2 => ?_
      refine wl_look (R := ∃ A cc, v2 = .slice A (k + 1) cc) (fun wx hm => own_slice (hm.ownI 0 rfl)) ?_
      rintro ⟨A9, c9, rfl⟩
      refine wl_nil ?_
      refine nx_wa0 (listed' := #[true, true, true, true, true, true, true, true, true, true, true, false, false]) rfl (fun _ hm => ⟨hm.blkI 2 rfl, hm.fact 0 rfl, trivial⟩) ?_
      refine wa_take 11 rfl (by kernel_rfl) (by kernel_rfl) (by kernel_rfl) (listed' := #[true, true, true, true, true, true, true, true, true, true, true, true, false]) rfl (fun _ _ _ h => h) (fun _ hm => ⟨hm.blkI 2 rfl, hm.fact 0 rfl, trivial⟩) (ov_field fo54_2 rfl rfl) rfl ?_
      refine wa_all [12] (by kernel_rfl) rfl ⟨⟨_, rfl, ?_⟩, trivial⟩
      refine wl_store 1 sc22 rfl rfl rfl rfl rfl rfl ?_
      refine wl_nil ?_
      refine nx_wa0 (listed' := #[true, true, true, true, true, true, true, true, true, true, true, true, true]) rfl (fun _ hm => ⟨hm.blkI 2 rfl, hm.fact 0 rfl, trivial⟩) ?_
      refine wa_done (by kernel_rfl) ?_
      refine nx_blk_nrm ?_
      refine nx_then ?_
      refine gw_region ?_
      refine wl_ov (ov_add rfl rfl (by omega) (by omega)) rfl ?_
      refine wl_ov (ov_move rfl) rfl ?_
      refine wl_nil ?_
      exact nx_round (k + 1, .slice A9 (k + 1) c9, (seasons l c fr k).flatMap itEnc ++ ([.int .i64 S] : List Value)) ⟨by dsimp only; omega, by rw [hS, seasons_succ]; simp [itEnc]⟩ (by dsimp only; omega) ⟨rfl, rfl, rfl, rfl, rfl, (some_int (by omega)), trivial⟩ (fun _ hm => hm.pick [1, 2] [0] [0] rfl rfl)
    · refine wl_ov (ov_loads rz54 rfl (fun _ hm => hm.blkI 0 rfl) rfl rfl) rfl ?_
      refine wl_nil ?_
      refine nx_wa0 (listed' := #[true, false, true, true, true, true, false, false, false, false, false, false, false]) rfl (fun _ hm => ⟨hm.blkI 1 rfl, hm.fact 0 rfl, trivial⟩) ?_
      refine wa_all [1, 6] (by kernel_rfl) rfl ⟨⟨_, rfl, ?_⟩, ⟨_, rfl, ?_⟩, trivial⟩
      · refine wl_ov (ov_load sc22 rfl (fun _ hm => hm.blkI 0 rfl) rfl) rfl ?_
        refine wl_nil ?_
        refine nx_wa0 (listed' := #[true, true, true, true, true, true, false, false, false, false, false, false, false]) rfl (fun _ hm => ⟨hm.blkI 1 rfl, hm.fact 0 rfl, trivial⟩) ?_
        refine wa_all [6] (by kernel_rfl) rfl ⟨⟨_, rfl, ?_⟩, trivial⟩
        refine wl_callv rfl cb35 rfl rfl (fun wx hm => (tbegin_any A n c0 fr tt v k wx h0 (by omega) (by omega))) ?_
        refine wl_nil ?_
        refine nx_wa0 (listed' := #[true, true, true, true, true, true, true, false, false, false, false, false, false]) rfl (fun _ hm => ⟨hm.blkI 1 rfl, hm.fact 0 rfl, trivial⟩) ?_
        refine wa_take 7 rfl (by kernel_rfl) (by kernel_rfl) (by kernel_rfl) (listed' := #[true, true, true, true, true, true, true, true, false, false, false, false, false]) rfl (fun _ _ _ h => h) (fun _ hm => ⟨hm.blkI 1 rfl, hm.fact 0 rfl, trivial⟩) (ov_quo rfl rfl (by omega) (by omega) (by omega)) rfl ?_
        refine wa_all [8] (by kernel_rfl) rfl ⟨⟨_, rfl, ?_⟩, trivial⟩
        refine wl_callv (v := .int .i64 S) rfl cb34 rfl rfl (fun wx hm => (by rw [hS]; exact rateOn_any l A n c0 c (begV fr k / 1440) wx (hm.fact 0 rfl).1 hn hpos)) ?_
        refine wl_nil ?_
        refine nx_wa0 (listed' := #[true, true, true, true, true, true, true, true, true, false, false, false, false]) rfl (fun _ hm => ⟨hm.blkI 1 rfl, hm.fact 0 rfl, trivial⟩) ?_
        refine wa_all [9] (by kernel_rfl) rfl ⟨⟨_, rfl, ?_⟩, trivial⟩
        refine wl_buildSlice (e := 3) (cs := [.int .i64 S]) rfl (by kernel_rfl) rfl fun g5 => ?_
        refine wl_nil ?_
        refine nx_wa0 (listed' := #[true, true, true, true, true, true, true, true, true, true, false, false, false]) rfl (fun _ hm => ⟨hm.blkI 2 rfl, hm.fact 0 rfl, trivial⟩) ?_
        refine wa_all [10] (by kernel_rfl) rfl ⟨⟨_, rfl, ?_⟩, trivial⟩
        refine wl_append (news := [.int .i64 S]) 0 0 ap22 rfl rfl rfl rfl rfl rfl rfl (by omega) (by unfold maxLen; omega) rfl rfl fun v2 hv2 => ?_
        refine wl_look (R := ∃ A cc, v2 = .slice A (k + 1) cc) (fun wx hm => own_slice (hm.ownI 0 rfl)) ?_
        rintro ⟨A9, c9, rfl⟩
        refine wl_nil ?_
        refine nx_wa0 (listed' := #[true, true, true, true, true, true, true, true, true, true, true, false, false]) rfl (fun _ hm => ⟨hm.blkI 2 rfl, hm.fact 0 rfl, trivial⟩) ?_
        refine wa_take 11 rfl (by kernel_rfl) (by kernel_rfl) (by kernel_rfl) (listed' := #[true, true, true, true, true, true, true, true, true, true, true, true, false]) rfl (fun _ _ _ h => h) (fun _ hm => ⟨hm.blkI 2 rfl, hm.fact 0 rfl, trivial⟩) (ov_field fo54_2 rfl rfl) rfl ?_
        refine wa_all [12] (by kernel_rfl) rfl ⟨⟨_, rfl, ?_⟩, trivial⟩
        refine wl_store 1 sc22 rfl rfl rfl rfl rfl rfl ?_
        refine wl_nil ?_
        refine nx_wa0 (listed' := #[true, true, true, true, true, true, true, true, true, true, true, true, true]) rfl (fun _ hm => ⟨hm.blkI 2 rfl, hm.fact 0 rfl, trivial⟩) ?_
        refine wa_done (by kernel_rfl) ?_
        refine nx_blk_nrm ?_
        refine nx_then ?_
        refine gw_region ?_
        refine wl_ov (ov_add rfl rfl (by omega) (by omega)) rfl ?_
        refine wl_ov (ov_move rfl) rfl ?_
        refine wl_nil ?_
        exact nx_round (k + 1, .slice A9 (k + 1) c9, (seasons l c fr k).flatMap itEnc ++ ([.int .i64 S] : List Value)) ⟨by dsimp only; omega, by rw [hS, seasons_succ]; simp [itEnc]⟩ (by dsimp only; omega) ⟨rfl, rfl, rfl, rfl, rfl, (some_int (by omega)), trivial⟩ (fun _ hm => hm.pick [1, 2] [0] [0] rfl rfl)
      · refine wl_callv rfl cb35 rfl rfl (fun wx hm => (tbegin_any A n c0 fr tt v k wx h0 (by omega) (by omega))) ?_
        refine wl_nil ?_
        refine nx_wa0 (listed' := #[true, false, true, true, true, true, true, false, false, false, false, false, false]) rfl (fun _ hm => ⟨hm.blkI 1 rfl, hm.fact 0 rfl, trivial⟩) ?_
        refine wa_take 7 rfl (by kernel_rfl) (by kernel_rfl) (by kernel_rfl) (listed' := #[true, false, true, true, true, true, true, true, false, false, false, false, false]) rfl (fun _ _ _ h => h) (fun _ hm => ⟨hm.blkI 1 rfl, hm.fact 0 rfl, trivial⟩) (ov_quo rfl rfl (by omega) (by omega) (by omega)) rfl ?_
        refine wa_all [1, 8] (by kernel_rfl) rfl ⟨⟨_, rfl, ?_⟩, ⟨_, rfl, ?_⟩, trivial⟩
        · refine wl_ov (ov_load sc22 rfl (fun _ hm => hm.blkI 0 rfl) rfl) rfl ?_
          refine wl_nil ?_
          refine nx_wa0 (listed' := #[true, true, true, true, true, true, true, true, false, false, false, false, false]) rfl (fun _ hm => ⟨hm.blkI 1 rfl, hm.fact 0 rfl, trivial⟩) ?_
          refine wa_all [8] (by kernel_rfl) rfl ⟨⟨_, rfl, ?_⟩, trivial⟩
          refine wl_callv (v := .int .i64 S) rfl cb34 rfl rfl (fun wx hm => (by rw [hS]; exact rateOn_any l A n c0 c (begV fr k / 1440) wx (hm.fact 0 rfl).1 hn hpos)) ?_
          refine wl_nil ?_
          refine nx_wa0 (listed' := #[true, true, true, true, true, true, true, true, true, false, false, false, false]) rfl (fun _ hm => ⟨hm.blkI 1 rfl, hm.fact 0 rfl, trivial⟩) ?_
          refine wa_all [9] (by kernel_rfl) rfl ⟨⟨_, rfl, ?_⟩, trivial⟩
          refine wl_buildSlice (e := 3) (cs := [.int .i64 S]) rfl (by kernel_rfl) rfl fun g6 => ?_
          refine wl_nil ?_
          refine nx_wa0 (listed' := #[true, true, true, true, true, true, true, true, true, true, false, false, false]) rfl (fun _ hm => ⟨hm.blkI 2 rfl, hm.fact 0 rfl, trivial⟩) ?_
          refine wa_all [10] (by kernel_rfl) rfl ⟨⟨_, rfl, ?_⟩, trivial⟩
          refine wl_append (news := [.int .i64 S]) 0 0 ap22 rfl rfl rfl rfl rfl rfl rfl (by omega) (by unfold maxLen; omega) rfl rfl fun v2 hv2 => ?_
          refine wl_look (R := ∃ A cc, v2 = .slice A (k + 1) cc) (fun wx hm => own_slice (hm.ownI 0 rfl)) ?_
          rintro ⟨A9, c9, rfl⟩
          refine wl_nil ?_
          refine nx_wa0 (listed' := #[true, true, true, true, true, true, true, true, true, true, true, false, false]) rfl (fun _ hm => ⟨hm.blkI 2 rfl, hm.fact 0 rfl, trivial⟩) ?_
          refine wa_take 11 rfl (by kernel_rfl) (by kernel_rfl) (by kernel_rfl) (listed' := #[true, true, true, true, true, true, true, true, true, true, true, true, false]) rfl (fun _ _ _ h => h) (fun _ hm => ⟨hm.blkI 2 rfl, hm.fact 0 rfl, trivial⟩) (ov_field fo54_2 rfl rfl) rfl ?_
          refine wa_all [12] (by kernel_rfl) rfl ⟨⟨_, rfl, ?_⟩, trivial⟩
          refine wl_store 1 sc22 rfl rfl rfl rfl rfl rfl ?_
          refine wl_nil ?_
          refine nx_wa0 (listed' := #[true, true, true, true, true, true, true, true, true, true, true, true, true]) rfl (fun _ hm => ⟨hm.blkI 2 rfl, hm.fact 0 rfl, trivial⟩) ?_
          refine wa_done (by kernel_rfl) ?_
          refine nx_blk_nrm ?_
          refine nx_then ?_
          refine gw_region ?_
          refine wl_ov (ov_add rfl rfl (by omega) (by omega)) rfl ?_
          refine wl_ov (ov_move rfl) rfl ?_
          refine wl_nil ?_
          exact nx_round (k + 1, .slice A9 (k + 1) c9, (seasons l c fr k).flatMap itEnc ++ ([.int .i64 S] : List Value)) ⟨by dsimp only; omega, by rw [hS, seasons_succ]; simp [itEnc]⟩ (by dsimp only; omega) ⟨rfl, rfl, rfl, rfl, rfl, (some_int (by omega)), trivial⟩ (fun _ hm => hm.pick [1, 2] [0] [0] rfl rfl)
        · refine wl_callv (v := .int .i64 S) rfl cb34 rfl rfl (fun wx hm => (by rw [hS]; exact rateOn_any l A n c0 c (begV fr k / 1440) wx (hm.fact 0 rfl).1 hn hpos)) ?_
          refine wl_nil ?_
          refine nx_wa0 (listed' := #[true, false, true, true, true, true, true, true, true, false, false, false, false]) rfl (fun _ hm => ⟨hm.blkI 1 rfl, hm.fact 0 rfl, trivial⟩) ?_
          refine wa_all [1, 9] (by kernel_rfl) rfl ⟨⟨_, rfl, ?_⟩, ⟨_, rfl, ?_⟩, trivial⟩
          · refine wl_ov (ov_load sc22 rfl (fun _ hm => hm.blkI 0 rfl) rfl) rfl ?_
            refine wl_nil ?_
            refine nx_wa0 (listed' := #[true, true, true, true, true, true, true, true, true, false, false, false, false]) rfl (fun _ hm => ⟨hm.blkI 1 rfl, hm.fact 0 rfl, trivial⟩) ?_
            refine wa_all [9] (by kernel_rfl) rfl ⟨⟨_, rfl, ?_⟩, trivial⟩
            refine wl_buildSlice (e := 3) (cs := [.int .i64 S]) rfl (by kernel_rfl) rfl fun g7 => ?_
            refine wl_nil ?_
            refine nx_wa0 (listed' := #[true, true, true, true, true, true, true, true, true, true, false, false, false]) rfl (fun _ hm => ⟨hm.blkI 2 rfl, hm.fact 0 rfl, trivial⟩) ?_
            refine wa_all [10] (by kernel_rfl) rfl ⟨⟨_, rfl, ?_⟩, trivial⟩
            refine wl_append (news := [.int .i64 S]) 0 0 ap22 rfl rfl rfl rfl rfl rfl rfl (by omega) (by unfold maxLen; omega) rfl rfl fun v2 hv2 => ?_
            refine wl_look (R := ∃ A cc, v2 = .slice A (k + 1) cc) (fun wx hm => own_slice (hm.ownI 0 rfl)) ?_
            rintro ⟨A9, c9, rfl⟩
            refine wl_nil ?_
            refine nx_wa0 (listed' := #[true, true, true, true, true, true, true, true, true, true, true, false, false]) rfl (fun _ hm => ⟨hm.blkI 2 rfl, hm.fact 0 rfl, trivial⟩) ?_
            refine wa_take 11 rfl (by kernel_rfl) (by kernel_rfl) (by kernel_rfl) (listed' := #[true, true, true, true, true, true, true, true, true, true, true, true, false]) rfl (fun _ _ _ h => h) (fun _ hm => ⟨hm.blkI 2 rfl, hm.fact 0 rfl, trivial⟩) (ov_field fo54_2 rfl rfl) rfl ?_
            refine wa_all [12] (by kernel_rfl) rfl ⟨⟨_, rfl, ?_⟩, trivial⟩
            refine wl_store 1 sc22 rfl rfl rfl rfl rfl rfl ?_
            refine wl_nil ?_
            refine nx_wa0 (listed' := #[true, true, true, true, true, true, true, true, true, true, true, true, true]) rfl (fun _ hm => ⟨hm.blkI 2 rfl, hm.fact 0 rfl, trivial⟩) ?_
            refine wa_done (by kernel_rfl) ?_
            refine nx_blk_nrm ?_
            refine nx_then ?_
            refine gw_region ?_
            refine wl_ov (ov_add rfl rfl (by omega) (by omega)) rfl ?_
            refine wl_ov (ov_move rfl) rfl ?_
            refine wl_nil ?_
            exact nx_round (k + 1, .slice A9 (k + 1) c9, (seasons l c fr k).flatMap itEnc ++ ([.int .i64 S] : List Value)) ⟨by dsimp only; omega, by rw [hS, seasons_succ]; simp [itEnc]⟩ (by dsimp only; omega) ⟨rfl, rfl, rfl, rfl, rfl, (some_int (by omega)), trivial⟩ (fun _ hm => hm.pick [1, 2] [0] [0] rfl rfl)
          · refine wl_buildSlice (e := 3) (cs := [.int .i64 S]) rfl (by kernel_rfl) rfl fun g8 => ?_
            refine wl_nil ?_
            refine nx_wa0 (listed' := #[true, false, true, true, true, true, true, true, true, true, false, false, false]) rfl (fun _ hm => ⟨hm.blkI 2 rfl, hm.fact 0 rfl, trivial⟩) ?_
            refine wa_all [1] (by kernel_rfl) rfl ⟨⟨_, rfl, ?_⟩, trivial⟩
            refine wl_ov (ov_load sc22 rfl (fun _ hm => hm.blkI 1 rfl) rfl) rfl ?_
            refine wl_nil ?_
            refine nx_wa0 (listed' := #[true, true, true, true, true, true, true, true, true, true, false, false, false]) rfl (fun _ hm => ⟨hm.blkI 2 rfl, hm.fact 0 rfl, trivial⟩) ?_
            refine wa_all [10] (by kernel_rfl) rfl ⟨⟨_, rfl, ?_⟩, trivial⟩
            refine wl_append (news := [.int .i64 S]) 0 0 ap22 rfl rfl rfl rfl rfl rfl rfl (by omega) (by unfold maxLen; omega) rfl rfl fun v2 hv2 => ?_
            refine wl_look (R := ∃ A cc, v2 = .slice A (k + 1) cc) (fun wx hm => own_slice (hm.ownI 0 rfl)) ?_
            rintro ⟨A9, c9, rfl⟩
            refine wl_nil ?_
            refine nx_wa0 (listed' := #[true, true, true, true, true, true, true, true, true, true, true, false, false]) rfl (fun _ hm => ⟨hm.blkI 2 rfl, hm.fact 0 rfl, trivial⟩) ?_
            refine wa_take 11 rfl (by kernel_rfl) (by kernel_rfl) (by kernel_rfl) (listed' := #[true, true, true, true, true, true, true, true, true, true, true, true, false]) rfl (fun _ _ _ h => h) (fun _ hm => ⟨hm.blkI 2 rfl, hm.fact 0 rfl, trivial⟩) (ov_field fo54_2 rfl rfl) rfl ?_
            refine wa_all [12] (by kernel_rfl) rfl ⟨⟨_, rfl, ?_⟩, trivial⟩
            refine wl_store 1 sc22 rfl rfl rfl rfl rfl rfl ?_
            refine wl_nil ?_
            refine nx_wa0 (listed' := #[true, true, true, true, true, true, true, true, true, true, true, true, true]) rfl (fun _ hm => ⟨hm.blkI 2 rfl, hm.fact 0 rfl, trivial⟩) ?_
            refine wa_done (by kernel_rfl) ?_
            refine nx_blk_nrm ?_
            refine nx_then ?_
            refine gw_region ?_
            refine wl_ov (ov_add rfl rfl (by omega) (by omega)) rfl ?_
            refine wl_ov (ov_move rfl) rfl ?_
            refine wl_nil ?_
            exact nx_round (k + 1, .slice A9 (k + 1) c9, (seasons l c fr k).flatMap itEnc ++ ([.int .i64 S] : List Value)) ⟨by dsimp only; omega, by rw [hS, seasons_succ]; simp [itEnc]⟩ (by dsimp only; omega) ⟨rfl, rfl, rfl, rfl, rfl, (some_int (by omega)), trivial⟩ (fun _ hm => hm.pick [1, 2] [0] [0] rfl rfl)
  · have hk : ¬ (((k : Nat) : Int) < ((D : Nat) : Int)) := by simpa using hh
    clear hh
    refine gw_exit ?_
    refine nx_then_exit ?_
    refine nx_then_exit ?_
    refine nx_blk_here ?_
    refine nx_then ?_
    refine gw_seq ?_
    refine gw_region ?_
    have hkD : k = D := by omega
    subst hkD
    refine wl_look (R := ∃ A cc, v = .slice A k cc) (fun wx hm => own_slice (hm.ownI 0 rfl)) ?_
    rintro ⟨A2, c2, rfl⟩
    refine wl_ov (ov_loads rz54 rfl (fun _ hm => hm.blkI 0 rfl) rfl rfl) rfl ?_
    refine wl_stores (cs' := [.slice A n c0, .int .i64 fr, .int .i64 tt, .slice A2 k c2]) 1 rz54 rfl rfl rfl rfl rfl rfl rfl rfl ?_
    refine wl_nil ?_
    refine nx_then ?_
    refine gw_ret ?_
    refine nx_retc 1 rfl rz54 rfl rfl rfl fun wx hm => ?_
    exact ⟨A2, c2, rfl, hm.g, SlT.ofOwn it_len (hm.ownI 0 rfl) (seasons_len ..), own_cap (hm.ownI 0 rfl)⟩

end Go.Proofs.Ytcggbojhalbkjaa
