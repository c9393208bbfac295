/- The reference's LinesFault, SumOf; slices.Equal at lines; the generator BillLines. -/
import Derived.Test.YtmpomocahgcebaaDoorTot
import Derived.Test.YtmpomocahgcebaaDoorTy
import Derived.Test.YtmpomocahgcebaaDoorRt
import Derived.Test.YtmpomocahgcebaaDoorSe
import Derived.Test.YtmpomocahgcebaaDoorGb
import Derived.Test.YtmpomocahgcebaaDoorGt
import Derived.Test.YtmpomocahgcebaaDoorSw
import Derived.Test.YtmpomocahgcebaaDoorSi
namespace Go.Proofs.YtmpomocahgcebaaDoor
open Go.RowKit

set_option maxRecDepth 100000 in
set_option maxHeartbeats 400000 in
theorem linesFault_any (l : List Ln) (A : Option Addr) (n c : Nat) (w : World) (hl : SlT lnEnc 3 133 w A n l) (hok : ∀ x ∈ l, LnOk x) (hn : n ≤ 1000000) :
    Calls Tryd.prog 24 #[.slice A n c] w (GotE w (linesE l)) := by
  refine gw_enter ⟨30, w, none, []⟩ Tryd.func24 rfl Tryd.ntmps24 rfl (mem0 (X := [SlOld lnEnc 3 133 w.heap.size none A n l]) (allF_cons hl.old allF_nil) (allL_cons SlOld.lasts allL_nil)) ?_
  refine gw_seq ?_
  refine gw_region ?_
  have hlen := hl.len
  refine wl_ov (ov_assign rfl) rfl ?_
  refine wl_nil ?_
  refine nx_then ?_
  refine gw_seq ?_
  refine gw_seq ?_
  refine gw_region ?_
  refine wl_ov (ov_move rfl) rfl ?_
  refine wl_ov (ov_len es44 rfl) rfl ?_
  refine wl_ov (ov_gtr rfl rfl) rfl ?_
  refine wl_nil ?_
  refine nx_then ?_
  refine gw_cond rfl (fun hh => ?_) (fun hh => ?_)
  · have h1 : 1000 < ((n : Nat) : Int) := by simpa using hh
    clear hh
    refine gw_seq ?_
    refine gw_region ?_
    refine wl_ov (ov_assign rfl) rfl ?_
    refine wl_nil ?_
    refine nx_then ?_
    refine gw_ret ?_
    refine nx_then_ret ?_
    refine nx_ret1 rfl rfl fun wx hm => ?_
    exact ⟨ret_int (by unfold linesE; rw [if_pos (by omega)]), hm.g⟩
  · have h1 : ¬ (1000 < ((n : Nat) : Int)) := by simpa using hh
    clear hh
    refine gw_skip ?_
    refine nx_then ?_
    refine gw_seq ?_
    refine gw_seq ?_
    refine gw_region ?_
    refine wl_ov (ov_move rfl) rfl ?_
    refine wl_ov (ov_len es44 rfl) rfl ?_
    refine wl_ov (ov_move rfl) rfl ?_
    refine wl_nil ?_
    refine nx_then ?_
    refine gw_block ?_
    refine gw_loop (γ := Nat) (fun (k : Nat) => k ≤ n ∧ linesE l = scanE lineE (prevOf l k) (l.drop k)) (fun (k : Nat) => [(8, .slice A n c), (9, .int .i64 ((n : Nat) : Int)), (10, .int .i64 ((k : Nat) : Int))]) (fun (k : Nat) => fun _ => True) (fun (k : Nat) => []) (fun (k : Nat) => []) (fun (k : Nat) => [SlOld lnEnc 3 133 w.heap.size none A n l]) (fun (k : Nat) => n - k) 0 ⟨Nat.zero_le _, by unfold linesE; rw [if_neg (by omega)]; rfl⟩ ⟨rfl, rfl, rfl, trivial⟩ (fun _ hm => hm.pick [] [] [0] rfl rfl) ?_
    intro k hinv
    replace hinv : k ≤ n ∧ linesE l = scanE lineE (prevOf l k) (l.drop k) := hinv
    refine gw_seq ?_
    refine gw_region ?_
    refine wl_ov (ov_lss rfl rfl) rfl ?_
    refine wl_nil ?_
    refine nx_then ?_
    refine gw_seq ?_
    refine gw_cond rfl (fun hh => ?_) (fun hh => ?_)
    · have hk : ((k : Nat) : Int) < ((n : Nat) : Int) := by simpa using hh
      clear hh
      refine gw_skip ?_
      refine nx_then ?_
      refine gw_seq ?_
      refine gw_block ?_
      refine gw_seq ?_
      refine gw_region ?_
      obtain ⟨b, off, hA, _, _⟩ := hl.get (by omega)
      subst hA
      obtain ⟨x, hx⟩ : ∃ x, l[k]? = some x := ⟨_, List.getElem?_eq_getElem (by omega)⟩
      obtain ⟨kind, key, cents⟩ := x
      have hks : key.size ≤ 1000000 := hok _ (List.mem_of_getElem? hx)
      have hat := scanE_at lineE l k _ hx
      refine wl_ov (ov_index (j := k) es44 rfl rfl (by omega)) rfl ?_
      refine wl_ov (ov_elem (vs := [.int .i64 kind, .string key, .int .i64 cents]) rz133 rfl (fun _ hm => (hm.fact 0 rfl).1) hx rfl rfl) rfl ?_
      refine wl_alloc zc133 rfl fun g1 => ?_
      refine wl_stores (cs' := [.int .i64 kind, .string key, .int .i64 cents]) 0 rz133 rfl rfl rfl rfl rfl rfl rfl rfl ?_
      refine wl_nil ?_
      refine nx_then ?_
      refine gw_block ?_
      refine gw_seq ?_
      refine gw_region ?_
      refine wl_ov (ov_field fo133_0 rfl rfl) rfl ?_
      refine wl_ov (ov_load sc3 rfl (fun _ hm => hm.blkI 0 rfl) rfl) rfl ?_
      refine wl_callw rfl cb91 rfl rfl (fun wx hm => (rin_any _ _ _ wx)) ?_
      refine wl_ov (ov_un_not rfl) rfl ?_
      refine wl_ov (ov_assign rfl) rfl ?_
      refine wl_nil ?_
      refine nx_then ?_
      refine gw_cond rfl (fun hh => ?_) (fun hh => ?_)
      · have h2 : (inB kind 1 6) = false := by simpa using hh
        clear hh
        refine gw_seq ?_
        refine gw_region ?_
        have hE : lineE (prevOf l k) ⟨kind, key, cents⟩ = 4 := by unfold lineE; simp [h2]
        refine wl_ov (ov_assign rfl) rfl ?_
        refine wl_nil ?_
        refine nx_then ?_
        refine gw_ret ?_
        refine nx_blk_ret ?_
        refine nx_blk_ret ?_
        refine nx_then_ret ?_
        refine nx_then_ret ?_
        refine nx_blk_ret ?_
        refine nx_then_ret ?_
        refine nx_ret1 rfl rfl fun wx hm => ?_
        exact ⟨ret_int (by rw [hinv.2, hat, if_neg (by rw [hE]; decide), hE]), hm.g⟩
      · have h2 : (inB kind 1 6) = true := by simpa using hh
        clear hh
        refine gw_seq ?_
        refine gw_region ?_
        refine wl_ov (ov_field fo133_1 rfl rfl) rfl ?_
        refine wl_ov (ov_load sc9 rfl (fun _ hm => hm.blkI 0 rfl) rfl) rfl ?_
        refine wl_callv rfl cb90 rfl rfl (fun wx hm => (key_any _ wx (by omega))) ?_
        refine wl_ov (ov_un_not rfl) rfl ?_
        refine wl_ov (ov_assign rfl) rfl ?_
        refine wl_nil ?_
        refine nx_then ?_
        refine gw_cond rfl (fun hh => ?_) (fun hh => ?_)
        · have h3 : (keyB key) = false := by simpa using hh
          clear hh
          refine gw_seq ?_
          refine gw_region ?_
          have hE : lineE (prevOf l k) ⟨kind, key, cents⟩ = 5 := by unfold lineE; simp [h2, h3]
          refine wl_ov (ov_assign rfl) rfl ?_
          refine wl_nil ?_
          refine nx_then ?_
          refine gw_ret ?_
          refine nx_blk_ret ?_
          refine nx_blk_ret ?_
          refine nx_then_ret ?_
          refine nx_then_ret ?_
          refine nx_blk_ret ?_
          refine nx_then_ret ?_
          refine nx_ret1 rfl rfl fun wx hm => ?_
          exact ⟨ret_int (by rw [hinv.2, hat, if_neg (by rw [hE]; decide), hE]), hm.g⟩
        · have h3 : (keyB key) = true := by simpa using hh
          clear hh
          refine gw_seq ?_
          refine gw_region ?_
          refine wl_ov (ov_field fo133_2 rfl rfl) rfl ?_
          refine wl_ov (ov_load sc3 rfl (fun _ hm => hm.blkI 0 rfl) rfl) rfl ?_
          refine wl_callw rfl cb91 rfl rfl (fun wx hm => (rin_any _ _ _ wx)) ?_
          refine wl_ov (ov_un_not rfl) rfl ?_
          refine wl_ov (ov_assign rfl) rfl ?_
          refine wl_nil ?_
          refine nx_then ?_
          refine gw_cond rfl (fun hh => ?_) (fun hh => ?_)
          · have h4 : (inB cents (-1000000000) 1000000000) = false := by simpa using hh
            clear hh
            refine gw_seq ?_
            refine gw_region ?_
            have hE : lineE (prevOf l k) ⟨kind, key, cents⟩ = 1 := by unfold lineE; simp [h2, h3, h4]
            refine wl_ov (ov_assign rfl) rfl ?_
            refine wl_nil ?_
            refine nx_then ?_
            refine gw_ret ?_
            refine nx_blk_ret ?_
            refine nx_blk_ret ?_
            refine nx_then_ret ?_
            refine nx_then_ret ?_
            refine nx_blk_ret ?_
            refine nx_then_ret ?_
            refine nx_ret1 rfl rfl fun wx hm => ?_
            exact ⟨ret_int (by rw [hinv.2, hat, if_neg (by rw [hE]; decide), hE]), hm.g⟩
          · have h4 : (inB cents (-1000000000) 1000000000) = true := by simpa using hh
            clear hh
            refine gw_skip ?_
            refine nx_blk_nrm ?_
            refine nx_blk_nrm ?_
            refine nx_then ?_
            refine gw_region ?_
            have hE : lineE (prevOf l k) ⟨kind, key, cents⟩ = 0 := by unfold lineE; simp [h2, h3, h4]
            refine wl_ov (ov_add rfl rfl (by omega) (by omega)) rfl ?_
            refine wl_ov (ov_move rfl) rfl ?_
            refine wl_nil ?_
            exact nx_round (k + 1) ⟨by omega, by rw [hinv.2, hat, if_pos hE]⟩ (by omega) ⟨rfl, rfl, (some_int (by omega)), trivial⟩ (fun _ hm => hm.pick [] [] [0] rfl rfl)
    · have hk : ¬ (((k : Nat) : Int) < ((n : Nat) : Int)) := by simpa using hh
      clear hh
      refine gw_exit ?_
      refine nx_then_exit ?_
      refine nx_then_exit ?_
      refine nx_blk_here ?_
      refine nx_then ?_
      refine gw_seq ?_
      refine gw_region ?_
      refine wl_ov (ov_assign rfl) rfl ?_
      refine wl_nil ?_
      refine nx_then ?_
      refine gw_ret ?_
      refine nx_ret1 rfl rfl fun wx hm => ?_
      exact ⟨ret_int (by rw [hinv.2, scanE_end _ _ _ _ (by omega)]), hm.g⟩

set_option maxRecDepth 100000 in
set_option maxHeartbeats 400000 in
theorem sumOf_any (l : List Ln) (A : Option Addr) (n c : Nat) (w : World) (hl : SlT lnEnc 3 133 w A n l) (hb : ∀ x ∈ l, -1000000000000 ≤ x.cents ∧ x.cents ≤ 1000000000000) (hn : n ≤ 1000000) :
    Calls Tryd.prog 81 #[.slice A n c] w (GotE w (sumBy centsOf l)) := by
  refine gw_enter ⟨18, w, none, []⟩ Tryd.func81 rfl Tryd.ntmps81 rfl (mem0 (X := [SlOld lnEnc 3 133 w.heap.size none A n l]) (allF_cons hl.old allF_nil) (allL_cons SlOld.lasts allL_nil)) ?_
  refine gw_seq ?_
  refine gw_region ?_
  have hlen := hl.len
  refine wl_ov (ov_assign rfl) rfl ?_
  refine wl_nil ?_
  refine nx_then ?_
  refine gw_seq ?_
  refine gw_region ?_
  refine wl_ov (ov_assign rfl) rfl ?_
  refine wl_nil ?_
  refine nx_then ?_
  refine gw_seq ?_
  refine gw_seq ?_
  refine gw_region ?_
  refine wl_ov (ov_move rfl) rfl ?_
  refine wl_ov (ov_len es44 rfl) rfl ?_
  refine wl_ov (ov_move rfl) rfl ?_
  refine wl_nil ?_
  refine nx_then ?_
  refine gw_block ?_
  refine gw_loop (γ := Nat) (fun (k : Nat) => k ≤ n) (fun (k : Nat) => [(2, .int .i64 0), (3, .int .i64 (sumBy centsOf (l.take k))), (6, .slice A n c), (7, .int .i64 ((n : Nat) : Int)), (8, .int .i64 ((k : Nat) : Int))]) (fun (k : Nat) => fun _ => True) (fun (k : Nat) => []) (fun (k : Nat) => []) (fun (k : Nat) => [SlOld lnEnc 3 133 w.heap.size none A n l]) (fun (k : Nat) => n - k) 0 (Nat.zero_le _) ⟨rfl, rfl, rfl, rfl, rfl, trivial⟩ (fun _ hm => hm.pick [] [] [0] rfl rfl) ?_
  intro k hinv
  replace hinv : k ≤ n := hinv
  refine gw_seq ?_
  refine gw_region ?_
  refine wl_ov (ov_lss rfl rfl) rfl ?_
  refine wl_nil ?_
  refine nx_then ?_
  refine gw_seq ?_
  refine gw_cond rfl (fun hh => ?_) (fun hh => ?_)
  · have hk : ((k : Nat) : Int) < ((n : Nat) : Int) := by simpa using hh
    clear hh
    refine gw_skip ?_
    refine nx_then ?_
    refine gw_seq ?_
    refine gw_block ?_
    refine gw_seq ?_
    refine gw_region ?_
    obtain ⟨b, off, hA, _, _⟩ := hl.get (by omega)
    subst hA
    obtain ⟨x, hx⟩ : ∃ x, l[k]? = some x := ⟨_, List.getElem?_eq_getElem (by omega)⟩
    obtain ⟨kind, key, cents⟩ := x
    have hs1 := sumBy_take centsOf hx
    have hb1 := sumBy_bound (l := l.take k) (f := centsOf) (fun x hx => hb x (List.mem_of_mem_take hx))
    have hb2 : (l.take k).length = k := by simp; omega
    rw [hb2] at hb1
    have hc := hb _ (List.mem_of_getElem? hx)
    have hc0 : -1000000000000 ≤ cents := hc.1
    have hc1 : cents ≤ 1000000000000 := hc.2
    have hs2 : sumBy centsOf (l.take (k + 1)) = sumBy centsOf (l.take k) + cents := hs1
    refine wl_ov (ov_index (j := k) es44 rfl rfl (by omega)) rfl ?_
    refine wl_ov (ov_elem (vs := [.int .i64 kind, .string key, .int .i64 cents]) rz133 rfl (fun _ hm => (hm.fact 0 rfl).1) hx rfl rfl) rfl ?_
    refine wl_alloc zc133 rfl fun g1 => ?_
    refine wl_stores (cs' := [.int .i64 kind, .string key, .int .i64 cents]) 0 rz133 rfl rfl rfl rfl rfl rfl rfl rfl ?_
    refine wl_nil ?_
    refine nx_then ?_
    refine gw_region ?_
    refine wl_ov (ov_move rfl) rfl ?_
    refine wl_ov (ov_field fo133_2 rfl rfl) rfl ?_
    refine wl_ov (ov_load sc3 rfl (fun _ hm => hm.blkI 0 rfl) rfl) rfl ?_
    refine wl_ov (ov_add rfl rfl (by omega) (by omega)) rfl ?_
    refine wl_ov (ov_assign rfl) rfl ?_
    refine wl_nil ?_
    refine nx_blk_nrm ?_
    refine nx_then ?_
    refine gw_region ?_
    refine wl_ov (ov_add rfl rfl (by omega) (by omega)) rfl ?_
    refine wl_ov (ov_move rfl) rfl ?_
    refine wl_nil ?_
    exact nx_round (k + 1) (by omega) (by omega) ⟨rfl, (some_int hs2.symm), rfl, rfl, (some_int (by omega)), trivial⟩ (fun _ hm => hm.pick [] [] [0] rfl rfl)
  · have hk : ¬ (((k : Nat) : Int) < ((n : Nat) : Int)) := by simpa using hh
    clear hh
    refine gw_exit ?_
    refine nx_then_exit ?_
    refine nx_then_exit ?_
    refine nx_blk_here ?_
    refine nx_then ?_
    refine gw_seq ?_
    refine gw_region ?_
    refine wl_ov (ov_move rfl) rfl ?_
    refine wl_ov (ov_assign rfl) rfl ?_
    refine wl_nil ?_
    refine nx_then ?_
    refine gw_ret ?_
    refine nx_ret1 rfl rfl fun wx hm => ?_
    exact ⟨ret_int (by rw [List.take_of_length_le (by omega)]), hm.g⟩

set_option maxRecDepth 100000 in
theorem same_line_neq (x0 : Int) (x1 : ByteArray) (x2 : Int) (w : World) : (binOp .neq 133 (.agg #[.int .i64 x0, .string x1, .int .i64 x2]) (.agg #[.int .i64 x0, .string x1, .int .i64 x2])).run Tryd.prog w = .ok (.bool false) w := by
  have hS : Tryd.prog.underlying 133 = some (.struct (Tryd.prog.fieldsOf 133)) := by kernel_rfl
  have hp : Tryd.prog.stoodInHeld 133 = false := by kernel_rfl
  rw [run_neq_struct, show (10000 : Nat) = 9999 + 1 from rfl, run_equalIn_agg w 9999 133 _ _ hS hp]
  simp only [Program.fieldsOf, Tryd.underlying133]
  have u3 := Tryd.underlying3
  have u9 := Tryd.underlying9
  clear hS hp
  go_simp
set_option maxRecDepth 100000 in
theorem same_line_eql (x0 : Int) (x1 : ByteArray) (x2 : Int) (w : World) : (binOp .eql 133 (.agg #[.int .i64 x0, .string x1, .int .i64 x2]) (.agg #[.int .i64 x0, .string x1, .int .i64 x2])).run Tryd.prog w = .ok (.bool true) w := by
  have hS : Tryd.prog.underlying 133 = some (.struct (Tryd.prog.fieldsOf 133)) := by kernel_rfl
  have hp : Tryd.prog.stoodInHeld 133 = false := by kernel_rfl
  rw [run_eql_struct, show (10000 : Nat) = 9999 + 1 from rfl, run_equalIn_agg w 9999 133 _ _ hS hp]
  simp only [Program.fieldsOf, Tryd.underlying133]
  have u3 := Tryd.underlying3
  have u9 := Tryd.underlying9
  clear hS hp
  go_simp
theorem guard_line : Tryd.prog.eqGuardType Tryd.prog.depth 133 = false := by kernel_rfl

set_option maxRecDepth 100000 in
set_option maxHeartbeats 400000 in
theorem equal_line_any (l : List Ln) (A1 A2 : Option Addr) (n c1 c2 : Nat) (w : World) (h1 : SlT lnEnc 3 133 w A1 n l) (h2 : SlT lnEnc 3 133 w A2 n l) (hn : n ≤ 1000000) :
    Calls Tryd.prog 84 #[.slice A1 n c1, .slice A2 n c2] w (fun e w' => e = .returned (.bool true) ∧ w.grownBy w' none) := by
  refine gw_enter ⟨26, w, none, []⟩ Tryd.func84 rfl Tryd.ntmps84 rfl (mem0 (X := [SlOld lnEnc 3 133 w.heap.size none A1 n l, SlOld lnEnc 3 133 w.heap.size none A2 n l]) (allF_cons h1.old (allF_cons h2.old allF_nil)) (allL_cons SlOld.lasts (allL_cons SlOld.lasts allL_nil))) ?_
  refine gw_seq ?_
  refine gw_region ?_
  have hlen := h1.len
  refine wl_ov (ov_assign rfl) rfl ?_
  refine wl_nil ?_
  refine nx_then ?_
  refine gw_seq ?_
  refine gw_seq ?_
  refine gw_region ?_
  refine wl_ov (ov_move rfl) rfl ?_
  refine wl_ov (ov_len es44 rfl) rfl ?_
  refine wl_ov (ov_move rfl) rfl ?_
  refine wl_ov (ov_len es44 rfl) rfl ?_
  refine wl_ov (ov_neq rfl rfl) rfl ?_
  refine wl_set 10 (v' := .bool false) rfl (congrArg Value.bool (by simp)) ?_
  refine wl_nil ?_
  refine nx_then ?_
  refine gw_cond rfl (fun hh => by cases hh) (fun _ => ?_)
  refine gw_skip ?_
  refine nx_then ?_
  refine gw_seq ?_
  refine gw_seq ?_
  refine gw_region ?_
  refine wl_ov (ov_move rfl) rfl ?_
  refine wl_ov (ov_len es44 rfl) rfl ?_
  refine wl_ov (ov_move rfl) rfl ?_
  refine wl_nil ?_
  refine nx_then ?_
  refine gw_block ?_
  refine gw_loop (γ := Nat) (fun (k : Nat) => k ≤ n) (fun (k : Nat) => [(0, .slice A1 n c1), (1, .slice A2 n c2), (12, .int .i64 ((n : Nat) : Int)), (13, .int .i64 ((k : Nat) : Int))]) (fun (k : Nat) => fun _ => True) (fun (k : Nat) => []) (fun (k : Nat) => []) (fun (k : Nat) => [SlOld lnEnc 3 133 w.heap.size none A1 n l, SlOld lnEnc 3 133 w.heap.size none A2 n l]) (fun (k : Nat) => n - k) 0 (Nat.zero_le _) ⟨rfl, rfl, rfl, rfl, trivial⟩ (fun _ hm => hm.pick [] [] [0, 1] rfl rfl) ?_
  intro k hinv
  replace hinv : k ≤ n := hinv
  refine gw_seq ?_
  refine gw_region ?_
  refine wl_ov (ov_lss rfl rfl) rfl ?_
  refine wl_nil ?_
  refine nx_then ?_
  refine gw_seq ?_
  refine gw_cond rfl (fun hh => ?_) (fun hh => ?_)
  · have hk : ((k : Nat) : Int) < ((n : Nat) : Int) := by simpa using hh
    clear hh
    refine gw_skip ?_
    refine nx_then ?_
    refine gw_seq ?_
    refine gw_block ?_
    refine gw_seq ?_
    refine gw_region ?_
    obtain ⟨b1, o1, hA, _, _⟩ := h1.get (by omega)
    subst hA
    obtain ⟨b2, o2, hA, _, _⟩ := h2.get (by omega)
    subst hA
    obtain ⟨x, hx⟩ : ∃ x, l[k]? = some x := ⟨_, List.getElem?_eq_getElem (by omega)⟩
    obtain ⟨x0, x1, x2⟩ := x
    refine wl_ov (ov_move rfl) rfl ?_
    refine wl_ov (ov_assign rfl) rfl ?_
    refine wl_nil ?_
    refine nx_then ?_
    refine gw_seq ?_
    refine gw_draw (fun wz => (SlOld lnEnc 3 133 w.heap.size none (some ⟨b1, o1, none⟩) n l) wz ∧ (SlOld lnEnc 3 133 w.heap.size none (some ⟨b2, o2, none⟩) n l) wz ∧ True) mixed ?_
    refine wa_take 0 rfl (by kernel_rfl) (by kernel_rfl) (by kernel_rfl) (listed' := #[true, false, false, false, false, false, false, false, false]) rfl (fun _ _ _ h => h) (fun _ hm => ⟨hm.fact 0 rfl, hm.fact 1 rfl, trivial⟩) (ov_move rfl) rfl ?_
    refine wa_take 1 rfl (by kernel_rfl) (by kernel_rfl) (by kernel_rfl) (listed' := #[true, true, false, false, false, false, false, false, false]) rfl (fun _ _ _ h => h) (fun _ hm => ⟨hm.fact 0 rfl, hm.fact 1 rfl, trivial⟩) (ov_move rfl) rfl ?_
    refine wa_take 2 rfl (by kernel_rfl) (by kernel_rfl) (by kernel_rfl) (listed' := #[true, true, true, false, false, false, false, false, false]) rfl (fun _ _ _ h => h) (fun _ hm => ⟨hm.fact 0 rfl, hm.fact 1 rfl, trivial⟩) (ov_index (j := k) es44 rfl rfl (by omega)) rfl ?_
    refine wa_take 3 rfl (by kernel_rfl) (by kernel_rfl) (by kernel_rfl) (listed' := #[true, true, true, true, false, false, false, false, false]) rfl (fun _ _ _ h => h) (fun _ hm => ⟨hm.fact 0 rfl, hm.fact 1 rfl, trivial⟩) (ov_elem (vs := [.int .i64 x0, .string x1, .int .i64 x2]) rz133 rfl (fun _ hm => (hm.1).1) hx rfl rfl) rfl ?_
    refine wa_take 4 rfl (by kernel_rfl) (by kernel_rfl) (by kernel_rfl) (listed' := #[true, true, true, true, true, false, false, false, false]) rfl (fun _ _ _ h => h) (fun _ hm => ⟨hm.fact 0 rfl, hm.fact 1 rfl, trivial⟩) (ov_move rfl) rfl ?_
    refine wa_take 5 rfl (by kernel_rfl) (by kernel_rfl) (by kernel_rfl) (listed' := #[true, true, true, true, true, true, false, false, false]) rfl (fun _ _ _ h => h) (fun _ hm => ⟨hm.fact 0 rfl, hm.fact 1 rfl, trivial⟩) (ov_move rfl) rfl ?_
    refine wa_take 6 rfl (by kernel_rfl) (by kernel_rfl) (by kernel_rfl) (listed' := #[true, true, true, true, true, true, true, false, false]) rfl (fun _ _ _ h => h) (fun _ hm => ⟨hm.fact 0 rfl, hm.fact 1 rfl, trivial⟩) (ov_index (j := k) es44 rfl rfl (by omega)) rfl ?_
    refine wa_take 7 rfl (by kernel_rfl) (by kernel_rfl) (by kernel_rfl) (listed' := #[true, true, true, true, true, true, true, true, false]) rfl (fun _ _ _ h => h) (fun _ hm => ⟨hm.fact 0 rfl, hm.fact 1 rfl, trivial⟩) (ov_elem (vs := [.int .i64 x0, .string x1, .int .i64 x2]) rz133 rfl (fun _ hm => (hm.2.1).1) hx rfl rfl) rfl ?_
    refine wa_take 8 rfl (by kernel_rfl) (by kernel_rfl) (by kernel_rfl) (listed' := #[true, true, true, true, true, true, true, true, true]) rfl (fun _ _ _ h => h) (fun _ hm => ⟨hm.fact 0 rfl, hm.fact 1 rfl, trivial⟩) (ov_bin rfl rfl (cmp_agg guard_line (fun wx => same_line_neq x0 x1 x2 wx))) rfl ?_
    refine wa_done (by kernel_rfl) ?_
    refine nx_then ?_
    refine gw_cond rfl (fun hh => by cases hh) (fun _ => ?_)
    refine gw_skip ?_
    refine nx_blk_nrm ?_
    refine nx_then ?_
    refine gw_region ?_
    refine wl_ov (ov_add rfl rfl (by omega) (by omega)) rfl ?_
    refine wl_ov (ov_move rfl) rfl ?_
    refine wl_nil ?_
    exact nx_round (k + 1) (by omega) (by omega) ⟨rfl, rfl, rfl, (some_int (by omega)), trivial⟩ (fun _ hm => hm.pick [] [] [0, 1] rfl rfl)
  · have hk : ¬ (((k : Nat) : Int) < ((n : Nat) : Int)) := by simpa using hh
    clear hh
    refine gw_exit ?_
    refine nx_then_exit ?_
    refine nx_then_exit ?_
    refine nx_blk_here ?_
    refine nx_then ?_
    refine gw_seq ?_
    refine gw_region ?_
    refine wl_ov (ov_assign rfl) rfl ?_
    refine wl_nil ?_
    refine nx_then ?_
    refine gw_ret ?_
    refine nx_ret1 rfl rfl fun wx hm => ?_
    exact ⟨rfl, hm.g⟩

theorem ln_snoc {l : List Ln} {x : Ln} (h : ∀ y ∈ l, LnOk y) (hx : x.key.size ≤ 1000000) : ∀ y ∈ l ++ [x], LnOk y := fun y hy => by
  rcases List.mem_append.1 hy with hy | hy
  · exact h y hy
  · rw [List.mem_singleton.1 hy]; exact hx
theorem ln_set {l : List Ln} {x : Ln} {j : Nat} (h : ∀ y ∈ l, LnOk y) (hx : x.key.size ≤ 1000000) : ∀ y ∈ l.set j x, LnOk y := fun y hy => by
  rcases List.mem_or_eq_of_mem_set hy with hy | rfl
  · exact h y hy
  · exact hx
theorem ln_get {l : List Ln} {x : Ln} {j : Nat} (h : ∀ y ∈ l, LnOk y) (hx : l[j]? = some x) : x.key.size ≤ 1000000 := h x (List.mem_of_getElem? hx)
theorem set_get {α : Type} {l : List α} {x : α} {j : Nat} (h : j < l.length) : (l.set j x)[j]? = some x := by simp [h]

set_option maxRecDepth 100000 in
set_option maxHeartbeats 400000 in
theorem billLines_any (w : World) (B sb m : Nat) (hS : Strm 25 w B sb m) (hm : m ≤ 100000000000) :
    Calls Tryd.prog 22 #[.pointer (some ⟨sb, 0, none⟩)] w (fun e w' => ∃ (A : Option Addr) (n c : Nat) (l : List Ln), e = .returned (.slice A n c) ∧ SlT lnEnc 3 133 w' A n l ∧ (∀ x ∈ l, LnOk x) ∧ n ≤ 6 ∧ (n = 0 → A = none ∧ c = 0) ∧ Strm 25 w' B sb (m + 200) ∧ w.grownBy w' (some sb)) := by
  refine gw_enter ⟨54, w, (some sb), []⟩ Tryd.func22 rfl Tryd.ntmps22 rfl (memS (X := []) hS allF_nil allL_nil) ?_
  refine gw_seq ?_
  refine gw_region ?_
  refine wl_nilOwn 133 3 ?_
  refine wl_ov (ov_assign rfl) rfl ?_
  refine wl_nil ?_
  refine nx_then ?_
  refine gw_seq ?_
  refine gw_region ?_
  refine wl_ov (ov_assign rfl) rfl ?_
  refine wl_nil ?_
  refine nx_then ?_
  refine gw_seq ?_
  refine gw_seq ?_
  refine gw_region ?_
  refine wl_ov (ov_move rfl) rfl ?_
  refine wl_got (γ := Int) (val := fun v => .int .i64 v) (φ := fun v => 0 ≤ v ∧ (v ≤ 6 ∨ v = 0)) rfl cb15 rfl rfl rfl rfl (fun wx hm => (range_any _ _ wx B sb _ hm.k (by omega) (by omega) (by omega) (by omega) (by omega))) fun v1 hv1 => ?_
  refine wl_ov (ov_move rfl) rfl ?_
  refine wl_nil ?_
  refine nx_then ?_
  refine gw_block ?_
  have hr0 : 0 ≤ v1 := hv1.1
  have hr1 : v1 ≤ 6 := by have := hv1.2; omega
  refine gw_loop (γ := Nat × Value × List Ln × List Value) (fun (g : Nat × Value × List Ln × List Value) => (g.1 : Int) ≤ v1 ∧ g.2.2.1.length = g.1 ∧ (∀ x ∈ g.2.2.1, LnOk x) ∧ (g.2.1 = .slice none 0 0 ∨ 0 < g.1) ∧ g.2.2.2 = g.2.2.1.flatMap lnEnc) (fun (g : Nat × Value × List Ln × List Value) => [(0, .pointer (some ⟨sb, 0, none⟩)), (2, .slice none 0 0), (3, g.2.1), (6, .int .i64 v1), (7, .int .i64 ((g.1 : Nat) : Int))]) (fun (g : Nat × Value × List Ln × List Value) => fun w => Strm 25 w B sb (m + 1 + 10 * g.1)) (fun (g : Nat × Value × List Ln × List Value) => []) (fun (g : Nat × Value × List Ln × List Value) => [⟨g.2.1, 133, 3, g.1, g.2.2.2⟩]) (fun (g : Nat × Value × List Ln × List Value) => []) (fun (g : Nat × Value × List Ln × List Value) => (v1 - ((g.1 : Nat) : Int)).toNat) (0, .slice none 0 0, [], []) ⟨by simpa using hr0, rfl, (fun _ h => by cases h), .inl rfl, rfl⟩ ⟨rfl, rfl, rfl, rfl, rfl, trivial⟩ (fun _ hm => (hm.more rfl (by first | omega | (dsimp only; omega))).pick [] [0] [] rfl rfl) ?_
  rintro ⟨k, v, l, xs⟩ hinv
  replace hinv : (k : Int) ≤ v1 ∧ l.length = k ∧ (∀ x ∈ l, LnOk x) ∧ (v = .slice none 0 0 ∨ 0 < k) ∧ xs = l.flatMap lnEnc := hinv
  dsimp only
  refine gw_seq ?_
  refine gw_region ?_
  obtain ⟨hi1, hi2, hi3, hi4, rfl⟩ := hinv
  refine wl_ov (ov_lss rfl rfl) rfl ?_
  refine wl_nil ?_
  refine nx_then ?_
  refine gw_seq ?_
  refine gw_cond rfl (fun hh => ?_) (fun hh => ?_)
  · have hk : ((k : Nat) : Int) < v1 := by simpa using hh
    clear hh
    refine gw_skip ?_
    refine nx_then ?_
    refine gw_seq ?_
    refine gw_block ?_
    refine gw_region ?_
    refine wl_ov (ov_move rfl) rfl ?_
    refine wl_ov (ov_move rfl) rfl ?_
    refine wl_buildSlice (e := 3) (cs := [.int .i64 1, .int .i64 1, .int .i64 2, .int .i64 3, .int .i64 4, .int .i64 6]) rfl (by kernel_rfl) rfl fun g2 => ?_
    refine wl_got (γ := Int) (val := fun v => .int .i64 v) (φ := fun v => v ∈ ([1, 1, 2, 3, 4, 6] : List Int)) rfl cb23 rfl rfl rfl rfl (fun wx hm => (pick_any [1, 1, 2, 3, 4, 6] _ _ _ wx B sb _ hm.k (by omega) (by simp) (by simp) (hm.blkI 0 rfl) (hm.neRow 0 rfl rfl))) fun v3 hv3 => ?_
    have bv3 : 1 ≤ v3 ∧ v3 ≤ 6 := mem_rng hv3 (by decide)
    have bv30 := bv3.1
    have bv31 := bv3.2
    clear bv3
    refine wl_ov (ov_move rfl) rfl ?_
    refine wl_buildSlice (e := 9) (cs := [.string ⟨#[100, 97, 121]⟩, .string ⟨#[119, 101, 101, 107]⟩, .string ⟨#[115, 101, 97, 116]⟩, .string ⟨#[108, 97, 116, 101]⟩]) rfl (by kernel_rfl) rfl fun g4 => ?_
    refine wl_got (γ := ByteArray) (val := fun v => .string v) (φ := fun v => v ∈ ([⟨#[100, 97, 121]⟩, ⟨#[119, 101, 101, 107]⟩, ⟨#[115, 101, 97, 116]⟩, ⟨#[108, 97, 116, 101]⟩] : List ByteArray)) rfl cb66 rfl rfl rfl rfl (fun wx hm => (some_any [⟨#[100, 97, 121]⟩, ⟨#[119, 101, 101, 107]⟩, ⟨#[115, 101, 97, 116]⟩, ⟨#[108, 97, 116, 101]⟩] _ _ _ wx B sb _ hm.k (by omega) (by simp) (by simp) (hm.blkI 0 rfl) (hm.neRow 0 rfl rfl))) fun s5 hs5 => ?_
    have zs5 : s5.size ≤ 100 := mem_sz hs5 (by decide)
    refine wl_ov (ov_move rfl) rfl ?_
    refine wl_buildSlice (e := 3) (cs := [.int .i64 0, .int .i64 5, .int .i64 50, .int .i64 105, .int .i64 999, .int .i64 (-10), .int .i64 (-3), .int .i64 1000000]) rfl (by kernel_rfl) rfl fun g6 => ?_
    refine wl_got (γ := Int) (val := fun v => .int .i64 v) (φ := fun v => v ∈ ([0, 5, 50, 105, 999, -10, -3, 1000000] : List Int)) rfl cb23 rfl rfl rfl rfl (fun wx hm => (pick_any [0, 5, 50, 105, 999, -10, -3, 1000000] _ _ _ wx B sb _ hm.k (by omega) (by simp) (by simp) (hm.blkI 0 rfl) (hm.neRow 0 rfl rfl))) fun v7 hv7 => ?_
    have bv7 : -10 ≤ v7 ∧ v7 ≤ 1000000 := mem_rng hv7 (by decide)
    have bv70 := bv7.1
    have bv71 := bv7.2
    clear bv7
    refine wl_ov (ov_build (cs := [.int .i64 v3, .string s5, .int .i64 v7]) rfl (by kernel_rfl)) rfl ?_
    refine wl_buildSlice (e := 133) (cs := [.int .i64 v3, .string s5, .int .i64 v7]) rfl (by kernel_rfl) rfl fun g8 => ?_
    refine wl_append (news := [.int .i64 v3, .string s5, .int .i64 v7]) 0 0 ap44 rfl rfl rfl rfl rfl rfl rfl (by omega) (by unfold maxLen; omega) rfl rfl fun v2 hv2 => ?_
    refine wl_ov (ov_assign rfl) rfl ?_
    refine wl_nil ?_
    refine nx_blk_nrm ?_
    refine nx_then ?_
    refine gw_region ?_
    refine wl_ov (ov_add rfl rfl (by omega) (by omega)) rfl ?_
    refine wl_ov (ov_move rfl) rfl ?_
    refine wl_nil ?_
    exact nx_round (k + 1, v2, l ++ [⟨v3, s5, v7⟩], l.flatMap lnEnc ++ ([.int .i64 v3, .string s5, .int .i64 v7] : List Value)) ⟨by omega, by simp [hi2], ln_snoc hi3 (show s5.size ≤ 1000000 by omega), .inr (Nat.succ_pos _), by simp [lnEnc]⟩ (by dsimp only; omega) ⟨rfl, rfl, rfl, rfl, (some_int (by omega)), trivial⟩ (fun _ hm => (hm.more rfl (by first | omega | (dsimp only; omega))).pick [] [0] [] rfl rfl)
  · have hk : ¬ (((k : Nat) : Int) < v1) := by simpa using hh
    clear hh
    refine gw_exit ?_
    refine nx_then_exit ?_
    refine nx_then_exit ?_
    refine nx_blk_here ?_
    refine nx_then ?_
    refine gw_seq ?_
    refine gw_seq ?_
    refine gw_region ?_
    refine wl_look (R := ∃ A cc, v = .slice A k cc) (fun wx hm => own_slice (hm.ownI 0 rfl)) ?_
    rintro ⟨A, c, rfl⟩
    refine wl_ov (ov_move rfl) rfl ?_
    refine wl_ov (ov_len es44 rfl) rfl ?_
    refine wl_ov (ov_gtr rfl rfl) rfl ?_
    refine wl_ov (ov_move rfl) rfl ?_
    rcases Bool.eq_false_or_eq_true (decide (0 < ((k : Nat) : Int))) with hb | hb
    · refine wl_set 26 rfl (congrArg Value.bool hb) ?_
      have hk0 : 0 < k := by simpa using hb
      refine wl_guard_on rfl rfl rfl ?_
      refine wl_ov (ov_move rfl) rfl ?_
      refine wl_guard_on rfl rfl rfl ?_
      refine wl_got (γ := Bool) (val := fun v => .bool v) (φ := fun v => True) rfl cb87 rfl rfl rfl rfl (fun wx hm => ((flip_any _ wx B sb _ hm.k (by omega) (by omega) (by omega)).mono fun _ _ ⟨v, he, hS, hg⟩ => ⟨v, trivial, he, hS, hg⟩)) fun f9 _ => ?_
      refine wl_ov (ov_pick_t rfl rfl) rfl ?_
      refine wl_nil ?_
      refine nx_then ?_
      refine gw_cond rfl (fun hh => ?_) (fun hh => ?_)
      · have hf : f9 = true := by simpa using hh
        clear hh
        refine gw_seq ?_
        refine gw_region ?_
        refine wl_look (R := ∃ g, A = some ⟨g, 0, none⟩) (fun wx hm => own_addr (hm.ownI 0 rfl) hk0) ?_
        rintro ⟨bo, rfl⟩
        refine wl_ov (ov_move rfl) rfl ?_
        refine wl_ov (ov_move rfl) rfl ?_
        refine wl_ov (ov_move rfl) rfl ?_
        refine wl_ov (ov_len es44 rfl) rfl ?_
        refine wl_got (γ := Int) (val := fun v => .int .i64 v) (φ := fun v => IsBelow ((k : Nat) : Int) v) rfl cb88 rfl rfl rfl rfl (fun wx hm => (next_any _ wx B sb _ hm.k (by omega) (by omega) (by omega))) fun vj hvj => ?_
        have hj := isBelow_lt hvj (by omega)
        obtain ⟨j, rfl⟩ := Int.eq_ofNat_of_zero_le hj.1
        have hjk : j < k := by omega
        obtain ⟨y, hy⟩ : ∃ y, l[j]? = some y := ⟨_, List.getElem?_eq_getElem (by omega)⟩
        obtain ⟨y0, y1, y2⟩ := y
        refine wl_ov (ov_index (j := j) es44 rfl rfl (by omega)) rfl ?_
        refine wl_ov (ov_assign rfl) rfl ?_
        refine wl_nil ?_
        refine nx_then ?_
        refine gw_region ?_
        refine wl_ov (ov_move rfl) rfl ?_
        refine wl_ov (ov_move rfl) rfl ?_
        refine wl_ov (ov_move rfl) rfl ?_
        refine wl_ov (ov_move rfl) rfl ?_
        refine wl_buildSlice (e := 3) (cs := [.int .i64 1, .int .i64 5, .int .i64 0, .int .i64 7]) rfl (by kernel_rfl) rfl fun g10 => ?_
        refine wl_got (γ := Int) (val := fun v => .int .i64 v) (φ := fun v => v ∈ ([1, 5, 0, 7] : List Int)) rfl cb23 rfl rfl rfl rfl (fun wx hm => (pick_any [1, 5, 0, 7] _ _ _ wx B sb _ hm.k (by omega) (by simp) (by simp) (hm.blkI 0 rfl) (hm.neRow 0 rfl rfl))) fun v11 hv11 => ?_
        have bv11 : 0 ≤ v11 ∧ v11 ≤ 7 := mem_rng hv11 (by decide)
        have bv110 := bv11.1
        have bv111 := bv11.2
        clear bv11
        refine wl_ov (ov_move rfl) rfl ?_
        refine wl_buildSlice (e := 9) (cs := [.string ⟨#[100, 97, 121]⟩, .string ⟨#[]⟩, .string ⟨#[65]⟩]) rfl (by kernel_rfl) rfl fun g12 => ?_
        refine wl_got (γ := ByteArray) (val := fun v => .string v) (φ := fun v => v ∈ ([⟨#[100, 97, 121]⟩, ⟨#[]⟩, ⟨#[65]⟩] : List ByteArray)) rfl cb66 rfl rfl rfl rfl (fun wx hm => (some_any [⟨#[100, 97, 121]⟩, ⟨#[]⟩, ⟨#[65]⟩] _ _ _ wx B sb _ hm.k (by omega) (by simp) (by simp) (hm.blkI 0 rfl) (hm.neRow 0 rfl rfl))) fun s13 hs13 => ?_
        have zs13 : s13.size ≤ 100 := mem_sz hs13 (by decide)
        refine wl_ov (ov_move rfl) rfl ?_
        refine wl_got (γ := Int) (val := fun v => .int .i64 v) (φ := fun v => -2000000000000000 ≤ v ∧ v ≤ 2000000000000000) rfl cb89 rfl rfl rfl rfl (fun wx hm => (odd_any _ _ wx B sb _ hm.k (by omega) (by omega) (by omega) (by omega))) fun v14 hv14 => ?_
        refine wl_ov (ov_nilcheck rfl) rfl ?_
        refine wl_ov (ov_field fo133_0 rfl rfl) rfl ?_
        refine wl_storeE (l := l) (j := j) (r := 0) (el := ⟨y0, y1, y2⟩) (el' := ⟨v11, y1, y2⟩) 0 sc3 rfl rfl rfl rfl ln_len rfl hy hi2 (by decide) rfl rfl ?_
        refine wl_ov (ov_nilcheck rfl) rfl ?_
        refine wl_ov (ov_field fo133_1 rfl rfl) rfl ?_
        refine wl_storeE (l := (l.set j ⟨v11, y1, y2⟩)) (j := j) (r := 1) (el := ⟨v11, y1, y2⟩) (el' := ⟨v11, s13, y2⟩) 0 sc9 rfl rfl rfl rfl ln_len rfl (set_get (by first | omega | (simp; omega))) (by simp; exact hi2) (by decide) rfl rfl ?_
        refine wl_ov (ov_nilcheck rfl) rfl ?_
        refine wl_ov (ov_field fo133_2 rfl rfl) rfl ?_
        refine wl_storeE (l := ((l.set j ⟨v11, y1, y2⟩).set j ⟨v11, s13, y2⟩)) (j := j) (r := 2) (el := ⟨v11, s13, y2⟩) (el' := ⟨v11, s13, v14⟩) 0 sc3 rfl rfl rfl rfl ln_len rfl (set_get (by first | omega | (simp; omega))) (by simp; exact hi2) (by decide) rfl rfl ?_
        refine wl_nil ?_
        refine nx_then ?_
        refine gw_seq ?_
        refine gw_region ?_
        refine wl_ov (ov_move rfl) rfl ?_
        refine wl_ov (ov_assign rfl) rfl ?_
        refine wl_nil ?_
        refine nx_then ?_
        refine gw_ret ?_
        refine nx_ret1 rfl rfl fun wx hm => ?_
        exact ⟨some ⟨bo, 0, none⟩, k, c, (((l.set j ⟨v11, y1, y2⟩).set j ⟨v11, s13, y2⟩).set j ⟨v11, s13, v14⟩), rfl, SlT.ofOwn ln_len (hm.ownI 0 rfl) (by simp; exact hi2), ln_set (ln_set (ln_set hi3 (show y1.size ≤ 1000000 from ln_get hi3 hy)) (show s13.size ≤ 1000000 by omega)) (show s13.size ≤ 1000000 by omega), by omega, fun h0 => absurd h0 (by omega), hm.k.more (by omega), hm.g⟩
      · have hf : f9 = false := by simpa using hh
        clear hh
        refine gw_skip ?_
        refine nx_then ?_
        refine gw_seq ?_
        refine gw_region ?_
        refine wl_ov (ov_move rfl) rfl ?_
        refine wl_ov (ov_assign rfl) rfl ?_
        refine wl_nil ?_
        refine nx_then ?_
        refine gw_ret ?_
        refine nx_ret1 rfl rfl fun wx hm => ?_
        exact ⟨A, k, c, l, rfl, SlT.ofOwn ln_len (hm.ownI 0 rfl) hi2, hi3, by omega, fun h0 => absurd h0 (by omega), hm.k.more (by omega), hm.g⟩
    · refine wl_set 26 rfl (congrArg Value.bool hb) ?_
      have hk0 : k = 0 := by simpa using hb
      refine wl_guard_off rfl rfl rfl (by decide) rfl ?_
      refine wl_guard_off rfl rfl rfl (by decide) rfl ?_
      refine wl_ov (ov_pick_f rfl rfl) rfl ?_
      refine wl_nil ?_
      refine nx_then ?_
      refine gw_cond rfl (fun hh => by cases hh) (fun _ => ?_)
      refine gw_skip ?_
      refine nx_then ?_
      refine gw_seq ?_
      refine gw_region ?_
      refine wl_ov (ov_move rfl) rfl ?_
      refine wl_ov (ov_assign rfl) rfl ?_
      refine wl_nil ?_
      refine nx_then ?_
      refine gw_ret ?_
      refine nx_ret1 rfl rfl fun wx hm => ?_
      exact ⟨A, k, c, l, rfl, SlT.ofOwn ln_len (hm.ownI 0 rfl) hi2, hi3, by omega, own_zero hi4, hm.k.more (by omega), hm.g⟩

end Go.Proofs.YtmpomocahgcebaaDoor
