/- Comparisons; the checks of rates. -/
import Derived.Test.YtcggbojhalbkjaaTp
import Derived.Test.YtcggbojhalbkjaaSz
import Derived.Test.YtcggbojhalbkjaaTy
import Derived.Test.YtcggbojhalbkjaaWkey
import Derived.Test.YtcggbojhalbkjaaHc
import Derived.Test.YtcggbojhalbkjaaRt
import Derived.Test.YtcggbojhalbkjaaSi
namespace Go.Proofs.Ytcggbojhalbkjaa
open Go.RowKit

def rtEnc (r : Rt) : List Value := [.string r.cls, .int .i64 r.fr, .int .i64 r.to_, .int .i64 r.hr, .int .i64 r.dy, .int .i64 r.we, .int .i64 r.wk]
theorem rt_len (r : Rt) : (rtEnc r).length = 7 := rfl
theorem b_ne_self (a : ByteArray) : (!(a.toList == a.toList)) = false := by simp
theorem i_ne_self (a : Int) : (!decide (a = a)) = false := by simp
set_option maxRecDepth 100000 in
set_option maxHeartbeats 400000 in
theorem nan_string (a : ByteArray) (w : World) : Calls Try.prog 58 #[.string a] w (fun e w' => e = .returned (.bool false) ∧ w.grownBy w' none) := by
  refine gw_enter ⟨6, w, none, []⟩ Try.func58 rfl Try.ntmps58 rfl (mem0 (X := []) allF_nil allL_nil) ?_
  refine gw_seq ?_
  refine gw_region ?_
  refine wl_ov (ov_assign rfl) rfl ?_
  refine wl_nil ?_
  refine nx_then ?_
  refine gw_seq ?_
  refine gw_region ?_
  refine wl_ov (ov_move rfl) rfl ?_
  refine wl_ov (ov_move rfl) rfl ?_
  refine wl_ov (ov_sneq rfl rfl) rfl ?_
  refine wl_set 5 (v' := .bool false) rfl (congrArg Value.bool (b_ne_self a)) ?_
  refine wl_ov (ov_assign rfl) rfl ?_
  refine wl_nil ?_
  refine nx_then ?_
  refine gw_ret ?_
  refine nx_ret1 rfl rfl fun wx hm => ?_
  exact ⟨rfl, hm.g⟩

set_option maxRecDepth 100000 in
set_option maxHeartbeats 400000 in
theorem cmp_string (a b : ByteArray) (w : World) : Calls Try.prog 49 #[.string a, .string b] w (fun e w' => e = .returned (.int .i64 (cmpS a b)) ∧ w.grownBy w' none) := by
  refine gw_enter ⟨20, w, none, []⟩ Try.func49 rfl Try.ntmps49 rfl (mem0 (X := []) allF_nil allL_nil) ?_
  refine gw_seq ?_
  refine gw_region ?_
  refine wl_ov (ov_assign rfl) rfl ?_
  refine wl_nil ?_
  refine nx_then ?_
  refine gw_seq ?_
  refine gw_region ?_
  refine wl_ov (ov_move rfl) rfl ?_
  refine wl_callv rfl cb58 rfl rfl (fun wx hm => (nan_string _ wx)) ?_
  refine wl_ov (ov_assign rfl) rfl ?_
  refine wl_nil ?_
  refine nx_then ?_
  refine gw_seq ?_
  refine gw_region ?_
  refine wl_ov (ov_move rfl) rfl ?_
  refine wl_callv rfl cb58 rfl rfl (fun wx hm => (nan_string _ wx)) ?_
  refine wl_ov (ov_assign rfl) rfl ?_
  refine wl_nil ?_
  refine nx_then ?_
  refine gw_seq ?_
  refine gw_seq ?_
  refine gw_region ?_
  refine wl_ov (ov_move rfl) rfl ?_
  refine wl_nil ?_
  refine nx_then ?_
  refine gw_cond rfl (fun hh => by cases hh) (fun _ => ?_)
  refine gw_skip ?_
  refine nx_then ?_
  refine gw_seq ?_
  refine gw_seq ?_
  refine gw_region ?_
  refine wl_ov (ov_move rfl) rfl ?_
  refine wl_nil ?_
  refine nx_then ?_
  refine gw_cond rfl (fun hh => by cases hh) (fun _ => ?_)
  refine gw_skip ?_
  refine nx_then ?_
  refine gw_seq ?_
  refine gw_seq ?_
  refine gw_region ?_
  refine wl_ov (ov_move rfl) rfl ?_
  refine wl_ov (ov_move rfl) rfl ?_
  refine wl_ov (ov_slss rfl rfl) rfl ?_
  refine wl_nil ?_
  refine nx_then ?_
  refine gw_cond rfl (fun hh => ?_) (fun hh => ?_)
  · have h1 : (Op.bytesLess a.toList b.toList) = true := by simpa using hh
    clear hh
    refine gw_seq ?_
    refine gw_region ?_
    refine wl_ov (ov_assign rfl) rfl ?_
    refine wl_set 4 (v' := .int .i64 (-1)) rfl rfl ?_
    refine wl_nil ?_
    refine nx_then ?_
    refine gw_ret ?_
    refine nx_then_ret ?_
    refine nx_ret1 rfl rfl fun wx hm => ?_
    refine ⟨?_, hm.g⟩
    unfold cmpS; rw [if_pos h1]
  · have h1 : (Op.bytesLess a.toList b.toList) = false := by simpa using hh
    clear hh
    refine gw_skip ?_
    refine nx_then ?_
    refine gw_seq ?_
    refine gw_seq ?_
    refine gw_region ?_
    refine wl_ov (ov_move rfl) rfl ?_
    refine wl_ov (ov_move rfl) rfl ?_
    refine wl_ov (ov_sgtr rfl rfl) rfl ?_
    refine wl_nil ?_
    refine nx_then ?_
    refine gw_cond rfl (fun hh => ?_) (fun hh => ?_)
    · have h2 : (Op.bytesLess a.toList b.toList || a.toList == b.toList) = false := by simpa only [Bool.not_eq_true', Bool.not_eq_false'] using hh
      clear hh
      refine gw_seq ?_
      refine gw_region ?_
      refine wl_ov (ov_assign rfl) rfl ?_
      refine wl_nil ?_
      refine nx_then ?_
      refine gw_ret ?_
      refine nx_then_ret ?_
      refine nx_ret1 rfl rfl fun wx hm => ?_
      refine ⟨?_, hm.g⟩
      unfold cmpS; rw [if_neg (by rw [h1]; decide), if_pos h2]
    · have h2 : (Op.bytesLess a.toList b.toList || a.toList == b.toList) = true := by simpa only [Bool.not_eq_true', Bool.not_eq_false'] using hh
      clear hh
      refine gw_skip ?_
      refine nx_then ?_
      refine gw_seq ?_
      refine gw_region ?_
      refine wl_ov (ov_assign rfl) rfl ?_
      refine wl_nil ?_
      refine nx_then ?_
      refine gw_ret ?_
      refine nx_ret1 rfl rfl fun wx hm => ?_
      refine ⟨?_, hm.g⟩
      unfold cmpS; rw [if_neg (by rw [h1]; decide), if_neg (by rw [h2]; decide)]

set_option maxRecDepth 100000 in
set_option maxHeartbeats 400000 in
theorem nan_int (a : Int) (w : World) : Calls Try.prog 52 #[.int .i64 a] w (fun e w' => e = .returned (.bool false) ∧ w.grownBy w' none) := by
  refine gw_enter ⟨6, w, none, []⟩ Try.func52 rfl Try.ntmps52 rfl (mem0 (X := []) allF_nil allL_nil) ?_
  refine gw_seq ?_
  refine gw_region ?_
  refine wl_ov (ov_assign rfl) rfl ?_
  refine wl_nil ?_
  refine nx_then ?_
  refine gw_seq ?_
  refine gw_region ?_
  refine wl_ov (ov_move rfl) rfl ?_
  refine wl_ov (ov_move rfl) rfl ?_
  refine wl_ov (ov_neq rfl rfl) rfl ?_
  refine wl_set 5 (v' := .bool false) rfl (congrArg Value.bool (i_ne_self a)) ?_
  refine wl_ov (ov_assign rfl) rfl ?_
  refine wl_nil ?_
  refine nx_then ?_
  refine gw_ret ?_
  refine nx_ret1 rfl rfl fun wx hm => ?_
  exact ⟨rfl, hm.g⟩

set_option maxRecDepth 100000 in
set_option maxHeartbeats 400000 in
theorem cmp_int (a b : Int) (w : World) : Calls Try.prog 37 #[.int .i64 a, .int .i64 b] w (fun e w' => e = .returned (.int .i64 (cmpI a b)) ∧ w.grownBy w' none) := by
  refine gw_enter ⟨20, w, none, []⟩ Try.func37 rfl Try.ntmps37 rfl (mem0 (X := []) allF_nil allL_nil) ?_
  refine gw_seq ?_
  refine gw_region ?_
  refine wl_ov (ov_assign rfl) rfl ?_
  refine wl_nil ?_
  refine nx_then ?_
  refine gw_seq ?_
  refine gw_region ?_
  refine wl_ov (ov_move rfl) rfl ?_
  refine wl_callv rfl cb52 rfl rfl (fun wx hm => (nan_int _ wx)) ?_
  refine wl_ov (ov_assign rfl) rfl ?_
  refine wl_nil ?_
  refine nx_then ?_
  refine gw_seq ?_
  refine gw_region ?_
  refine wl_ov (ov_move rfl) rfl ?_
  refine wl_callv rfl cb52 rfl rfl (fun wx hm => (nan_int _ wx)) ?_
  refine wl_ov (ov_assign rfl) rfl ?_
  refine wl_nil ?_
  refine nx_then ?_
  refine gw_seq ?_
  refine gw_seq ?_
  refine gw_region ?_
  refine wl_ov (ov_move rfl) rfl ?_
  refine wl_nil ?_
  refine nx_then ?_
  refine gw_cond rfl (fun hh => by cases hh) (fun _ => ?_)
  refine gw_skip ?_
  refine nx_then ?_
  refine gw_seq ?_
  refine gw_seq ?_
  refine gw_region ?_
  refine wl_ov (ov_move rfl) rfl ?_
  refine wl_nil ?_
  refine nx_then ?_
  refine gw_cond rfl (fun hh => by cases hh) (fun _ => ?_)
  refine gw_skip ?_
  refine nx_then ?_
  refine gw_seq ?_
  refine gw_seq ?_
  refine gw_region ?_
  refine wl_ov (ov_move rfl) rfl ?_
  refine wl_ov (ov_move rfl) rfl ?_
  refine wl_ov (ov_lss rfl rfl) rfl ?_
  refine wl_nil ?_
  refine nx_then ?_
  refine gw_cond rfl (fun hh => ?_) (fun hh => ?_)
  · have h1 : a < b := by simpa using hh
    clear hh
    refine gw_seq ?_
    refine gw_region ?_
    refine wl_ov (ov_assign rfl) rfl ?_
    refine wl_set 4 (v' := .int .i64 (-1)) rfl rfl ?_
    refine wl_nil ?_
    refine nx_then ?_
    refine gw_ret ?_
    refine nx_then_ret ?_
    refine nx_ret1 rfl rfl fun wx hm => ?_
    refine ⟨?_, hm.g⟩
    unfold cmpI; rw [if_pos h1]
  · have h1 : ¬ (a < b) := by simpa using hh
    clear hh
    refine gw_skip ?_
    refine nx_then ?_
    refine gw_seq ?_
    refine gw_seq ?_
    refine gw_region ?_
    refine wl_ov (ov_move rfl) rfl ?_
    refine wl_ov (ov_move rfl) rfl ?_
    refine wl_ov (ov_gtr rfl rfl) rfl ?_
    refine wl_nil ?_
    refine nx_then ?_
    refine gw_cond rfl (fun hh => ?_) (fun hh => ?_)
    · have h2 : b < a := by simpa using hh
      clear hh
      refine gw_seq ?_
      refine gw_region ?_
      refine wl_ov (ov_assign rfl) rfl ?_
      refine wl_nil ?_
      refine nx_then ?_
      refine gw_ret ?_
      refine nx_then_ret ?_
      refine nx_ret1 rfl rfl fun wx hm => ?_
      refine ⟨?_, hm.g⟩
      unfold cmpI; rw [if_neg h1, if_pos h2]
    · have h2 : ¬ (b < a) := by simpa using hh
      clear hh
      refine gw_skip ?_
      refine nx_then ?_
      refine gw_seq ?_
      refine gw_region ?_
      refine wl_ov (ov_assign rfl) rfl ?_
      refine wl_nil ?_
      refine nx_then ?_
      refine gw_ret ?_
      refine nx_ret1 rfl rfl fun wx hm => ?_
      refine ⟨?_, hm.g⟩
      unfold cmpI; rw [if_neg h1, if_neg h2]

set_option maxRecDepth 100000 in
set_option maxHeartbeats 400000 in
theorem or_two (a b : Int) (g T c : Nat) (w : World) (h : Blk w g T [.int .i64 a, .int .i64 b]) : Calls Try.prog 36 #[.slice (some ⟨g, 0, none⟩) 2 c] w (fun e w' => e = .returned (.int .i64 (firstE [a, b])) ∧ w.grownBy w' none) := by
  refine gw_enter ⟨18, w, none, []⟩ Try.func36 rfl Try.ntmps36 rfl (mem0 (X := [BlkOld w.heap.size none g T [.int .i64 a, .int .i64 b] ]) (allF_cons h.old allF_nil) (allL_cons BlkOld.lasts allL_nil)) ?_
  refine gw_seq ?_
  refine gw_region ?_
  refine wl_ov (ov_assign rfl) rfl ?_
  refine wl_nil ?_
  refine nx_then ?_
  refine gw_seq ?_
  refine gw_region ?_
  refine wl_ov (ov_assign rfl) rfl ?_
  refine wl_nil ?_
  refine nx_then ?_
  refine gw_seq ?_
  refine gw_seq ?_
  refine gw_region ?_
  refine wl_ov (ov_move rfl) rfl ?_
  refine wl_ov (ov_len es22 rfl) rfl ?_
  refine wl_set 7 (v' := .int .i64 2) rfl rfl ?_
  refine wl_ov (ov_move rfl) rfl ?_
  refine wl_nil ?_
  refine nx_then ?_
  refine gw_block ?_
  refine gw_rounds 3 ?_
  refine gr_next ?_
  refine gw_seq ?_
  refine gw_region ?_
  refine wl_ov (ov_lss rfl rfl) rfl ?_
  refine wl_set 9 (v' := .bool true) rfl (congrArg Value.bool (by decide)) ?_
  refine wl_nil ?_
  refine nx_then ?_
  refine gw_seq ?_
  refine gw_cond rfl (fun _ => ?_) (fun hh => by cases hh)
  refine gw_skip ?_
  refine nx_then ?_
  refine gw_seq ?_
  refine gw_block ?_
  refine gw_seq ?_
  refine gw_region ?_
  refine wl_ov (ov_index (j := 0) es22 rfl rfl (by decide)) rfl ?_
  refine wl_ov (ov_load (v := .int .i64 a) sc3 rfl (fun _ hm => (hm.fact 0 rfl).2) rfl) rfl ?_
  refine wl_ov (ov_assign rfl) rfl ?_
  refine wl_nil ?_
  refine nx_then ?_
  refine gw_seq ?_
  refine gw_region ?_
  refine wl_ov (ov_move rfl) rfl ?_
  refine wl_ov (ov_move rfl) rfl ?_
  refine wl_ov (ov_neq rfl rfl) rfl ?_
  refine wl_nil ?_
  refine nx_then ?_
  refine gw_cond rfl (fun hh => ?_) (fun hh => ?_)
  · have h1 : ¬ (a = 0) := by simpa using hh
    clear hh
    refine gw_seq ?_
    refine gw_region ?_
    refine wl_ov (ov_move rfl) rfl ?_
    refine wl_ov (ov_assign rfl) rfl ?_
    refine wl_nil ?_
    refine nx_then ?_
    refine gw_ret ?_
    refine nx_blk_ret ?_
    refine nx_then_ret ?_
    refine nx_then_ret ?_
    refine nx_blk_ret ?_
    refine nx_then_ret ?_
    refine nx_ret1 rfl rfl fun wx hm => ?_
    refine ⟨?_, hm.g⟩
    rw [firstE_pair, if_neg h1]
  · have h1 : a = 0 := by simpa using hh
    clear hh
    refine gw_skip ?_
    refine nx_blk_nrm ?_
    refine nx_then ?_
    refine gw_region ?_
    refine wl_ov (ov_add rfl rfl (by omega) (by omega)) rfl ?_
    refine wl_set 16 (v' := .int .i64 1) rfl rfl ?_
    refine wl_ov (ov_move rfl) rfl ?_
    refine wl_nil ?_
    refine nx_next ?_
    refine gr_next ?_
    refine gw_seq ?_
    refine gw_region ?_
    refine wl_ov (ov_lss rfl rfl) rfl ?_
    refine wl_set 9 (v' := .bool true) rfl (congrArg Value.bool (by decide)) ?_
    refine wl_nil ?_
    refine nx_then ?_
    refine gw_seq ?_
    refine gw_cond rfl (fun _ => ?_) (fun hh => by cases hh)
    refine gw_skip ?_
    refine nx_then ?_
    refine gw_seq ?_
    refine gw_block ?_
    refine gw_seq ?_
    refine gw_region ?_
    refine wl_ov (ov_index (j := 1) es22 rfl rfl (by decide)) rfl ?_
    refine wl_ov (ov_load (v := .int .i64 b) sc3 rfl (fun _ hm => (hm.fact 0 rfl).2) rfl) rfl ?_
    refine wl_ov (ov_assign rfl) rfl ?_
    refine wl_nil ?_
    refine nx_then ?_
    refine gw_seq ?_
    refine gw_region ?_
    refine wl_ov (ov_move rfl) rfl ?_
    refine wl_ov (ov_move rfl) rfl ?_
    refine wl_ov (ov_neq rfl rfl) rfl ?_
    refine wl_nil ?_
    refine nx_then ?_
    refine gw_cond rfl (fun hh => ?_) (fun hh => ?_)
    · have h2 : ¬ (b = 0) := by simpa using hh
      clear hh
      refine gw_seq ?_
      refine gw_region ?_
      refine wl_ov (ov_move rfl) rfl ?_
      refine wl_ov (ov_assign rfl) rfl ?_
      refine wl_nil ?_
      refine nx_then ?_
      refine gw_ret ?_
      refine nx_blk_ret ?_
      refine nx_then_ret ?_
      refine nx_then_ret ?_
      refine nx_blk_ret ?_
      refine nx_then_ret ?_
      refine nx_ret1 rfl rfl fun wx hm => ?_
      refine ⟨?_, hm.g⟩
      rw [firstE_pair, if_pos h1]
    · have h2 : b = 0 := by simpa using hh
      clear hh
      refine gw_skip ?_
      refine nx_blk_nrm ?_
      refine nx_then ?_
      refine gw_region ?_
      refine wl_ov (ov_add rfl rfl (by omega) (by omega)) rfl ?_
      refine wl_set 16 (v' := .int .i64 2) rfl rfl ?_
      refine wl_ov (ov_move rfl) rfl ?_
      refine wl_nil ?_
      refine nx_next ?_
      refine gr_next ?_
      refine gw_seq ?_
      refine gw_region ?_
      refine wl_ov (ov_lss rfl rfl) rfl ?_
      refine wl_set 9 (v' := .bool false) rfl (congrArg Value.bool (by decide)) ?_
      refine wl_nil ?_
      refine nx_then ?_
      refine gw_seq ?_
      refine gw_cond rfl (fun hh => by cases hh) (fun _ => ?_)
      refine gw_exit ?_
      refine nx_then_exit ?_
      refine nx_then_exit ?_
      refine nx_blk_here ?_
      refine nx_then ?_
      refine gw_seq ?_
      refine gw_region ?_
      refine wl_ov (ov_move rfl) rfl ?_
      refine wl_ov (ov_assign rfl) rfl ?_
      refine wl_nil ?_
      refine nx_then ?_
      refine gw_ret ?_
      refine nx_ret1 rfl rfl fun wx hm => ?_
      refine ⟨?_, hm.g⟩
      rw [firstE_pair, if_pos h1, h2]

set_option maxRecDepth 100000 in
set_option maxHeartbeats 1000000 in
theorem checkRates_any (l : List Rt) (A : Option Addr) (n c : Nat) (w : World) (hl : SlT rtEnc 7 47 w A n l) (hok : ∀ b ∈ l, RtOk b) (hn : n ≤ 1000000) :
    Calls Try.prog 29 #[.slice A n c] w (GotE w (ratesE l)) := by
  refine gw_enter ⟨90, w, none, []⟩ Try.func29 rfl Try.ntmps29 rfl (mem0 (X := [SlOld rtEnc 7 47 w.heap.size none A n l]) (allF_cons hl.old allF_nil) (allL_cons SlOld.lasts allL_nil)) ?_
  refine gw_seq ?_
  refine gw_region ?_
  have hlen := hl.len
  refine wl_ov (ov_assign rfl) rfl ?_
  refine wl_nil ?_
  refine nx_then ?_
  refine gw_seq ?_
  refine gw_seq ?_
  refine gw_region ?_
  refine wl_ov (ov_move rfl) rfl ?_
  refine wl_ov (ov_len es26 rfl) rfl ?_
  refine wl_ov (ov_gtr rfl rfl) rfl ?_
  refine wl_nil ?_
  refine nx_then ?_
  refine gw_cond rfl (fun hh => ?_) (fun hh => ?_)
  · have h1 : 200 < ((n : Nat) : Int) := by simpa using hh
    clear hh
    refine gw_seq ?_
    refine gw_region ?_
    refine wl_ov (ov_assign rfl) rfl ?_
    refine wl_nil ?_
    refine nx_then ?_
    refine gw_ret ?_
    refine nx_then_ret ?_
    refine nx_ret1 rfl rfl fun wx hm => ?_
    exact ⟨ret_int (by unfold ratesE; rw [if_pos (by omega)]), hm.g⟩
  · have h1 : ¬ (200 < ((n : Nat) : Int)) := by simpa using hh
    clear hh
    refine gw_skip ?_
    refine nx_then ?_
    refine gw_seq ?_
    refine gw_seq ?_
    refine gw_region ?_
    refine wl_ov (ov_move rfl) rfl ?_
    refine wl_ov (ov_len es26 rfl) rfl ?_
    refine wl_ov (ov_move rfl) rfl ?_
    refine wl_nil ?_
    refine nx_then ?_
    refine gw_block ?_
    refine gw_loop (γ := Nat) (fun (k : Nat) => k ≤ n ∧ ratesE l = scanE rateE (prevOf l k) (l.drop k)) (fun (k : Nat) => [(0, .slice A n c), (11, .slice A n c), (12, .int .i64 ((n : Nat) : Int)), (13, .int .i64 ((k : Nat) : Int))]) (fun (k : Nat) => fun _ => True) (fun (k : Nat) => []) (fun (k : Nat) => []) (fun (k : Nat) => [SlOld rtEnc 7 47 w.heap.size none A n l]) (fun (k : Nat) => n - k) 0 ⟨Nat.zero_le _, by unfold ratesE; rw [if_neg (by omega)]; rfl⟩ ⟨rfl, rfl, rfl, rfl, trivial⟩ (fun _ hm => hm.pick [] [] [0] rfl rfl) ?_
    intro k hinv
    replace hinv : k ≤ n ∧ ratesE l = scanE rateE (prevOf l k) (l.drop k) := hinv
    refine gw_seq ?_
    refine gw_region ?_
    refine wl_ov (ov_lss rfl rfl) rfl ?_
    refine wl_nil ?_
    refine nx_then ?_
    refine gw_seq ?_
    refine gw_cond rfl (fun hh => ?_) (fun hh => ?_)
    · have hk : ((k : Nat) : Int) < ((n : Nat) : Int) := by simpa using hh
      clear hh
      refine gw_skip ?_
      refine nx_then ?_
      refine gw_seq ?_
      refine gw_block ?_
      refine gw_seq ?_
      refine gw_region ?_
      obtain ⟨b, off, hA, _, _⟩ := hl.get (by omega)
      subst hA
      obtain ⟨x, hx⟩ : ∃ x, l[k]? = some x := ⟨_, List.getElem?_eq_getElem (by omega)⟩
      obtain ⟨cl, fr, tt, ho, dd, we, wk⟩ := x
      have hat := scanE_at rateE l k _ hx
      have hcl : cl.size ≤ 1000000 := hok _ (List.mem_of_getElem? hx)
      refine wl_ov (ov_move rfl) rfl ?_
      refine wl_ov (ov_index (j := k) es26 rfl rfl (by omega)) rfl ?_
      refine wl_ov (ov_elem (vs := [.string cl, .int .i64 fr, .int .i64 tt, .int .i64 ho, .int .i64 dd, .int .i64 we, .int .i64 wk]) rz47 rfl (fun _ hm => (hm.fact 0 rfl).1) hx rfl rfl) rfl ?_
      refine wl_alloc zc47 rfl fun g1 => ?_
      refine wl_ov (ov_assign rfl) rfl ?_
      refine wl_stores (cs' := [.string cl, .int .i64 fr, .int .i64 tt, .int .i64 ho, .int .i64 dd, .int .i64 we, .int .i64 wk]) 0 rz47 rfl rfl rfl rfl rfl rfl rfl rfl ?_
      refine wl_nil ?_
      refine nx_then ?_
      refine gw_seq ?_
      refine gw_block ?_
      refine gw_seq ?_
      refine gw_region ?_
      refine wl_ov (ov_field fo47_0 rfl rfl) rfl ?_
      refine wl_ov (ov_load sc9 rfl (fun _ hm => hm.blkI 0 rfl) rfl) rfl ?_
      refine wl_callw rfl cb31 rfl rfl (fun wx hm => (isKey_any _ wx (by omega))) ?_
      refine wl_ov (ov_un_not rfl) rfl ?_
      refine wl_ov (ov_assign rfl) rfl ?_
      refine wl_nil ?_
      refine nx_then ?_
      refine gw_cond rfl (fun hh => ?_) (fun hh => ?_)
      · have h2 : (keyB cl) = false := by simpa using hh
        clear hh
        refine gw_seq ?_
        refine gw_region ?_
        refine wl_ov (ov_assign rfl) rfl ?_
        refine wl_nil ?_
        refine nx_then ?_
        refine gw_ret ?_
        refine nx_blk_ret ?_
        refine nx_then_ret ?_
        refine nx_blk_ret ?_
        refine nx_then_ret ?_
        refine nx_then_ret ?_
        refine nx_blk_ret ?_
        refine nx_then_ret ?_
        have hE : rateE (prevOf l k) ⟨cl, fr, tt, ho, dd, we, wk⟩ = 5 := by unfold rateE; simp [h2]
        refine nx_ret1 rfl rfl fun wx hm => ?_
        exact ⟨ret_int (by rw [hinv.2, hat, if_neg (by rw [hE]; decide), hE]), hm.g⟩
      · have h2 : (keyB cl) = true := by simpa using hh
        clear hh
        refine gw_seq ?_
        refine gw_region ?_
        refine wl_ov (ov_field fo47_1 rfl rfl) rfl ?_
        refine wl_ov (ov_load sc3 rfl (fun _ hm => hm.blkI 0 rfl) rfl) rfl ?_
        refine wl_ov (ov_lss rfl rfl) rfl ?_
        refine wl_ov (ov_move rfl) rfl ?_
        rcases Bool.eq_false_or_eq_true (decide (fr < 0)) with h3 | h3
        · refine wl_set 27 rfl (congrArg Value.bool h3) ?_
          replace h3 := of_decide_eq_true h3
          refine wl_guard_off rfl rfl rfl (by decide) rfl ?_
          refine wl_guard_off rfl rfl rfl (by decide) rfl ?_
          refine wl_guard_off rfl rfl rfl (by decide) rfl ?_
          refine wl_guard_off rfl rfl rfl (by decide) rfl ?_
          refine wl_guard_off rfl rfl rfl (by decide) rfl ?_
          refine wl_ov (ov_pick_t rfl rfl) rfl ?_
          refine wl_ov (ov_move rfl) rfl ?_
          refine wl_guard_off rfl rfl rfl (by decide) rfl ?_
          refine wl_guard_off rfl rfl rfl (by decide) rfl ?_
          refine wl_guard_off rfl rfl rfl (by decide) rfl ?_
          refine wl_ov (ov_pick_t rfl rfl) rfl ?_
          refine wl_ov (ov_assign rfl) rfl ?_
          refine wl_nil ?_
          refine nx_then ?_
          refine gw_cond rfl (fun _ => ?_) (fun hh => by cases hh)
          refine gw_seq ?_
          refine gw_region ?_
          refine wl_ov (ov_assign rfl) rfl ?_
          refine wl_nil ?_
          refine nx_then ?_
          refine gw_ret ?_
          refine nx_blk_ret ?_
          refine nx_then_ret ?_
          refine nx_blk_ret ?_
          refine nx_then_ret ?_
          refine nx_then_ret ?_
          refine nx_blk_ret ?_
          refine nx_then_ret ?_
          have hE : rateE (prevOf l k) ⟨cl, fr, tt, ho, dd, we, wk⟩ = 1 := by unfold rateE; simp [h2, h3]
          refine nx_ret1 rfl rfl fun wx hm => ?_
          exact ⟨ret_int (by rw [hinv.2, hat, if_neg (by rw [hE]; decide), hE]), hm.g⟩
        · refine wl_set 27 rfl (congrArg Value.bool h3) ?_
          replace h3 := of_decide_eq_false h3
          refine wl_guard_on rfl rfl rfl ?_
          refine wl_ov (ov_field fo47_1 rfl rfl) rfl ?_
          refine wl_guard_on rfl rfl rfl ?_
          refine wl_ov (ov_load sc3 rfl (fun _ hm => hm.blkI 0 rfl) rfl) rfl ?_
          refine wl_guard_on rfl rfl rfl ?_
          refine wl_ov (ov_field fo47_2 rfl rfl) rfl ?_
          refine wl_guard_on rfl rfl rfl ?_
          refine wl_ov (ov_load sc3 rfl (fun _ hm => hm.blkI 0 rfl) rfl) rfl ?_
          refine wl_guard_on rfl rfl rfl ?_
          refine wl_ov (ov_geq rfl rfl) rfl ?_
          refine wl_ov (ov_pick_f rfl rfl) rfl ?_
          refine wl_ov (ov_move rfl) rfl ?_
          rcases Bool.eq_false_or_eq_true (decide (tt ≤ fr)) with h4 | h4
          · refine wl_set 34 rfl (congrArg Value.bool h4) ?_
            replace h4 := of_decide_eq_true h4
            refine wl_guard_off rfl rfl rfl (by decide) rfl ?_
            refine wl_guard_off rfl rfl rfl (by decide) rfl ?_
            refine wl_guard_off rfl rfl rfl (by decide) rfl ?_
            refine wl_ov (ov_pick_t rfl rfl) rfl ?_
            refine wl_ov (ov_assign rfl) rfl ?_
            refine wl_nil ?_
            refine nx_then ?_
            refine gw_cond rfl (fun _ => ?_) (fun hh => by cases hh)
            refine gw_seq ?_
            refine gw_region ?_
            refine wl_ov (ov_assign rfl) rfl ?_
            refine wl_nil ?_
            refine nx_then ?_
            refine gw_ret ?_
            refine nx_blk_ret ?_
            refine nx_then_ret ?_
            refine nx_blk_ret ?_
            refine nx_then_ret ?_
            refine nx_then_ret ?_
            refine nx_blk_ret ?_
            refine nx_then_ret ?_
            have hE : rateE (prevOf l k) ⟨cl, fr, tt, ho, dd, we, wk⟩ = 1 := by unfold rateE; simp [h2, h3, h4]
            refine nx_ret1 rfl rfl fun wx hm => ?_
            exact ⟨ret_int (by rw [hinv.2, hat, if_neg (by rw [hE]; decide), hE]), hm.g⟩
          · refine wl_set 34 rfl (congrArg Value.bool h4) ?_
            replace h4 := of_decide_eq_false h4
            refine wl_guard_on rfl rfl rfl ?_
            refine wl_ov (ov_field fo47_2 rfl rfl) rfl ?_
            refine wl_guard_on rfl rfl rfl ?_
            refine wl_ov (ov_load sc3 rfl (fun _ hm => hm.blkI 0 rfl) rfl) rfl ?_
            refine wl_guard_on rfl rfl rfl ?_
            refine wl_ov (ov_gtr rfl rfl) rfl ?_
            refine wl_ov (ov_pick_f rfl rfl) rfl ?_
            refine wl_ov (ov_assign rfl) rfl ?_
            refine wl_nil ?_
            refine nx_then ?_
            refine gw_cond rfl (fun hh => ?_) (fun hh => ?_)
            · have h5 : 4001 < tt := by simpa using hh
              clear hh
              refine gw_seq ?_
              refine gw_region ?_
              refine wl_ov (ov_assign rfl) rfl ?_
              refine wl_nil ?_
              refine nx_then ?_
              refine gw_ret ?_
              refine nx_blk_ret ?_
              refine nx_then_ret ?_
              refine nx_blk_ret ?_
              refine nx_then_ret ?_
              refine nx_then_ret ?_
              refine nx_blk_ret ?_
              refine nx_then_ret ?_
              have hE : rateE (prevOf l k) ⟨cl, fr, tt, ho, dd, we, wk⟩ = 1 := by unfold rateE; simp [h2, h3, h4, h5]
              refine nx_ret1 rfl rfl fun wx hm => ?_
              exact ⟨ret_int (by rw [hinv.2, hat, if_neg (by rw [hE]; decide), hE]), hm.g⟩
            · have h5 : ¬ (4001 < tt) := by simpa using hh
              clear hh
              refine gw_skip ?_
              refine nx_blk_nrm ?_
              refine nx_then ?_
              refine gw_seq ?_
              refine gw_seq ?_
              refine gw_region ?_
              refine wl_ov (ov_field fo47_3 rfl rfl) rfl ?_
              refine wl_ov (ov_load sc3 rfl (fun _ hm => hm.blkI 0 rfl) rfl) rfl ?_
              refine wl_ov (ov_field fo47_4 rfl rfl) rfl ?_
              refine wl_ov (ov_load sc3 rfl (fun _ hm => hm.blkI 0 rfl) rfl) rfl ?_
              refine wl_ov (ov_field fo47_5 rfl rfl) rfl ?_
              refine wl_ov (ov_load sc3 rfl (fun _ hm => hm.blkI 0 rfl) rfl) rfl ?_
              refine wl_ov (ov_field fo47_6 rfl rfl) rfl ?_
              refine wl_ov (ov_load sc3 rfl (fun _ hm => hm.blkI 0 rfl) rfl) rfl ?_
              refine wl_buildSlice (e := 3) (cs := [.int .i64 ho, .int .i64 dd, .int .i64 we, .int .i64 wk]) rfl (by kernel_rfl) rfl fun g2 => ?_
              refine wl_ov (ov_len es22 rfl) rfl ?_
              refine wl_set 48 (v' := .int .i64 4) rfl rfl ?_
              refine wl_ov (ov_move rfl) rfl ?_
              refine wl_nil ?_
              refine nx_then ?_
              refine gw_block ?_
              refine gw_rounds 5 ?_
              refine gr_next ?_
              refine gw_seq ?_
              refine gw_region ?_
              refine wl_ov (ov_lss rfl rfl) rfl ?_
              refine wl_set 50 (v' := .bool true) rfl (congrArg Value.bool (by decide)) ?_
              refine wl_nil ?_
              refine nx_then ?_
              refine gw_seq ?_
              refine gw_cond rfl (fun _ => ?_) (fun hh => by cases hh)
              refine gw_skip ?_
              refine nx_then ?_
              refine gw_seq ?_
              refine gw_block ?_
              refine gw_seq ?_
              refine gw_region ?_
              refine wl_ov (ov_index (j := 0) es22 rfl rfl (by decide)) rfl ?_
              refine wl_ov (ov_load sc3 rfl (fun _ hm => hm.blkI 0 rfl) rfl) rfl ?_
              refine wl_ov (ov_assign rfl) rfl ?_
              refine wl_nil ?_
              refine nx_then ?_
              refine gw_seq ?_
              refine gw_region ?_
              refine wl_ov (ov_move rfl) rfl ?_
              refine wl_callw rfl cb20 rfl rfl (fun wx hm => (in_any _ _ _ wx)) ?_
              refine wl_ov (ov_un_not rfl) rfl ?_
              refine wl_nil ?_
              refine nx_then ?_
              refine gw_cond rfl (fun hh => ?_) (fun hh => ?_)
              · have i1 : (inB ho (-1) 1000000) = false := by simpa using hh
                clear hh
                refine gw_seq ?_
                refine gw_region ?_
                refine wl_ov (ov_assign rfl) rfl ?_
                refine wl_nil ?_
                refine nx_then ?_
                refine gw_ret ?_
                refine nx_blk_ret ?_
                refine nx_then_ret ?_
                refine nx_then_ret ?_
                refine nx_blk_ret ?_
                refine nx_then_ret ?_
                refine nx_blk_ret ?_
                refine nx_then_ret ?_
                refine nx_then_ret ?_
                refine nx_blk_ret ?_
                refine nx_then_ret ?_
                have hE : rateE (prevOf l k) ⟨cl, fr, tt, ho, dd, we, wk⟩ = 1 := by unfold rateE; simp [h2, h3, h4, h5, i1]
                refine nx_ret1 rfl rfl fun wx hm => ?_
                exact ⟨ret_int (by rw [hinv.2, hat, if_neg (by rw [hE]; decide), hE]), hm.g⟩
              · have i1 : (inB ho (-1) 1000000) = true := by simpa using hh
                clear hh
                refine gw_skip ?_
                refine nx_blk_nrm ?_
                refine nx_then ?_
                refine gw_region ?_
                refine wl_ov (ov_add rfl rfl (by omega) (by omega)) rfl ?_
                refine wl_set 56 (v' := .int .i64 1) rfl rfl ?_
                refine wl_ov (ov_move rfl) rfl ?_
                refine wl_nil ?_
                refine nx_next ?_
                refine gr_next ?_
                refine gw_seq ?_
                refine gw_region ?_
                refine wl_ov (ov_lss rfl rfl) rfl ?_
                refine wl_set 50 (v' := .bool true) rfl (congrArg Value.bool (by decide)) ?_
                refine wl_nil ?_
                refine nx_then ?_
                refine gw_seq ?_
                refine gw_cond rfl (fun _ => ?_) (fun hh => by cases hh)
                refine gw_skip ?_
                refine nx_then ?_
                refine gw_seq ?_
                refine gw_block ?_
                refine gw_seq ?_
                refine gw_region ?_
                refine wl_ov (ov_index (j := 1) es22 rfl rfl (by decide)) rfl ?_
                refine wl_ov (ov_load sc3 rfl (fun _ hm => hm.blkI 0 rfl) rfl) rfl ?_
                refine wl_ov (ov_assign rfl) rfl ?_
                refine wl_nil ?_
                refine nx_then ?_
                refine gw_seq ?_
                refine gw_region ?_
                refine wl_ov (ov_move rfl) rfl ?_
                refine wl_callw rfl cb20 rfl rfl (fun wx hm => (in_any _ _ _ wx)) ?_
                refine wl_ov (ov_un_not rfl) rfl ?_
                refine wl_nil ?_
                refine nx_then ?_
                refine gw_cond rfl (fun hh => ?_) (fun hh => ?_)
                · have i2 : (inB dd (-1) 1000000) = false := by simpa using hh
                  clear hh
                  refine gw_seq ?_
                  refine gw_region ?_
                  refine wl_ov (ov_assign rfl) rfl ?_
                  refine wl_nil ?_
                  refine nx_then ?_
                  refine gw_ret ?_
                  refine nx_blk_ret ?_
                  refine nx_then_ret ?_
                  refine nx_then_ret ?_
                  refine nx_blk_ret ?_
                  refine nx_then_ret ?_
                  refine nx_blk_ret ?_
                  refine nx_then_ret ?_
                  refine nx_then_ret ?_
                  refine nx_blk_ret ?_
                  refine nx_then_ret ?_
                  have hE : rateE (prevOf l k) ⟨cl, fr, tt, ho, dd, we, wk⟩ = 1 := by unfold rateE; simp [h2, h3, h4, h5, i1, i2]
                  refine nx_ret1 rfl rfl fun wx hm => ?_
                  exact ⟨ret_int (by rw [hinv.2, hat, if_neg (by rw [hE]; decide), hE]), hm.g⟩
                · have i2 : (inB dd (-1) 1000000) = true := by simpa using hh
                  clear hh
                  refine gw_skip ?_
                  refine nx_blk_nrm ?_
                  refine nx_then ?_
                  refine gw_region ?_
                  refine wl_ov (ov_add rfl rfl (by omega) (by omega)) rfl ?_
                  refine wl_set 56 (v' := .int .i64 2) rfl rfl ?_
                  refine wl_ov (ov_move rfl) rfl ?_
                  refine wl_nil ?_
                  refine nx_next ?_
                  refine gr_next ?_
                  refine gw_seq ?_
                  refine gw_region ?_
                  refine wl_ov (ov_lss rfl rfl) rfl ?_
                  refine wl_set 50 (v' := .bool true) rfl (congrArg Value.bool (by decide)) ?_
                  refine wl_nil ?_
                  refine nx_then ?_
                  refine gw_seq ?_
                  refine gw_cond rfl (fun _ => ?_) (fun hh => by cases hh)
                  refine gw_skip ?_
                  refine nx_then ?_
                  refine gw_seq ?_
                  refine gw_block ?_
                  refine gw_seq ?_
                  refine gw_region ?_
                  refine wl_ov (ov_index (j := 2) es22 rfl rfl (by decide)) rfl ?_
                  refine wl_ov (ov_load sc3 rfl (fun _ hm => hm.blkI 0 rfl) rfl) rfl ?_
                  refine wl_ov (ov_assign rfl) rfl ?_
                  refine wl_nil ?_
                  refine nx_then ?_
                  refine gw_seq ?_
                  refine gw_region ?_
                  refine wl_ov (ov_move rfl) rfl ?_
                  refine wl_callw rfl cb20 rfl rfl (fun wx hm => (in_any _ _ _ wx)) ?_
                  refine wl_ov (ov_un_not rfl) rfl ?_
                  refine wl_nil ?_
                  refine nx_then ?_
                  refine gw_cond rfl (fun hh => ?_) (fun hh => ?_)
                  · have i3 : (inB we (-1) 1000000) = false := by simpa using hh
                    clear hh
                    refine gw_seq ?_
                    refine gw_region ?_
                    refine wl_ov (ov_assign rfl) rfl ?_
                    refine wl_nil ?_
                    refine nx_then ?_
                    refine gw_ret ?_
                    refine nx_blk_ret ?_
                    refine nx_then_ret ?_
                    refine nx_then_ret ?_
                    refine nx_blk_ret ?_
                    refine nx_then_ret ?_
                    refine nx_blk_ret ?_
                    refine nx_then_ret ?_
                    refine nx_then_ret ?_
                    refine nx_blk_ret ?_
                    refine nx_then_ret ?_
                    have hE : rateE (prevOf l k) ⟨cl, fr, tt, ho, dd, we, wk⟩ = 1 := by unfold rateE; simp [h2, h3, h4, h5, i1, i2, i3]
                    refine nx_ret1 rfl rfl fun wx hm => ?_
                    exact ⟨ret_int (by rw [hinv.2, hat, if_neg (by rw [hE]; decide), hE]), hm.g⟩
                  · have i3 : (inB we (-1) 1000000) = true := by simpa using hh
                    clear hh
                    refine gw_skip ?_
                    refine nx_blk_nrm ?_
                    refine nx_then ?_
                    refine gw_region ?_
                    refine wl_ov (ov_add rfl rfl (by omega) (by omega)) rfl ?_
                    refine wl_set 56 (v' := .int .i64 3) rfl rfl ?_
                    refine wl_ov (ov_move rfl) rfl ?_
                    refine wl_nil ?_
                    refine nx_next ?_
                    refine gr_next ?_
                    refine gw_seq ?_
                    refine gw_region ?_
                    refine wl_ov (ov_lss rfl rfl) rfl ?_
                    refine wl_set 50 (v' := .bool true) rfl (congrArg Value.bool (by decide)) ?_
                    refine wl_nil ?_
                    refine nx_then ?_
                    refine gw_seq ?_
                    refine gw_cond rfl (fun _ => ?_) (fun hh => by cases hh)
                    refine gw_skip ?_
                    refine nx_then ?_
                    refine gw_seq ?_
                    refine gw_block ?_
                    refine gw_seq ?_
                    refine gw_region ?_
                    refine wl_ov (ov_index (j := 3) es22 rfl rfl (by decide)) rfl ?_
                    refine wl_ov (ov_load sc3 rfl (fun _ hm => hm.blkI 0 rfl) rfl) rfl ?_
                    refine wl_ov (ov_assign rfl) rfl ?_
                    refine wl_nil ?_
                    refine nx_then ?_
                    refine gw_seq ?_
                    refine gw_region ?_
                    refine wl_ov (ov_move rfl) rfl ?_
                    refine wl_callw rfl cb20 rfl rfl (fun wx hm => (in_any _ _ _ wx)) ?_
                    refine wl_ov (ov_un_not rfl) rfl ?_
                    refine wl_nil ?_
                    refine nx_then ?_
                    refine gw_cond rfl (fun hh => ?_) (fun hh => ?_)
                    · have i4 : (inB wk (-1) 1000000) = false := by simpa using hh
                      clear hh
                      refine gw_seq ?_
                      refine gw_region ?_
                      refine wl_ov (ov_assign rfl) rfl ?_
                      refine wl_nil ?_
                      refine nx_then ?_
                      refine gw_ret ?_
                      refine nx_blk_ret ?_
                      refine nx_then_ret ?_
                      refine nx_then_ret ?_
                      refine nx_blk_ret ?_
                      refine nx_then_ret ?_
                      refine nx_blk_ret ?_
                      refine nx_then_ret ?_
                      refine nx_then_ret ?_
                      refine nx_blk_ret ?_
                      refine nx_then_ret ?_
                      have hE : rateE (prevOf l k) ⟨cl, fr, tt, ho, dd, we, wk⟩ = 1 := by unfold rateE; simp [h2, h3, h4, h5, i1, i2, i3, i4]
                      refine nx_ret1 rfl rfl fun wx hm => ?_
                      exact ⟨ret_int (by rw [hinv.2, hat, if_neg (by rw [hE]; decide), hE]), hm.g⟩
                    · have i4 : (inB wk (-1) 1000000) = true := by simpa using hh
                      clear hh
                      refine gw_skip ?_
                      refine nx_blk_nrm ?_
                      refine nx_then ?_
                      refine gw_region ?_
                      by_cases hk0 : k = 0
                      · have hE : rateE (prevOf l k) ⟨cl, fr, tt, ho, dd, we, wk⟩ = 0 := by unfold rateE; rw [pv_zero hk0]; simp [h2, h3, h4, h5, i1, i2, i3, i4]
                        refine wl_ov (ov_add rfl rfl (by omega) (by omega)) rfl ?_
                        refine wl_set 56 (v' := .int .i64 4) rfl rfl ?_
                        refine wl_ov (ov_move rfl) rfl ?_
                        refine wl_nil ?_
                        refine nx_next ?_
                        refine gr_next ?_
                        refine gw_seq ?_
                        refine gw_region ?_
                        refine wl_ov (ov_lss rfl rfl) rfl ?_
                        refine wl_set 50 (v' := .bool false) rfl (congrArg Value.bool (by decide)) ?_
                        refine wl_nil ?_
                        refine nx_then ?_
                        refine gw_seq ?_
                        refine gw_cond rfl (fun hh => by cases hh) (fun _ => ?_)
                        refine gw_exit ?_
                        refine nx_then_exit ?_
                        refine nx_then_exit ?_
                        refine nx_blk_here ?_
                        refine nx_then ?_
                        refine gw_seq ?_
                        refine gw_seq ?_
                        refine gw_region ?_
                        refine wl_ov (ov_move rfl) rfl ?_
                        refine wl_ov (ov_eql rfl rfl) rfl ?_
                        refine wl_set 58 (v' := .bool true) rfl (congrArg Value.bool (decide_eq_true (by omega))) ?_
                        refine wl_nil ?_
                        refine nx_then ?_
                        refine gw_cond rfl (fun _ => ?_) (fun hh => by cases hh)
                        refine gw_exit ?_
                        refine nx_then_exit ?_
                        refine nx_blk_here ?_
                        refine nx_then ?_
                        refine gw_region ?_
                        refine wl_ov (ov_add rfl rfl (by omega) (by omega)) rfl ?_
                        refine wl_ov (ov_move rfl) rfl ?_
                        refine wl_nil ?_
                        exact nx_round (k + 1) ⟨by omega, by rw [hinv.2, hat, if_pos hE]⟩ (by omega) ⟨rfl, rfl, rfl, (some_int (by omega)), trivial⟩ (fun _ hm => hm.pick [] [] [0] rfl rfl)
                      · obtain ⟨y, hy⟩ : ∃ x, l[k - 1]? = some x := ⟨_, List.getElem?_eq_getElem (by omega)⟩
                        obtain ⟨p0, p1, p2, p3, p4, p5, p6⟩ := y
                        have hpv := pv_pos hk0 hy
                        refine wl_ov (ov_add rfl rfl (by omega) (by omega)) rfl ?_
                        refine wl_set 56 (v' := .int .i64 4) rfl rfl ?_
                        refine wl_ov (ov_move rfl) rfl ?_
                        refine wl_nil ?_
                        refine nx_next ?_
                        refine gr_next ?_
                        refine gw_seq ?_
                        refine gw_region ?_
                        refine wl_ov (ov_lss rfl rfl) rfl ?_
                        refine wl_set 50 (v' := .bool false) rfl (congrArg Value.bool (by decide)) ?_
                        refine wl_nil ?_
                        refine nx_then ?_
                        refine gw_seq ?_
                        refine gw_cond rfl (fun hh => by cases hh) (fun _ => ?_)
                        refine gw_exit ?_
                        refine nx_then_exit ?_
                        refine nx_then_exit ?_
                        refine nx_blk_here ?_
                        refine nx_then ?_
                        refine gw_seq ?_
                        refine gw_seq ?_
                        refine gw_region ?_
                        refine wl_ov (ov_move rfl) rfl ?_
                        refine wl_ov (ov_eql rfl rfl) rfl ?_
                        refine wl_set 58 (v' := .bool false) rfl (congrArg Value.bool (decide_eq_false (by omega))) ?_
                        refine wl_nil ?_
                        refine nx_then ?_
                        refine gw_cond rfl (fun hh => by cases hh) (fun _ => ?_)
                        refine gw_skip ?_
                        refine nx_then ?_
                        refine gw_seq ?_
                        refine gw_region ?_
                        refine wl_ov (ov_move rfl) rfl ?_
                        refine wl_ov (ov_move rfl) rfl ?_
                        refine wl_ov (ov_sub rfl rfl (by omega) (by omega)) rfl ?_
                        refine wl_set 61 (v' := .int .i64 ((k - 1 : Nat) : Int)) rfl (congrArg (Value.int .i64) (by omega)) ?_
                        refine wl_ov (ov_index (j := k - 1) es26 rfl rfl (by omega)) rfl ?_
                        refine wl_ov (ov_elem (vs := [.string p0, .int .i64 p1, .int .i64 p2, .int .i64 p3, .int .i64 p4, .int .i64 p5, .int .i64 p6]) rz47 rfl (fun _ hm => (hm.fact 0 rfl).1) hy rfl rfl) rfl ?_
                        refine wl_alloc zc47 rfl fun g3 => ?_
                        refine wl_stores (cs' := [.string p0, .int .i64 p1, .int .i64 p2, .int .i64 p3, .int .i64 p4, .int .i64 p5, .int .i64 p6]) 0 rz47 rfl rfl rfl rfl rfl rfl rfl rfl ?_
                        refine wl_nil ?_
                        refine nx_then ?_
                        refine gw_seq ?_
                        refine gw_seq ?_
                        refine gw_draw (fun wz => Blk wz g3 47 [.string p0, .int .i64 p1, .int .i64 p2, .int .i64 p3, .int .i64 p4, .int .i64 p5, .int .i64 p6] ∧ Blk wz g2 3 [.int .i64 ho, .int .i64 dd, .int .i64 we, .int .i64 wk] ∧ Blk wz g1 47 [.string cl, .int .i64 fr, .int .i64 tt, .int .i64 ho, .int .i64 dd, .int .i64 we, .int .i64 wk] ∧ (SlOld rtEnc 7 47 w.heap.size none (some ⟨b, off, none⟩) n l) wz ∧ True) mixed ?_
                        refine wa_take 0 rfl (by kernel_rfl) (by kernel_rfl) (by kernel_rfl) (listed' := #[true, false, false, false, false, false, false, false, false, false, false, false, false]) rfl (fun _ _ _ h => h) (fun _ hm => ⟨hm.blkI 0 rfl, hm.blkI 1 rfl, hm.blkI 2 rfl, hm.fact 0 rfl, trivial⟩) (ov_field fo47_0 rfl rfl) rfl ?_
                        refine wa_take 1 rfl (by kernel_rfl) (by kernel_rfl) (by kernel_rfl) (listed' := #[true, true, false, false, false, false, false, false, false, false, false, false, false]) rfl (fun _ _ _ h => h) (fun _ hm => ⟨hm.blkI 0 rfl, hm.blkI 1 rfl, hm.blkI 2 rfl, hm.fact 0 rfl, trivial⟩) (ov_load sc9 rfl (fun _ hm => hm.1) rfl) rfl ?_
                        refine wa_take 2 rfl (by kernel_rfl) (by kernel_rfl) (by kernel_rfl) (listed' := #[true, true, true, false, false, false, false, false, false, false, false, false, false]) rfl (fun _ _ _ h => h) (fun _ hm => ⟨hm.blkI 0 rfl, hm.blkI 1 rfl, hm.blkI 2 rfl, hm.fact 0 rfl, trivial⟩) (ov_field fo47_0 rfl rfl) rfl ?_
                        refine wa_take 3 rfl (by kernel_rfl) (by kernel_rfl) (by kernel_rfl) (listed' := #[true, true, true, true, false, false, false, false, false, false, false, false, false]) rfl (fun _ _ _ h => h) (fun _ hm => ⟨hm.blkI 0 rfl, hm.blkI 1 rfl, hm.blkI 2 rfl, hm.fact 0 rfl, trivial⟩) (ov_load sc9 rfl (fun _ hm => hm.2.2.1) rfl) rfl ?_
                        refine wa_take 5 rfl (by kernel_rfl) (by kernel_rfl) (by kernel_rfl) (listed' := #[true, true, true, true, false, true, false, false, false, false, false, false, false]) rfl (fun _ _ _ h => h) (fun _ hm => ⟨hm.blkI 0 rfl, hm.blkI 1 rfl, hm.blkI 2 rfl, hm.fact 0 rfl, trivial⟩) (ov_field fo47_1 rfl rfl) rfl ?_
                        refine wa_take 6 rfl (by kernel_rfl) (by kernel_rfl) (by kernel_rfl) (listed' := #[true, true, true, true, false, true, true, false, false, false, false, false, false]) rfl (fun _ _ _ h => h) (fun _ hm => ⟨hm.blkI 0 rfl, hm.blkI 1 rfl, hm.blkI 2 rfl, hm.fact 0 rfl, trivial⟩) (ov_load sc3 rfl (fun _ hm => hm.1) rfl) rfl ?_
                        refine wa_take 7 rfl (by kernel_rfl) (by kernel_rfl) (by kernel_rfl) (listed' := #[true, true, true, true, false, true, true, true, false, false, false, false, false]) rfl (fun _ _ _ h => h) (fun _ hm => ⟨hm.blkI 0 rfl, hm.blkI 1 rfl, hm.blkI 2 rfl, hm.fact 0 rfl, trivial⟩) (ov_field fo47_1 rfl rfl) rfl ?_
                        refine wa_take 8 rfl (by kernel_rfl) (by kernel_rfl) (by kernel_rfl) (listed' := #[true, true, true, true, false, true, true, true, true, false, false, false, false]) rfl (fun _ _ _ h => h) (fun _ hm => ⟨hm.blkI 0 rfl, hm.blkI 1 rfl, hm.blkI 2 rfl, hm.fact 0 rfl, trivial⟩) (ov_load sc3 rfl (fun _ hm => hm.2.2.1) rfl) rfl ?_
                        refine wa_all [4] (by kernel_rfl) rfl ⟨⟨_, rfl, ?_⟩, trivial⟩
                        refine wl_callv rfl cb49 rfl rfl (fun wx hm => (cmp_string _ _ wx)) ?_
                        refine wl_nil ?_
                        refine nx_wa0 (listed' := #[true, true, true, true, true, true, true, true, true, false, false, false, false]) rfl (fun _ hm => ⟨hm.blkI 0 rfl, hm.blkI 1 rfl, hm.blkI 2 rfl, hm.fact 0 rfl, trivial⟩) ?_
                        refine wa_all [9] (by kernel_rfl) rfl ⟨⟨_, rfl, ?_⟩, trivial⟩
                        refine wl_callv rfl cb37 rfl rfl (fun wx hm => (cmp_int _ _ wx)) ?_
                        refine wl_nil ?_
                        refine nx_wa0 (listed' := #[true, true, true, true, true, true, true, true, true, true, false, false, false]) rfl (fun _ hm => ⟨hm.blkI 0 rfl, hm.blkI 1 rfl, hm.blkI 2 rfl, hm.fact 0 rfl, trivial⟩) ?_
                        refine wa_all [10] (by kernel_rfl) rfl ⟨⟨_, rfl, ?_⟩, trivial⟩
                        refine wl_buildSlice (e := 3) (cs := [.int .i64 (cmpS p0 cl), .int .i64 (cmpI p1 fr)]) rfl (by kernel_rfl) rfl fun g4 => ?_
                        refine wl_nil ?_
                        refine nx_wa0 (listed' := #[true, true, true, true, true, true, true, true, true, true, true, false, false]) rfl (fun _ hm => ⟨hm.blkI 1 rfl, hm.blkI 2 rfl, hm.blkI 3 rfl, hm.fact 0 rfl, trivial⟩) ?_
                        refine wa_all [11] (by kernel_rfl) rfl ⟨⟨_, rfl, ?_⟩, trivial⟩
                        refine wl_callv rfl cb36 rfl rfl (fun wx hm => (or_two _ _ _ _ _ wx (hm.blkI 0 rfl))) ?_
                        refine wl_nil ?_
                        refine nx_wa0 (listed' := #[true, true, true, true, true, true, true, true, true, true, true, true, false]) rfl (fun _ hm => ⟨hm.blkI 1 rfl, hm.blkI 2 rfl, hm.blkI 3 rfl, hm.fact 0 rfl, trivial⟩) ?_
                        refine wa_take 12 rfl (by kernel_rfl) (by kernel_rfl) (by kernel_rfl) (listed' := #[true, true, true, true, true, true, true, true, true, true, true, true, true]) rfl (fun _ _ _ h => h) (fun _ hm => ⟨hm.blkI 1 rfl, hm.blkI 2 rfl, hm.blkI 3 rfl, hm.fact 0 rfl, trivial⟩) (ov_geq rfl rfl) rfl ?_
                        refine wa_done (by kernel_rfl) ?_
                        refine nx_then ?_
                        refine gw_cond rfl (fun hh => ?_) (fun hh => ?_)
                        · have h8 : 0 ≤ firstE [cmpS p0 cl, cmpI p1 fr] := by simpa using hh
                          clear hh
                          refine gw_seq ?_
                          refine gw_region ?_
                          have h9 : rtLt ⟨p0, p1, p2, p3, p4, p5, p6⟩ ⟨cl, fr, tt, ho, dd, we, wk⟩ = false := (or_rt' ⟨p0, p1, p2, p3, p4, p5, p6⟩ ⟨cl, fr, tt, ho, dd, we, wk⟩).1 h8
                          refine wl_ov (ov_assign rfl) rfl ?_
                          refine wl_nil ?_
                          refine nx_then ?_
                          refine gw_ret ?_
                          refine nx_then_ret ?_
                          refine nx_blk_ret ?_
                          refine nx_then_ret ?_
                          refine nx_then_ret ?_
                          refine nx_blk_ret ?_
                          refine nx_then_ret ?_
                          have hE : rateE (prevOf l k) ⟨cl, fr, tt, ho, dd, we, wk⟩ = 7 := by unfold rateE; rw [hpv]; simp [h2, h3, h4, h5, i1, i2, i3, i4, h9]
                          refine nx_ret1 rfl rfl fun wx hm => ?_
                          exact ⟨ret_int (by rw [hinv.2, hat, if_neg (by rw [hE]; decide), hE]), hm.g⟩
                        · have h8 : ¬ (0 ≤ firstE [cmpS p0 cl, cmpI p1 fr]) := by simpa using hh
                          clear hh
                          refine gw_skip ?_
                          refine nx_then ?_
                          refine gw_seq ?_
                          refine gw_region ?_
                          have h9 : rtLt ⟨p0, p1, p2, p3, p4, p5, p6⟩ ⟨cl, fr, tt, ho, dd, we, wk⟩ = true := by
                            cases h : rtLt ⟨p0, p1, p2, p3, p4, p5, p6⟩ ⟨cl, fr, tt, ho, dd, we, wk⟩
                            · exact absurd ((or_rt' ⟨p0, p1, p2, p3, p4, p5, p6⟩ ⟨cl, fr, tt, ho, dd, we, wk⟩).2 h) h8
                            · rfl
                          refine wl_ov (ov_field fo47_0 rfl rfl) rfl ?_
                          refine wl_ov (ov_load sc9 rfl (fun _ hm => hm.blkI 1 rfl) rfl) rfl ?_
                          refine wl_ov (ov_field fo47_0 rfl rfl) rfl ?_
                          refine wl_ov (ov_load sc9 rfl (fun _ hm => hm.blkI 3 rfl) rfl) rfl ?_
                          refine wl_ov (ov_seql rfl rfl) rfl ?_
                          refine wl_ov (ov_move rfl) rfl ?_
                          rcases Bool.eq_false_or_eq_true (p0.toList == cl.toList) with h12 | h12
                          · refine wl_set 82 rfl (congrArg Value.bool h12) ?_
                            have h13 : eqS p0 cl = true := h12
                            refine wl_guard_on rfl rfl rfl ?_
                            refine wl_ov (ov_field fo47_2 rfl rfl) rfl ?_
                            refine wl_guard_on rfl rfl rfl ?_
                            refine wl_ov (ov_load sc3 rfl (fun _ hm => hm.blkI 1 rfl) rfl) rfl ?_
                            refine wl_guard_on rfl rfl rfl ?_
                            refine wl_ov (ov_field fo47_1 rfl rfl) rfl ?_
                            refine wl_guard_on rfl rfl rfl ?_
                            refine wl_ov (ov_load sc3 rfl (fun _ hm => hm.blkI 3 rfl) rfl) rfl ?_
                            refine wl_guard_on rfl rfl rfl ?_
                            refine wl_ov (ov_gtr rfl rfl) rfl ?_
                            refine wl_ov (ov_pick_t rfl rfl) rfl ?_
                            refine wl_nil ?_
                            refine nx_then ?_
                            refine gw_cond rfl (fun hh => ?_) (fun hh => ?_)
                            · have h14 : fr < p2 := by simpa using hh
                              clear hh
                              refine gw_seq ?_
                              refine gw_region ?_
                              refine wl_ov (ov_assign rfl) rfl ?_
                              refine wl_nil ?_
                              refine nx_then ?_
                              refine gw_ret ?_
                              refine nx_blk_ret ?_
                              refine nx_then_ret ?_
                              refine nx_then_ret ?_
                              refine nx_blk_ret ?_
                              refine nx_then_ret ?_
                              have hE : rateE (prevOf l k) ⟨cl, fr, tt, ho, dd, we, wk⟩ = 13 := by unfold rateE; rw [hpv]; simp [h2, h3, h4, h5, i1, i2, i3, i4, h9, h13, h14]
                              refine nx_ret1 rfl rfl fun wx hm => ?_
                              exact ⟨ret_int (by rw [hinv.2, hat, if_neg (by rw [hE]; decide), hE]), hm.g⟩
                            · have h14 : ¬ (fr < p2) := by simpa using hh
                              clear hh
                              refine gw_skip ?_
                              refine nx_blk_nrm ?_
                              refine nx_then ?_
                              refine gw_region ?_
                              have hE : rateE (prevOf l k) ⟨cl, fr, tt, ho, dd, we, wk⟩ = 0 := by unfold rateE; rw [hpv]; simp [h2, h3, h4, h5, i1, i2, i3, i4, h9, h13, h14]
                              refine wl_ov (ov_add rfl rfl (by omega) (by omega)) rfl ?_
                              refine wl_ov (ov_move rfl) rfl ?_
                              refine wl_nil ?_
                              exact nx_round (k + 1) ⟨by omega, by rw [hinv.2, hat, if_pos hE]⟩ (by omega) ⟨rfl, rfl, rfl, (some_int (by omega)), trivial⟩ (fun _ hm => hm.pick [] [] [0] rfl rfl)
                          · refine wl_set 82 rfl (congrArg Value.bool h12) ?_
                            have h13 : eqS p0 cl = false := h12
                            have hE : rateE (prevOf l k) ⟨cl, fr, tt, ho, dd, we, wk⟩ = 0 := by unfold rateE; rw [hpv]; simp [h2, h3, h4, h5, i1, i2, i3, i4, h9, h13]
                            refine wl_guard_off rfl rfl rfl (by decide) rfl ?_
                            refine wl_guard_off rfl rfl rfl (by decide) rfl ?_
                            refine wl_guard_off rfl rfl rfl (by decide) rfl ?_
                            refine wl_guard_off rfl rfl rfl (by decide) rfl ?_
                            refine wl_guard_off rfl rfl rfl (by decide) rfl ?_
                            refine wl_ov (ov_pick_f rfl rfl) rfl ?_
                            refine wl_nil ?_
                            refine nx_then ?_
                            refine gw_cond rfl (fun hh => by cases hh) (fun _ => ?_)
                            refine gw_skip ?_
                            refine nx_blk_nrm ?_
                            refine nx_then ?_
                            refine gw_region ?_
                            refine wl_ov (ov_add rfl rfl (by omega) (by omega)) rfl ?_
                            refine wl_ov (ov_move rfl) rfl ?_
                            refine wl_nil ?_
                            exact nx_round (k + 1) ⟨by omega, by rw [hinv.2, hat, if_pos hE]⟩ (by omega) ⟨rfl, rfl, rfl, (some_int (by omega)), trivial⟩ (fun _ hm => hm.pick [] [] [0] rfl rfl)
    · have hk : ¬ (((k : Nat) : Int) < ((n : Nat) : Int)) := by simpa using hh
      clear hh
      refine gw_exit ?_
      refine nx_then_exit ?_
      refine nx_then_exit ?_
      refine nx_blk_here ?_
      refine nx_then ?_
      refine gw_seq ?_
      refine gw_region ?_
      refine wl_ov (ov_assign rfl) rfl ?_
      refine wl_nil ?_
      refine nx_then ?_
      refine gw_ret ?_
      refine nx_ret1 rfl rfl fun wx hm => ?_
      exact ⟨ret_int (by rw [hinv.2, scanE_end _ _ _ _ (by omega)]), hm.g⟩

end Go.Proofs.Ytcggbojhalbkjaa
