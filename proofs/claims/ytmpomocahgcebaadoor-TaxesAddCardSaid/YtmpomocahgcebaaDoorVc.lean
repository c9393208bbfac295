/- The lines of taxes. -/
import Derived.Test.YtmpomocahgcebaaDoorVa
import Derived.Test.YtmpomocahgcebaaDoorLf
import Derived.Test.YtmpomocahgcebaaDoorSi
namespace Go.Proofs.YtmpomocahgcebaaDoor
open Go.RowKit

section
variable {P : Program} {nn : Nat} {S : List (Nat × Value)} {Z : World → Prop} {d : Nat} {ty : TypeId} {pos : String} {aft : Array Edge}
theorem tdiv_is (m : Int) {n : Int} (h : 0 < n) : n * m.tdiv n + m.tmod n = m ∧ -n < m.tmod n ∧ m.tmod n < n := ⟨Int.mul_tdiv_add_tmod m n, Int.lt_tmod_of_pos m h, Int.tmod_lt_of_pos m h⟩
theorem ov_quoT {t t' : TypeId} {x y : Operand} {m n : Int} (hx : rd S x = some (.int .i64 m)) (hy : rd S y = some (.int .i64 n)) (h0 : -9223372036854775808 ≤ m.tdiv n) (h1 : m.tdiv n ≤ 9223372036854775807) (h2 : 0 < n) : OV P nn S Z ⟨some d, .binOp .quo t x y t', ty, pos, aft, none⟩ (.int .i64 (m.tdiv n)) :=
  ov_bin hx hy (fun w => by
    have hw : IntKind.i64.wrap (m.tdiv n) = m.tdiv n := IntWalk.i64_in _ (by omega)
    have hn : ¬ n = 0 := by omega
    simp [binOp_quo, Op.intDiv, hw, hn, go_sem])
theorem ov_remT {t t' : TypeId} {x y : Operand} {m n : Int} (hx : rd S x = some (.int .i64 m)) (hy : rd S y = some (.int .i64 n)) (_h0 : True) (_h1 : True) (h2 : 0 < n) : OV P nn S Z ⟨some d, .binOp .rem t x y t', ty, pos, aft, none⟩ (.int .i64 (m.tmod n)) :=
  ov_bin hx hy (fun w => by
    have hn : ¬ n = 0 := by omega
    simp [binOp_rem, Op.intDiv, hn, go_sem])
end
/-- Of a number of thousandths of a cent: the nearest cents. -/
def nearV (x : Int) : Int := (x + 500) / 1000
def onSum (on : List Int) (l : List Ln) : Int := sumBy (fun x => if x.kind ∈ on then x.cents else 0) l
def taxN (ls out : List Ln) (x : Tx) : Int := onSum x.on ls + (bif x.over then sumBy centsOf out else 0)
def taxL (ls out : List Ln) (x : Tx) : Ln := ⟨5, x.key, nearV (taxN ls out x * x.mille)⟩
def taxesV (ls : List Ln) : List Ln → List Tx → List Ln
  | out, [] => out
  | out, x :: r => taxesV ls (out ++ [taxL ls out x]) r
theorem taxesV_at {ls out : List Ln} {l : List Tx} {i : Nat} {x : Tx} (h : l[i]? = some x) : taxesV ls out (l.drop i) = taxesV ls (out ++ [taxL ls out x]) (l.drop (i + 1)) := by
  obtain ⟨hi, rfl⟩ := List.getElem?_eq_some_iff.1 h
  rw [List.drop_eq_getElem_cons hi]; rfl
theorem onSum_bound {on : List Int} {l : List Ln} (h : ∀ x ∈ l, -1000000000 ≤ x.cents ∧ x.cents ≤ 1000000000) (hl : l.length ≤ 200) : -200000000000 ≤ onSum on l ∧ onSum on l ≤ 200000000000 := by
  have := sumBy_bound (l := l) (f := fun x => if x.kind ∈ on then x.cents else 0) (a := -1000000000) (b := 1000000000) (fun x hx => by have := h x hx; split <;> omega)
  unfold onSum; omega
def pwT : Nat → Int
  | 0 => 0
  | k + 1 => 2 * pwT k + 200000000001
theorem pwT_le {k : Nat} (h : k ≤ 2) : 0 ≤ pwT k ∧ pwT k ≤ 600000000003 := by
  match k with
  | 0 => simp [pwT]
  | 1 => simp [pwT]
  | 2 => simp [pwT]
  | n + 3 => omega
theorem mul_rng {n p M : Int} (h0 : -M ≤ n) (h1 : n ≤ M) (h2 : 0 ≤ p) (h3 : p ≤ 1000) : -(M * 1000) ≤ n * p ∧ n * p ≤ M * 1000 := by
  have hM : 0 ≤ M := by omega
  have a1 : n * p ≤ M * p := Int.mul_le_mul_of_nonneg_right h1 h2
  have a2 : M * p ≤ M * 1000 := Int.mul_le_mul_of_nonneg_left h3 hM
  have a3 : -M * p ≤ n * p := Int.mul_le_mul_of_nonneg_right h0 h2
  have a4 : -M * p = -(M * p) := Int.neg_mul _ _
  omega
theorem near_rng {n p M : Int} (h0 : -M ≤ n) (h1 : n ≤ M) (h2 : 0 ≤ p) (h3 : p ≤ 1000) : -(M + 1) ≤ nearV (n * p) ∧ nearV (n * p) ≤ M + 1 := by
  have := mul_rng h0 h1 h2 h3
  unfold nearV; omega
theorem near_two (n p : Int) : (2 * n * p + 1000) / 2000 = nearV (n * p) := by
  rw [Int.mul_assoc]; unfold nearV; omega
theorem taxL_ok {ls out : List Ln} {x : Tx} {k : Nat} (hs : -200000000000 ≤ onSum x.on ls ∧ onSum x.on ls ≤ 200000000000) (ho : -pwT k ≤ sumBy centsOf out ∧ sumBy centsOf out ≤ pwT k) (hk : k ≤ 2) (hm : 0 ≤ x.mille ∧ x.mille ≤ 1000) :
    (-1000000000000 ≤ (taxL ls out x).cents ∧ (taxL ls out x).cents ≤ 1000000000000) ∧ (-pwT (k + 1) ≤ sumBy centsOf (out ++ [taxL ls out x]) ∧ sumBy centsOf (out ++ [taxL ls out x]) ≤ pwT (k + 1)) := by
  have hp := pwT_le hk
  have hn : -(pwT k + 200000000000) ≤ taxN ls out x ∧ taxN ls out x ≤ pwT k + 200000000000 := by
    unfold taxN; cases x.over <;> simp only [cond_true, cond_false] <;> omega
  have hr := near_rng hn.1 hn.2 hm.1 hm.2
  have hc : (taxL ls out x).cents = nearV (taxN ls out x * x.mille) := rfl
  rw [sumBy_append]
  simp only [sumBy, pwT, centsOf]
  rw [hc]
  omega
def isTax (x : Ln) : Bool := decide (x.kind = 5)

set_option maxRecDepth 100000 in
set_option maxHeartbeats 400000 in
theorem nearest_any (x : Int) (w : World) (h0 : -1000000000000000000 ≤ x) (h1 : x ≤ 1000000000000000000) :
    Calls Tryd.prog 176 #[.int .i64 x] w (GotE w (nearV x)) := by
  refine gw_enter ⟨16, w, none, []⟩ Tryd.func176 rfl Tryd.ntmps176 rfl (mem0 (X := []) allF_nil allL_nil) ?_
  refine gw_seq ?_
  refine gw_region ?_
  have ht := tdiv_is (x + 500) (show (0 : Int) < 1000 by decide)
  obtain ⟨ht0, ht1, ht2⟩ := ht
  refine wl_ov (ov_assign rfl) rfl ?_
  refine wl_nil ?_
  refine nx_then ?_
  refine gw_seq ?_
  refine gw_region ?_
  refine wl_ov (ov_move rfl) rfl ?_
  refine wl_ov (ov_add rfl rfl (by omega) (by omega)) rfl ?_
  refine wl_ov (ov_quoT rfl rfl (by omega) (by omega) (by omega)) rfl ?_
  refine wl_ov (ov_move rfl) rfl ?_
  refine wl_ov (ov_add rfl rfl (by omega) (by omega)) rfl ?_
  refine wl_ov (ov_remT rfl rfl trivial trivial (by omega)) rfl ?_
  refine wl_ov (ov_assign rfl) rfl ?_
  refine wl_ov (ov_assign rfl) rfl ?_
  refine wl_nil ?_
  refine nx_then ?_
  refine gw_seq ?_
  refine gw_seq ?_
  refine gw_region ?_
  refine wl_ov (ov_move rfl) rfl ?_
  refine wl_ov (ov_lss rfl rfl) rfl ?_
  refine wl_nil ?_
  refine nx_then ?_
  refine gw_cond rfl (fun hh => ?_) (fun hh => ?_)
  · have h : Int.tmod (x + 500) 1000 < 0 := by simpa using hh
    clear hh
    refine gw_region ?_
    refine wl_ov (ov_move rfl) rfl ?_
    refine wl_ov (ov_sub rfl rfl (by omega) (by omega)) rfl ?_
    refine wl_ov (ov_assign rfl) rfl ?_
    refine wl_nil ?_
    refine nx_then ?_
    refine gw_seq ?_
    refine gw_region ?_
    refine wl_ov (ov_move rfl) rfl ?_
    refine wl_ov (ov_assign rfl) rfl ?_
    refine wl_nil ?_
    refine nx_then ?_
    refine gw_ret ?_
    refine nx_ret1 rfl rfl fun wx hm => ?_
    exact ⟨ret_int (by unfold nearV; omega), hm.g⟩
  · have h : ¬ (Int.tmod (x + 500) 1000 < 0) := by simpa using hh
    clear hh
    refine gw_skip ?_
    refine nx_then ?_
    refine gw_seq ?_
    refine gw_region ?_
    refine wl_ov (ov_move rfl) rfl ?_
    refine wl_ov (ov_assign rfl) rfl ?_
    refine wl_nil ?_
    refine nx_then ?_
    refine gw_ret ?_
    refine nx_ret1 rfl rfl fun wx hm => ?_
    exact ⟨ret_int (by unfold nearV; omega), hm.g⟩

set_option maxRecDepth 100000 in
set_option maxHeartbeats 400000 in
theorem floor_any (x : Int) (w : World) (h0 : -1000000000000000000 ≤ x) (h1 : x ≤ 1000000000000000000) :
    Calls Tryd.prog 142 #[.int .i64 x, .int .i64 2000] w (GotE w (x / 2000)) := by
  refine gw_enter ⟨17, w, none, []⟩ Tryd.func142 rfl Tryd.ntmps142 rfl (mem0 (X := []) allF_nil allL_nil) ?_
  refine gw_seq ?_
  refine gw_region ?_
  have ht := tdiv_is x (show (0 : Int) < 2000 by decide)
  obtain ⟨ht0, ht1, ht2⟩ := ht
  refine wl_ov (ov_assign rfl) rfl ?_
  refine wl_nil ?_
  refine nx_then ?_
  refine gw_seq ?_
  refine gw_region ?_
  refine wl_ov (ov_move rfl) rfl ?_
  refine wl_ov (ov_move rfl) rfl ?_
  refine wl_ov (ov_quoT rfl rfl (by omega) (by omega) (by omega)) rfl ?_
  refine wl_ov (ov_assign rfl) rfl ?_
  refine wl_nil ?_
  refine nx_then ?_
  refine gw_seq ?_
  refine gw_seq ?_
  refine gw_region ?_
  refine wl_ov (ov_move rfl) rfl ?_
  refine wl_ov (ov_move rfl) rfl ?_
  refine wl_ov (ov_mul rfl rfl (by omega) (by omega)) rfl ?_
  refine wl_ov (ov_move rfl) rfl ?_
  refine wl_ov (ov_gtr rfl rfl) rfl ?_
  refine wl_nil ?_
  refine nx_then ?_
  refine gw_cond rfl (fun hh => ?_) (fun hh => ?_)
  · have h : x < (Int.tdiv x 2000) * 2000 := by simpa using hh
    clear hh
    refine gw_region ?_
    refine wl_ov (ov_move rfl) rfl ?_
    refine wl_ov (ov_sub rfl rfl (by omega) (by omega)) rfl ?_
    refine wl_ov (ov_assign rfl) rfl ?_
    refine wl_nil ?_
    refine nx_then ?_
    refine gw_seq ?_
    refine gw_region ?_
    refine wl_ov (ov_move rfl) rfl ?_
    refine wl_ov (ov_assign rfl) rfl ?_
    refine wl_nil ?_
    refine nx_then ?_
    refine gw_ret ?_
    refine nx_ret1 rfl rfl fun wx hm => ?_
    exact ⟨ret_int (by omega), hm.g⟩
  · have h : ¬ (x < (Int.tdiv x 2000) * 2000) := by simpa using hh
    clear hh
    refine gw_skip ?_
    refine nx_then ?_
    refine gw_seq ?_
    refine gw_region ?_
    refine wl_ov (ov_move rfl) rfl ?_
    refine wl_ov (ov_assign rfl) rfl ?_
    refine wl_nil ?_
    refine nx_then ?_
    refine gw_ret ?_
    refine nx_ret1 rfl rfl fun wx hm => ?_
    exact ⟨ret_int (by omega), hm.g⟩

set_option maxRecDepth 100000 in
set_option maxHeartbeats 400000 in
theorem predLine_c (kd : Int) (ky : ByteArray) (ct : Int) (w : World) :
    Calls Tryd.prog 135 #[.agg #[.int .i64 kd, .string ky, .int .i64 ct]] w (fun e w' => e = .returned (.bool (isTax ⟨kd, ky, ct⟩)) ∧ w.grownBy w' none) := by
  refine gw_enter ⟨6, w, none, []⟩ Tryd.func135 rfl Tryd.ntmps135 rfl (mem0 (X := []) allF_nil allL_nil) ?_
  refine gw_seq ?_
  refine gw_region ?_
  refine wl_box rfl rfl rfl fun g1 => ?_
  refine wl_ov (ov_assign rfl) rfl ?_
  refine wl_nil ?_
  refine nx_then ?_
  refine gw_seq ?_
  refine gw_region ?_
  refine wl_ov (ov_field fo133_0 rfl rfl) rfl ?_
  refine wl_ov (ov_load sc3 rfl (fun _ hm => hm.blkI 0 rfl) rfl) rfl ?_
  refine wl_ov (ov_eql rfl rfl) rfl ?_
  refine wl_ov (ov_assign rfl) rfl ?_
  refine wl_nil ?_
  refine nx_then ?_
  refine gw_ret ?_
  refine nx_ret1 rfl rfl fun wx hm => ?_
  exact ⟨rfl, hm.g⟩

set_option maxRecDepth 100000 in
set_option maxHeartbeats 400000 in
theorem indexLine_c (ls : List Ln) (A2 : Option Addr) (n2 c2 : Nat) (w : World) (hs : SlT lnEnc 3 133 w A2 n2 ls) (hn2 : n2 ≤ 1000000) :
    Calls Tryd.prog 140 #[.slice A2 n2 c2, .func (.func 135) #[] #[]] w (GotE w (ixP isTax ls 0)) := by
  refine gw_enter ⟨19, w, none, []⟩ Tryd.func140 rfl Tryd.ntmps140 rfl (mem0 (X := [SlOld lnEnc 3 133 w.heap.size none A2 n2 ls]) (allF_cons hs.old allF_nil) (allL_cons SlOld.lasts allL_nil)) ?_
  refine gw_seq ?_
  refine gw_region ?_
  have hlen := hs.len
  refine wl_ov (ov_assign rfl) rfl ?_
  refine wl_nil ?_
  refine nx_then ?_
  refine gw_seq ?_
  refine gw_seq ?_
  refine gw_region ?_
  refine wl_ov (ov_move rfl) rfl ?_
  refine wl_ov (ov_len es44 rfl) rfl ?_
  refine wl_ov (ov_move rfl) rfl ?_
  refine wl_nil ?_
  refine nx_then ?_
  refine gw_block ?_
  refine gw_loop (γ := Nat) (fun (i : Nat) => i ≤ n2 ∧ ixP isTax ls 0 = ixP isTax (ls.drop i) i) (fun (i : Nat) => [(0, .slice A2 n2 c2), (1, .func (.func 135) #[] #[]), (7, .int .i64 ((n2 : Nat) : Int)), (8, .int .i64 ((i : Nat) : Int))]) (fun (i : Nat) => fun _ => True) (fun (i : Nat) => []) (fun (i : Nat) => []) (fun (i : Nat) => [SlOld lnEnc 3 133 w.heap.size none A2 n2 ls]) (fun (i : Nat) => n2 - i) 0 ⟨Nat.zero_le _, rfl⟩ ⟨rfl, rfl, rfl, rfl, trivial⟩ (fun _ hm => hm.pick [] [] [0] rfl rfl) ?_
  intro i hinv
  replace hinv : i ≤ n2 ∧ ixP isTax ls 0 = ixP isTax (ls.drop i) i := hinv
  refine gw_seq ?_
  refine gw_region ?_
  refine wl_ov (ov_lss rfl rfl) rfl ?_
  refine wl_nil ?_
  refine nx_then ?_
  refine gw_seq ?_
  refine gw_cond rfl (fun hh => ?_) (fun hh => ?_)
  · have hi : ((i : Nat) : Int) < ((n2 : Nat) : Int) := by simpa using hh
    clear hh
    refine gw_skip ?_
    refine nx_then ?_
    refine gw_seq ?_
    refine gw_block ?_
    refine gw_seq ?_
    refine gw_region ?_
    obtain ⟨b, off, hA, _, _⟩ := hs.get (by omega)
    subst hA
    obtain ⟨x, hx⟩ : ∃ x, ls[i]? = some x := ⟨_, List.getElem?_eq_getElem (by omega)⟩
    obtain ⟨kd, ky, ct⟩ := x
    have hat := ixP_at (p := isTax) hx
    refine wl_ov (ov_move rfl) rfl ?_
    refine wl_ov (ov_assign rfl) rfl ?_
    refine wl_nil ?_
    refine nx_then ?_
    refine gw_seq ?_
    refine gw_region ?_
    refine wl_ov (ov_move rfl) rfl ?_
    refine wl_ov (ov_move rfl) rfl ?_
    refine wl_ov (ov_move rfl) rfl ?_
    refine wl_ov (ov_index (j := i) es44 rfl rfl (by omega)) rfl ?_
    refine wl_ov (ov_elem (vs := [.int .i64 kd, .string ky, .int .i64 ct]) rz133 rfl (fun _ hm => (hm.fact 0 rfl).1) hx rfl rfl) rfl ?_
    refine wl_callv rfl cb135 rfl rfl (fun wx hm => (predLine_c kd ky ct wx)) ?_
    refine wl_nil ?_
    refine nx_then ?_
    refine gw_cond rfl (fun hh => ?_) (fun hh => ?_)
    · have hq : (isTax ⟨kd, ky, ct⟩) = true := by simpa using hh
      clear hh
      refine gw_seq ?_
      refine gw_region ?_
      refine wl_ov (ov_move rfl) rfl ?_
      refine wl_ov (ov_assign rfl) rfl ?_
      refine wl_nil ?_
      refine nx_then ?_
      refine gw_ret ?_
      refine nx_blk_ret ?_
      refine nx_then_ret ?_
      refine nx_then_ret ?_
      refine nx_blk_ret ?_
      refine nx_then_ret ?_
      refine nx_ret1 rfl rfl fun wx hm => ?_
      exact ⟨ret_int (by rw [hinv.2, hat, if_pos hq]), hm.g⟩
    · have hq : (isTax ⟨kd, ky, ct⟩) = false := by simpa using hh
      clear hh
      refine gw_skip ?_
      refine nx_blk_nrm ?_
      refine nx_then ?_
      refine gw_region ?_
      refine wl_ov (ov_add rfl rfl (by omega) (by omega)) rfl ?_
      refine wl_ov (ov_move rfl) rfl ?_
      refine wl_nil ?_
      exact nx_round (i + 1) ⟨by omega, by rw [hinv.2, hat, if_neg (by rw [hq]; decide)]⟩ (by omega) ⟨rfl, rfl, rfl, (some_int (by omega)), trivial⟩ (fun _ hm => hm.pick [] [] [0] rfl rfl)
  · have hi : ¬ (((i : Nat) : Int) < ((n2 : Nat) : Int)) := by simpa using hh
    clear hh
    refine gw_exit ?_
    refine nx_then_exit ?_
    refine nx_then_exit ?_
    refine nx_blk_here ?_
    refine nx_then ?_
    refine gw_seq ?_
    refine gw_region ?_
    refine wl_ov (ov_assign rfl) rfl ?_
    refine wl_set 4 (v' := .int .i64 (-1)) rfl rfl ?_
    refine wl_nil ?_
    refine nx_then ?_
    refine gw_ret ?_
    refine nx_ret1 rfl rfl fun wx hm => ?_
    exact ⟨ret_int (by rw [hinv.2, List.drop_eq_nil_of_le (by omega)]; rfl), hm.g⟩

set_option maxRecDepth 100000 in
set_option maxHeartbeats 400000 in
theorem hasTaxLine_c (ls : List Ln) (A2 : Option Addr) (n2 c2 : Nat) (w : World) (hs : SlT lnEnc 3 133 w A2 n2 ls) (hn2 : n2 ≤ 1000000) :
    Calls Tryd.prog 82 #[.slice A2 n2 c2, .func (.func 135) #[] #[]] w (fun e w' => e = .returned (.bool (ls.any isTax)) ∧ w.grownBy w' none) := by
  refine gw_enter ⟨9, w, none, []⟩ Tryd.func82 rfl Tryd.ntmps82 rfl (mem0 (X := [SlOld lnEnc 3 133 w.heap.size none A2 n2 ls]) (allF_cons hs.old allF_nil) (allL_cons SlOld.lasts allL_nil)) ?_
  refine gw_seq ?_
  refine gw_region ?_
  refine wl_ov (ov_assign rfl) rfl ?_
  refine wl_nil ?_
  refine nx_then ?_
  refine gw_seq ?_
  refine gw_region ?_
  refine wl_ov (ov_move rfl) rfl ?_
  refine wl_ov (ov_move rfl) rfl ?_
  refine wl_callv rfl cb140 rfl rfl (fun wx hm => (indexLine_c ls A2 n2 c2 wx (hm.fact 0 rfl).1 hn2)) ?_
  refine wl_ov (ov_geq rfl rfl) rfl ?_
  refine wl_ov (ov_assign rfl) rfl ?_
  refine wl_nil ?_
  refine nx_then ?_
  refine gw_ret ?_
  refine nx_ret1 rfl rfl fun wx hm => ?_
  exact ⟨by rw [← ix_any], hm.g⟩

set_option maxRecDepth 100000 in
set_option maxHeartbeats 400000 in
theorem predLine_r (kd : Int) (ky : ByteArray) (ct : Int) (w : World) :
    Calls Tryd.prog 83 #[.agg #[.int .i64 kd, .string ky, .int .i64 ct]] w (fun e w' => e = .returned (.bool (isTax ⟨kd, ky, ct⟩)) ∧ w.grownBy w' none) := by
  refine gw_enter ⟨6, w, none, []⟩ Tryd.func83 rfl Tryd.ntmps83 rfl (mem0 (X := []) allF_nil allL_nil) ?_
  refine gw_seq ?_
  refine gw_region ?_
  refine wl_box rfl rfl rfl fun g1 => ?_
  refine wl_ov (ov_assign rfl) rfl ?_
  refine wl_nil ?_
  refine nx_then ?_
  refine gw_seq ?_
  refine gw_region ?_
  refine wl_ov (ov_field fo133_0 rfl rfl) rfl ?_
  refine wl_ov (ov_load sc3 rfl (fun _ hm => hm.blkI 0 rfl) rfl) rfl ?_
  refine wl_ov (ov_eql rfl rfl) rfl ?_
  refine wl_ov (ov_assign rfl) rfl ?_
  refine wl_nil ?_
  refine nx_then ?_
  refine gw_ret ?_
  refine nx_ret1 rfl rfl fun wx hm => ?_
  exact ⟨rfl, hm.g⟩

set_option maxRecDepth 100000 in
set_option maxHeartbeats 400000 in
theorem indexLine_r (ls : List Ln) (A2 : Option Addr) (n2 c2 : Nat) (w : World) (hs : SlT lnEnc 3 133 w A2 n2 ls) (hn2 : n2 ≤ 1000000) :
    Calls Tryd.prog 140 #[.slice A2 n2 c2, .func (.func 83) #[] #[]] w (GotE w (ixP isTax ls 0)) := by
  refine gw_enter ⟨19, w, none, []⟩ Tryd.func140 rfl Tryd.ntmps140 rfl (mem0 (X := [SlOld lnEnc 3 133 w.heap.size none A2 n2 ls]) (allF_cons hs.old allF_nil) (allL_cons SlOld.lasts allL_nil)) ?_
  refine gw_seq ?_
  refine gw_region ?_
  have hlen := hs.len
  refine wl_ov (ov_assign rfl) rfl ?_
  refine wl_nil ?_
  refine nx_then ?_
  refine gw_seq ?_
  refine gw_seq ?_
  refine gw_region ?_
  refine wl_ov (ov_move rfl) rfl ?_
  refine wl_ov (ov_len es44 rfl) rfl ?_
  refine wl_ov (ov_move rfl) rfl ?_
  refine wl_nil ?_
  refine nx_then ?_
  refine gw_block ?_
  refine gw_loop (γ := Nat) (fun (i : Nat) => i ≤ n2 ∧ ixP isTax ls 0 = ixP isTax (ls.drop i) i) (fun (i : Nat) => [(0, .slice A2 n2 c2), (1, .func (.func 83) #[] #[]), (7, .int .i64 ((n2 : Nat) : Int)), (8, .int .i64 ((i : Nat) : Int))]) (fun (i : Nat) => fun _ => True) (fun (i : Nat) => []) (fun (i : Nat) => []) (fun (i : Nat) => [SlOld lnEnc 3 133 w.heap.size none A2 n2 ls]) (fun (i : Nat) => n2 - i) 0 ⟨Nat.zero_le _, rfl⟩ ⟨rfl, rfl, rfl, rfl, trivial⟩ (fun _ hm => hm.pick [] [] [0] rfl rfl) ?_
  intro i hinv
  replace hinv : i ≤ n2 ∧ ixP isTax ls 0 = ixP isTax (ls.drop i) i := hinv
  refine gw_seq ?_
  refine gw_region ?_
  refine wl_ov (ov_lss rfl rfl) rfl ?_
  refine wl_nil ?_
  refine nx_then ?_
  refine gw_seq ?_
  refine gw_cond rfl (fun hh => ?_) (fun hh => ?_)
  · have hi : ((i : Nat) : Int) < ((n2 : Nat) : Int) := by simpa using hh
    clear hh
    refine gw_skip ?_
    refine nx_then ?_
    refine gw_seq ?_
    refine gw_block ?_
    refine gw_seq ?_
    refine gw_region ?_
    obtain ⟨b, off, hA, _, _⟩ := hs.get (by omega)
    subst hA
    obtain ⟨x, hx⟩ : ∃ x, ls[i]? = some x := ⟨_, List.getElem?_eq_getElem (by omega)⟩
    obtain ⟨kd, ky, ct⟩ := x
    have hat := ixP_at (p := isTax) hx
    refine wl_ov (ov_move rfl) rfl ?_
    refine wl_ov (ov_assign rfl) rfl ?_
    refine wl_nil ?_
    refine nx_then ?_
    refine gw_seq ?_
    refine gw_region ?_
    refine wl_ov (ov_move rfl) rfl ?_
    refine wl_ov (ov_move rfl) rfl ?_
    refine wl_ov (ov_move rfl) rfl ?_
    refine wl_ov (ov_index (j := i) es44 rfl rfl (by omega)) rfl ?_
    refine wl_ov (ov_elem (vs := [.int .i64 kd, .string ky, .int .i64 ct]) rz133 rfl (fun _ hm => (hm.fact 0 rfl).1) hx rfl rfl) rfl ?_
    refine wl_callv rfl cb83 rfl rfl (fun wx hm => (predLine_r kd ky ct wx)) ?_
    refine wl_nil ?_
    refine nx_then ?_
    refine gw_cond rfl (fun hh => ?_) (fun hh => ?_)
    · have hq : (isTax ⟨kd, ky, ct⟩) = true := by simpa using hh
      clear hh
      refine gw_seq ?_
      refine gw_region ?_
      refine wl_ov (ov_move rfl) rfl ?_
      refine wl_ov (ov_assign rfl) rfl ?_
      refine wl_nil ?_
      refine nx_then ?_
      refine gw_ret ?_
      refine nx_blk_ret ?_
      refine nx_then_ret ?_
      refine nx_then_ret ?_
      refine nx_blk_ret ?_
      refine nx_then_ret ?_
      refine nx_ret1 rfl rfl fun wx hm => ?_
      exact ⟨ret_int (by rw [hinv.2, hat, if_pos hq]), hm.g⟩
    · have hq : (isTax ⟨kd, ky, ct⟩) = false := by simpa using hh
      clear hh
      refine gw_skip ?_
      refine nx_blk_nrm ?_
      refine nx_then ?_
      refine gw_region ?_
      refine wl_ov (ov_add rfl rfl (by omega) (by omega)) rfl ?_
      refine wl_ov (ov_move rfl) rfl ?_
      refine wl_nil ?_
      exact nx_round (i + 1) ⟨by omega, by rw [hinv.2, hat, if_neg (by rw [hq]; decide)]⟩ (by omega) ⟨rfl, rfl, rfl, (some_int (by omega)), trivial⟩ (fun _ hm => hm.pick [] [] [0] rfl rfl)
  · have hi : ¬ (((i : Nat) : Int) < ((n2 : Nat) : Int)) := by simpa using hh
    clear hh
    refine gw_exit ?_
    refine nx_then_exit ?_
    refine nx_then_exit ?_
    refine nx_blk_here ?_
    refine nx_then ?_
    refine gw_seq ?_
    refine gw_region ?_
    refine wl_ov (ov_assign rfl) rfl ?_
    refine wl_set 4 (v' := .int .i64 (-1)) rfl rfl ?_
    refine wl_nil ?_
    refine nx_then ?_
    refine gw_ret ?_
    refine nx_ret1 rfl rfl fun wx hm => ?_
    exact ⟨ret_int (by rw [hinv.2, List.drop_eq_nil_of_le (by omega)]; rfl), hm.g⟩

set_option maxRecDepth 100000 in
set_option maxHeartbeats 400000 in
theorem hasTaxLine_r (ls : List Ln) (A2 : Option Addr) (n2 c2 : Nat) (w : World) (hs : SlT lnEnc 3 133 w A2 n2 ls) (hn2 : n2 ≤ 1000000) :
    Calls Tryd.prog 82 #[.slice A2 n2 c2, .func (.func 83) #[] #[]] w (fun e w' => e = .returned (.bool (ls.any isTax)) ∧ w.grownBy w' none) := by
  refine gw_enter ⟨9, w, none, []⟩ Tryd.func82 rfl Tryd.ntmps82 rfl (mem0 (X := [SlOld lnEnc 3 133 w.heap.size none A2 n2 ls]) (allF_cons hs.old allF_nil) (allL_cons SlOld.lasts allL_nil)) ?_
  refine gw_seq ?_
  refine gw_region ?_
  refine wl_ov (ov_assign rfl) rfl ?_
  refine wl_nil ?_
  refine nx_then ?_
  refine gw_seq ?_
  refine gw_region ?_
  refine wl_ov (ov_move rfl) rfl ?_
  refine wl_ov (ov_move rfl) rfl ?_
  refine wl_callv rfl cb140 rfl rfl (fun wx hm => (indexLine_r ls A2 n2 c2 wx (hm.fact 0 rfl).1 hn2)) ?_
  refine wl_ov (ov_geq rfl rfl) rfl ?_
  refine wl_ov (ov_assign rfl) rfl ?_
  refine wl_nil ?_
  refine nx_then ?_
  refine gw_ret ?_
  refine nx_ret1 rfl rfl fun wx hm => ?_
  exact ⟨by rw [← ix_any], hm.g⟩

theorem out_snoc {l : List Ln} {x : Ln} (h : ∀ y ∈ l, -1000000000000 ≤ y.cents ∧ y.cents ≤ 1000000000000) (hx : -1000000000000 ≤ x.cents ∧ x.cents ≤ 1000000000000) : ∀ y ∈ l ++ [x], -1000000000000 ≤ y.cents ∧ y.cents ≤ 1000000000000 := fun y hy => by
  rcases List.mem_append.1 hy with hy | hy
  · exact h y hy
  · rw [List.mem_singleton.1 hy]; exact hx
set_option maxRecDepth 100000 in
set_option maxHeartbeats 1000000 in
theorem taxes_any (l : List Tx) (A : Option Addr) (n c0 : Nat) (ls : List Ln) (A2 : Option Addr) (n2 c2 : Nat) (w : World) (hl : SlT txEnc 4 205 w A n l) (hg : Ons l w) (hok : ∀ x ∈ l, TxOk x) (hn : n ≤ 3) (hs : SlT lnEnc 3 133 w A2 n2 ls) (hn2 : n2 ≤ 200) (hml : ∀ x ∈ l, 0 ≤ x.mille ∧ x.mille ≤ 1000) (hb : ∀ x ∈ ls, -1000000000 ≤ x.cents ∧ x.cents ≤ 1000000000) :
    Calls Tryd.prog 136 #[.slice A n c0, .slice A2 n2 c2] w (fun e w' => ∃ A3 n3 c3, e = .returned (.slice A3 n3 c3) ∧ SlT lnEnc 3 133 w' A3 n3 (taxesV ls [] l) ∧ n3 ≤ 3 ∧ w.grownBy w' none) := by
  refine gw_enter ⟨52, w, none, []⟩ Tryd.func136 rfl Tryd.ntmps136 rfl (mem0 (X := [SlOld txEnc 4 205 w.heap.size none A n l, OnsOld w.heap.size none l, SlOld lnEnc 3 133 w.heap.size none A2 n2 ls]) (allF_cons hl.old (allF_cons hg.old (allF_cons hs.old allF_nil))) (allL_cons SlOld.lasts (allL_cons OnsOld.lasts (allL_cons SlOld.lasts allL_nil)))) ?_
  refine gw_seq ?_
  refine gw_region ?_
  have hlen := hl.len
  have hlen2 := hs.len
  obtain ⟨TV, hTV⟩ : ∃ T, T = taxesV ls [] l := ⟨_, rfl⟩
  rw [← hTV]
  refine wl_ov (ov_assign rfl) rfl ?_
  refine wl_nil ?_
  refine nx_then ?_
  refine gw_seq ?_
  refine gw_region ?_
  refine wl_ov (ov_assign rfl) rfl ?_
  refine wl_nil ?_
  refine nx_then ?_
  refine gw_seq ?_
  refine gw_seq ?_
  refine gw_region ?_
  refine wl_ov (ov_move rfl) rfl ?_
  refine wl_ov (ov_len es125 rfl) rfl ?_
  refine wl_ov (ov_move rfl) rfl ?_
  refine wl_nil ?_
  refine nx_then ?_
  refine gw_block ?_
  refine gw_nilOwn 133 3 ?_
  refine gw_loop (γ := Nat × Value × List Ln × List Value) (fun (g : Nat × Value × List Ln × List Value) => g.1 ≤ n ∧ g.2.2.1.length = g.1 ∧ TV = taxesV ls g.2.2.1 (l.drop g.1) ∧ (-pwT g.1 ≤ sumBy centsOf g.2.2.1 ∧ sumBy centsOf g.2.2.1 ≤ pwT g.1) ∧ (∀ x ∈ g.2.2.1, -1000000000000 ≤ x.cents ∧ x.cents ≤ 1000000000000) ∧ g.2.2.2 = g.2.2.1.flatMap lnEnc) (fun (g : Nat × Value × List Ln × List Value) => [(1, .slice A2 n2 c2), (4, .slice none 0 0), (5, g.2.1), (11, .slice A n c0), (12, .int .i64 ((n : Nat) : Int)), (13, .int .i64 ((g.1 : Nat) : Int))]) (fun (g : Nat × Value × List Ln × List Value) => fun _ => True) (fun (g : Nat × Value × List Ln × List Value) => []) (fun (g : Nat × Value × List Ln × List Value) => [⟨g.2.1, 133, 3, g.1, g.2.2.2⟩]) (fun (g : Nat × Value × List Ln × List Value) => [SlOld txEnc 4 205 w.heap.size none A n l, OnsOld w.heap.size none l, SlOld lnEnc 3 133 w.heap.size none A2 n2 ls]) (fun (g : Nat × Value × List Ln × List Value) => n - g.1) (0, .slice none 0 0, [], []) ⟨Nat.zero_le _, rfl, hTV, by decide, (fun _ h => by cases h), rfl⟩ ⟨rfl, rfl, rfl, rfl, rfl, rfl, trivial⟩ (fun _ hm => hm.pick [] [0] [0, 1, 2] rfl rfl) ?_
  rintro ⟨k, v, out, xs⟩ hinv
  replace hinv : k ≤ n ∧ out.length = k ∧ TV = taxesV ls out (l.drop k) ∧ (-pwT k ≤ sumBy centsOf out ∧ sumBy centsOf out ≤ pwT k) ∧ (∀ x ∈ out, -1000000000000 ≤ x.cents ∧ x.cents ≤ 1000000000000) ∧ xs = out.flatMap lnEnc := hinv
  dsimp only
  refine gw_seq ?_
  refine gw_region ?_
  obtain ⟨hi0, hi1, hi2, hi3, hi4, rfl⟩ := hinv
  refine wl_ov (ov_lss rfl rfl) rfl ?_
  refine wl_nil ?_
  refine nx_then ?_
  refine gw_seq ?_
  refine gw_cond rfl (fun hh => ?_) (fun hh => ?_)
  · have hk : ((k : Nat) : Int) < ((n : Nat) : Int) := by simpa using hh
    clear hh
    refine gw_skip ?_
    refine nx_then ?_
    refine gw_seq ?_
    refine gw_block ?_
    refine gw_seq ?_
    refine gw_region ?_
    obtain ⟨b, off, hA, _, _⟩ := hl.get (by omega)
    subst hA
    obtain ⟨x, hx⟩ : ∃ x, l[k]? = some x := ⟨_, List.getElem?_eq_getElem (by omega)⟩
    obtain ⟨key, mi, At, nt, ct, on, ov⟩ := x
    have hat := taxesV_at (ls := ls) (out := out) hx
    obtain ⟨hk1, hnt⟩ := hok _ (List.mem_of_getElem? hx)
    have hnt : nt ≤ 1000 := hnt
    obtain ⟨hm0, hm1⟩ : 0 ≤ mi ∧ mi ≤ 1000 := hml _ (List.mem_of_getElem? hx)
    have hsb := onSum_bound (on := on) hb (by omega)
    have hpw := pwT_le (show k ≤ 2 by omega)
    have htl := taxL_ok (ls := ls) (out := out) (x := ⟨key, mi, At, nt, ct, on, ov⟩) hsb hi3 (show k ≤ 2 by omega) ⟨hm0, hm1⟩
    obtain ⟨TL, hTL⟩ : ∃ T, T = taxL ls out ⟨key, mi, At, nt, ct, on, ov⟩ := ⟨_, rfl⟩
    rw [← hTL] at hat htl
    refine wl_also (Y := SlOld itEnc 1 3 w.heap.size none At nt on) (SlOld.lasts) (fun wx hm => (hm.fact 1 rfl) _ (List.mem_of_getElem? hx)) ?_
    refine wl_ov (ov_index (j := k) es125 rfl rfl (by omega)) rfl ?_
    refine wl_ov (ov_elem (vs := [.string key, .int .i64 mi, .slice At nt ct, .bool ov]) rz205 rfl (fun _ hm => (hm.fact 1 rfl).1) hx rfl rfl) rfl ?_
    refine wl_alloc zc205 rfl fun g1 => ?_
    refine wl_stores (cs' := [.string key, .int .i64 mi, .slice At nt ct, .bool ov]) 0 rz205 rfl rfl rfl rfl rfl rfl rfl rfl ?_
    refine wl_nil ?_
    refine nx_then ?_
    refine gw_seq ?_
    refine gw_region ?_
    refine wl_ov (ov_assign rfl) rfl ?_
    refine wl_nil ?_
    refine nx_then ?_
    refine gw_seq ?_
    refine gw_seq ?_
    refine gw_region ?_
    refine wl_ov (ov_move rfl) rfl ?_
    refine wl_ov (ov_len es44 rfl) rfl ?_
    refine wl_ov (ov_move rfl) rfl ?_
    refine wl_nil ?_
    refine nx_then ?_
    refine gw_block ?_
    refine gw_loop (γ := Nat) (fun (q : Nat) => q ≤ n2) (fun (q : Nat) => [(1, .slice A2 n2 c2), (4, .slice none 0 0), (5, v), (7, .pointer (some ⟨g1, 0, none⟩)), (8, .int .i64 (onSum on (ls.take q))), (11, .slice (some ⟨b, off, none⟩) n c0), (12, .int .i64 ((n : Nat) : Int)), (13, .int .i64 ((k : Nat) : Int)), (17, .slice A2 n2 c2), (18, .int .i64 ((n2 : Nat) : Int)), (19, .int .i64 ((q : Nat) : Int))]) (fun (q : Nat) => fun _ => True) (fun (q : Nat) => [(g1, 205, [.string key, .int .i64 mi, .slice At nt ct, .bool ov])]) (fun (q : Nat) => [⟨v, 133, 3, k, out.flatMap lnEnc⟩]) (fun (q : Nat) => [SlOld itEnc 1 3 w.heap.size none At nt on, SlOld txEnc 4 205 w.heap.size none (some ⟨b, off, none⟩) n l, OnsOld w.heap.size none l, SlOld lnEnc 3 133 w.heap.size none A2 n2 ls]) (fun (q : Nat) => n2 - q) 0 (Nat.zero_le _) ⟨rfl, rfl, rfl, rfl, rfl, rfl, rfl, rfl, rfl, rfl, rfl, trivial⟩ (fun _ hm => hm.pick [0] [0] [0, 1, 2, 3] rfl rfl) ?_
    intro q hinv
    replace hinv : q ≤ n2 := hinv
    refine gw_seq ?_
    refine gw_region ?_
    refine wl_ov (ov_lss rfl rfl) rfl ?_
    refine wl_nil ?_
    refine nx_then ?_
    refine gw_seq ?_
    refine gw_cond rfl (fun hh => ?_) (fun hh => ?_)
    · have hq : ((q : Nat) : Int) < ((n2 : Nat) : Int) := by simpa using hh
      clear hh
      refine gw_skip ?_
      refine nx_then ?_
      refine gw_seq ?_
      refine gw_block ?_
      refine gw_seq ?_
      refine gw_region ?_
      obtain ⟨b2, o2, hA, _, _⟩ := hs.get (by omega)
      subst hA
      obtain ⟨y, hy⟩ : ∃ x, ls[q]? = some x := ⟨_, List.getElem?_eq_getElem (by omega)⟩
      obtain ⟨kd, ky, ct⟩ := y
      have hs1 := sumBy_take (fun x : Ln => if x.kind ∈ on then x.cents else 0) hy
      have hs2 : onSum on (ls.take (q + 1)) = onSum on (ls.take q) + (if kd ∈ on then ct else 0) := hs1
      have hb1 := onSum_bound (on := on) (l := ls.take q) (fun x hx => hb x (List.mem_of_mem_take hx)) (by simp; omega)
      obtain ⟨hc0, hc1⟩ : -1000000000 ≤ ct ∧ ct ≤ 1000000000 := hb _ (List.mem_of_getElem? hy)
      refine wl_ov (ov_index (j := q) es44 rfl rfl (by omega)) rfl ?_
      refine wl_ov (ov_elem (vs := [.int .i64 kd, .string ky, .int .i64 ct]) rz133 rfl (fun _ hm => (hm.fact 3 rfl).1) hy rfl rfl) rfl ?_
      refine wl_alloc zc133 rfl fun g2 => ?_
      refine wl_stores (cs' := [.int .i64 kd, .string ky, .int .i64 ct]) 0 rz133 rfl rfl rfl rfl rfl rfl rfl rfl ?_
      refine wl_nil ?_
      refine nx_then ?_
      refine gw_seq ?_
      refine gw_region ?_
      refine wl_ov (ov_field fo205_2 rfl rfl) rfl ?_
      refine wl_ov (ov_load sc22 rfl (fun _ hm => hm.blkI 1 rfl) rfl) rfl ?_
      refine wl_ov (ov_field fo133_0 rfl rfl) rfl ?_
      refine wl_ov (ov_load sc3 rfl (fun _ hm => hm.blkI 0 rfl) rfl) rfl ?_
      refine wl_callv rfl cb141 rfl rfl (fun wx hm => (contains_int on At nt _ kd wx (hm.fact 0 rfl).1 (by omega))) ?_
      refine wl_nil ?_
      refine nx_then ?_
      refine gw_cond rfl (fun hh => ?_) (fun hh => ?_)
      · have hin : kd ∈ on := by simpa using hh
        clear hh
        refine gw_region ?_
        refine wl_ov (ov_move rfl) rfl ?_
        refine wl_ov (ov_field fo133_2 rfl rfl) rfl ?_
        refine wl_ov (ov_load sc3 rfl (fun _ hm => hm.blkI 0 rfl) rfl) rfl ?_
        refine wl_ov (ov_add rfl rfl (by omega) (by omega)) rfl ?_
        refine wl_ov (ov_assign rfl) rfl ?_
        refine wl_nil ?_
        refine nx_blk_nrm ?_
        refine nx_then ?_
        refine gw_region ?_
        refine wl_ov (ov_add rfl rfl (by omega) (by omega)) rfl ?_
        refine wl_ov (ov_move rfl) rfl ?_
        refine wl_nil ?_
        exact nx_round (q + 1) (by omega) (by omega) ⟨rfl, rfl, rfl, rfl, (some_int (by rw [hs2, if_pos hin])), rfl, rfl, rfl, rfl, rfl, (some_int (by omega)), trivial⟩ (fun _ hm => hm.pick [1] [0] [0, 1, 2, 3] rfl rfl)
      · have hin : ¬ (kd ∈ on) := by simpa using hh
        clear hh
        refine gw_skip ?_
        refine nx_blk_nrm ?_
        refine nx_then ?_
        refine gw_region ?_
        refine wl_ov (ov_add rfl rfl (by omega) (by omega)) rfl ?_
        refine wl_ov (ov_move rfl) rfl ?_
        refine wl_nil ?_
        exact nx_round (q + 1) (by omega) (by omega) ⟨rfl, rfl, rfl, rfl, (some_int (by rw [hs2, if_neg hin, Int.add_zero])), rfl, rfl, rfl, rfl, rfl, (some_int (by omega)), trivial⟩ (fun _ hm => hm.pick [1] [0] [0, 1, 2, 3] rfl rfl)
    · have hq : ¬ (((q : Nat) : Int) < ((n2 : Nat) : Int)) := by simpa using hh
      clear hh
      refine gw_exit ?_
      refine nx_then_exit ?_
      refine nx_then_exit ?_
      refine nx_blk_here ?_
      refine nx_then ?_
      refine gw_seq ?_
      refine gw_seq ?_
      refine gw_region ?_
      have hall : ls.take q = ls := List.take_of_length_le (by omega)
      obtain ⟨hsb0, hsb1⟩ := hsb
      obtain ⟨OS, hOS⟩ : ∃ x, x = onSum on ls := ⟨_, rfl⟩
      rw [← hOS] at hsb0 hsb1
      refine wl_set 8 (v' := .int .i64 OS) rfl (congrArg (Value.int .i64) (by rw [hall, hOS])) ?_
      refine wl_ov (ov_field fo205_3 rfl rfl) rfl ?_
      refine wl_ov (ov_load sc4 rfl (fun _ hm => hm.blkI 0 rfl) rfl) rfl ?_
      refine wl_nil ?_
      refine nx_then ?_
      refine gw_cond rfl (fun hh => ?_) (fun hh => ?_)
      · have hov : ov = true := by simpa using hh
        clear hh
        refine gw_region ?_
        refine wl_look (R := ∃ A cc, v = .slice A k cc) (fun wx hm => own_slice (hm.ownI 0 rfl)) ?_
        rintro ⟨A3, c3, rfl⟩
        refine wl_ov (ov_move rfl) rfl ?_
        refine wl_ov (ov_move rfl) rfl ?_
        refine wl_callv rfl cb103 rfl rfl (fun wx hm => (sum_any out A3 k c3 wx (SlT.ofOwn ln_len (hm.ownI 0 rfl) hi1) hi4 (by omega))) ?_
        refine wl_ov (ov_add rfl rfl (by omega) (by omega)) rfl ?_
        refine wl_ov (ov_assign rfl) rfl ?_
        refine wl_nil ?_
        refine nx_then ?_
        obtain ⟨NS, hNS⟩ : ∃ x, x = OS + sumBy centsOf out := ⟨_, rfl⟩
        have hN2 : NS = taxN ls out ⟨key, mi, At, nt, ct, on, ov⟩ := by rw [hNS]; unfold taxN; simp only [hov, cond_true]; rw [← hOS]
        have hN3 : -800000000003 ≤ NS ∧ NS ≤ 800000000003 := by omega
        obtain ⟨hN4, hN5⟩ := hN3
        have hmr := mul_rng hN4 hN5 hm0 hm1
        have hmr2 := mul_rng (n := 2 * NS) (M := 1600000000006) (by omega) (by omega) hm0 hm1
        have hv : nearV (NS * mi) = TL.cents := by rw [hTL, hN2]; rfl
        have hTL2 : TL = ⟨5, key, nearV (NS * mi)⟩ := by rw [hTL, hN2]; rfl
        refine gw_set 8 (v' := .int .i64 NS) rfl (congrArg (Value.int .i64) hNS.symm) ?_
        refine gw_draw (fun wz => Blk wz g1 205 [.string key, .int .i64 mi, .slice At nt ct, .bool ov] ∧ (SlOld itEnc 1 3 w.heap.size none At nt on) wz ∧ (SlOld txEnc 4 205 w.heap.size none (some ⟨b, off, none⟩) n l) wz ∧ (OnsOld w.heap.size none l) wz ∧ (SlOld lnEnc 3 133 w.heap.size none A2 n2 ls) wz ∧ True) mixed ?_
        refine wa_take 0 rfl (by kernel_rfl) (by kernel_rfl) (by kernel_rfl) (listed' := #[true, false, false, false, false, false, false, false, false, false, false, false]) rfl (fun _ _ _ h => h) (fun _ hm => ⟨hm.blkI 0 rfl, hm.fact 0 rfl, hm.fact 1 rfl, hm.fact 2 rfl, hm.fact 3 rfl, trivial⟩) (ov_move rfl) rfl ?_
        refine wa_take 1 rfl (by kernel_rfl) (by kernel_rfl) (by kernel_rfl) (listed' := #[true, true, false, false, false, false, false, false, false, false, false, false]) rfl (fun _ _ _ h => h) (fun _ hm => ⟨hm.blkI 0 rfl, hm.fact 0 rfl, hm.fact 1 rfl, hm.fact 2 rfl, hm.fact 3 rfl, trivial⟩) (ov_field fo205_0 rfl rfl) rfl ?_
        refine wa_take 2 rfl (by kernel_rfl) (by kernel_rfl) (by kernel_rfl) (listed' := #[true, true, true, false, false, false, false, false, false, false, false, false]) rfl (fun _ _ _ h => h) (fun _ hm => ⟨hm.blkI 0 rfl, hm.fact 0 rfl, hm.fact 1 rfl, hm.fact 2 rfl, hm.fact 3 rfl, trivial⟩) (ov_load sc9 rfl (fun _ hm => hm.1) rfl) rfl ?_
        refine wa_take 3 rfl (by kernel_rfl) (by kernel_rfl) (by kernel_rfl) (listed' := #[true, true, true, true, false, false, false, false, false, false, false, false]) rfl (fun _ _ _ h => h) (fun _ hm => ⟨hm.blkI 0 rfl, hm.fact 0 rfl, hm.fact 1 rfl, hm.fact 2 rfl, hm.fact 3 rfl, trivial⟩) (ov_move rfl) rfl ?_
        refine wa_take 4 rfl (by kernel_rfl) (by kernel_rfl) (by kernel_rfl) (listed' := #[true, true, true, true, true, false, false, false, false, false, false, false]) rfl (fun _ _ _ h => h) (fun _ hm => ⟨hm.blkI 0 rfl, hm.fact 0 rfl, hm.fact 1 rfl, hm.fact 2 rfl, hm.fact 3 rfl, trivial⟩) (ov_field fo205_1 rfl rfl) rfl ?_
        refine wa_take 5 rfl (by kernel_rfl) (by kernel_rfl) (by kernel_rfl) (listed' := #[true, true, true, true, true, true, false, false, false, false, false, false]) rfl (fun _ _ _ h => h) (fun _ hm => ⟨hm.blkI 0 rfl, hm.fact 0 rfl, hm.fact 1 rfl, hm.fact 2 rfl, hm.fact 3 rfl, trivial⟩) (ov_load sc3 rfl (fun _ hm => hm.1) rfl) rfl ?_
        refine wa_take 6 rfl (by kernel_rfl) (by kernel_rfl) (by kernel_rfl) (listed' := #[true, true, true, true, true, true, true, false, false, false, false, false]) rfl (fun _ _ _ h => h) (fun _ hm => ⟨hm.blkI 0 rfl, hm.fact 0 rfl, hm.fact 1 rfl, hm.fact 2 rfl, hm.fact 3 rfl, trivial⟩) (ov_mul rfl rfl (by omega) (by omega)) rfl ?_
        refine wa_all [7] (by kernel_rfl) rfl ⟨⟨_, rfl, ?_⟩, trivial⟩
        refine wl_callv rfl cb176 rfl rfl (fun wx hm => (nearest_any (NS * mi) wx (by omega) (by omega))) ?_
        refine wl_nil ?_
        refine nx_wa0 (listed' := #[true, true, true, true, true, true, true, true, false, false, false, false]) rfl (fun _ hm => ⟨hm.blkI 0 rfl, hm.fact 0 rfl, hm.fact 1 rfl, hm.fact 2 rfl, hm.fact 3 rfl, trivial⟩) ?_
        refine wa_take 8 rfl (by kernel_rfl) (by kernel_rfl) (by kernel_rfl) (listed' := #[true, true, true, true, true, true, true, true, true, false, false, false]) rfl (fun _ _ _ h => h) (fun _ hm => ⟨hm.blkI 0 rfl, hm.fact 0 rfl, hm.fact 1 rfl, hm.fact 2 rfl, hm.fact 3 rfl, trivial⟩) (ov_build (cs := [.int .i64 5, .string key, .int .i64 (nearV (NS * mi))]) rfl (by kernel_rfl)) rfl ?_
        refine wa_all [9] (by kernel_rfl) rfl ⟨⟨_, rfl, ?_⟩, trivial⟩
        refine wl_buildSlice (e := 133) (cs := [.int .i64 5, .string key, .int .i64 (nearV (NS * mi))]) rfl (by kernel_rfl) rfl fun g3 => ?_
        refine wl_nil ?_
        refine nx_wa0 (listed' := #[true, true, true, true, true, true, true, true, true, true, false, false]) rfl (fun _ hm => ⟨hm.blkI 1 rfl, hm.fact 0 rfl, hm.fact 1 rfl, hm.fact 2 rfl, hm.fact 3 rfl, trivial⟩) ?_
        refine wa_all [10] (by kernel_rfl) rfl ⟨⟨_, rfl, ?_⟩, trivial⟩
        refine wl_append (news := [.int .i64 5, .string key, .int .i64 (nearV (NS * mi))]) 0 0 ap44 rfl rfl rfl rfl rfl rfl rfl (by omega) (by unfold maxLen; omega) rfl rfl fun v2 hv2 => ?_
        refine wl_nil ?_
        refine nx_wa0 (listed' := #[true, true, true, true, true, true, true, true, true, true, true, false]) rfl (fun _ hm => ⟨hm.blkI 1 rfl, hm.fact 0 rfl, hm.fact 1 rfl, hm.fact 2 rfl, hm.fact 3 rfl, trivial⟩) ?_
        refine wa_take 11 rfl (by kernel_rfl) (by kernel_rfl) (by kernel_rfl) (listed' := #[true, true, true, true, true, true, true, true, true, true, true, true]) rfl (fun _ _ _ h => h) (fun _ hm => ⟨hm.blkI 1 rfl, hm.fact 0 rfl, hm.fact 1 rfl, hm.fact 2 rfl, hm.fact 3 rfl, trivial⟩) (ov_assign rfl) rfl ?_
        refine wa_done (by kernel_rfl) ?_
        refine nx_blk_nrm ?_
        refine nx_then ?_
        refine gw_region ?_
        refine wl_ov (ov_add rfl rfl (by omega) (by omega)) rfl ?_
        refine wl_ov (ov_move rfl) rfl ?_
        refine wl_nil ?_
        exact nx_round (k + 1, v2, out ++ [TL], out.flatMap lnEnc ++ ([.int .i64 5, .string key, .int .i64 (nearV (NS * mi))] : List Value)) ⟨by dsimp only; omega, by simp [hi1], by dsimp only; rw [hi2, hat], htl.2, out_snoc hi4 htl.1, by rw [hTL2]; simp [lnEnc]⟩ (by dsimp only; omega) ⟨rfl, rfl, rfl, rfl, rfl, (some_int (by omega)), trivial⟩ (fun _ hm => hm.pick [] [0] [1, 2, 3] rfl rfl)
      · have hov : ov = false := by simpa using hh
        clear hh
        refine gw_skip ?_
        refine nx_then ?_
        obtain ⟨NS, hNS⟩ : ∃ x, x = OS := ⟨_, rfl⟩
        have hN2 : NS = taxN ls out ⟨key, mi, At, nt, ct, on, ov⟩ := by rw [hNS]; unfold taxN; simp only [hov, cond_false]; rw [← hOS]; omega
        have hN3 : -800000000003 ≤ NS ∧ NS ≤ 800000000003 := by omega
        obtain ⟨hN4, hN5⟩ := hN3
        have hmr := mul_rng hN4 hN5 hm0 hm1
        have hmr2 := mul_rng (n := 2 * NS) (M := 1600000000006) (by omega) (by omega) hm0 hm1
        have hv : nearV (NS * mi) = TL.cents := by rw [hTL, hN2]; rfl
        have hTL2 : TL = ⟨5, key, nearV (NS * mi)⟩ := by rw [hTL, hN2]; rfl
        refine gw_set 8 (v' := .int .i64 NS) rfl (congrArg (Value.int .i64) hNS.symm) ?_
        refine gw_draw (fun wz => Blk wz g1 205 [.string key, .int .i64 mi, .slice At nt ct, .bool ov] ∧ (SlOld itEnc 1 3 w.heap.size none At nt on) wz ∧ (SlOld txEnc 4 205 w.heap.size none (some ⟨b, off, none⟩) n l) wz ∧ (OnsOld w.heap.size none l) wz ∧ (SlOld lnEnc 3 133 w.heap.size none A2 n2 ls) wz ∧ True) mixed ?_
        refine wa_take 0 rfl (by kernel_rfl) (by kernel_rfl) (by kernel_rfl) (listed' := #[true, false, false, false, false, false, false, false, false, false, false, false]) rfl (fun _ _ _ h => h) (fun _ hm => ⟨hm.blkI 0 rfl, hm.fact 0 rfl, hm.fact 1 rfl, hm.fact 2 rfl, hm.fact 3 rfl, trivial⟩) (ov_move rfl) rfl ?_
        refine wa_take 1 rfl (by kernel_rfl) (by kernel_rfl) (by kernel_rfl) (listed' := #[true, true, false, false, false, false, false, false, false, false, false, false]) rfl (fun _ _ _ h => h) (fun _ hm => ⟨hm.blkI 0 rfl, hm.fact 0 rfl, hm.fact 1 rfl, hm.fact 2 rfl, hm.fact 3 rfl, trivial⟩) (ov_field fo205_0 rfl rfl) rfl ?_
        refine wa_take 2 rfl (by kernel_rfl) (by kernel_rfl) (by kernel_rfl) (listed' := #[true, true, true, false, false, false, false, false, false, false, false, false]) rfl (fun _ _ _ h => h) (fun _ hm => ⟨hm.blkI 0 rfl, hm.fact 0 rfl, hm.fact 1 rfl, hm.fact 2 rfl, hm.fact 3 rfl, trivial⟩) (ov_load sc9 rfl (fun _ hm => hm.1) rfl) rfl ?_
        refine wa_take 3 rfl (by kernel_rfl) (by kernel_rfl) (by kernel_rfl) (listed' := #[true, true, true, true, false, false, false, false, false, false, false, false]) rfl (fun _ _ _ h => h) (fun _ hm => ⟨hm.blkI 0 rfl, hm.fact 0 rfl, hm.fact 1 rfl, hm.fact 2 rfl, hm.fact 3 rfl, trivial⟩) (ov_move rfl) rfl ?_
        refine wa_take 4 rfl (by kernel_rfl) (by kernel_rfl) (by kernel_rfl) (listed' := #[true, true, true, true, true, false, false, false, false, false, false, false]) rfl (fun _ _ _ h => h) (fun _ hm => ⟨hm.blkI 0 rfl, hm.fact 0 rfl, hm.fact 1 rfl, hm.fact 2 rfl, hm.fact 3 rfl, trivial⟩) (ov_field fo205_1 rfl rfl) rfl ?_
        refine wa_take 5 rfl (by kernel_rfl) (by kernel_rfl) (by kernel_rfl) (listed' := #[true, true, true, true, true, true, false, false, false, false, false, false]) rfl (fun _ _ _ h => h) (fun _ hm => ⟨hm.blkI 0 rfl, hm.fact 0 rfl, hm.fact 1 rfl, hm.fact 2 rfl, hm.fact 3 rfl, trivial⟩) (ov_load sc3 rfl (fun _ hm => hm.1) rfl) rfl ?_
        refine wa_take 6 rfl (by kernel_rfl) (by kernel_rfl) (by kernel_rfl) (listed' := #[true, true, true, true, true, true, true, false, false, false, false, false]) rfl (fun _ _ _ h => h) (fun _ hm => ⟨hm.blkI 0 rfl, hm.fact 0 rfl, hm.fact 1 rfl, hm.fact 2 rfl, hm.fact 3 rfl, trivial⟩) (ov_mul rfl rfl (by omega) (by omega)) rfl ?_
        refine wa_all [7] (by kernel_rfl) rfl ⟨⟨_, rfl, ?_⟩, trivial⟩
        refine wl_callv rfl cb176 rfl rfl (fun wx hm => (nearest_any (NS * mi) wx (by omega) (by omega))) ?_
        refine wl_nil ?_
        refine nx_wa0 (listed' := #[true, true, true, true, true, true, true, true, false, false, false, false]) rfl (fun _ hm => ⟨hm.blkI 0 rfl, hm.fact 0 rfl, hm.fact 1 rfl, hm.fact 2 rfl, hm.fact 3 rfl, trivial⟩) ?_
        refine wa_take 8 rfl (by kernel_rfl) (by kernel_rfl) (by kernel_rfl) (listed' := #[true, true, true, true, true, true, true, true, true, false, false, false]) rfl (fun _ _ _ h => h) (fun _ hm => ⟨hm.blkI 0 rfl, hm.fact 0 rfl, hm.fact 1 rfl, hm.fact 2 rfl, hm.fact 3 rfl, trivial⟩) (ov_build (cs := [.int .i64 5, .string key, .int .i64 (nearV (NS * mi))]) rfl (by kernel_rfl)) rfl ?_
        refine wa_all [9] (by kernel_rfl) rfl ⟨⟨_, rfl, ?_⟩, trivial⟩
        refine wl_buildSlice (e := 133) (cs := [.int .i64 5, .string key, .int .i64 (nearV (NS * mi))]) rfl (by kernel_rfl) rfl fun g4 => ?_
        refine wl_nil ?_
        refine nx_wa0 (listed' := #[true, true, true, true, true, true, true, true, true, true, false, false]) rfl (fun _ hm => ⟨hm.blkI 1 rfl, hm.fact 0 rfl, hm.fact 1 rfl, hm.fact 2 rfl, hm.fact 3 rfl, trivial⟩) ?_
        refine wa_all [10] (by kernel_rfl) rfl ⟨⟨_, rfl, ?_⟩, trivial⟩
        refine wl_append (news := [.int .i64 5, .string key, .int .i64 (nearV (NS * mi))]) 0 0 ap44 rfl rfl rfl rfl rfl rfl rfl (by omega) (by unfold maxLen; omega) rfl rfl fun v2 hv2 => ?_
        refine wl_nil ?_
        refine nx_wa0 (listed' := #[true, true, true, true, true, true, true, true, true, true, true, false]) rfl (fun _ hm => ⟨hm.blkI 1 rfl, hm.fact 0 rfl, hm.fact 1 rfl, hm.fact 2 rfl, hm.fact 3 rfl, trivial⟩) ?_
        refine wa_take 11 rfl (by kernel_rfl) (by kernel_rfl) (by kernel_rfl) (listed' := #[true, true, true, true, true, true, true, true, true, true, true, true]) rfl (fun _ _ _ h => h) (fun _ hm => ⟨hm.blkI 1 rfl, hm.fact 0 rfl, hm.fact 1 rfl, hm.fact 2 rfl, hm.fact 3 rfl, trivial⟩) (ov_assign rfl) rfl ?_
        refine wa_done (by kernel_rfl) ?_
        refine nx_blk_nrm ?_
        refine nx_then ?_
        refine gw_region ?_
        refine wl_ov (ov_add rfl rfl (by omega) (by omega)) rfl ?_
        refine wl_ov (ov_move rfl) rfl ?_
        refine wl_nil ?_
        exact nx_round (k + 1, v2, out ++ [TL], out.flatMap lnEnc ++ ([.int .i64 5, .string key, .int .i64 (nearV (NS * mi))] : List Value)) ⟨by dsimp only; omega, by simp [hi1], by dsimp only; rw [hi2, hat], htl.2, out_snoc hi4 htl.1, by rw [hTL2]; simp [lnEnc]⟩ (by dsimp only; omega) ⟨rfl, rfl, rfl, rfl, rfl, (some_int (by omega)), trivial⟩ (fun _ hm => hm.pick [] [0] [1, 2, 3] rfl rfl)
  · have hk : ¬ (((k : Nat) : Int) < ((n : Nat) : Int)) := by simpa using hh
    clear hh
    refine gw_exit ?_
    refine nx_then_exit ?_
    refine nx_then_exit ?_
    refine nx_blk_here ?_
    refine nx_then ?_
    refine gw_seq ?_
    refine gw_region ?_
    refine wl_look (R := ∃ A cc, v = .slice A k cc) (fun wx hm => own_slice (hm.ownI 0 rfl)) ?_
    rintro ⟨A3, c3, rfl⟩
    refine wl_ov (ov_move rfl) rfl ?_
    refine wl_ov (ov_assign rfl) rfl ?_
    refine wl_nil ?_
    refine nx_then ?_
    refine gw_ret ?_
    refine nx_ret1 rfl rfl fun wx hm => ?_
    exact ⟨A3, k, c3, rfl, SlT.ofOwn ln_len (hm.ownI 0 rfl) hi1 |> fun h => by rw [hi2, List.drop_eq_nil_of_le (by omega)]; exact h, by omega, hm.g⟩


set_option maxRecDepth 100000 in
set_option maxHeartbeats 1000000 in
theorem taxesOf_any (l : List Tx) (A : Option Addr) (n c0 : Nat) (ls : List Ln) (A2 : Option Addr) (n2 c2 : Nat) (w : World) (hl : SlT txEnc 4 205 w A n l) (hg : Ons l w) (hok : ∀ x ∈ l, TxOk x) (hn : n ≤ 3) (hs : SlT lnEnc 3 133 w A2 n2 ls) (hn2 : n2 ≤ 200) (hml : ∀ x ∈ l, 0 ≤ x.mille ∧ x.mille ≤ 1000) (hb : ∀ x ∈ ls, -1000000000 ≤ x.cents ∧ x.cents ≤ 1000000000) :
    Calls Tryd.prog 85 #[.slice A n c0, .slice A2 n2 c2] w (fun e w' => ∃ A3 n3 c3, e = .returned (.slice A3 n3 c3) ∧ SlT lnEnc 3 133 w' A3 n3 (taxesV ls [] l) ∧ n3 ≤ 3 ∧ w.grownBy w' none) := by
  refine gw_enter ⟨54, w, none, []⟩ Tryd.func85 rfl Tryd.ntmps85 rfl (mem0 (X := [SlOld txEnc 4 205 w.heap.size none A n l, OnsOld w.heap.size none l, SlOld lnEnc 3 133 w.heap.size none A2 n2 ls]) (allF_cons hl.old (allF_cons hg.old (allF_cons hs.old allF_nil))) (allL_cons SlOld.lasts (allL_cons OnsOld.lasts (allL_cons SlOld.lasts allL_nil)))) ?_
  refine gw_seq ?_
  refine gw_region ?_
  have hlen := hl.len
  have hlen2 := hs.len
  obtain ⟨TV, hTV⟩ : ∃ T, T = taxesV ls [] l := ⟨_, rfl⟩
  rw [← hTV]
  refine wl_ov (ov_assign rfl) rfl ?_
  refine wl_nil ?_
  refine nx_then ?_
  refine gw_seq ?_
  refine gw_region ?_
  refine wl_ov (ov_assign rfl) rfl ?_
  refine wl_nil ?_
  refine nx_then ?_
  refine gw_seq ?_
  refine gw_seq ?_
  refine gw_region ?_
  refine wl_ov (ov_move rfl) rfl ?_
  refine wl_ov (ov_len es125 rfl) rfl ?_
  refine wl_ov (ov_move rfl) rfl ?_
  refine wl_nil ?_
  refine nx_then ?_
  refine gw_block ?_
  refine gw_nilOwn 133 3 ?_
  refine gw_loop (γ := Nat × Value × List Ln × List Value) (fun (g : Nat × Value × List Ln × List Value) => g.1 ≤ n ∧ g.2.2.1.length = g.1 ∧ TV = taxesV ls g.2.2.1 (l.drop g.1) ∧ (-pwT g.1 ≤ sumBy centsOf g.2.2.1 ∧ sumBy centsOf g.2.2.1 ≤ pwT g.1) ∧ (∀ x ∈ g.2.2.1, -1000000000000 ≤ x.cents ∧ x.cents ≤ 1000000000000) ∧ g.2.2.2 = g.2.2.1.flatMap lnEnc) (fun (g : Nat × Value × List Ln × List Value) => [(1, .slice A2 n2 c2), (4, .slice none 0 0), (5, g.2.1), (11, .slice A n c0), (12, .int .i64 ((n : Nat) : Int)), (13, .int .i64 ((g.1 : Nat) : Int))]) (fun (g : Nat × Value × List Ln × List Value) => fun _ => True) (fun (g : Nat × Value × List Ln × List Value) => []) (fun (g : Nat × Value × List Ln × List Value) => [⟨g.2.1, 133, 3, g.1, g.2.2.2⟩]) (fun (g : Nat × Value × List Ln × List Value) => [SlOld txEnc 4 205 w.heap.size none A n l, OnsOld w.heap.size none l, SlOld lnEnc 3 133 w.heap.size none A2 n2 ls]) (fun (g : Nat × Value × List Ln × List Value) => n - g.1) (0, .slice none 0 0, [], []) ⟨Nat.zero_le _, rfl, hTV, by decide, (fun _ h => by cases h), rfl⟩ ⟨rfl, rfl, rfl, rfl, rfl, rfl, trivial⟩ (fun _ hm => hm.pick [] [0] [0, 1, 2] rfl rfl) ?_
  rintro ⟨k, v, out, xs⟩ hinv
  replace hinv : k ≤ n ∧ out.length = k ∧ TV = taxesV ls out (l.drop k) ∧ (-pwT k ≤ sumBy centsOf out ∧ sumBy centsOf out ≤ pwT k) ∧ (∀ x ∈ out, -1000000000000 ≤ x.cents ∧ x.cents ≤ 1000000000000) ∧ xs = out.flatMap lnEnc := hinv
  dsimp only
  refine gw_seq ?_
  refine gw_region ?_
  obtain ⟨hi0, hi1, hi2, hi3, hi4, rfl⟩ := hinv
  refine wl_ov (ov_lss rfl rfl) rfl ?_
  refine wl_nil ?_
  refine nx_then ?_
  refine gw_seq ?_
  refine gw_cond rfl (fun hh => ?_) (fun hh => ?_)
  · have hk : ((k : Nat) : Int) < ((n : Nat) : Int) := by simpa using hh
    clear hh
    refine gw_skip ?_
    refine nx_then ?_
    refine gw_seq ?_
    refine gw_block ?_
    refine gw_seq ?_
    refine gw_region ?_
    obtain ⟨b, off, hA, _, _⟩ := hl.get (by omega)
    subst hA
    obtain ⟨x, hx⟩ : ∃ x, l[k]? = some x := ⟨_, List.getElem?_eq_getElem (by omega)⟩
    obtain ⟨key, mi, At, nt, ct, on, ov⟩ := x
    have hat := taxesV_at (ls := ls) (out := out) hx
    obtain ⟨hk1, hnt⟩ := hok _ (List.mem_of_getElem? hx)
    have hnt : nt ≤ 1000 := hnt
    obtain ⟨hm0, hm1⟩ : 0 ≤ mi ∧ mi ≤ 1000 := hml _ (List.mem_of_getElem? hx)
    have hsb := onSum_bound (on := on) hb (by omega)
    have hpw := pwT_le (show k ≤ 2 by omega)
    have htl := taxL_ok (ls := ls) (out := out) (x := ⟨key, mi, At, nt, ct, on, ov⟩) hsb hi3 (show k ≤ 2 by omega) ⟨hm0, hm1⟩
    obtain ⟨TL, hTL⟩ : ∃ T, T = taxL ls out ⟨key, mi, At, nt, ct, on, ov⟩ := ⟨_, rfl⟩
    rw [← hTL] at hat htl
    refine wl_also (Y := SlOld itEnc 1 3 w.heap.size none At nt on) (SlOld.lasts) (fun wx hm => (hm.fact 1 rfl) _ (List.mem_of_getElem? hx)) ?_
    refine wl_ov (ov_index (j := k) es125 rfl rfl (by omega)) rfl ?_
    refine wl_ov (ov_elem (vs := [.string key, .int .i64 mi, .slice At nt ct, .bool ov]) rz205 rfl (fun _ hm => (hm.fact 1 rfl).1) hx rfl rfl) rfl ?_
    refine wl_alloc zc205 rfl fun g1 => ?_
    refine wl_stores (cs' := [.string key, .int .i64 mi, .slice At nt ct, .bool ov]) 0 rz205 rfl rfl rfl rfl rfl rfl rfl rfl ?_
    refine wl_nil ?_
    refine nx_then ?_
    refine gw_seq ?_
    refine gw_region ?_
    refine wl_ov (ov_assign rfl) rfl ?_
    refine wl_nil ?_
    refine nx_then ?_
    refine gw_seq ?_
    refine gw_seq ?_
    refine gw_region ?_
    refine wl_ov (ov_move rfl) rfl ?_
    refine wl_ov (ov_len es44 rfl) rfl ?_
    refine wl_ov (ov_move rfl) rfl ?_
    refine wl_nil ?_
    refine nx_then ?_
    refine gw_block ?_
    refine gw_loop (γ := Nat) (fun (q : Nat) => q ≤ n2) (fun (q : Nat) => [(1, .slice A2 n2 c2), (4, .slice none 0 0), (5, v), (7, .pointer (some ⟨g1, 0, none⟩)), (8, .int .i64 (onSum on (ls.take q))), (11, .slice (some ⟨b, off, none⟩) n c0), (12, .int .i64 ((n : Nat) : Int)), (13, .int .i64 ((k : Nat) : Int)), (17, .slice A2 n2 c2), (18, .int .i64 ((n2 : Nat) : Int)), (19, .int .i64 ((q : Nat) : Int))]) (fun (q : Nat) => fun _ => True) (fun (q : Nat) => [(g1, 205, [.string key, .int .i64 mi, .slice At nt ct, .bool ov])]) (fun (q : Nat) => [⟨v, 133, 3, k, out.flatMap lnEnc⟩]) (fun (q : Nat) => [SlOld itEnc 1 3 w.heap.size none At nt on, SlOld txEnc 4 205 w.heap.size none (some ⟨b, off, none⟩) n l, OnsOld w.heap.size none l, SlOld lnEnc 3 133 w.heap.size none A2 n2 ls]) (fun (q : Nat) => n2 - q) 0 (Nat.zero_le _) ⟨rfl, rfl, rfl, rfl, rfl, rfl, rfl, rfl, rfl, rfl, rfl, trivial⟩ (fun _ hm => hm.pick [0] [0] [0, 1, 2, 3] rfl rfl) ?_
    intro q hinv
    replace hinv : q ≤ n2 := hinv
    refine gw_seq ?_
    refine gw_region ?_
    refine wl_ov (ov_lss rfl rfl) rfl ?_
    refine wl_nil ?_
    refine nx_then ?_
    refine gw_seq ?_
    refine gw_cond rfl (fun hh => ?_) (fun hh => ?_)
    · have hq : ((q : Nat) : Int) < ((n2 : Nat) : Int) := by simpa using hh
      clear hh
      refine gw_skip ?_
      refine nx_then ?_
      refine gw_seq ?_
      refine gw_block ?_
      refine gw_seq ?_
      refine gw_region ?_
      obtain ⟨b2, o2, hA, _, _⟩ := hs.get (by omega)
      subst hA
      obtain ⟨y, hy⟩ : ∃ x, ls[q]? = some x := ⟨_, List.getElem?_eq_getElem (by omega)⟩
      obtain ⟨kd, ky, ct⟩ := y
      have hs1 := sumBy_take (fun x : Ln => if x.kind ∈ on then x.cents else 0) hy
      have hs2 : onSum on (ls.take (q + 1)) = onSum on (ls.take q) + (if kd ∈ on then ct else 0) := hs1
      have hb1 := onSum_bound (on := on) (l := ls.take q) (fun x hx => hb x (List.mem_of_mem_take hx)) (by simp; omega)
      obtain ⟨hc0, hc1⟩ : -1000000000 ≤ ct ∧ ct ≤ 1000000000 := hb _ (List.mem_of_getElem? hy)
      refine wl_ov (ov_index (j := q) es44 rfl rfl (by omega)) rfl ?_
      refine wl_ov (ov_elem (vs := [.int .i64 kd, .string ky, .int .i64 ct]) rz133 rfl (fun _ hm => (hm.fact 3 rfl).1) hy rfl rfl) rfl ?_
      refine wl_alloc zc133 rfl fun g2 => ?_
      refine wl_stores (cs' := [.int .i64 kd, .string ky, .int .i64 ct]) 0 rz133 rfl rfl rfl rfl rfl rfl rfl rfl ?_
      refine wl_nil ?_
      refine nx_then ?_
      refine gw_seq ?_
      refine gw_region ?_
      refine wl_ov (ov_field fo205_2 rfl rfl) rfl ?_
      refine wl_ov (ov_load sc22 rfl (fun _ hm => hm.blkI 1 rfl) rfl) rfl ?_
      refine wl_ov (ov_field fo133_0 rfl rfl) rfl ?_
      refine wl_ov (ov_load sc3 rfl (fun _ hm => hm.blkI 0 rfl) rfl) rfl ?_
      refine wl_callv rfl cb141 rfl rfl (fun wx hm => (contains_int on At nt _ kd wx (hm.fact 0 rfl).1 (by omega))) ?_
      refine wl_nil ?_
      refine nx_then ?_
      refine gw_cond rfl (fun hh => ?_) (fun hh => ?_)
      · have hin : kd ∈ on := by simpa using hh
        clear hh
        refine gw_region ?_
        refine wl_ov (ov_move rfl) rfl ?_
        refine wl_ov (ov_field fo133_2 rfl rfl) rfl ?_
        refine wl_ov (ov_load sc3 rfl (fun _ hm => hm.blkI 0 rfl) rfl) rfl ?_
        refine wl_ov (ov_add rfl rfl (by omega) (by omega)) rfl ?_
        refine wl_ov (ov_assign rfl) rfl ?_
        refine wl_nil ?_
        refine nx_blk_nrm ?_
        refine nx_then ?_
        refine gw_region ?_
        refine wl_ov (ov_add rfl rfl (by omega) (by omega)) rfl ?_
        refine wl_ov (ov_move rfl) rfl ?_
        refine wl_nil ?_
        exact nx_round (q + 1) (by omega) (by omega) ⟨rfl, rfl, rfl, rfl, (some_int (by rw [hs2, if_pos hin])), rfl, rfl, rfl, rfl, rfl, (some_int (by omega)), trivial⟩ (fun _ hm => hm.pick [1] [0] [0, 1, 2, 3] rfl rfl)
      · have hin : ¬ (kd ∈ on) := by simpa using hh
        clear hh
        refine gw_skip ?_
        refine nx_blk_nrm ?_
        refine nx_then ?_
        refine gw_region ?_
        refine wl_ov (ov_add rfl rfl (by omega) (by omega)) rfl ?_
        refine wl_ov (ov_move rfl) rfl ?_
        refine wl_nil ?_
        exact nx_round (q + 1) (by omega) (by omega) ⟨rfl, rfl, rfl, rfl, (some_int (by rw [hs2, if_neg hin, Int.add_zero])), rfl, rfl, rfl, rfl, rfl, (some_int (by omega)), trivial⟩ (fun _ hm => hm.pick [1] [0] [0, 1, 2, 3] rfl rfl)
    · have hq : ¬ (((q : Nat) : Int) < ((n2 : Nat) : Int)) := by simpa using hh
      clear hh
      refine gw_exit ?_
      refine nx_then_exit ?_
      refine nx_then_exit ?_
      refine nx_blk_here ?_
      refine nx_then ?_
      refine gw_seq ?_
      refine gw_seq ?_
      refine gw_region ?_
      have hall : ls.take q = ls := List.take_of_length_le (by omega)
      obtain ⟨hsb0, hsb1⟩ := hsb
      obtain ⟨OS, hOS⟩ : ∃ x, x = onSum on ls := ⟨_, rfl⟩
      rw [← hOS] at hsb0 hsb1
      refine wl_set 8 (v' := .int .i64 OS) rfl (congrArg (Value.int .i64) (by rw [hall, hOS])) ?_
      refine wl_ov (ov_field fo205_3 rfl rfl) rfl ?_
      refine wl_ov (ov_load sc4 rfl (fun _ hm => hm.blkI 0 rfl) rfl) rfl ?_
      refine wl_nil ?_
      refine nx_then ?_
      refine gw_cond rfl (fun hh => ?_) (fun hh => ?_)
      · have hov : ov = true := by simpa using hh
        clear hh
        refine gw_region ?_
        refine wl_look (R := ∃ A cc, v = .slice A k cc) (fun wx hm => own_slice (hm.ownI 0 rfl)) ?_
        rintro ⟨A3, c3, rfl⟩
        refine wl_ov (ov_move rfl) rfl ?_
        refine wl_ov (ov_move rfl) rfl ?_
        refine wl_callv rfl cb81 rfl rfl (fun wx hm => (sumOf_any out A3 k c3 wx (SlT.ofOwn ln_len (hm.ownI 0 rfl) hi1) hi4 (by omega))) ?_
        refine wl_ov (ov_add rfl rfl (by omega) (by omega)) rfl ?_
        refine wl_ov (ov_assign rfl) rfl ?_
        refine wl_nil ?_
        refine nx_then ?_
        obtain ⟨NS, hNS⟩ : ∃ x, x = OS + sumBy centsOf out := ⟨_, rfl⟩
        have hN2 : NS = taxN ls out ⟨key, mi, At, nt, ct, on, ov⟩ := by rw [hNS]; unfold taxN; simp only [hov, cond_true]; rw [← hOS]
        have hN3 : -800000000003 ≤ NS ∧ NS ≤ 800000000003 := by omega
        obtain ⟨hN4, hN5⟩ := hN3
        have hmr := mul_rng hN4 hN5 hm0 hm1
        have hmr2 := mul_rng (n := 2 * NS) (M := 1600000000006) (by omega) (by omega) hm0 hm1
        have hv : nearV (NS * mi) = TL.cents := by rw [hTL, hN2]; rfl
        have hTL2 : TL = ⟨5, key, nearV (NS * mi)⟩ := by rw [hTL, hN2]; rfl
        refine gw_set 8 (v' := .int .i64 NS) rfl (congrArg (Value.int .i64) hNS.symm) ?_
        refine gw_draw (fun wz => Blk wz g1 205 [.string key, .int .i64 mi, .slice At nt ct, .bool ov] ∧ (SlOld itEnc 1 3 w.heap.size none At nt on) wz ∧ (SlOld txEnc 4 205 w.heap.size none (some ⟨b, off, none⟩) n l) wz ∧ (OnsOld w.heap.size none l) wz ∧ (SlOld lnEnc 3 133 w.heap.size none A2 n2 ls) wz ∧ True) mixed ?_
        refine wa_take 0 rfl (by kernel_rfl) (by kernel_rfl) (by kernel_rfl) (listed' := #[true, false, false, false, false, false, false, false, false, false, false, false, false, false]) rfl (fun _ _ _ h => h) (fun _ hm => ⟨hm.blkI 0 rfl, hm.fact 0 rfl, hm.fact 1 rfl, hm.fact 2 rfl, hm.fact 3 rfl, trivial⟩) (ov_move rfl) rfl ?_
        refine wa_take 1 rfl (by kernel_rfl) (by kernel_rfl) (by kernel_rfl) (listed' := #[true, true, false, false, false, false, false, false, false, false, false, false, false, false]) rfl (fun _ _ _ h => h) (fun _ hm => ⟨hm.blkI 0 rfl, hm.fact 0 rfl, hm.fact 1 rfl, hm.fact 2 rfl, hm.fact 3 rfl, trivial⟩) (ov_field fo205_0 rfl rfl) rfl ?_
        refine wa_take 2 rfl (by kernel_rfl) (by kernel_rfl) (by kernel_rfl) (listed' := #[true, true, true, false, false, false, false, false, false, false, false, false, false, false]) rfl (fun _ _ _ h => h) (fun _ hm => ⟨hm.blkI 0 rfl, hm.fact 0 rfl, hm.fact 1 rfl, hm.fact 2 rfl, hm.fact 3 rfl, trivial⟩) (ov_load sc9 rfl (fun _ hm => hm.1) rfl) rfl ?_
        refine wa_take 3 rfl (by kernel_rfl) (by kernel_rfl) (by kernel_rfl) (listed' := #[true, true, true, true, false, false, false, false, false, false, false, false, false, false]) rfl (fun _ _ _ h => h) (fun _ hm => ⟨hm.blkI 0 rfl, hm.fact 0 rfl, hm.fact 1 rfl, hm.fact 2 rfl, hm.fact 3 rfl, trivial⟩) (ov_move rfl) rfl ?_
        refine wa_take 4 rfl (by kernel_rfl) (by kernel_rfl) (by kernel_rfl) (listed' := #[true, true, true, true, true, false, false, false, false, false, false, false, false, false]) rfl (fun _ _ _ h => h) (fun _ hm => ⟨hm.blkI 0 rfl, hm.fact 0 rfl, hm.fact 1 rfl, hm.fact 2 rfl, hm.fact 3 rfl, trivial⟩) (ov_mul rfl rfl (by omega) (by omega)) rfl ?_
        refine wa_take 5 rfl (by kernel_rfl) (by kernel_rfl) (by kernel_rfl) (listed' := #[true, true, true, true, true, true, false, false, false, false, false, false, false, false]) rfl (fun _ _ _ h => h) (fun _ hm => ⟨hm.blkI 0 rfl, hm.fact 0 rfl, hm.fact 1 rfl, hm.fact 2 rfl, hm.fact 3 rfl, trivial⟩) (ov_field fo205_1 rfl rfl) rfl ?_
        refine wa_take 6 rfl (by kernel_rfl) (by kernel_rfl) (by kernel_rfl) (listed' := #[true, true, true, true, true, true, true, false, false, false, false, false, false, false]) rfl (fun _ _ _ h => h) (fun _ hm => ⟨hm.blkI 0 rfl, hm.fact 0 rfl, hm.fact 1 rfl, hm.fact 2 rfl, hm.fact 3 rfl, trivial⟩) (ov_load sc3 rfl (fun _ hm => hm.1) rfl) rfl ?_
        refine wa_take 7 rfl (by kernel_rfl) (by kernel_rfl) (by kernel_rfl) (listed' := #[true, true, true, true, true, true, true, true, false, false, false, false, false, false]) rfl (fun _ _ _ h => h) (fun _ hm => ⟨hm.blkI 0 rfl, hm.fact 0 rfl, hm.fact 1 rfl, hm.fact 2 rfl, hm.fact 3 rfl, trivial⟩) (ov_mul rfl rfl (by omega) (by omega)) rfl ?_
        refine wa_take 8 rfl (by kernel_rfl) (by kernel_rfl) (by kernel_rfl) (listed' := #[true, true, true, true, true, true, true, true, true, false, false, false, false, false]) rfl (fun _ _ _ h => h) (fun _ hm => ⟨hm.blkI 0 rfl, hm.fact 0 rfl, hm.fact 1 rfl, hm.fact 2 rfl, hm.fact 3 rfl, trivial⟩) (ov_add rfl rfl (by omega) (by omega)) rfl ?_
        refine wa_all [9] (by kernel_rfl) rfl ⟨⟨_, rfl, ?_⟩, trivial⟩
        refine wl_callv (v := .int .i64 (nearV (NS * mi))) rfl cb142 rfl rfl (fun wx hm => (by rw [← near_two]; exact floor_any (2 * NS * mi + 1000) wx (by omega) (by omega))) ?_
        refine wl_nil ?_
        refine nx_wa0 (listed' := #[true, true, true, true, true, true, true, true, true, true, false, false, false, false]) rfl (fun _ hm => ⟨hm.blkI 0 rfl, hm.fact 0 rfl, hm.fact 1 rfl, hm.fact 2 rfl, hm.fact 3 rfl, trivial⟩) ?_
        refine wa_take 10 rfl (by kernel_rfl) (by kernel_rfl) (by kernel_rfl) (listed' := #[true, true, true, true, true, true, true, true, true, true, true, false, false, false]) rfl (fun _ _ _ h => h) (fun _ hm => ⟨hm.blkI 0 rfl, hm.fact 0 rfl, hm.fact 1 rfl, hm.fact 2 rfl, hm.fact 3 rfl, trivial⟩) (ov_build (cs := [.int .i64 5, .string key, .int .i64 (nearV (NS * mi))]) rfl (by kernel_rfl)) rfl ?_
        refine wa_all [11] (by kernel_rfl) rfl ⟨⟨_, rfl, ?_⟩, trivial⟩
        refine wl_buildSlice (e := 133) (cs := [.int .i64 5, .string key, .int .i64 (nearV (NS * mi))]) rfl (by kernel_rfl) rfl fun g3 => ?_
        refine wl_nil ?_
        refine nx_wa0 (listed' := #[true, true, true, true, true, true, true, true, true, true, true, true, false, false]) rfl (fun _ hm => ⟨hm.blkI 1 rfl, hm.fact 0 rfl, hm.fact 1 rfl, hm.fact 2 rfl, hm.fact 3 rfl, trivial⟩) ?_
        refine wa_all [12] (by kernel_rfl) rfl ⟨⟨_, rfl, ?_⟩, trivial⟩
        refine wl_append (news := [.int .i64 5, .string key, .int .i64 (nearV (NS * mi))]) 0 0 ap44 rfl rfl rfl rfl rfl rfl rfl (by omega) (by unfold maxLen; omega) rfl rfl fun v2 hv2 => ?_
        refine wl_nil ?_
        refine nx_wa0 (listed' := #[true, true, true, true, true, true, true, true, true, true, true, true, true, false]) rfl (fun _ hm => ⟨hm.blkI 1 rfl, hm.fact 0 rfl, hm.fact 1 rfl, hm.fact 2 rfl, hm.fact 3 rfl, trivial⟩) ?_
        refine wa_take 13 rfl (by kernel_rfl) (by kernel_rfl) (by kernel_rfl) (listed' := #[true, true, true, true, true, true, true, true, true, true, true, true, true, true]) rfl (fun _ _ _ h => h) (fun _ hm => ⟨hm.blkI 1 rfl, hm.fact 0 rfl, hm.fact 1 rfl, hm.fact 2 rfl, hm.fact 3 rfl, trivial⟩) (ov_assign rfl) rfl ?_
        refine wa_done (by kernel_rfl) ?_
        refine nx_blk_nrm ?_
        refine nx_then ?_
        refine gw_region ?_
        refine wl_ov (ov_add rfl rfl (by omega) (by omega)) rfl ?_
        refine wl_ov (ov_move rfl) rfl ?_
        refine wl_nil ?_
        exact nx_round (k + 1, v2, out ++ [TL], out.flatMap lnEnc ++ ([.int .i64 5, .string key, .int .i64 (nearV (NS * mi))] : List Value)) ⟨by dsimp only; omega, by simp [hi1], by dsimp only; rw [hi2, hat], htl.2, out_snoc hi4 htl.1, by rw [hTL2]; simp [lnEnc]⟩ (by dsimp only; omega) ⟨rfl, rfl, rfl, rfl, rfl, (some_int (by omega)), trivial⟩ (fun _ hm => hm.pick [] [0] [1, 2, 3] rfl rfl)
      · have hov : ov = false := by simpa using hh
        clear hh
        refine gw_skip ?_
        refine nx_then ?_
        obtain ⟨NS, hNS⟩ : ∃ x, x = OS := ⟨_, rfl⟩
        have hN2 : NS = taxN ls out ⟨key, mi, At, nt, ct, on, ov⟩ := by rw [hNS]; unfold taxN; simp only [hov, cond_false]; rw [← hOS]; omega
        have hN3 : -800000000003 ≤ NS ∧ NS ≤ 800000000003 := by omega
        obtain ⟨hN4, hN5⟩ := hN3
        have hmr := mul_rng hN4 hN5 hm0 hm1
        have hmr2 := mul_rng (n := 2 * NS) (M := 1600000000006) (by omega) (by omega) hm0 hm1
        have hv : nearV (NS * mi) = TL.cents := by rw [hTL, hN2]; rfl
        have hTL2 : TL = ⟨5, key, nearV (NS * mi)⟩ := by rw [hTL, hN2]; rfl
        refine gw_set 8 (v' := .int .i64 NS) rfl (congrArg (Value.int .i64) hNS.symm) ?_
        refine gw_draw (fun wz => Blk wz g1 205 [.string key, .int .i64 mi, .slice At nt ct, .bool ov] ∧ (SlOld itEnc 1 3 w.heap.size none At nt on) wz ∧ (SlOld txEnc 4 205 w.heap.size none (some ⟨b, off, none⟩) n l) wz ∧ (OnsOld w.heap.size none l) wz ∧ (SlOld lnEnc 3 133 w.heap.size none A2 n2 ls) wz ∧ True) mixed ?_
        refine wa_take 0 rfl (by kernel_rfl) (by kernel_rfl) (by kernel_rfl) (listed' := #[true, false, false, false, false, false, false, false, false, false, false, false, false, false]) rfl (fun _ _ _ h => h) (fun _ hm => ⟨hm.blkI 0 rfl, hm.fact 0 rfl, hm.fact 1 rfl, hm.fact 2 rfl, hm.fact 3 rfl, trivial⟩) (ov_move rfl) rfl ?_
        refine wa_take 1 rfl (by kernel_rfl) (by kernel_rfl) (by kernel_rfl) (listed' := #[true, true, false, false, false, false, false, false, false, false, false, false, false, false]) rfl (fun _ _ _ h => h) (fun _ hm => ⟨hm.blkI 0 rfl, hm.fact 0 rfl, hm.fact 1 rfl, hm.fact 2 rfl, hm.fact 3 rfl, trivial⟩) (ov_field fo205_0 rfl rfl) rfl ?_
        refine wa_take 2 rfl (by kernel_rfl) (by kernel_rfl) (by kernel_rfl) (listed' := #[true, true, true, false, false, false, false, false, false, false, false, false, false, false]) rfl (fun _ _ _ h => h) (fun _ hm => ⟨hm.blkI 0 rfl, hm.fact 0 rfl, hm.fact 1 rfl, hm.fact 2 rfl, hm.fact 3 rfl, trivial⟩) (ov_load sc9 rfl (fun _ hm => hm.1) rfl) rfl ?_
        refine wa_take 3 rfl (by kernel_rfl) (by kernel_rfl) (by kernel_rfl) (listed' := #[true, true, true, true, false, false, false, false, false, false, false, false, false, false]) rfl (fun _ _ _ h => h) (fun _ hm => ⟨hm.blkI 0 rfl, hm.fact 0 rfl, hm.fact 1 rfl, hm.fact 2 rfl, hm.fact 3 rfl, trivial⟩) (ov_move rfl) rfl ?_
        refine wa_take 4 rfl (by kernel_rfl) (by kernel_rfl) (by kernel_rfl) (listed' := #[true, true, true, true, true, false, false, false, false, false, false, false, false, false]) rfl (fun _ _ _ h => h) (fun _ hm => ⟨hm.blkI 0 rfl, hm.fact 0 rfl, hm.fact 1 rfl, hm.fact 2 rfl, hm.fact 3 rfl, trivial⟩) (ov_mul rfl rfl (by omega) (by omega)) rfl ?_
        refine wa_take 5 rfl (by kernel_rfl) (by kernel_rfl) (by kernel_rfl) (listed' := #[true, true, true, true, true, true, false, false, false, false, false, false, false, false]) rfl (fun _ _ _ h => h) (fun _ hm => ⟨hm.blkI 0 rfl, hm.fact 0 rfl, hm.fact 1 rfl, hm.fact 2 rfl, hm.fact 3 rfl, trivial⟩) (ov_field fo205_1 rfl rfl) rfl ?_
        refine wa_take 6 rfl (by kernel_rfl) (by kernel_rfl) (by kernel_rfl) (listed' := #[true, true, true, true, true, true, true, false, false, false, false, false, false, false]) rfl (fun _ _ _ h => h) (fun _ hm => ⟨hm.blkI 0 rfl, hm.fact 0 rfl, hm.fact 1 rfl, hm.fact 2 rfl, hm.fact 3 rfl, trivial⟩) (ov_load sc3 rfl (fun _ hm => hm.1) rfl) rfl ?_
        refine wa_take 7 rfl (by kernel_rfl) (by kernel_rfl) (by kernel_rfl) (listed' := #[true, true, true, true, true, true, true, true, false, false, false, false, false, false]) rfl (fun _ _ _ h => h) (fun _ hm => ⟨hm.blkI 0 rfl, hm.fact 0 rfl, hm.fact 1 rfl, hm.fact 2 rfl, hm.fact 3 rfl, trivial⟩) (ov_mul rfl rfl (by omega) (by omega)) rfl ?_
        refine wa_take 8 rfl (by kernel_rfl) (by kernel_rfl) (by kernel_rfl) (listed' := #[true, true, true, true, true, true, true, true, true, false, false, false, false, false]) rfl (fun _ _ _ h => h) (fun _ hm => ⟨hm.blkI 0 rfl, hm.fact 0 rfl, hm.fact 1 rfl, hm.fact 2 rfl, hm.fact 3 rfl, trivial⟩) (ov_add rfl rfl (by omega) (by omega)) rfl ?_
        refine wa_all [9] (by kernel_rfl) rfl ⟨⟨_, rfl, ?_⟩, trivial⟩
        refine wl_callv (v := .int .i64 (nearV (NS * mi))) rfl cb142 rfl rfl (fun wx hm => (by rw [← near_two]; exact floor_any (2 * NS * mi + 1000) wx (by omega) (by omega))) ?_
        refine wl_nil ?_
        refine nx_wa0 (listed' := #[true, true, true, true, true, true, true, true, true, true, false, false, false, false]) rfl (fun _ hm => ⟨hm.blkI 0 rfl, hm.fact 0 rfl, hm.fact 1 rfl, hm.fact 2 rfl, hm.fact 3 rfl, trivial⟩) ?_
        refine wa_take 10 rfl (by kernel_rfl) (by kernel_rfl) (by kernel_rfl) (listed' := #[true, true, true, true, true, true, true, true, true, true, true, false, false, false]) rfl (fun _ _ _ h => h) (fun _ hm => ⟨hm.blkI 0 rfl, hm.fact 0 rfl, hm.fact 1 rfl, hm.fact 2 rfl, hm.fact 3 rfl, trivial⟩) (ov_build (cs := [.int .i64 5, .string key, .int .i64 (nearV (NS * mi))]) rfl (by kernel_rfl)) rfl ?_
        refine wa_all [11] (by kernel_rfl) rfl ⟨⟨_, rfl, ?_⟩, trivial⟩
        refine wl_buildSlice (e := 133) (cs := [.int .i64 5, .string key, .int .i64 (nearV (NS * mi))]) rfl (by kernel_rfl) rfl fun g4 => ?_
        refine wl_nil ?_
        refine nx_wa0 (listed' := #[true, true, true, true, true, true, true, true, true, true, true, true, false, false]) rfl (fun _ hm => ⟨hm.blkI 1 rfl, hm.fact 0 rfl, hm.fact 1 rfl, hm.fact 2 rfl, hm.fact 3 rfl, trivial⟩) ?_
        refine wa_all [12] (by kernel_rfl) rfl ⟨⟨_, rfl, ?_⟩, trivial⟩
        refine wl_append (news := [.int .i64 5, .string key, .int .i64 (nearV (NS * mi))]) 0 0 ap44 rfl rfl rfl rfl rfl rfl rfl (by omega) (by unfold maxLen; omega) rfl rfl fun v2 hv2 => ?_
        refine wl_nil ?_
        refine nx_wa0 (listed' := #[true, true, true, true, true, true, true, true, true, true, true, true, true, false]) rfl (fun _ hm => ⟨hm.blkI 1 rfl, hm.fact 0 rfl, hm.fact 1 rfl, hm.fact 2 rfl, hm.fact 3 rfl, trivial⟩) ?_
        refine wa_take 13 rfl (by kernel_rfl) (by kernel_rfl) (by kernel_rfl) (listed' := #[true, true, true, true, true, true, true, true, true, true, true, true, true, true]) rfl (fun _ _ _ h => h) (fun _ hm => ⟨hm.blkI 1 rfl, hm.fact 0 rfl, hm.fact 1 rfl, hm.fact 2 rfl, hm.fact 3 rfl, trivial⟩) (ov_assign rfl) rfl ?_
        refine wa_done (by kernel_rfl) ?_
        refine nx_blk_nrm ?_
        refine nx_then ?_
        refine gw_region ?_
        refine wl_ov (ov_add rfl rfl (by omega) (by omega)) rfl ?_
        refine wl_ov (ov_move rfl) rfl ?_
        refine wl_nil ?_
        exact nx_round (k + 1, v2, out ++ [TL], out.flatMap lnEnc ++ ([.int .i64 5, .string key, .int .i64 (nearV (NS * mi))] : List Value)) ⟨by dsimp only; omega, by simp [hi1], by dsimp only; rw [hi2, hat], htl.2, out_snoc hi4 htl.1, by rw [hTL2]; simp [lnEnc]⟩ (by dsimp only; omega) ⟨rfl, rfl, rfl, rfl, rfl, (some_int (by omega)), trivial⟩ (fun _ hm => hm.pick [] [0] [1, 2, 3] rfl rfl)
  · have hk : ¬ (((k : Nat) : Int) < ((n : Nat) : Int)) := by simpa using hh
    clear hh
    refine gw_exit ?_
    refine nx_then_exit ?_
    refine nx_then_exit ?_
    refine nx_blk_here ?_
    refine nx_then ?_
    refine gw_seq ?_
    refine gw_region ?_
    refine wl_look (R := ∃ A cc, v = .slice A k cc) (fun wx hm => own_slice (hm.ownI 0 rfl)) ?_
    rintro ⟨A3, c3, rfl⟩
    refine wl_ov (ov_move rfl) rfl ?_
    refine wl_ov (ov_assign rfl) rfl ?_
    refine wl_nil ?_
    refine nx_then ?_
    refine gw_ret ?_
    refine nx_ret1 rfl rfl fun wx hm => ?_
    exact ⟨A3, k, c3, rfl, SlT.ofOwn ln_len (hm.ownI 0 rfl) hi1 |> fun h => by rw [hi2, List.drop_eq_nil_of_le (by omega)]; exact h, by omega, hm.g⟩

end Go.Proofs.YtmpomocahgcebaaDoor
