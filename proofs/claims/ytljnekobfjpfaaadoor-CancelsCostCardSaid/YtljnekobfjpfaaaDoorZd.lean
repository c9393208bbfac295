/- Several texts as one: Tc Fm Cn Sp Bd Cc -/
import Derived.Test.YtljnekobfjpfaaaDoorZa
import Derived.Test.YtljnekobfjpfaaaDoorRk
import Derived.Test.YtljnekobfjpfaaaDoorWkey
import Derived.Test.YtljnekobfjpfaaaDoorRt
import Derived.Test.YtljnekobfjpfaaaDoorGb
import Derived.Test.YtljnekobfjpfaaaDoorHl
/- Tiers: CheckTiers, TiersFault, CancelFee, CancelOf, the generators. -/
namespace Go.Proofs.YtljnekobfjpfaaaDoor
open Go.RowKit

structure Tr where
  hours : Int
  mille : Int
def trEnc (t : Tr) : List Value := [.int .i64 t.hours, .int .i64 t.mille]
theorem tr_len (t : Tr) : (trEnc t).length = 2 := rfl
def tierE (p : Option Tr) (t : Tr) : Int :=
  if !inB t.hours 1 5761440 then 1 else if !inB t.mille 0 1000 then 1 else
  match p with
  | none => 0
  | some q => if q.hours ≤ t.hours then 7 else if t.mille < q.mille then 7 else 0
def tiersE (l : List Tr) : Int := if 10 < l.length then 2 else scanE tierE none l
theorem prevOf_zero {α : Type} {l : List α} {k : Nat} (h : k = 0) : prevOf l k = none := by unfold prevOf; rw [if_pos h]
theorem prevOf_pos {α : Type} {l : List α} {k : Nat} {y : α} (h : ¬ k = 0) (hy : l[k - 1]? = some y) : prevOf l k = some y := by unfold prevOf; rw [if_neg h, hy]
theorem scanE_all {α : Type} {f : Option α → α → Int} : ∀ {l : List α} {p : Option α}, scanE f p l = 0 → ∀ x ∈ l, ∃ q, f q x = 0
  | [], _, _, x, hx => by cases hx
  | y :: t, p, h, x, hx => by
    unfold scanE at h
    by_cases h0 : f p y = 0
    · rw [if_pos h0] at h
      rcases List.mem_cons.1 hx with rfl | hx
      · exact ⟨p, h0⟩
      · exact scanE_all h x hx
    · rw [if_neg h0] at h; exact absurd h h0
theorem tiersE_ok {l : List Tr} (h : tiersE l = 0) : l.length ≤ 10 ∧ ∀ t ∈ l, (1 ≤ t.hours ∧ t.hours ≤ 5761440) ∧ (0 ≤ t.mille ∧ t.mille ≤ 1000) := by
  unfold tiersE at h
  split at h
  · cases h
  · refine ⟨by omega, fun t ht => ?_⟩
    obtain ⟨q, hq⟩ := scanE_all h t ht
    unfold tierE at hq
    cases h1 : inB t.hours 1 5761440 with
    | false => rw [h1] at hq; cases hq
    | true =>
      cases h2 : inB t.mille 0 1000 with
      | false => rw [h1, h2] at hq; cases hq
      | true => exact ⟨inB_iff.1 h1, inB_iff.1 h2⟩
/-- The fee of a cancelling d minutes ahead. -/
def feeV (l : List Tr) (v d : Int) : Int := l.foldl (fun a t => if d < t.hours then v * t.mille / 1000 else a) 0
theorem feeV_take {l : List Tr} {v d : Int} {k : Nat} {x : Tr} (h : l[k]? = some x) : feeV (l.take (k + 1)) v d = if d < x.hours then v * x.mille / 1000 else feeV (l.take k) v d := by
  obtain ⟨hk, rfl⟩ := List.getElem?_eq_some_iff.1 h
  unfold feeV
  rw [List.take_add_one, List.getElem?_eq_getElem hk, List.foldl_append]
  rfl

set_option maxRecDepth 100000 in
set_option maxHeartbeats 1000000 in
theorem checkTiers_any (l : List Tr) (A : Option Addr) (n c : Nat) (w : World) (hl : SlT trEnc 2 141 w A n l) (hn : n ≤ 1000000) :
    Calls Tryd.prog 26 #[.slice A n c] w (GotE w (tiersE l)) := by
  refine gw_enter ⟨52, w, none, []⟩ Tryd.func26 rfl Tryd.ntmps26 rfl (mem0 (X := [SlOld trEnc 2 141 w.heap.size none A n l]) (allF_cons hl.old allF_nil) (allL_cons SlOld.lasts allL_nil)) ?_
  refine gw_seq ?_
  refine gw_region ?_
  have hlen := hl.len
  refine wl_ov (ov_assign rfl) rfl ?_
  refine wl_nil ?_
  refine nx_then ?_
  refine gw_seq ?_
  refine gw_seq ?_
  refine gw_region ?_
  refine wl_ov (ov_move rfl) rfl ?_
  refine wl_ov (ov_len es43 rfl) rfl ?_
  refine wl_ov (ov_gtr rfl rfl) rfl ?_
  refine wl_nil ?_
  refine nx_then ?_
  refine gw_cond rfl (fun hh => ?_) (fun hh => ?_)
  · have h1 : 10 < ((n : Nat) : Int) := by simpa using hh
    clear hh
    refine gw_seq ?_
    refine gw_region ?_
    refine wl_ov (ov_assign rfl) rfl ?_
    refine wl_nil ?_
    refine nx_then ?_
    refine gw_ret ?_
    refine nx_then_ret ?_
    refine nx_ret1 rfl rfl fun wx hm => ?_
    exact ⟨ret_int (by unfold tiersE; rw [if_pos (by omega)]), hm.g⟩
  · have h1 : ¬ (10 < ((n : Nat) : Int)) := by simpa using hh
    clear hh
    refine gw_skip ?_
    refine nx_then ?_
    refine gw_seq ?_
    refine gw_seq ?_
    refine gw_region ?_
    refine wl_ov (ov_move rfl) rfl ?_
    refine wl_ov (ov_len es43 rfl) rfl ?_
    refine wl_ov (ov_move rfl) rfl ?_
    refine wl_nil ?_
    refine nx_then ?_
    refine gw_block ?_
    refine gw_loop (γ := Nat) (fun (k : Nat) => k ≤ n ∧ tiersE l = scanE tierE (prevOf l k) (l.drop k)) (fun (k : Nat) => [(0, .slice A n c), (8, .slice A n c), (9, .int .i64 ((n : Nat) : Int)), (10, .int .i64 ((k : Nat) : Int))]) (fun (k : Nat) => fun _ => True) (fun (k : Nat) => []) (fun (k : Nat) => []) (fun (k : Nat) => [SlOld trEnc 2 141 w.heap.size none A n l]) (fun (k : Nat) => n - k) 0 ⟨Nat.zero_le _, by unfold tiersE; rw [if_neg (by omega)]; rfl⟩ ⟨rfl, rfl, rfl, rfl, trivial⟩ (fun _ hm => hm.pick [] [] [0] rfl rfl) ?_
    intro k hinv
    replace hinv : k ≤ n ∧ tiersE l = scanE tierE (prevOf l k) (l.drop k) := hinv
    refine gw_seq ?_
    refine gw_region ?_
    refine wl_ov (ov_lss rfl rfl) rfl ?_
    refine wl_nil ?_
    refine nx_then ?_
    refine gw_seq ?_
    refine gw_cond rfl (fun hh => ?_) (fun hh => ?_)
    · have hk : ((k : Nat) : Int) < ((n : Nat) : Int) := by simpa using hh
      clear hh
      refine gw_skip ?_
      refine nx_then ?_
      refine gw_seq ?_
      refine gw_block ?_
      refine gw_seq ?_
      refine gw_region ?_
      obtain ⟨b, off, hA, _, _⟩ := hl.get (by omega)
      subst hA
      obtain ⟨x, hx⟩ : ∃ x, l[k]? = some x := ⟨_, List.getElem?_eq_getElem (by omega)⟩
      obtain ⟨hr, ml⟩ := x
      have hat := scanE_at tierE l k _ hx
      refine wl_ov (ov_move rfl) rfl ?_
      refine wl_ov (ov_index (j := k) es43 rfl rfl (by omega)) rfl ?_
      refine wl_ov (ov_elem rz141 rfl (fun _ hm => (hm.fact 0 rfl).1) hx rfl rfl) rfl ?_
      refine wl_alloc zc141 rfl fun g1 => ?_
      refine wl_ov (ov_assign rfl) rfl ?_
      refine wl_stores (cs' := [.int .i64 hr, .int .i64 ml]) 0 rz141 rfl rfl rfl rfl rfl rfl rfl rfl ?_
      refine wl_nil ?_
      refine nx_then ?_
      refine gw_block ?_
      refine gw_seq ?_
      refine gw_region ?_
      refine wl_ov (ov_field fo141_0 rfl rfl) rfl ?_
      refine wl_ov (ov_load sc3 rfl (fun _ hm => hm.blkI 0 rfl) rfl) rfl ?_
      refine wl_callw rfl cb99 rfl rfl (fun wx hm => (in_any _ _ _ wx)) ?_
      refine wl_ov (ov_un_not rfl) rfl ?_
      refine wl_ov (ov_move rfl) rfl ?_
      rcases Bool.eq_false_or_eq_true (!(inB hr 1 5761440)) with h2 | h2
      · refine wl_set 20 rfl (congrArg Value.bool h2) ?_
        refine wl_guard_off rfl rfl rfl (by decide) rfl ?_
        refine wl_guard_off rfl rfl rfl (by decide) rfl ?_
        refine wl_guard_off rfl rfl rfl (by decide) rfl ?_
        refine wl_guard_off rfl rfl rfl (by decide) rfl ?_
        refine wl_ov (ov_pick_t rfl rfl) rfl ?_
        refine wl_ov (ov_assign rfl) rfl ?_
        refine wl_nil ?_
        refine nx_then ?_
        refine gw_cond rfl (fun _ => ?_) (fun hh => by cases hh)
        refine gw_seq ?_
        refine gw_region ?_
        refine wl_ov (ov_assign rfl) rfl ?_
        refine wl_nil ?_
        refine nx_then ?_
        refine gw_ret ?_
        refine nx_blk_ret ?_
        refine nx_blk_ret ?_
        refine nx_then_ret ?_
        refine nx_then_ret ?_
        refine nx_blk_ret ?_
        refine nx_then_ret ?_
        have hE : tierE (prevOf l k) ⟨hr, ml⟩ = 1 := by unfold tierE; simp [h2]
        refine nx_ret1 rfl rfl fun wx hm => ?_
        exact ⟨ret_int (by rw [hinv.2, hat, if_neg (by rw [hE]; decide), hE]), hm.g⟩
      · refine wl_set 20 rfl (congrArg Value.bool h2) ?_
        refine wl_guard_on rfl rfl rfl ?_
        refine wl_ov (ov_field fo141_1 rfl rfl) rfl ?_
        refine wl_guard_on rfl rfl rfl ?_
        refine wl_ov (ov_load sc3 rfl (fun _ hm => hm.blkI 0 rfl) rfl) rfl ?_
        refine wl_guard_on rfl rfl rfl ?_
        refine wl_callw rfl cb99 rfl rfl (fun wx hm => (in_any _ _ _ wx)) ?_
        refine wl_guard_on rfl rfl rfl ?_
        refine wl_ov (ov_un_not rfl) rfl ?_
        refine wl_ov (ov_pick_f rfl rfl) rfl ?_
        refine wl_ov (ov_assign rfl) rfl ?_
        refine wl_nil ?_
        refine nx_then ?_
        refine gw_cond rfl (fun hh => ?_) (fun hh => ?_)
        · have h3 : (inB ml 0 1000) = false := by simpa using hh
          clear hh
          refine gw_seq ?_
          refine gw_region ?_
          have hE : tierE (prevOf l k) ⟨hr, ml⟩ = 1 := by unfold tierE; simp [h2, h3]
          refine wl_ov (ov_assign rfl) rfl ?_
          refine wl_nil ?_
          refine nx_then ?_
          refine gw_ret ?_
          refine nx_blk_ret ?_
          refine nx_blk_ret ?_
          refine nx_then_ret ?_
          refine nx_then_ret ?_
          refine nx_blk_ret ?_
          refine nx_then_ret ?_
          refine nx_ret1 rfl rfl fun wx hm => ?_
          exact ⟨ret_int (by rw [hinv.2, hat, if_neg (by rw [hE]; decide), hE]), hm.g⟩
        · have h3 : (inB ml 0 1000) = true := by simpa using hh
          clear hh
          refine gw_seq ?_
          by_cases hk0 : k = 0
          · have hE : tierE (prevOf l k) ⟨hr, ml⟩ = 0 := by unfold tierE; rw [prevOf_zero hk0]; simp [h2, h3]
            refine gw_draw (fun wz => Blk wz g1 141 [.int .i64 hr, .int .i64 ml] ∧ (SlOld trEnc 2 141 w.heap.size none (some ⟨b, off, none⟩) n l) wz ∧ True) mixed ?_
            refine wa_take 0 rfl (by kernel_rfl) (by kernel_rfl) (by kernel_rfl) (listed' := #[true, false, false, false, false, false, false, false, false, false, false, false, false, false, false, false, false, false, false, false, false, false, false, false, false]) rfl (fun _ _ _ h => h) (fun _ hm => ⟨hm.blkI 0 rfl, hm.fact 0 rfl, trivial⟩) (ov_move rfl) rfl ?_
            refine wa_take 1 rfl (by kernel_rfl) (by kernel_rfl) (by kernel_rfl) (listed' := #[true, true, false, false, false, false, false, false, false, false, false, false, false, false, false, false, false, false, false, false, false, false, false, false, false]) rfl (fun _ _ _ h => h) (fun _ hm => ⟨hm.blkI 0 rfl, hm.fact 0 rfl, trivial⟩) (ov_gtr rfl rfl) rfl ?_
            refine wa_set 28 (v' := .bool false) rfl (congrArg Value.bool (decide_eq_false (by omega))) ?_
            refine wa_take 2 rfl (by kernel_rfl) (by kernel_rfl) (by kernel_rfl) (listed' := #[true, true, true, false, false, false, false, false, false, false, false, false, false, false, false, false, false, false, false, false, false, false, false, false, false]) rfl (fun _ _ _ h => h) (fun _ hm => ⟨hm.blkI 0 rfl, hm.fact 0 rfl, trivial⟩) (ov_move rfl) rfl ?_
            refine wa_take_off 3 rfl rfl rfl (by decide) (by kernel_rfl) (by kernel_rfl) (by kernel_rfl) (listed' := #[true, true, true, true, false, false, false, false, false, false, false, false, false, false, false, false, false, false, false, false, false, false, false, false, false]) rfl (fun _ _ _ h => h) (fun _ hm => ⟨hm.blkI 0 rfl, hm.fact 0 rfl, trivial⟩) rfl ?_
            refine wa_take_off 4 rfl rfl rfl (by decide) (by kernel_rfl) (by kernel_rfl) (by kernel_rfl) (listed' := #[true, true, true, true, true, false, false, false, false, false, false, false, false, false, false, false, false, false, false, false, false, false, false, false, false]) rfl (fun _ _ _ h => h) (fun _ hm => ⟨hm.blkI 0 rfl, hm.fact 0 rfl, trivial⟩) rfl ?_
            refine wa_take_off 5 rfl rfl rfl (by decide) (by kernel_rfl) (by kernel_rfl) (by kernel_rfl) (listed' := #[true, true, true, true, true, true, false, false, false, false, false, false, false, false, false, false, false, false, false, false, false, false, false, false, false]) rfl (fun _ _ _ h => h) (fun _ hm => ⟨hm.blkI 0 rfl, hm.fact 0 rfl, trivial⟩) rfl ?_
            refine wa_take_off 6 rfl rfl rfl (by decide) (by kernel_rfl) (by kernel_rfl) (by kernel_rfl) (listed' := #[true, true, true, true, true, true, true, false, false, false, false, false, false, false, false, false, false, false, false, false, false, false, false, false, false]) rfl (fun _ _ _ h => h) (fun _ hm => ⟨hm.blkI 0 rfl, hm.fact 0 rfl, trivial⟩) rfl ?_
            refine wa_take_off 7 rfl rfl rfl (by decide) (by kernel_rfl) (by kernel_rfl) (by kernel_rfl) (listed' := #[true, true, true, true, true, true, true, true, false, false, false, false, false, false, false, false, false, false, false, false, false, false, false, false, false]) rfl (fun _ _ _ h => h) (fun _ hm => ⟨hm.blkI 0 rfl, hm.fact 0 rfl, trivial⟩) rfl ?_
            refine wa_take_off 8 rfl rfl rfl (by decide) (by kernel_rfl) (by kernel_rfl) (by kernel_rfl) (listed' := #[true, true, true, true, true, true, true, true, true, false, false, false, false, false, false, false, false, false, false, false, false, false, false, false, false]) rfl (fun _ _ _ h => h) (fun _ hm => ⟨hm.blkI 0 rfl, hm.fact 0 rfl, trivial⟩) rfl ?_
            refine wa_take_off 9 rfl rfl rfl (by decide) (by kernel_rfl) (by kernel_rfl) (by kernel_rfl) (listed' := #[true, true, true, true, true, true, true, true, true, true, false, false, false, false, false, false, false, false, false, false, false, false, false, false, false]) rfl (fun _ _ _ h => h) (fun _ hm => ⟨hm.blkI 0 rfl, hm.fact 0 rfl, trivial⟩) rfl ?_
            refine wa_take_off 10 rfl rfl rfl (by decide) (by kernel_rfl) (by kernel_rfl) (by kernel_rfl) (listed' := #[true, true, true, true, true, true, true, true, true, true, true, false, false, false, false, false, false, false, false, false, false, false, false, false, false]) rfl (fun _ _ _ h => h) (fun _ hm => ⟨hm.blkI 0 rfl, hm.fact 0 rfl, trivial⟩) rfl ?_
            refine wa_take_off 11 rfl rfl rfl (by decide) (by kernel_rfl) (by kernel_rfl) (by kernel_rfl) (listed' := #[true, true, true, true, true, true, true, true, true, true, true, true, false, false, false, false, false, false, false, false, false, false, false, false, false]) rfl (fun _ _ _ h => h) (fun _ hm => ⟨hm.blkI 0 rfl, hm.fact 0 rfl, trivial⟩) rfl ?_
            refine wa_take_off 12 rfl rfl rfl (by decide) (by kernel_rfl) (by kernel_rfl) (by kernel_rfl) (listed' := #[true, true, true, true, true, true, true, true, true, true, true, true, true, false, false, false, false, false, false, false, false, false, false, false, false]) rfl (fun _ _ _ h => h) (fun _ hm => ⟨hm.blkI 0 rfl, hm.fact 0 rfl, trivial⟩) rfl ?_
            refine wa_take_undef 13 rfl rfl rfl (by kernel_rfl) (by kernel_rfl) (by kernel_rfl) (listed' := #[true, true, true, true, true, true, true, true, true, true, true, true, true, true, false, false, false, false, false, false, false, false, false, false, false]) rfl (fun _ _ _ h => h) (fun _ hm => ⟨hm.blkI 0 rfl, hm.fact 0 rfl, trivial⟩) rfl ?_
            refine wa_take_undef 14 rfl rfl rfl (by kernel_rfl) (by kernel_rfl) (by kernel_rfl) (listed' := #[true, true, true, true, true, true, true, true, true, true, true, true, true, true, true, false, false, false, false, false, false, false, false, false, false]) rfl (fun _ _ _ h => h) (fun _ hm => ⟨hm.blkI 0 rfl, hm.fact 0 rfl, trivial⟩) rfl ?_
            refine wa_take_undef 15 rfl rfl rfl (by kernel_rfl) (by kernel_rfl) (by kernel_rfl) (listed' := #[true, true, true, true, true, true, true, true, true, true, true, true, true, true, true, true, false, false, false, false, false, false, false, false, false]) rfl (fun _ _ _ h => h) (fun _ hm => ⟨hm.blkI 0 rfl, hm.fact 0 rfl, trivial⟩) rfl ?_
            refine wa_take_undef 16 rfl rfl rfl (by kernel_rfl) (by kernel_rfl) (by kernel_rfl) (listed' := #[true, true, true, true, true, true, true, true, true, true, true, true, true, true, true, true, true, false, false, false, false, false, false, false, false]) rfl (fun _ _ _ h => h) (fun _ hm => ⟨hm.blkI 0 rfl, hm.fact 0 rfl, trivial⟩) rfl ?_
            refine wa_take_undef 17 rfl rfl rfl (by kernel_rfl) (by kernel_rfl) (by kernel_rfl) (listed' := #[true, true, true, true, true, true, true, true, true, true, true, true, true, true, true, true, true, true, false, false, false, false, false, false, false]) rfl (fun _ _ _ h => h) (fun _ hm => ⟨hm.blkI 0 rfl, hm.fact 0 rfl, trivial⟩) rfl ?_
            refine wa_take_undef 18 rfl rfl rfl (by kernel_rfl) (by kernel_rfl) (by kernel_rfl) (listed' := #[true, true, true, true, true, true, true, true, true, true, true, true, true, true, true, true, true, true, true, false, false, false, false, false, false]) rfl (fun _ _ _ h => h) (fun _ hm => ⟨hm.blkI 0 rfl, hm.fact 0 rfl, trivial⟩) rfl ?_
            refine wa_take_undef 19 rfl rfl rfl (by kernel_rfl) (by kernel_rfl) (by kernel_rfl) (listed' := #[true, true, true, true, true, true, true, true, true, true, true, true, true, true, true, true, true, true, true, true, false, false, false, false, false]) rfl (fun _ _ _ h => h) (fun _ hm => ⟨hm.blkI 0 rfl, hm.fact 0 rfl, trivial⟩) rfl ?_
            refine wa_take_undef 20 rfl rfl rfl (by kernel_rfl) (by kernel_rfl) (by kernel_rfl) (listed' := #[true, true, true, true, true, true, true, true, true, true, true, true, true, true, true, true, true, true, true, true, true, false, false, false, false]) rfl (fun _ _ _ h => h) (fun _ hm => ⟨hm.blkI 0 rfl, hm.fact 0 rfl, trivial⟩) rfl ?_
            refine wa_take_undef 21 rfl rfl rfl (by kernel_rfl) (by kernel_rfl) (by kernel_rfl) (listed' := #[true, true, true, true, true, true, true, true, true, true, true, true, true, true, true, true, true, true, true, true, true, true, false, false, false]) rfl (fun _ _ _ h => h) (fun _ hm => ⟨hm.blkI 0 rfl, hm.fact 0 rfl, trivial⟩) rfl ?_
            refine wa_take_off 22 rfl rfl rfl (by decide) (by kernel_rfl) (by kernel_rfl) (by kernel_rfl) (listed' := #[true, true, true, true, true, true, true, true, true, true, true, true, true, true, true, true, true, true, true, true, true, true, true, false, false]) rfl (fun _ _ _ h => h) (fun _ hm => ⟨hm.blkI 0 rfl, hm.fact 0 rfl, trivial⟩) rfl ?_
            refine wa_take 23 rfl (by kernel_rfl) (by kernel_rfl) (by kernel_rfl) (listed' := #[true, true, true, true, true, true, true, true, true, true, true, true, true, true, true, true, true, true, true, true, true, true, true, true, false]) rfl (fun _ _ _ h => h) (fun _ hm => ⟨hm.blkI 0 rfl, hm.fact 0 rfl, trivial⟩) (ov_pick_f rfl rfl) rfl ?_
            refine wa_take 24 rfl (by kernel_rfl) (by kernel_rfl) (by kernel_rfl) (listed' := #[true, true, true, true, true, true, true, true, true, true, true, true, true, true, true, true, true, true, true, true, true, true, true, true, true]) rfl (fun _ _ _ h => h) (fun _ hm => ⟨hm.blkI 0 rfl, hm.fact 0 rfl, trivial⟩) (ov_assign rfl) rfl ?_
            refine wa_done (by kernel_rfl) ?_
            refine nx_then ?_
            refine gw_cond rfl (fun hh => by cases hh) (fun _ => ?_)
            refine gw_skip ?_
            refine nx_blk_nrm ?_
            refine nx_blk_nrm ?_
            refine nx_then ?_
            refine gw_region ?_
            refine wl_ov (ov_add rfl rfl (by omega) (by omega)) rfl ?_
            refine wl_ov (ov_move rfl) rfl ?_
            refine wl_nil ?_
            exact nx_round (k + 1) ⟨by omega, by rw [hinv.2, hat, if_pos hE]⟩ (by omega) ⟨rfl, rfl, rfl, (some_int (by omega)), trivial⟩ (fun _ hm => hm.pick [] [] [0] rfl rfl)
          · obtain ⟨y, hy⟩ : ∃ x, l[k - 1]? = some x := ⟨_, List.getElem?_eq_getElem (by omega)⟩
            obtain ⟨ph, pm⟩ := y
            have hpv := prevOf_pos hk0 hy
            refine gw_draw (fun wz => Blk wz g1 141 [.int .i64 hr, .int .i64 ml] ∧ (SlOld trEnc 2 141 w.heap.size none (some ⟨b, off, none⟩) n l) wz ∧ True) mixed ?_
            refine wa_take 0 rfl (by kernel_rfl) (by kernel_rfl) (by kernel_rfl) (listed' := #[true, false, false, false, false, false, false, false, false, false, false, false, false, false, false, false, false, false, false, false, false, false, false, false, false]) rfl (fun _ _ _ h => h) (fun _ hm => ⟨hm.blkI 0 rfl, hm.fact 0 rfl, trivial⟩) (ov_move rfl) rfl ?_
            refine wa_take 1 rfl (by kernel_rfl) (by kernel_rfl) (by kernel_rfl) (listed' := #[true, true, false, false, false, false, false, false, false, false, false, false, false, false, false, false, false, false, false, false, false, false, false, false, false]) rfl (fun _ _ _ h => h) (fun _ hm => ⟨hm.blkI 0 rfl, hm.fact 0 rfl, trivial⟩) (ov_gtr rfl rfl) rfl ?_
            refine wa_set 28 (v' := .bool true) rfl (congrArg Value.bool (decide_eq_true (by omega))) ?_
            refine wa_take 2 rfl (by kernel_rfl) (by kernel_rfl) (by kernel_rfl) (listed' := #[true, true, true, false, false, false, false, false, false, false, false, false, false, false, false, false, false, false, false, false, false, false, false, false, false]) rfl (fun _ _ _ h => h) (fun _ hm => ⟨hm.blkI 0 rfl, hm.fact 0 rfl, trivial⟩) (ov_move rfl) rfl ?_
            refine wa_take_on 3 rfl rfl rfl (by kernel_rfl) (by kernel_rfl) (by kernel_rfl) (listed' := #[true, true, true, true, false, false, false, false, false, false, false, false, false, false, false, false, false, false, false, false, false, false, false, false, false]) rfl (fun _ _ _ h => h) (fun _ hm => ⟨hm.blkI 0 rfl, hm.fact 0 rfl, trivial⟩) (ov_field fo141_0 rfl rfl) rfl ?_
            refine wa_take_on 4 rfl rfl rfl (by kernel_rfl) (by kernel_rfl) (by kernel_rfl) (listed' := #[true, true, true, true, true, false, false, false, false, false, false, false, false, false, false, false, false, false, false, false, false, false, false, false, false]) rfl (fun _ _ _ h => h) (fun _ hm => ⟨hm.blkI 0 rfl, hm.fact 0 rfl, trivial⟩) (ov_load sc3 rfl (fun _ hm => hm.1) rfl) rfl ?_
            refine wa_take_on 5 rfl rfl rfl (by kernel_rfl) (by kernel_rfl) (by kernel_rfl) (listed' := #[true, true, true, true, true, true, false, false, false, false, false, false, false, false, false, false, false, false, false, false, false, false, false, false, false]) rfl (fun _ _ _ h => h) (fun _ hm => ⟨hm.blkI 0 rfl, hm.fact 0 rfl, trivial⟩) (ov_move rfl) rfl ?_
            refine wa_take_on 6 rfl rfl rfl (by kernel_rfl) (by kernel_rfl) (by kernel_rfl) (listed' := #[true, true, true, true, true, true, true, false, false, false, false, false, false, false, false, false, false, false, false, false, false, false, false, false, false]) rfl (fun _ _ _ h => h) (fun _ hm => ⟨hm.blkI 0 rfl, hm.fact 0 rfl, trivial⟩) (ov_move rfl) rfl ?_
            refine wa_take_on 7 rfl rfl rfl (by kernel_rfl) (by kernel_rfl) (by kernel_rfl) (listed' := #[true, true, true, true, true, true, true, true, false, false, false, false, false, false, false, false, false, false, false, false, false, false, false, false, false]) rfl (fun _ _ _ h => h) (fun _ hm => ⟨hm.blkI 0 rfl, hm.fact 0 rfl, trivial⟩) (ov_sub rfl rfl (by omega) (by omega)) rfl ?_
            refine wa_set 34 (v' := .int .i64 ((k - 1 : Nat) : Int)) rfl (congrArg (Value.int .i64) (by omega)) ?_
            refine wa_take_on 8 rfl rfl rfl (by kernel_rfl) (by kernel_rfl) (by kernel_rfl) (listed' := #[true, true, true, true, true, true, true, true, true, false, false, false, false, false, false, false, false, false, false, false, false, false, false, false, false]) rfl (fun _ _ _ h => h) (fun _ hm => ⟨hm.blkI 0 rfl, hm.fact 0 rfl, trivial⟩) (ov_index (j := k - 1) es43 rfl rfl (by omega)) rfl ?_
            refine wa_take_on 9 rfl rfl rfl (by kernel_rfl) (by kernel_rfl) (by kernel_rfl) (listed' := #[true, true, true, true, true, true, true, true, true, true, false, false, false, false, false, false, false, false, false, false, false, false, false, false, false]) rfl (fun _ _ _ h => h) (fun _ hm => ⟨hm.blkI 0 rfl, hm.fact 0 rfl, trivial⟩) (ov_field fo141_0 rfl rfl) rfl ?_
            refine wa_take_on 10 rfl rfl rfl (by kernel_rfl) (by kernel_rfl) (by kernel_rfl) (listed' := #[true, true, true, true, true, true, true, true, true, true, true, false, false, false, false, false, false, false, false, false, false, false, false, false, false]) rfl (fun _ _ _ h => h) (fun _ hm => ⟨hm.blkI 0 rfl, hm.fact 0 rfl, trivial⟩) (ov_elem1 (k := 0) sc3 rfl (fun _ hm => (hm.2.1).1) hy rfl rfl) rfl ?_
            refine wa_take_on 11 rfl rfl rfl (by kernel_rfl) (by kernel_rfl) (by kernel_rfl) (listed' := #[true, true, true, true, true, true, true, true, true, true, true, true, false, false, false, false, false, false, false, false, false, false, false, false, false]) rfl (fun _ _ _ h => h) (fun _ hm => ⟨hm.blkI 0 rfl, hm.fact 0 rfl, trivial⟩) (ov_geq rfl rfl) rfl ?_
            refine wa_take_on 12 rfl rfl rfl (by kernel_rfl) (by kernel_rfl) (by kernel_rfl) (listed' := #[true, true, true, true, true, true, true, true, true, true, true, true, true, false, false, false, false, false, false, false, false, false, false, false, false]) rfl (fun _ _ _ h => h) (fun _ hm => ⟨hm.blkI 0 rfl, hm.fact 0 rfl, trivial⟩) (ov_move rfl) rfl ?_
            rcases Bool.eq_false_or_eq_true (decide (ph ≤ hr)) with h4 | h4
            · refine wa_set 39 rfl (congrArg Value.bool h4) ?_
              have hE : tierE (prevOf l k) ⟨hr, ml⟩ = 7 := by unfold tierE; rw [hpv]; simp at h4; simp [h2, h3, h4]
              refine wa_take_off 13 rfl rfl rfl (by decide) (by kernel_rfl) (by kernel_rfl) (by kernel_rfl) (listed' := #[true, true, true, true, true, true, true, true, true, true, true, true, true, true, false, false, false, false, false, false, false, false, false, false, false]) rfl (fun _ _ _ h => h) (fun _ hm => ⟨hm.blkI 0 rfl, hm.fact 0 rfl, trivial⟩) rfl ?_
              refine wa_take_off 14 rfl rfl rfl (by decide) (by kernel_rfl) (by kernel_rfl) (by kernel_rfl) (listed' := #[true, true, true, true, true, true, true, true, true, true, true, true, true, true, true, false, false, false, false, false, false, false, false, false, false]) rfl (fun _ _ _ h => h) (fun _ hm => ⟨hm.blkI 0 rfl, hm.fact 0 rfl, trivial⟩) rfl ?_
              refine wa_take_off 15 rfl rfl rfl (by decide) (by kernel_rfl) (by kernel_rfl) (by kernel_rfl) (listed' := #[true, true, true, true, true, true, true, true, true, true, true, true, true, true, true, true, false, false, false, false, false, false, false, false, false]) rfl (fun _ _ _ h => h) (fun _ hm => ⟨hm.blkI 0 rfl, hm.fact 0 rfl, trivial⟩) rfl ?_
              refine wa_take_off 16 rfl rfl rfl (by decide) (by kernel_rfl) (by kernel_rfl) (by kernel_rfl) (listed' := #[true, true, true, true, true, true, true, true, true, true, true, true, true, true, true, true, true, false, false, false, false, false, false, false, false]) rfl (fun _ _ _ h => h) (fun _ hm => ⟨hm.blkI 0 rfl, hm.fact 0 rfl, trivial⟩) rfl ?_
              refine wa_take_off 17 rfl rfl rfl (by decide) (by kernel_rfl) (by kernel_rfl) (by kernel_rfl) (listed' := #[true, true, true, true, true, true, true, true, true, true, true, true, true, true, true, true, true, true, false, false, false, false, false, false, false]) rfl (fun _ _ _ h => h) (fun _ hm => ⟨hm.blkI 0 rfl, hm.fact 0 rfl, trivial⟩) rfl ?_
              refine wa_take_off 18 rfl rfl rfl (by decide) (by kernel_rfl) (by kernel_rfl) (by kernel_rfl) (listed' := #[true, true, true, true, true, true, true, true, true, true, true, true, true, true, true, true, true, true, true, false, false, false, false, false, false]) rfl (fun _ _ _ h => h) (fun _ hm => ⟨hm.blkI 0 rfl, hm.fact 0 rfl, trivial⟩) rfl ?_
              refine wa_take_off 19 rfl rfl rfl (by decide) (by kernel_rfl) (by kernel_rfl) (by kernel_rfl) (listed' := #[true, true, true, true, true, true, true, true, true, true, true, true, true, true, true, true, true, true, true, true, false, false, false, false, false]) rfl (fun _ _ _ h => h) (fun _ hm => ⟨hm.blkI 0 rfl, hm.fact 0 rfl, trivial⟩) rfl ?_
              refine wa_take_off 20 rfl rfl rfl (by decide) (by kernel_rfl) (by kernel_rfl) (by kernel_rfl) (listed' := #[true, true, true, true, true, true, true, true, true, true, true, true, true, true, true, true, true, true, true, true, true, false, false, false, false]) rfl (fun _ _ _ h => h) (fun _ hm => ⟨hm.blkI 0 rfl, hm.fact 0 rfl, trivial⟩) rfl ?_
              refine wa_take_off 21 rfl rfl rfl (by decide) (by kernel_rfl) (by kernel_rfl) (by kernel_rfl) (listed' := #[true, true, true, true, true, true, true, true, true, true, true, true, true, true, true, true, true, true, true, true, true, true, false, false, false]) rfl (fun _ _ _ h => h) (fun _ hm => ⟨hm.blkI 0 rfl, hm.fact 0 rfl, trivial⟩) rfl ?_
              refine wa_take_on 22 rfl rfl rfl (by kernel_rfl) (by kernel_rfl) (by kernel_rfl) (listed' := #[true, true, true, true, true, true, true, true, true, true, true, true, true, true, true, true, true, true, true, true, true, true, true, false, false]) rfl (fun _ _ _ h => h) (fun _ hm => ⟨hm.blkI 0 rfl, hm.fact 0 rfl, trivial⟩) (ov_pick_t rfl rfl) rfl ?_
              refine wa_take 23 rfl (by kernel_rfl) (by kernel_rfl) (by kernel_rfl) (listed' := #[true, true, true, true, true, true, true, true, true, true, true, true, true, true, true, true, true, true, true, true, true, true, true, true, false]) rfl (fun _ _ _ h => h) (fun _ hm => ⟨hm.blkI 0 rfl, hm.fact 0 rfl, trivial⟩) (ov_pick_t rfl rfl) rfl ?_
              refine wa_take 24 rfl (by kernel_rfl) (by kernel_rfl) (by kernel_rfl) (listed' := #[true, true, true, true, true, true, true, true, true, true, true, true, true, true, true, true, true, true, true, true, true, true, true, true, true]) rfl (fun _ _ _ h => h) (fun _ hm => ⟨hm.blkI 0 rfl, hm.fact 0 rfl, trivial⟩) (ov_assign rfl) rfl ?_
              refine wa_done (by kernel_rfl) ?_
              refine nx_then ?_
              refine gw_cond rfl (fun _ => ?_) (fun hh => by cases hh)
              refine gw_seq ?_
              refine gw_region ?_
              refine wl_ov (ov_assign rfl) rfl ?_
              refine wl_nil ?_
              refine nx_then ?_
              refine gw_ret ?_
              refine nx_blk_ret ?_
              refine nx_blk_ret ?_
              refine nx_then_ret ?_
              refine nx_then_ret ?_
              refine nx_blk_ret ?_
              refine nx_then_ret ?_
              refine nx_ret1 rfl rfl fun wx hm => ?_
              exact ⟨ret_int (by rw [hinv.2, hat, if_neg (by rw [hE]; decide), hE]), hm.g⟩
            · refine wa_set 39 rfl (congrArg Value.bool h4) ?_
              refine wa_take_on 13 rfl rfl rfl (by kernel_rfl) (by kernel_rfl) (by kernel_rfl) (listed' := #[true, true, true, true, true, true, true, true, true, true, true, true, true, true, false, false, false, false, false, false, false, false, false, false, false]) rfl (fun _ _ _ h => h) (fun _ hm => ⟨hm.blkI 0 rfl, hm.fact 0 rfl, trivial⟩) (ov_field fo141_1 rfl rfl) rfl ?_
              refine wa_take_on 14 rfl rfl rfl (by kernel_rfl) (by kernel_rfl) (by kernel_rfl) (listed' := #[true, true, true, true, true, true, true, true, true, true, true, true, true, true, true, false, false, false, false, false, false, false, false, false, false]) rfl (fun _ _ _ h => h) (fun _ hm => ⟨hm.blkI 0 rfl, hm.fact 0 rfl, trivial⟩) (ov_load sc3 rfl (fun _ hm => hm.1) rfl) rfl ?_
              refine wa_take_on 15 rfl rfl rfl (by kernel_rfl) (by kernel_rfl) (by kernel_rfl) (listed' := #[true, true, true, true, true, true, true, true, true, true, true, true, true, true, true, true, false, false, false, false, false, false, false, false, false]) rfl (fun _ _ _ h => h) (fun _ hm => ⟨hm.blkI 0 rfl, hm.fact 0 rfl, trivial⟩) (ov_move rfl) rfl ?_
              refine wa_take_on 16 rfl rfl rfl (by kernel_rfl) (by kernel_rfl) (by kernel_rfl) (listed' := #[true, true, true, true, true, true, true, true, true, true, true, true, true, true, true, true, true, false, false, false, false, false, false, false, false]) rfl (fun _ _ _ h => h) (fun _ hm => ⟨hm.blkI 0 rfl, hm.fact 0 rfl, trivial⟩) (ov_move rfl) rfl ?_
              refine wa_take_on 17 rfl rfl rfl (by kernel_rfl) (by kernel_rfl) (by kernel_rfl) (listed' := #[true, true, true, true, true, true, true, true, true, true, true, true, true, true, true, true, true, true, false, false, false, false, false, false, false]) rfl (fun _ _ _ h => h) (fun _ hm => ⟨hm.blkI 0 rfl, hm.fact 0 rfl, trivial⟩) (ov_sub rfl rfl (by omega) (by omega)) rfl ?_
              refine wa_set 44 (v' := .int .i64 ((k - 1 : Nat) : Int)) rfl (congrArg (Value.int .i64) (by omega)) ?_
              refine wa_take_on 18 rfl rfl rfl (by kernel_rfl) (by kernel_rfl) (by kernel_rfl) (listed' := #[true, true, true, true, true, true, true, true, true, true, true, true, true, true, true, true, true, true, true, false, false, false, false, false, false]) rfl (fun _ _ _ h => h) (fun _ hm => ⟨hm.blkI 0 rfl, hm.fact 0 rfl, trivial⟩) (ov_index (j := k - 1) es43 rfl rfl (by omega)) rfl ?_
              refine wa_take_on 19 rfl rfl rfl (by kernel_rfl) (by kernel_rfl) (by kernel_rfl) (listed' := #[true, true, true, true, true, true, true, true, true, true, true, true, true, true, true, true, true, true, true, true, false, false, false, false, false]) rfl (fun _ _ _ h => h) (fun _ hm => ⟨hm.blkI 0 rfl, hm.fact 0 rfl, trivial⟩) (ov_field fo141_1 rfl rfl) rfl ?_
              refine wa_take_on 20 rfl rfl rfl (by kernel_rfl) (by kernel_rfl) (by kernel_rfl) (listed' := #[true, true, true, true, true, true, true, true, true, true, true, true, true, true, true, true, true, true, true, true, true, false, false, false, false]) rfl (fun _ _ _ h => h) (fun _ hm => ⟨hm.blkI 0 rfl, hm.fact 0 rfl, trivial⟩) (ov_elem1 (k := 1) sc3 rfl (fun _ hm => (hm.2.1).1) hy rfl rfl) rfl ?_
              refine wa_take_on 21 rfl rfl rfl (by kernel_rfl) (by kernel_rfl) (by kernel_rfl) (listed' := #[true, true, true, true, true, true, true, true, true, true, true, true, true, true, true, true, true, true, true, true, true, true, false, false, false]) rfl (fun _ _ _ h => h) (fun _ hm => ⟨hm.blkI 0 rfl, hm.fact 0 rfl, trivial⟩) (ov_lss rfl rfl) rfl ?_
              refine wa_take_on 22 rfl rfl rfl (by kernel_rfl) (by kernel_rfl) (by kernel_rfl) (listed' := #[true, true, true, true, true, true, true, true, true, true, true, true, true, true, true, true, true, true, true, true, true, true, true, false, false]) rfl (fun _ _ _ h => h) (fun _ hm => ⟨hm.blkI 0 rfl, hm.fact 0 rfl, trivial⟩) (ov_pick_f rfl rfl) rfl ?_
              refine wa_take 23 rfl (by kernel_rfl) (by kernel_rfl) (by kernel_rfl) (listed' := #[true, true, true, true, true, true, true, true, true, true, true, true, true, true, true, true, true, true, true, true, true, true, true, true, false]) rfl (fun _ _ _ h => h) (fun _ hm => ⟨hm.blkI 0 rfl, hm.fact 0 rfl, trivial⟩) (ov_pick_t rfl rfl) rfl ?_
              refine wa_take 24 rfl (by kernel_rfl) (by kernel_rfl) (by kernel_rfl) (listed' := #[true, true, true, true, true, true, true, true, true, true, true, true, true, true, true, true, true, true, true, true, true, true, true, true, true]) rfl (fun _ _ _ h => h) (fun _ hm => ⟨hm.blkI 0 rfl, hm.fact 0 rfl, trivial⟩) (ov_assign rfl) rfl ?_
              refine wa_done (by kernel_rfl) ?_
              refine nx_then ?_
              refine gw_cond rfl (fun hh => ?_) (fun hh => ?_)
              · have h5 : ml < pm := by simpa using hh
                clear hh
                refine gw_seq ?_
                refine gw_region ?_
                have hE : tierE (prevOf l k) ⟨hr, ml⟩ = 7 := by unfold tierE; rw [hpv]; simp at h4; simp [h2, h3, h5]
                refine wl_ov (ov_assign rfl) rfl ?_
                refine wl_nil ?_
                refine nx_then ?_
                refine gw_ret ?_
                refine nx_blk_ret ?_
                refine nx_blk_ret ?_
                refine nx_then_ret ?_
                refine nx_then_ret ?_
                refine nx_blk_ret ?_
                refine nx_then_ret ?_
                refine nx_ret1 rfl rfl fun wx hm => ?_
                exact ⟨ret_int (by rw [hinv.2, hat, if_neg (by rw [hE]; decide), hE]), hm.g⟩
              · have h5 : ¬ (ml < pm) := by simpa using hh
                clear hh
                refine gw_skip ?_
                refine nx_blk_nrm ?_
                refine nx_blk_nrm ?_
                refine nx_then ?_
                refine gw_region ?_
                have hE : tierE (prevOf l k) ⟨hr, ml⟩ = 0 := by unfold tierE; rw [hpv]; simp at h4; simp [h2, h3]; omega
                refine wl_ov (ov_add rfl rfl (by omega) (by omega)) rfl ?_
                refine wl_ov (ov_move rfl) rfl ?_
                refine wl_nil ?_
                exact nx_round (k + 1) ⟨by omega, by rw [hinv.2, hat, if_pos hE]⟩ (by omega) ⟨rfl, rfl, rfl, (some_int (by omega)), trivial⟩ (fun _ hm => hm.pick [] [] [0] rfl rfl)
    · have hk : ¬ (((k : Nat) : Int) < ((n : Nat) : Int)) := by simpa using hh
      clear hh
      refine gw_exit ?_
      refine nx_then_exit ?_
      refine nx_then_exit ?_
      refine nx_blk_here ?_
      refine nx_then ?_
      refine gw_seq ?_
      refine gw_region ?_
      refine wl_ov (ov_assign rfl) rfl ?_
      refine wl_nil ?_
      refine nx_then ?_
      refine gw_ret ?_
      refine nx_ret1 rfl rfl fun wx hm => ?_
      exact ⟨ret_int (by rw [hinv.2, scanE_end _ _ _ _ (by omega)]), hm.g⟩

set_option maxRecDepth 100000 in
set_option maxHeartbeats 1000000 in
theorem tiersFault_any (l : List Tr) (A : Option Addr) (n c : Nat) (w : World) (hl : SlT trEnc 2 141 w A n l) (hn : n ≤ 1000000) :
    Calls Tryd.prog 25 #[.slice A n c] w (GotE w (tiersE l)) := by
  refine gw_enter ⟨50, w, none, []⟩ Tryd.func25 rfl Tryd.ntmps25 rfl (mem0 (X := [SlOld trEnc 2 141 w.heap.size none A n l]) (allF_cons hl.old allF_nil) (allL_cons SlOld.lasts allL_nil)) ?_
  refine gw_seq ?_
  refine gw_region ?_
  have hlen := hl.len
  refine wl_ov (ov_assign rfl) rfl ?_
  refine wl_nil ?_
  refine nx_then ?_
  refine gw_seq ?_
  refine gw_seq ?_
  refine gw_region ?_
  refine wl_ov (ov_move rfl) rfl ?_
  refine wl_ov (ov_len es43 rfl) rfl ?_
  refine wl_ov (ov_gtr rfl rfl) rfl ?_
  refine wl_nil ?_
  refine nx_then ?_
  refine gw_cond rfl (fun hh => ?_) (fun hh => ?_)
  · have h1 : 10 < ((n : Nat) : Int) := by simpa using hh
    clear hh
    refine gw_seq ?_
    refine gw_region ?_
    refine wl_ov (ov_assign rfl) rfl ?_
    refine wl_nil ?_
    refine nx_then ?_
    refine gw_ret ?_
    refine nx_then_ret ?_
    refine nx_ret1 rfl rfl fun wx hm => ?_
    exact ⟨ret_int (by unfold tiersE; rw [if_pos (by omega)]), hm.g⟩
  · have h1 : ¬ (10 < ((n : Nat) : Int)) := by simpa using hh
    clear hh
    refine gw_skip ?_
    refine nx_then ?_
    refine gw_seq ?_
    refine gw_seq ?_
    refine gw_region ?_
    refine wl_ov (ov_move rfl) rfl ?_
    refine wl_ov (ov_len es43 rfl) rfl ?_
    refine wl_ov (ov_move rfl) rfl ?_
    refine wl_nil ?_
    refine nx_then ?_
    refine gw_block ?_
    refine gw_loop (γ := Nat) (fun (k : Nat) => k ≤ n ∧ tiersE l = scanE tierE (prevOf l k) (l.drop k)) (fun (k : Nat) => [(0, .slice A n c), (8, .slice A n c), (9, .int .i64 ((n : Nat) : Int)), (10, .int .i64 ((k : Nat) : Int))]) (fun (k : Nat) => fun _ => True) (fun (k : Nat) => []) (fun (k : Nat) => []) (fun (k : Nat) => [SlOld trEnc 2 141 w.heap.size none A n l]) (fun (k : Nat) => n - k) 0 ⟨Nat.zero_le _, by unfold tiersE; rw [if_neg (by omega)]; rfl⟩ ⟨rfl, rfl, rfl, rfl, trivial⟩ (fun _ hm => hm.pick [] [] [0] rfl rfl) ?_
    intro k hinv
    replace hinv : k ≤ n ∧ tiersE l = scanE tierE (prevOf l k) (l.drop k) := hinv
    refine gw_seq ?_
    refine gw_region ?_
    refine wl_ov (ov_lss rfl rfl) rfl ?_
    refine wl_nil ?_
    refine nx_then ?_
    refine gw_seq ?_
    refine gw_cond rfl (fun hh => ?_) (fun hh => ?_)
    · have hk : ((k : Nat) : Int) < ((n : Nat) : Int) := by simpa using hh
      clear hh
      refine gw_skip ?_
      refine nx_then ?_
      refine gw_seq ?_
      refine gw_block ?_
      refine gw_seq ?_
      refine gw_region ?_
      obtain ⟨b, off, hA, _, _⟩ := hl.get (by omega)
      subst hA
      obtain ⟨x, hx⟩ : ∃ x, l[k]? = some x := ⟨_, List.getElem?_eq_getElem (by omega)⟩
      obtain ⟨hr, ml⟩ := x
      have hat := scanE_at tierE l k _ hx
      refine wl_ov (ov_move rfl) rfl ?_
      refine wl_ov (ov_index (j := k) es43 rfl rfl (by omega)) rfl ?_
      refine wl_ov (ov_elem rz141 rfl (fun _ hm => (hm.fact 0 rfl).1) hx rfl rfl) rfl ?_
      refine wl_alloc zc141 rfl fun g1 => ?_
      refine wl_ov (ov_assign rfl) rfl ?_
      refine wl_stores (cs' := [.int .i64 hr, .int .i64 ml]) 0 rz141 rfl rfl rfl rfl rfl rfl rfl rfl ?_
      refine wl_nil ?_
      refine nx_then ?_
      refine gw_seq ?_
      refine gw_seq ?_
      refine gw_region ?_
      refine wl_ov (ov_field fo141_0 rfl rfl) rfl ?_
      refine wl_ov (ov_load sc3 rfl (fun _ hm => hm.blkI 0 rfl) rfl) rfl ?_
      refine wl_callw rfl cb101 rfl rfl (fun wx hm => (rin_any _ _ _ wx)) ?_
      refine wl_ov (ov_un_not rfl) rfl ?_
      refine wl_ov (ov_move rfl) rfl ?_
      rcases Bool.eq_false_or_eq_true (!(inB hr 1 5761440)) with h2 | h2
      · refine wl_set 19 rfl (congrArg Value.bool h2) ?_
        refine wl_guard_off rfl rfl rfl (by decide) rfl ?_
        refine wl_guard_off rfl rfl rfl (by decide) rfl ?_
        refine wl_guard_off rfl rfl rfl (by decide) rfl ?_
        refine wl_guard_off rfl rfl rfl (by decide) rfl ?_
        refine wl_ov (ov_pick_t rfl rfl) rfl ?_
        refine wl_nil ?_
        refine nx_then ?_
        refine gw_cond rfl (fun _ => ?_) (fun hh => by cases hh)
        refine gw_seq ?_
        refine gw_region ?_
        refine wl_ov (ov_assign rfl) rfl ?_
        refine wl_nil ?_
        refine nx_then ?_
        refine gw_ret ?_
        refine nx_then_ret ?_
        refine nx_blk_ret ?_
        refine nx_then_ret ?_
        refine nx_then_ret ?_
        refine nx_blk_ret ?_
        refine nx_then_ret ?_
        have hE : tierE (prevOf l k) ⟨hr, ml⟩ = 1 := by unfold tierE; simp [h2]
        refine nx_ret1 rfl rfl fun wx hm => ?_
        exact ⟨ret_int (by rw [hinv.2, hat, if_neg (by rw [hE]; decide), hE]), hm.g⟩
      · refine wl_set 19 rfl (congrArg Value.bool h2) ?_
        refine wl_guard_on rfl rfl rfl ?_
        refine wl_ov (ov_field fo141_1 rfl rfl) rfl ?_
        refine wl_guard_on rfl rfl rfl ?_
        refine wl_ov (ov_load sc3 rfl (fun _ hm => hm.blkI 0 rfl) rfl) rfl ?_
        refine wl_guard_on rfl rfl rfl ?_
        refine wl_callw rfl cb101 rfl rfl (fun wx hm => (rin_any _ _ _ wx)) ?_
        refine wl_guard_on rfl rfl rfl ?_
        refine wl_ov (ov_un_not rfl) rfl ?_
        refine wl_ov (ov_pick_f rfl rfl) rfl ?_
        refine wl_nil ?_
        refine nx_then ?_
        refine gw_cond rfl (fun hh => ?_) (fun hh => ?_)
        · have h3 : (inB ml 0 1000) = false := by simpa using hh
          clear hh
          refine gw_seq ?_
          refine gw_region ?_
          have hE : tierE (prevOf l k) ⟨hr, ml⟩ = 1 := by unfold tierE; simp [h2, h3]
          refine wl_ov (ov_assign rfl) rfl ?_
          refine wl_nil ?_
          refine nx_then ?_
          refine gw_ret ?_
          refine nx_then_ret ?_
          refine nx_blk_ret ?_
          refine nx_then_ret ?_
          refine nx_then_ret ?_
          refine nx_blk_ret ?_
          refine nx_then_ret ?_
          refine nx_ret1 rfl rfl fun wx hm => ?_
          exact ⟨ret_int (by rw [hinv.2, hat, if_neg (by rw [hE]; decide), hE]), hm.g⟩
        · have h3 : (inB ml 0 1000) = true := by simpa using hh
          clear hh
          refine gw_skip ?_
          refine nx_then ?_
          refine gw_seq ?_
          by_cases hk0 : k = 0
          · have hE : tierE (prevOf l k) ⟨hr, ml⟩ = 0 := by unfold tierE; rw [prevOf_zero hk0]; simp [h2, h3]
            refine gw_draw (fun wz => Blk wz g1 141 [.int .i64 hr, .int .i64 ml] ∧ (SlOld trEnc 2 141 w.heap.size none (some ⟨b, off, none⟩) n l) wz ∧ True) mixed ?_
            refine wa_take 0 rfl (by kernel_rfl) (by kernel_rfl) (by kernel_rfl) (listed' := #[true, false, false, false, false, false, false, false, false, false, false, false, false, false, false, false, false, false, false, false, false, false, false, false]) rfl (fun _ _ _ h => h) (fun _ hm => ⟨hm.blkI 0 rfl, hm.fact 0 rfl, trivial⟩) (ov_move rfl) rfl ?_
            refine wa_take 1 rfl (by kernel_rfl) (by kernel_rfl) (by kernel_rfl) (listed' := #[true, true, false, false, false, false, false, false, false, false, false, false, false, false, false, false, false, false, false, false, false, false, false, false]) rfl (fun _ _ _ h => h) (fun _ hm => ⟨hm.blkI 0 rfl, hm.fact 0 rfl, trivial⟩) (ov_gtr rfl rfl) rfl ?_
            refine wa_set 26 (v' := .bool false) rfl (congrArg Value.bool (decide_eq_false (by omega))) ?_
            refine wa_take 2 rfl (by kernel_rfl) (by kernel_rfl) (by kernel_rfl) (listed' := #[true, true, true, false, false, false, false, false, false, false, false, false, false, false, false, false, false, false, false, false, false, false, false, false]) rfl (fun _ _ _ h => h) (fun _ hm => ⟨hm.blkI 0 rfl, hm.fact 0 rfl, trivial⟩) (ov_move rfl) rfl ?_
            refine wa_take_off 3 rfl rfl rfl (by decide) (by kernel_rfl) (by kernel_rfl) (by kernel_rfl) (listed' := #[true, true, true, true, false, false, false, false, false, false, false, false, false, false, false, false, false, false, false, false, false, false, false, false]) rfl (fun _ _ _ h => h) (fun _ hm => ⟨hm.blkI 0 rfl, hm.fact 0 rfl, trivial⟩) rfl ?_
            refine wa_take_off 4 rfl rfl rfl (by decide) (by kernel_rfl) (by kernel_rfl) (by kernel_rfl) (listed' := #[true, true, true, true, true, false, false, false, false, false, false, false, false, false, false, false, false, false, false, false, false, false, false, false]) rfl (fun _ _ _ h => h) (fun _ hm => ⟨hm.blkI 0 rfl, hm.fact 0 rfl, trivial⟩) rfl ?_
            refine wa_take_off 5 rfl rfl rfl (by decide) (by kernel_rfl) (by kernel_rfl) (by kernel_rfl) (listed' := #[true, true, true, true, true, true, false, false, false, false, false, false, false, false, false, false, false, false, false, false, false, false, false, false]) rfl (fun _ _ _ h => h) (fun _ hm => ⟨hm.blkI 0 rfl, hm.fact 0 rfl, trivial⟩) rfl ?_
            refine wa_take_off 6 rfl rfl rfl (by decide) (by kernel_rfl) (by kernel_rfl) (by kernel_rfl) (listed' := #[true, true, true, true, true, true, true, false, false, false, false, false, false, false, false, false, false, false, false, false, false, false, false, false]) rfl (fun _ _ _ h => h) (fun _ hm => ⟨hm.blkI 0 rfl, hm.fact 0 rfl, trivial⟩) rfl ?_
            refine wa_take_off 7 rfl rfl rfl (by decide) (by kernel_rfl) (by kernel_rfl) (by kernel_rfl) (listed' := #[true, true, true, true, true, true, true, true, false, false, false, false, false, false, false, false, false, false, false, false, false, false, false, false]) rfl (fun _ _ _ h => h) (fun _ hm => ⟨hm.blkI 0 rfl, hm.fact 0 rfl, trivial⟩) rfl ?_
            refine wa_take_off 8 rfl rfl rfl (by decide) (by kernel_rfl) (by kernel_rfl) (by kernel_rfl) (listed' := #[true, true, true, true, true, true, true, true, true, false, false, false, false, false, false, false, false, false, false, false, false, false, false, false]) rfl (fun _ _ _ h => h) (fun _ hm => ⟨hm.blkI 0 rfl, hm.fact 0 rfl, trivial⟩) rfl ?_
            refine wa_take_off 9 rfl rfl rfl (by decide) (by kernel_rfl) (by kernel_rfl) (by kernel_rfl) (listed' := #[true, true, true, true, true, true, true, true, true, true, false, false, false, false, false, false, false, false, false, false, false, false, false, false]) rfl (fun _ _ _ h => h) (fun _ hm => ⟨hm.blkI 0 rfl, hm.fact 0 rfl, trivial⟩) rfl ?_
            refine wa_take_off 10 rfl rfl rfl (by decide) (by kernel_rfl) (by kernel_rfl) (by kernel_rfl) (listed' := #[true, true, true, true, true, true, true, true, true, true, true, false, false, false, false, false, false, false, false, false, false, false, false, false]) rfl (fun _ _ _ h => h) (fun _ hm => ⟨hm.blkI 0 rfl, hm.fact 0 rfl, trivial⟩) rfl ?_
            refine wa_take_off 11 rfl rfl rfl (by decide) (by kernel_rfl) (by kernel_rfl) (by kernel_rfl) (listed' := #[true, true, true, true, true, true, true, true, true, true, true, true, false, false, false, false, false, false, false, false, false, false, false, false]) rfl (fun _ _ _ h => h) (fun _ hm => ⟨hm.blkI 0 rfl, hm.fact 0 rfl, trivial⟩) rfl ?_
            refine wa_take_off 12 rfl rfl rfl (by decide) (by kernel_rfl) (by kernel_rfl) (by kernel_rfl) (listed' := #[true, true, true, true, true, true, true, true, true, true, true, true, true, false, false, false, false, false, false, false, false, false, false, false]) rfl (fun _ _ _ h => h) (fun _ hm => ⟨hm.blkI 0 rfl, hm.fact 0 rfl, trivial⟩) rfl ?_
            refine wa_take_undef 13 rfl rfl rfl (by kernel_rfl) (by kernel_rfl) (by kernel_rfl) (listed' := #[true, true, true, true, true, true, true, true, true, true, true, true, true, true, false, false, false, false, false, false, false, false, false, false]) rfl (fun _ _ _ h => h) (fun _ hm => ⟨hm.blkI 0 rfl, hm.fact 0 rfl, trivial⟩) rfl ?_
            refine wa_take_undef 14 rfl rfl rfl (by kernel_rfl) (by kernel_rfl) (by kernel_rfl) (listed' := #[true, true, true, true, true, true, true, true, true, true, true, true, true, true, true, false, false, false, false, false, false, false, false, false]) rfl (fun _ _ _ h => h) (fun _ hm => ⟨hm.blkI 0 rfl, hm.fact 0 rfl, trivial⟩) rfl ?_
            refine wa_take_undef 15 rfl rfl rfl (by kernel_rfl) (by kernel_rfl) (by kernel_rfl) (listed' := #[true, true, true, true, true, true, true, true, true, true, true, true, true, true, true, true, false, false, false, false, false, false, false, false]) rfl (fun _ _ _ h => h) (fun _ hm => ⟨hm.blkI 0 rfl, hm.fact 0 rfl, trivial⟩) rfl ?_
            refine wa_take_undef 16 rfl rfl rfl (by kernel_rfl) (by kernel_rfl) (by kernel_rfl) (listed' := #[true, true, true, true, true, true, true, true, true, true, true, true, true, true, true, true, true, false, false, false, false, false, false, false]) rfl (fun _ _ _ h => h) (fun _ hm => ⟨hm.blkI 0 rfl, hm.fact 0 rfl, trivial⟩) rfl ?_
            refine wa_take_undef 17 rfl rfl rfl (by kernel_rfl) (by kernel_rfl) (by kernel_rfl) (listed' := #[true, true, true, true, true, true, true, true, true, true, true, true, true, true, true, true, true, true, false, false, false, false, false, false]) rfl (fun _ _ _ h => h) (fun _ hm => ⟨hm.blkI 0 rfl, hm.fact 0 rfl, trivial⟩) rfl ?_
            refine wa_take_undef 18 rfl rfl rfl (by kernel_rfl) (by kernel_rfl) (by kernel_rfl) (listed' := #[true, true, true, true, true, true, true, true, true, true, true, true, true, true, true, true, true, true, true, false, false, false, false, false]) rfl (fun _ _ _ h => h) (fun _ hm => ⟨hm.blkI 0 rfl, hm.fact 0 rfl, trivial⟩) rfl ?_
            refine wa_take_undef 19 rfl rfl rfl (by kernel_rfl) (by kernel_rfl) (by kernel_rfl) (listed' := #[true, true, true, true, true, true, true, true, true, true, true, true, true, true, true, true, true, true, true, true, false, false, false, false]) rfl (fun _ _ _ h => h) (fun _ hm => ⟨hm.blkI 0 rfl, hm.fact 0 rfl, trivial⟩) rfl ?_
            refine wa_take_undef 20 rfl rfl rfl (by kernel_rfl) (by kernel_rfl) (by kernel_rfl) (listed' := #[true, true, true, true, true, true, true, true, true, true, true, true, true, true, true, true, true, true, true, true, true, false, false, false]) rfl (fun _ _ _ h => h) (fun _ hm => ⟨hm.blkI 0 rfl, hm.fact 0 rfl, trivial⟩) rfl ?_
            refine wa_take_undef 21 rfl rfl rfl (by kernel_rfl) (by kernel_rfl) (by kernel_rfl) (listed' := #[true, true, true, true, true, true, true, true, true, true, true, true, true, true, true, true, true, true, true, true, true, true, false, false]) rfl (fun _ _ _ h => h) (fun _ hm => ⟨hm.blkI 0 rfl, hm.fact 0 rfl, trivial⟩) rfl ?_
            refine wa_take_off 22 rfl rfl rfl (by decide) (by kernel_rfl) (by kernel_rfl) (by kernel_rfl) (listed' := #[true, true, true, true, true, true, true, true, true, true, true, true, true, true, true, true, true, true, true, true, true, true, true, false]) rfl (fun _ _ _ h => h) (fun _ hm => ⟨hm.blkI 0 rfl, hm.fact 0 rfl, trivial⟩) rfl ?_
            refine wa_take 23 rfl (by kernel_rfl) (by kernel_rfl) (by kernel_rfl) (listed' := #[true, true, true, true, true, true, true, true, true, true, true, true, true, true, true, true, true, true, true, true, true, true, true, true]) rfl (fun _ _ _ h => h) (fun _ hm => ⟨hm.blkI 0 rfl, hm.fact 0 rfl, trivial⟩) (ov_pick_f rfl rfl) rfl ?_
            refine wa_done (by kernel_rfl) ?_
            refine nx_then ?_
            refine gw_cond rfl (fun hh => by cases hh) (fun _ => ?_)
            refine gw_skip ?_
            refine nx_blk_nrm ?_
            refine nx_then ?_
            refine gw_region ?_
            refine wl_ov (ov_add rfl rfl (by omega) (by omega)) rfl ?_
            refine wl_ov (ov_move rfl) rfl ?_
            refine wl_nil ?_
            exact nx_round (k + 1) ⟨by omega, by rw [hinv.2, hat, if_pos hE]⟩ (by omega) ⟨rfl, rfl, rfl, (some_int (by omega)), trivial⟩ (fun _ hm => hm.pick [] [] [0] rfl rfl)
          · obtain ⟨y, hy⟩ : ∃ x, l[k - 1]? = some x := ⟨_, List.getElem?_eq_getElem (by omega)⟩
            obtain ⟨ph, pm⟩ := y
            have hpv := prevOf_pos hk0 hy
            refine gw_draw (fun wz => Blk wz g1 141 [.int .i64 hr, .int .i64 ml] ∧ (SlOld trEnc 2 141 w.heap.size none (some ⟨b, off, none⟩) n l) wz ∧ True) mixed ?_
            refine wa_take 0 rfl (by kernel_rfl) (by kernel_rfl) (by kernel_rfl) (listed' := #[true, false, false, false, false, false, false, false, false, false, false, false, false, false, false, false, false, false, false, false, false, false, false, false]) rfl (fun _ _ _ h => h) (fun _ hm => ⟨hm.blkI 0 rfl, hm.fact 0 rfl, trivial⟩) (ov_move rfl) rfl ?_
            refine wa_take 1 rfl (by kernel_rfl) (by kernel_rfl) (by kernel_rfl) (listed' := #[true, true, false, false, false, false, false, false, false, false, false, false, false, false, false, false, false, false, false, false, false, false, false, false]) rfl (fun _ _ _ h => h) (fun _ hm => ⟨hm.blkI 0 rfl, hm.fact 0 rfl, trivial⟩) (ov_gtr rfl rfl) rfl ?_
            refine wa_set 26 (v' := .bool true) rfl (congrArg Value.bool (decide_eq_true (by omega))) ?_
            refine wa_take 2 rfl (by kernel_rfl) (by kernel_rfl) (by kernel_rfl) (listed' := #[true, true, true, false, false, false, false, false, false, false, false, false, false, false, false, false, false, false, false, false, false, false, false, false]) rfl (fun _ _ _ h => h) (fun _ hm => ⟨hm.blkI 0 rfl, hm.fact 0 rfl, trivial⟩) (ov_move rfl) rfl ?_
            refine wa_take_on 3 rfl rfl rfl (by kernel_rfl) (by kernel_rfl) (by kernel_rfl) (listed' := #[true, true, true, true, false, false, false, false, false, false, false, false, false, false, false, false, false, false, false, false, false, false, false, false]) rfl (fun _ _ _ h => h) (fun _ hm => ⟨hm.blkI 0 rfl, hm.fact 0 rfl, trivial⟩) (ov_field fo141_0 rfl rfl) rfl ?_
            refine wa_take_on 4 rfl rfl rfl (by kernel_rfl) (by kernel_rfl) (by kernel_rfl) (listed' := #[true, true, true, true, true, false, false, false, false, false, false, false, false, false, false, false, false, false, false, false, false, false, false, false]) rfl (fun _ _ _ h => h) (fun _ hm => ⟨hm.blkI 0 rfl, hm.fact 0 rfl, trivial⟩) (ov_load sc3 rfl (fun _ hm => hm.1) rfl) rfl ?_
            refine wa_take_on 5 rfl rfl rfl (by kernel_rfl) (by kernel_rfl) (by kernel_rfl) (listed' := #[true, true, true, true, true, true, false, false, false, false, false, false, false, false, false, false, false, false, false, false, false, false, false, false]) rfl (fun _ _ _ h => h) (fun _ hm => ⟨hm.blkI 0 rfl, hm.fact 0 rfl, trivial⟩) (ov_move rfl) rfl ?_
            refine wa_take_on 6 rfl rfl rfl (by kernel_rfl) (by kernel_rfl) (by kernel_rfl) (listed' := #[true, true, true, true, true, true, true, false, false, false, false, false, false, false, false, false, false, false, false, false, false, false, false, false]) rfl (fun _ _ _ h => h) (fun _ hm => ⟨hm.blkI 0 rfl, hm.fact 0 rfl, trivial⟩) (ov_move rfl) rfl ?_
            refine wa_take_on 7 rfl rfl rfl (by kernel_rfl) (by kernel_rfl) (by kernel_rfl) (listed' := #[true, true, true, true, true, true, true, true, false, false, false, false, false, false, false, false, false, false, false, false, false, false, false, false]) rfl (fun _ _ _ h => h) (fun _ hm => ⟨hm.blkI 0 rfl, hm.fact 0 rfl, trivial⟩) (ov_sub rfl rfl (by omega) (by omega)) rfl ?_
            refine wa_set 32 (v' := .int .i64 ((k - 1 : Nat) : Int)) rfl (congrArg (Value.int .i64) (by omega)) ?_
            refine wa_take_on 8 rfl rfl rfl (by kernel_rfl) (by kernel_rfl) (by kernel_rfl) (listed' := #[true, true, true, true, true, true, true, true, true, false, false, false, false, false, false, false, false, false, false, false, false, false, false, false]) rfl (fun _ _ _ h => h) (fun _ hm => ⟨hm.blkI 0 rfl, hm.fact 0 rfl, trivial⟩) (ov_index (j := k - 1) es43 rfl rfl (by omega)) rfl ?_
            refine wa_take_on 9 rfl rfl rfl (by kernel_rfl) (by kernel_rfl) (by kernel_rfl) (listed' := #[true, true, true, true, true, true, true, true, true, true, false, false, false, false, false, false, false, false, false, false, false, false, false, false]) rfl (fun _ _ _ h => h) (fun _ hm => ⟨hm.blkI 0 rfl, hm.fact 0 rfl, trivial⟩) (ov_field fo141_0 rfl rfl) rfl ?_
            refine wa_take_on 10 rfl rfl rfl (by kernel_rfl) (by kernel_rfl) (by kernel_rfl) (listed' := #[true, true, true, true, true, true, true, true, true, true, true, false, false, false, false, false, false, false, false, false, false, false, false, false]) rfl (fun _ _ _ h => h) (fun _ hm => ⟨hm.blkI 0 rfl, hm.fact 0 rfl, trivial⟩) (ov_elem1 (k := 0) sc3 rfl (fun _ hm => (hm.2.1).1) hy rfl rfl) rfl ?_
            refine wa_take_on 11 rfl rfl rfl (by kernel_rfl) (by kernel_rfl) (by kernel_rfl) (listed' := #[true, true, true, true, true, true, true, true, true, true, true, true, false, false, false, false, false, false, false, false, false, false, false, false]) rfl (fun _ _ _ h => h) (fun _ hm => ⟨hm.blkI 0 rfl, hm.fact 0 rfl, trivial⟩) (ov_geq rfl rfl) rfl ?_
            refine wa_take_on 12 rfl rfl rfl (by kernel_rfl) (by kernel_rfl) (by kernel_rfl) (listed' := #[true, true, true, true, true, true, true, true, true, true, true, true, true, false, false, false, false, false, false, false, false, false, false, false]) rfl (fun _ _ _ h => h) (fun _ hm => ⟨hm.blkI 0 rfl, hm.fact 0 rfl, trivial⟩) (ov_move rfl) rfl ?_
            rcases Bool.eq_false_or_eq_true (decide (ph ≤ hr)) with h4 | h4
            · refine wa_set 37 rfl (congrArg Value.bool h4) ?_
              have hE : tierE (prevOf l k) ⟨hr, ml⟩ = 7 := by unfold tierE; rw [hpv]; simp at h4; simp [h2, h3, h4]
              refine wa_take_off 13 rfl rfl rfl (by decide) (by kernel_rfl) (by kernel_rfl) (by kernel_rfl) (listed' := #[true, true, true, true, true, true, true, true, true, true, true, true, true, true, false, false, false, false, false, false, false, false, false, false]) rfl (fun _ _ _ h => h) (fun _ hm => ⟨hm.blkI 0 rfl, hm.fact 0 rfl, trivial⟩) rfl ?_
              refine wa_take_off 14 rfl rfl rfl (by decide) (by kernel_rfl) (by kernel_rfl) (by kernel_rfl) (listed' := #[true, true, true, true, true, true, true, true, true, true, true, true, true, true, true, false, false, false, false, false, false, false, false, false]) rfl (fun _ _ _ h => h) (fun _ hm => ⟨hm.blkI 0 rfl, hm.fact 0 rfl, trivial⟩) rfl ?_
              refine wa_take_off 15 rfl rfl rfl (by decide) (by kernel_rfl) (by kernel_rfl) (by kernel_rfl) (listed' := #[true, true, true, true, true, true, true, true, true, true, true, true, true, true, true, true, false, false, false, false, false, false, false, false]) rfl (fun _ _ _ h => h) (fun _ hm => ⟨hm.blkI 0 rfl, hm.fact 0 rfl, trivial⟩) rfl ?_
              refine wa_take_off 16 rfl rfl rfl (by decide) (by kernel_rfl) (by kernel_rfl) (by kernel_rfl) (listed' := #[true, true, true, true, true, true, true, true, true, true, true, true, true, true, true, true, true, false, false, false, false, false, false, false]) rfl (fun _ _ _ h => h) (fun _ hm => ⟨hm.blkI 0 rfl, hm.fact 0 rfl, trivial⟩) rfl ?_
              refine wa_take_off 17 rfl rfl rfl (by decide) (by kernel_rfl) (by kernel_rfl) (by kernel_rfl) (listed' := #[true, true, true, true, true, true, true, true, true, true, true, true, true, true, true, true, true, true, false, false, false, false, false, false]) rfl (fun _ _ _ h => h) (fun _ hm => ⟨hm.blkI 0 rfl, hm.fact 0 rfl, trivial⟩) rfl ?_
              refine wa_take_off 18 rfl rfl rfl (by decide) (by kernel_rfl) (by kernel_rfl) (by kernel_rfl) (listed' := #[true, true, true, true, true, true, true, true, true, true, true, true, true, true, true, true, true, true, true, false, false, false, false, false]) rfl (fun _ _ _ h => h) (fun _ hm => ⟨hm.blkI 0 rfl, hm.fact 0 rfl, trivial⟩) rfl ?_
              refine wa_take_off 19 rfl rfl rfl (by decide) (by kernel_rfl) (by kernel_rfl) (by kernel_rfl) (listed' := #[true, true, true, true, true, true, true, true, true, true, true, true, true, true, true, true, true, true, true, true, false, false, false, false]) rfl (fun _ _ _ h => h) (fun _ hm => ⟨hm.blkI 0 rfl, hm.fact 0 rfl, trivial⟩) rfl ?_
              refine wa_take_off 20 rfl rfl rfl (by decide) (by kernel_rfl) (by kernel_rfl) (by kernel_rfl) (listed' := #[true, true, true, true, true, true, true, true, true, true, true, true, true, true, true, true, true, true, true, true, true, false, false, false]) rfl (fun _ _ _ h => h) (fun _ hm => ⟨hm.blkI 0 rfl, hm.fact 0 rfl, trivial⟩) rfl ?_
              refine wa_take_off 21 rfl rfl rfl (by decide) (by kernel_rfl) (by kernel_rfl) (by kernel_rfl) (listed' := #[true, true, true, true, true, true, true, true, true, true, true, true, true, true, true, true, true, true, true, true, true, true, false, false]) rfl (fun _ _ _ h => h) (fun _ hm => ⟨hm.blkI 0 rfl, hm.fact 0 rfl, trivial⟩) rfl ?_
              refine wa_take_on 22 rfl rfl rfl (by kernel_rfl) (by kernel_rfl) (by kernel_rfl) (listed' := #[true, true, true, true, true, true, true, true, true, true, true, true, true, true, true, true, true, true, true, true, true, true, true, false]) rfl (fun _ _ _ h => h) (fun _ hm => ⟨hm.blkI 0 rfl, hm.fact 0 rfl, trivial⟩) (ov_pick_t rfl rfl) rfl ?_
              refine wa_take 23 rfl (by kernel_rfl) (by kernel_rfl) (by kernel_rfl) (listed' := #[true, true, true, true, true, true, true, true, true, true, true, true, true, true, true, true, true, true, true, true, true, true, true, true]) rfl (fun _ _ _ h => h) (fun _ hm => ⟨hm.blkI 0 rfl, hm.fact 0 rfl, trivial⟩) (ov_pick_t rfl rfl) rfl ?_
              refine wa_done (by kernel_rfl) ?_
              refine nx_then ?_
              refine gw_cond rfl (fun _ => ?_) (fun hh => by cases hh)
              refine gw_seq ?_
              refine gw_region ?_
              refine wl_ov (ov_assign rfl) rfl ?_
              refine wl_nil ?_
              refine nx_then ?_
              refine gw_ret ?_
              refine nx_blk_ret ?_
              refine nx_then_ret ?_
              refine nx_then_ret ?_
              refine nx_blk_ret ?_
              refine nx_then_ret ?_
              refine nx_ret1 rfl rfl fun wx hm => ?_
              exact ⟨ret_int (by rw [hinv.2, hat, if_neg (by rw [hE]; decide), hE]), hm.g⟩
            · refine wa_set 37 rfl (congrArg Value.bool h4) ?_
              refine wa_take_on 13 rfl rfl rfl (by kernel_rfl) (by kernel_rfl) (by kernel_rfl) (listed' := #[true, true, true, true, true, true, true, true, true, true, true, true, true, true, false, false, false, false, false, false, false, false, false, false]) rfl (fun _ _ _ h => h) (fun _ hm => ⟨hm.blkI 0 rfl, hm.fact 0 rfl, trivial⟩) (ov_field fo141_1 rfl rfl) rfl ?_
              refine wa_take_on 14 rfl rfl rfl (by kernel_rfl) (by kernel_rfl) (by kernel_rfl) (listed' := #[true, true, true, true, true, true, true, true, true, true, true, true, true, true, true, false, false, false, false, false, false, false, false, false]) rfl (fun _ _ _ h => h) (fun _ hm => ⟨hm.blkI 0 rfl, hm.fact 0 rfl, trivial⟩) (ov_load sc3 rfl (fun _ hm => hm.1) rfl) rfl ?_
              refine wa_take_on 15 rfl rfl rfl (by kernel_rfl) (by kernel_rfl) (by kernel_rfl) (listed' := #[true, true, true, true, true, true, true, true, true, true, true, true, true, true, true, true, false, false, false, false, false, false, false, false]) rfl (fun _ _ _ h => h) (fun _ hm => ⟨hm.blkI 0 rfl, hm.fact 0 rfl, trivial⟩) (ov_move rfl) rfl ?_
              refine wa_take_on 16 rfl rfl rfl (by kernel_rfl) (by kernel_rfl) (by kernel_rfl) (listed' := #[true, true, true, true, true, true, true, true, true, true, true, true, true, true, true, true, true, false, false, false, false, false, false, false]) rfl (fun _ _ _ h => h) (fun _ hm => ⟨hm.blkI 0 rfl, hm.fact 0 rfl, trivial⟩) (ov_move rfl) rfl ?_
              refine wa_take_on 17 rfl rfl rfl (by kernel_rfl) (by kernel_rfl) (by kernel_rfl) (listed' := #[true, true, true, true, true, true, true, true, true, true, true, true, true, true, true, true, true, true, false, false, false, false, false, false]) rfl (fun _ _ _ h => h) (fun _ hm => ⟨hm.blkI 0 rfl, hm.fact 0 rfl, trivial⟩) (ov_sub rfl rfl (by omega) (by omega)) rfl ?_
              refine wa_set 42 (v' := .int .i64 ((k - 1 : Nat) : Int)) rfl (congrArg (Value.int .i64) (by omega)) ?_
              refine wa_take_on 18 rfl rfl rfl (by kernel_rfl) (by kernel_rfl) (by kernel_rfl) (listed' := #[true, true, true, true, true, true, true, true, true, true, true, true, true, true, true, true, true, true, true, false, false, false, false, false]) rfl (fun _ _ _ h => h) (fun _ hm => ⟨hm.blkI 0 rfl, hm.fact 0 rfl, trivial⟩) (ov_index (j := k - 1) es43 rfl rfl (by omega)) rfl ?_
              refine wa_take_on 19 rfl rfl rfl (by kernel_rfl) (by kernel_rfl) (by kernel_rfl) (listed' := #[true, true, true, true, true, true, true, true, true, true, true, true, true, true, true, true, true, true, true, true, false, false, false, false]) rfl (fun _ _ _ h => h) (fun _ hm => ⟨hm.blkI 0 rfl, hm.fact 0 rfl, trivial⟩) (ov_field fo141_1 rfl rfl) rfl ?_
              refine wa_take_on 20 rfl rfl rfl (by kernel_rfl) (by kernel_rfl) (by kernel_rfl) (listed' := #[true, true, true, true, true, true, true, true, true, true, true, true, true, true, true, true, true, true, true, true, true, false, false, false]) rfl (fun _ _ _ h => h) (fun _ hm => ⟨hm.blkI 0 rfl, hm.fact 0 rfl, trivial⟩) (ov_elem1 (k := 1) sc3 rfl (fun _ hm => (hm.2.1).1) hy rfl rfl) rfl ?_
              refine wa_take_on 21 rfl rfl rfl (by kernel_rfl) (by kernel_rfl) (by kernel_rfl) (listed' := #[true, true, true, true, true, true, true, true, true, true, true, true, true, true, true, true, true, true, true, true, true, true, false, false]) rfl (fun _ _ _ h => h) (fun _ hm => ⟨hm.blkI 0 rfl, hm.fact 0 rfl, trivial⟩) (ov_lss rfl rfl) rfl ?_
              refine wa_take_on 22 rfl rfl rfl (by kernel_rfl) (by kernel_rfl) (by kernel_rfl) (listed' := #[true, true, true, true, true, true, true, true, true, true, true, true, true, true, true, true, true, true, true, true, true, true, true, false]) rfl (fun _ _ _ h => h) (fun _ hm => ⟨hm.blkI 0 rfl, hm.fact 0 rfl, trivial⟩) (ov_pick_f rfl rfl) rfl ?_
              refine wa_take 23 rfl (by kernel_rfl) (by kernel_rfl) (by kernel_rfl) (listed' := #[true, true, true, true, true, true, true, true, true, true, true, true, true, true, true, true, true, true, true, true, true, true, true, true]) rfl (fun _ _ _ h => h) (fun _ hm => ⟨hm.blkI 0 rfl, hm.fact 0 rfl, trivial⟩) (ov_pick_t rfl rfl) rfl ?_
              refine wa_done (by kernel_rfl) ?_
              refine nx_then ?_
              refine gw_cond rfl (fun hh => ?_) (fun hh => ?_)
              · have h5 : ml < pm := by simpa using hh
                clear hh
                refine gw_seq ?_
                refine gw_region ?_
                have hE : tierE (prevOf l k) ⟨hr, ml⟩ = 7 := by unfold tierE; rw [hpv]; simp at h4; simp [h2, h3, h5]
                refine wl_ov (ov_assign rfl) rfl ?_
                refine wl_nil ?_
                refine nx_then ?_
                refine gw_ret ?_
                refine nx_blk_ret ?_
                refine nx_then_ret ?_
                refine nx_then_ret ?_
                refine nx_blk_ret ?_
                refine nx_then_ret ?_
                refine nx_ret1 rfl rfl fun wx hm => ?_
                exact ⟨ret_int (by rw [hinv.2, hat, if_neg (by rw [hE]; decide), hE]), hm.g⟩
              · have h5 : ¬ (ml < pm) := by simpa using hh
                clear hh
                refine gw_skip ?_
                refine nx_blk_nrm ?_
                refine nx_then ?_
                refine gw_region ?_
                have hE : tierE (prevOf l k) ⟨hr, ml⟩ = 0 := by unfold tierE; rw [hpv]; simp at h4; simp [h2, h3]; omega
                refine wl_ov (ov_add rfl rfl (by omega) (by omega)) rfl ?_
                refine wl_ov (ov_move rfl) rfl ?_
                refine wl_nil ?_
                exact nx_round (k + 1) ⟨by omega, by rw [hinv.2, hat, if_pos hE]⟩ (by omega) ⟨rfl, rfl, rfl, (some_int (by omega)), trivial⟩ (fun _ hm => hm.pick [] [] [0] rfl rfl)
    · have hk : ¬ (((k : Nat) : Int) < ((n : Nat) : Int)) := by simpa using hh
      clear hh
      refine gw_exit ?_
      refine nx_then_exit ?_
      refine nx_then_exit ?_
      refine nx_blk_here ?_
      refine nx_then ?_
      refine gw_seq ?_
      refine gw_region ?_
      refine wl_ov (ov_assign rfl) rfl ?_
      refine wl_nil ?_
      refine nx_then ?_
      refine gw_ret ?_
      refine nx_ret1 rfl rfl fun wx hm => ?_
      exact ⟨ret_int (by rw [hinv.2, scanE_end _ _ _ _ (by omega)]), hm.g⟩

end Go.Proofs.YtljnekobfjpfaaaDoor
/- The form of bookings: formed, BookingForm. -/
namespace Go.Proofs.YtljnekobfjpfaaaDoor
open Go.RowKit

structure Bk where
  key : ByteArray
  cls : ByteArray
  fr : Int
  to_ : Int
  made : Int
  odds : Int
def bkEnc (b : Bk) : List Value := [.string b.key, .string b.cls, .int .i64 b.fr, .int .i64 b.to_, .int .i64 b.made, .int .i64 b.odds]
theorem bk_len (b : Bk) : (bkEnc b).length = 6 := rfl
def BkOk (b : Bk) : Prop := b.key.size ≤ 1000000 ∧ b.cls.size ≤ 1000000
def leO (p : Option Bk) (b : Bk) : Bool := match p with
  | none => false
  | some q => leB b.key q.key
def bookE (p : Option Bk) (b : Bk) : Int :=
  if !keyB b.key then 5 else if !keyB b.cls then 5 else if leO p b then 7 else
  if b.fr < 0 then 1 else if b.to_ ≤ b.fr then 1 else if 5761439 < b.to_ then 1 else if !inB b.made 0 b.fr then 1 else if !inB b.odds 0 100 then 1 else 0
def formE (l : List Bk) : Int := if 500 < l.length then 2 else scanE bookE none l
def prevK (l : List Bk) (k : Nat) : ByteArray := match prevOf l k with
  | none => ⟨#[]⟩
  | some q => q.key
theorem prevK_succ {l : List Bk} {k : Nat} {x : Bk} (h : l[k]? = some x) : prevK l (k + 1) = x.key := by
  unfold prevK prevOf; rw [if_neg (by omega), Nat.add_sub_cancel, h]
theorem key_low {a : ByteArray} (h : keyB a = true) : leB a ⟨#[]⟩ = false := by
  obtain ⟨⟨l⟩⟩ := a
  cases l with
  | nil => cases h
  | cons c r => unfold leB; rw [ByteArray.toList_eq, ByteArray.toList_eq]; rfl
theorem leO_prevK {l : List Bk} {k : Nat} {b : Bk} (h : keyB b.key = true) : leB b.key (prevK l k) = leO (prevOf l k) b := by
  unfold prevK leO
  cases prevOf l k with
  | none => exact key_low h
  | some q => rfl
theorem bookE_ok {p : Option Bk} {b : Bk} (h : bookE p b = 0) : 0 ≤ b.fr ∧ b.fr < b.to_ ∧ b.to_ ≤ 5761439 ∧ 0 ≤ b.made ∧ b.made ≤ b.fr ∧ 0 ≤ b.odds ∧ b.odds ≤ 100 := by
  unfold bookE at h
  repeat (split at h; · cases h)
  rename_i h1 h2 h3 h4 h5 h6 h7 h8
  simp [inB] at h7 h8
  omega
theorem formE_one {b : Bk} (h : formE [b] = 0) : 0 ≤ b.fr ∧ b.fr < b.to_ ∧ b.to_ ≤ 5761439 ∧ 0 ≤ b.made ∧ b.made ≤ b.fr ∧ 0 ≤ b.odds ∧ b.odds ≤ 100 := by
  unfold formE at h
  rw [if_neg (by simp)] at h
  obtain ⟨q, hq⟩ := scanE_all h b (List.mem_singleton.2 rfl)
  exact bookE_ok hq

set_option maxRecDepth 100000 in
set_option maxHeartbeats 1000000 in
theorem formed_any (l : List Bk) (A : Option Addr) (n c : Nat) (w : World) (hl : SlT bkEnc 6 46 w A n l) (hok : ∀ b ∈ l, BkOk b) (hn : n ≤ 1000000) :
    Calls Tryd.prog 97 #[.slice A n c] w (GotE w (formE l)) := by
  refine gw_enter ⟨75, w, none, []⟩ Tryd.func97 rfl Tryd.ntmps97 rfl (mem0 (X := [SlOld bkEnc 6 46 w.heap.size none A n l]) (allF_cons hl.old allF_nil) (allL_cons SlOld.lasts allL_nil)) ?_
  refine gw_seq ?_
  refine gw_region ?_
  have hlen := hl.len
  refine wl_ov (ov_assign rfl) rfl ?_
  refine wl_nil ?_
  refine nx_then ?_
  refine gw_seq ?_
  refine gw_seq ?_
  refine gw_region ?_
  refine wl_ov (ov_move rfl) rfl ?_
  refine wl_ov (ov_len es55 rfl) rfl ?_
  refine wl_ov (ov_gtr rfl rfl) rfl ?_
  refine wl_nil ?_
  refine nx_then ?_
  refine gw_cond rfl (fun hh => ?_) (fun hh => ?_)
  · have h1 : 500 < ((n : Nat) : Int) := by simpa using hh
    clear hh
    refine gw_seq ?_
    refine gw_region ?_
    refine wl_ov (ov_assign rfl) rfl ?_
    refine wl_nil ?_
    refine nx_then ?_
    refine gw_ret ?_
    refine nx_then_ret ?_
    refine nx_ret1 rfl rfl fun wx hm => ?_
    exact ⟨ret_int (by unfold formE; rw [if_pos (by omega)]), hm.g⟩
  · have h1 : ¬ (500 < ((n : Nat) : Int)) := by simpa using hh
    clear hh
    refine gw_skip ?_
    refine nx_then ?_
    refine gw_seq ?_
    refine gw_seq ?_
    refine gw_region ?_
    refine wl_ov (ov_move rfl) rfl ?_
    refine wl_ov (ov_len es55 rfl) rfl ?_
    refine wl_ov (ov_move rfl) rfl ?_
    refine wl_nil ?_
    refine nx_then ?_
    refine gw_block ?_
    refine gw_loop (γ := Nat) (fun (k : Nat) => k ≤ n ∧ formE l = scanE bookE (prevOf l k) (l.drop k)) (fun (k : Nat) => [(0, .slice A n c), (8, .slice A n c), (9, .int .i64 ((n : Nat) : Int)), (10, .int .i64 ((k : Nat) : Int))]) (fun (k : Nat) => fun _ => True) (fun (k : Nat) => []) (fun (k : Nat) => []) (fun (k : Nat) => [SlOld bkEnc 6 46 w.heap.size none A n l]) (fun (k : Nat) => n - k) 0 ⟨Nat.zero_le _, by unfold formE; rw [if_neg (by omega)]; rfl⟩ ⟨rfl, rfl, rfl, rfl, trivial⟩ (fun _ hm => hm.pick [] [] [0] rfl rfl) ?_
    intro k hinv
    replace hinv : k ≤ n ∧ formE l = scanE bookE (prevOf l k) (l.drop k) := hinv
    refine gw_seq ?_
    refine gw_region ?_
    refine wl_ov (ov_lss rfl rfl) rfl ?_
    refine wl_nil ?_
    refine nx_then ?_
    refine gw_seq ?_
    refine gw_cond rfl (fun hh => ?_) (fun hh => ?_)
    · have hk : ((k : Nat) : Int) < ((n : Nat) : Int) := by simpa using hh
      clear hh
      refine gw_skip ?_
      refine nx_then ?_
      refine gw_seq ?_
      refine gw_block ?_
      refine gw_seq ?_
      refine gw_region ?_
      obtain ⟨b, off, hA, _, _⟩ := hl.get (by omega)
      subst hA
      obtain ⟨x, hx⟩ : ∃ x, l[k]? = some x := ⟨_, List.getElem?_eq_getElem (by omega)⟩
      obtain ⟨ke, cl, fr, tt, ma, od⟩ := x
      have hat := scanE_at bookE l k _ hx
      obtain ⟨hk1, hk2⟩ := hok _ (List.mem_of_getElem? hx)
      have hk1 : ke.size ≤ 1000000 := hk1
      have hk2 : cl.size ≤ 1000000 := hk2
      refine wl_ov (ov_move rfl) rfl ?_
      refine wl_ov (ov_index (j := k) es55 rfl rfl (by omega)) rfl ?_
      refine wl_ov (ov_elem rz46 rfl (fun _ hm => (hm.fact 0 rfl).1) hx rfl rfl) rfl ?_
      refine wl_alloc zc46 rfl fun g1 => ?_
      refine wl_ov (ov_assign rfl) rfl ?_
      refine wl_stores (cs' := [.string ke, .string cl, .int .i64 fr, .int .i64 tt, .int .i64 ma, .int .i64 od]) 0 rz46 rfl rfl rfl rfl rfl rfl rfl rfl ?_
      refine wl_nil ?_
      refine nx_then ?_
      refine gw_block ?_
      refine gw_seq ?_
      refine gw_region ?_
      refine wl_ov (ov_field fo46_0 rfl rfl) rfl ?_
      refine wl_ov (ov_load sc9 rfl (fun _ hm => hm.blkI 0 rfl) rfl) rfl ?_
      refine wl_callw rfl cb115 rfl rfl (fun wx hm => (isKey_any _ wx (by omega))) ?_
      refine wl_ov (ov_un_not rfl) rfl ?_
      refine wl_ov (ov_move rfl) rfl ?_
      rcases Bool.eq_false_or_eq_true (!(keyB ke)) with h2 | h2
      · refine wl_set 20 rfl (congrArg Value.bool h2) ?_
        refine wl_guard_off rfl rfl rfl (by decide) rfl ?_
        refine wl_guard_off rfl rfl rfl (by decide) rfl ?_
        refine wl_guard_off rfl rfl rfl (by decide) rfl ?_
        refine wl_guard_off rfl rfl rfl (by decide) rfl ?_
        refine wl_ov (ov_pick_t rfl rfl) rfl ?_
        refine wl_ov (ov_assign rfl) rfl ?_
        refine wl_nil ?_
        refine nx_then ?_
        refine gw_cond rfl (fun _ => ?_) (fun hh => by cases hh)
        refine gw_seq ?_
        refine gw_region ?_
        refine wl_ov (ov_assign rfl) rfl ?_
        refine wl_nil ?_
        refine nx_then ?_
        refine gw_ret ?_
        refine nx_blk_ret ?_
        refine nx_blk_ret ?_
        refine nx_then_ret ?_
        refine nx_then_ret ?_
        refine nx_blk_ret ?_
        refine nx_then_ret ?_
        have hE : bookE (prevOf l k) ⟨ke, cl, fr, tt, ma, od⟩ = 5 := by unfold bookE; simp [h2]
        refine nx_ret1 rfl rfl fun wx hm => ?_
        exact ⟨ret_int (by rw [hinv.2, hat, if_neg (by rw [hE]; decide), hE]), hm.g⟩
      · refine wl_set 20 rfl (congrArg Value.bool h2) ?_
        refine wl_guard_on rfl rfl rfl ?_
        refine wl_ov (ov_field fo46_1 rfl rfl) rfl ?_
        refine wl_guard_on rfl rfl rfl ?_
        refine wl_ov (ov_load sc9 rfl (fun _ hm => hm.blkI 0 rfl) rfl) rfl ?_
        refine wl_guard_on rfl rfl rfl ?_
        refine wl_callw rfl cb115 rfl rfl (fun wx hm => (isKey_any _ wx (by omega))) ?_
        refine wl_guard_on rfl rfl rfl ?_
        refine wl_ov (ov_un_not rfl) rfl ?_
        refine wl_ov (ov_pick_f rfl rfl) rfl ?_
        refine wl_ov (ov_assign rfl) rfl ?_
        refine wl_nil ?_
        refine nx_then ?_
        refine gw_cond rfl (fun hh => ?_) (fun hh => ?_)
        · have h3 : (keyB cl) = false := by simpa using hh
          clear hh
          refine gw_seq ?_
          refine gw_region ?_
          refine wl_ov (ov_assign rfl) rfl ?_
          refine wl_nil ?_
          refine nx_then ?_
          refine gw_ret ?_
          refine nx_blk_ret ?_
          refine nx_blk_ret ?_
          refine nx_then_ret ?_
          refine nx_then_ret ?_
          refine nx_blk_ret ?_
          refine nx_then_ret ?_
          have hE : bookE (prevOf l k) ⟨ke, cl, fr, tt, ma, od⟩ = 5 := by unfold bookE; simp [h2, h3]
          refine nx_ret1 rfl rfl fun wx hm => ?_
          exact ⟨ret_int (by rw [hinv.2, hat, if_neg (by rw [hE]; decide), hE]), hm.g⟩
        · have h3 : (keyB cl) = true := by simpa using hh
          clear hh
          refine gw_seq ?_
          by_cases hk0 : k = 0
          · have hO : leO (prevOf l k) ⟨ke, cl, fr, tt, ma, od⟩ = false := by rw [prevOf_zero hk0]; rfl
            refine gw_draw (fun wz => Blk wz g1 46 [.string ke, .string cl, .int .i64 fr, .int .i64 tt, .int .i64 ma, .int .i64 od] ∧ (SlOld bkEnc 6 46 w.heap.size none (some ⟨b, off, none⟩) n l) wz ∧ True) mixed ?_
            refine wa_take 0 rfl (by kernel_rfl) (by kernel_rfl) (by kernel_rfl) (listed' := #[true, false, false, false, false, false, false, false, false, false, false, false, false, false]) rfl (fun _ _ _ h => h) (fun _ hm => ⟨hm.blkI 0 rfl, hm.fact 0 rfl, trivial⟩) (ov_move rfl) rfl ?_
            refine wa_take 1 rfl (by kernel_rfl) (by kernel_rfl) (by kernel_rfl) (listed' := #[true, true, false, false, false, false, false, false, false, false, false, false, false, false]) rfl (fun _ _ _ h => h) (fun _ hm => ⟨hm.blkI 0 rfl, hm.fact 0 rfl, trivial⟩) (ov_gtr rfl rfl) rfl ?_
            refine wa_set 28 (v' := .bool false) rfl (congrArg Value.bool (decide_eq_false (by omega))) ?_
            refine wa_take 2 rfl (by kernel_rfl) (by kernel_rfl) (by kernel_rfl) (listed' := #[true, true, true, false, false, false, false, false, false, false, false, false, false, false]) rfl (fun _ _ _ h => h) (fun _ hm => ⟨hm.blkI 0 rfl, hm.fact 0 rfl, trivial⟩) (ov_move rfl) rfl ?_
            refine wa_take_off 3 rfl rfl rfl (by decide) (by kernel_rfl) (by kernel_rfl) (by kernel_rfl) (listed' := #[true, true, true, true, false, false, false, false, false, false, false, false, false, false]) rfl (fun _ _ _ h => h) (fun _ hm => ⟨hm.blkI 0 rfl, hm.fact 0 rfl, trivial⟩) rfl ?_
            refine wa_take_off 4 rfl rfl rfl (by decide) (by kernel_rfl) (by kernel_rfl) (by kernel_rfl) (listed' := #[true, true, true, true, true, false, false, false, false, false, false, false, false, false]) rfl (fun _ _ _ h => h) (fun _ hm => ⟨hm.blkI 0 rfl, hm.fact 0 rfl, trivial⟩) rfl ?_
            refine wa_take_off 5 rfl rfl rfl (by decide) (by kernel_rfl) (by kernel_rfl) (by kernel_rfl) (listed' := #[true, true, true, true, true, true, false, false, false, false, false, false, false, false]) rfl (fun _ _ _ h => h) (fun _ hm => ⟨hm.blkI 0 rfl, hm.fact 0 rfl, trivial⟩) rfl ?_
            refine wa_take_off 6 rfl rfl rfl (by decide) (by kernel_rfl) (by kernel_rfl) (by kernel_rfl) (listed' := #[true, true, true, true, true, true, true, false, false, false, false, false, false, false]) rfl (fun _ _ _ h => h) (fun _ hm => ⟨hm.blkI 0 rfl, hm.fact 0 rfl, trivial⟩) rfl ?_
            refine wa_take_off 7 rfl rfl rfl (by decide) (by kernel_rfl) (by kernel_rfl) (by kernel_rfl) (listed' := #[true, true, true, true, true, true, true, true, false, false, false, false, false, false]) rfl (fun _ _ _ h => h) (fun _ hm => ⟨hm.blkI 0 rfl, hm.fact 0 rfl, trivial⟩) rfl ?_
            refine wa_take_off 8 rfl rfl rfl (by decide) (by kernel_rfl) (by kernel_rfl) (by kernel_rfl) (listed' := #[true, true, true, true, true, true, true, true, true, false, false, false, false, false]) rfl (fun _ _ _ h => h) (fun _ hm => ⟨hm.blkI 0 rfl, hm.fact 0 rfl, trivial⟩) rfl ?_
            refine wa_take_off 9 rfl rfl rfl (by decide) (by kernel_rfl) (by kernel_rfl) (by kernel_rfl) (listed' := #[true, true, true, true, true, true, true, true, true, true, false, false, false, false]) rfl (fun _ _ _ h => h) (fun _ hm => ⟨hm.blkI 0 rfl, hm.fact 0 rfl, trivial⟩) rfl ?_
            refine wa_take_off 10 rfl rfl rfl (by decide) (by kernel_rfl) (by kernel_rfl) (by kernel_rfl) (listed' := #[true, true, true, true, true, true, true, true, true, true, true, false, false, false]) rfl (fun _ _ _ h => h) (fun _ hm => ⟨hm.blkI 0 rfl, hm.fact 0 rfl, trivial⟩) rfl ?_
            refine wa_take_off 11 rfl rfl rfl (by decide) (by kernel_rfl) (by kernel_rfl) (by kernel_rfl) (listed' := #[true, true, true, true, true, true, true, true, true, true, true, true, false, false]) rfl (fun _ _ _ h => h) (fun _ hm => ⟨hm.blkI 0 rfl, hm.fact 0 rfl, trivial⟩) rfl ?_
            refine wa_take 12 rfl (by kernel_rfl) (by kernel_rfl) (by kernel_rfl) (listed' := #[true, true, true, true, true, true, true, true, true, true, true, true, true, false]) rfl (fun _ _ _ h => h) (fun _ hm => ⟨hm.blkI 0 rfl, hm.fact 0 rfl, trivial⟩) (ov_pick_f rfl rfl) rfl ?_
            refine wa_take 13 rfl (by kernel_rfl) (by kernel_rfl) (by kernel_rfl) (listed' := #[true, true, true, true, true, true, true, true, true, true, true, true, true, true]) rfl (fun _ _ _ h => h) (fun _ hm => ⟨hm.blkI 0 rfl, hm.fact 0 rfl, trivial⟩) (ov_assign rfl) rfl ?_
            refine wa_done (by kernel_rfl) ?_
            refine nx_then ?_
            refine gw_cond rfl (fun hh => by cases hh) (fun _ => ?_)
            refine gw_seq ?_
            refine gw_region ?_
            refine wl_ov (ov_field fo46_2 rfl rfl) rfl ?_
            refine wl_ov (ov_field fo28_0 rfl rfl) rfl ?_
            refine wl_ov (ov_load sc3 rfl (fun _ hm => hm.blkI 0 rfl) rfl) rfl ?_
            refine wl_ov (ov_lss rfl rfl) rfl ?_
            refine wl_ov (ov_move rfl) rfl ?_
            rcases Bool.eq_false_or_eq_true (decide (fr < 0)) with h4 | h4
            · refine wl_set 45 rfl (congrArg Value.bool h4) ?_
              replace h4 := of_decide_eq_true h4
              refine wl_guard_off rfl rfl rfl (by decide) rfl ?_
              refine wl_guard_off rfl rfl rfl (by decide) rfl ?_
              refine wl_guard_off rfl rfl rfl (by decide) rfl ?_
              refine wl_guard_off rfl rfl rfl (by decide) rfl ?_
              refine wl_guard_off rfl rfl rfl (by decide) rfl ?_
              refine wl_guard_off rfl rfl rfl (by decide) rfl ?_
              refine wl_guard_off rfl rfl rfl (by decide) rfl ?_
              refine wl_ov (ov_pick_t rfl rfl) rfl ?_
              refine wl_ov (ov_move rfl) rfl ?_
              refine wl_guard_off rfl rfl rfl (by decide) rfl ?_
              refine wl_guard_off rfl rfl rfl (by decide) rfl ?_
              refine wl_guard_off rfl rfl rfl (by decide) rfl ?_
              refine wl_guard_off rfl rfl rfl (by decide) rfl ?_
              refine wl_ov (ov_pick_t rfl rfl) rfl ?_
              refine wl_ov (ov_assign rfl) rfl ?_
              refine wl_nil ?_
              refine nx_then ?_
              refine gw_cond rfl (fun _ => ?_) (fun hh => by cases hh)
              refine gw_seq ?_
              refine gw_region ?_
              refine wl_ov (ov_assign rfl) rfl ?_
              refine wl_nil ?_
              refine nx_then ?_
              refine gw_ret ?_
              refine nx_blk_ret ?_
              refine nx_blk_ret ?_
              refine nx_then_ret ?_
              refine nx_then_ret ?_
              refine nx_blk_ret ?_
              refine nx_then_ret ?_
              have hE : bookE (prevOf l k) ⟨ke, cl, fr, tt, ma, od⟩ = 1 := by unfold bookE; simp [h2, h3, hO, h4]
              refine nx_ret1 rfl rfl fun wx hm => ?_
              exact ⟨ret_int (by rw [hinv.2, hat, if_neg (by rw [hE]; decide), hE]), hm.g⟩
            · refine wl_set 45 rfl (congrArg Value.bool h4) ?_
              replace h4 := of_decide_eq_false h4
              refine wl_guard_on rfl rfl rfl ?_
              refine wl_ov (ov_field fo46_2 rfl rfl) rfl ?_
              refine wl_guard_on rfl rfl rfl ?_
              refine wl_ov (ov_field fo28_0 rfl rfl) rfl ?_
              refine wl_guard_on rfl rfl rfl ?_
              refine wl_ov (ov_load sc3 rfl (fun _ hm => hm.blkI 0 rfl) rfl) rfl ?_
              refine wl_guard_on rfl rfl rfl ?_
              refine wl_ov (ov_field fo46_2 rfl rfl) rfl ?_
              refine wl_guard_on rfl rfl rfl ?_
              refine wl_ov (ov_field fo28_1 rfl rfl) rfl ?_
              refine wl_guard_on rfl rfl rfl ?_
              refine wl_ov (ov_load sc3 rfl (fun _ hm => hm.blkI 0 rfl) rfl) rfl ?_
              refine wl_guard_on rfl rfl rfl ?_
              refine wl_ov (ov_geq rfl rfl) rfl ?_
              refine wl_ov (ov_pick_f rfl rfl) rfl ?_
              refine wl_ov (ov_move rfl) rfl ?_
              rcases Bool.eq_false_or_eq_true (decide (tt ≤ fr)) with h5 | h5
              · refine wl_set 54 rfl (congrArg Value.bool h5) ?_
                replace h5 := of_decide_eq_true h5
                refine wl_guard_off rfl rfl rfl (by decide) rfl ?_
                refine wl_guard_off rfl rfl rfl (by decide) rfl ?_
                refine wl_guard_off rfl rfl rfl (by decide) rfl ?_
                refine wl_guard_off rfl rfl rfl (by decide) rfl ?_
                refine wl_ov (ov_pick_t rfl rfl) rfl ?_
                refine wl_ov (ov_assign rfl) rfl ?_
                refine wl_nil ?_
                refine nx_then ?_
                refine gw_cond rfl (fun _ => ?_) (fun hh => by cases hh)
                refine gw_seq ?_
                refine gw_region ?_
                refine wl_ov (ov_assign rfl) rfl ?_
                refine wl_nil ?_
                refine nx_then ?_
                refine gw_ret ?_
                refine nx_blk_ret ?_
                refine nx_blk_ret ?_
                refine nx_then_ret ?_
                refine nx_then_ret ?_
                refine nx_blk_ret ?_
                refine nx_then_ret ?_
                have hE : bookE (prevOf l k) ⟨ke, cl, fr, tt, ma, od⟩ = 1 := by unfold bookE; simp [h2, h3, hO, h4, h5]
                refine nx_ret1 rfl rfl fun wx hm => ?_
                exact ⟨ret_int (by rw [hinv.2, hat, if_neg (by rw [hE]; decide), hE]), hm.g⟩
              · refine wl_set 54 rfl (congrArg Value.bool h5) ?_
                replace h5 := of_decide_eq_false h5
                refine wl_guard_on rfl rfl rfl ?_
                refine wl_ov (ov_field fo46_2 rfl rfl) rfl ?_
                refine wl_guard_on rfl rfl rfl ?_
                refine wl_ov (ov_field fo28_1 rfl rfl) rfl ?_
                refine wl_guard_on rfl rfl rfl ?_
                refine wl_ov (ov_load sc3 rfl (fun _ hm => hm.blkI 0 rfl) rfl) rfl ?_
                refine wl_guard_on rfl rfl rfl ?_
                refine wl_ov (ov_gtr rfl rfl) rfl ?_
                refine wl_ov (ov_pick_f rfl rfl) rfl ?_
                refine wl_ov (ov_assign rfl) rfl ?_
                refine wl_nil ?_
                refine nx_then ?_
                refine gw_cond rfl (fun hh => ?_) (fun hh => ?_)
                · have h6 : 5761439 < tt := by simpa using hh
                  clear hh
                  refine gw_seq ?_
                  refine gw_region ?_
                  refine wl_ov (ov_assign rfl) rfl ?_
                  refine wl_nil ?_
                  refine nx_then ?_
                  refine gw_ret ?_
                  refine nx_blk_ret ?_
                  refine nx_blk_ret ?_
                  refine nx_then_ret ?_
                  refine nx_then_ret ?_
                  refine nx_blk_ret ?_
                  refine nx_then_ret ?_
                  have hE : bookE (prevOf l k) ⟨ke, cl, fr, tt, ma, od⟩ = 1 := by unfold bookE; simp [h2, h3, hO, h4, h5, h6]
                  refine nx_ret1 rfl rfl fun wx hm => ?_
                  exact ⟨ret_int (by rw [hinv.2, hat, if_neg (by rw [hE]; decide), hE]), hm.g⟩
                · have h6 : ¬ (5761439 < tt) := by simpa using hh
                  clear hh
                  refine gw_seq ?_
                  refine gw_region ?_
                  refine wl_ov (ov_field fo46_3 rfl rfl) rfl ?_
                  refine wl_ov (ov_load sc3 rfl (fun _ hm => hm.blkI 0 rfl) rfl) rfl ?_
                  refine wl_ov (ov_field fo46_2 rfl rfl) rfl ?_
                  refine wl_ov (ov_field fo28_0 rfl rfl) rfl ?_
                  refine wl_ov (ov_load sc3 rfl (fun _ hm => hm.blkI 0 rfl) rfl) rfl ?_
                  refine wl_callw rfl cb99 rfl rfl (fun wx hm => (in_any _ _ _ wx)) ?_
                  refine wl_ov (ov_un_not rfl) rfl ?_
                  refine wl_ov (ov_move rfl) rfl ?_
                  rcases Bool.eq_false_or_eq_true (!(inB ma 0 fr)) with h7 | h7
                  · refine wl_set 68 rfl (congrArg Value.bool h7) ?_
                    refine wl_guard_off rfl rfl rfl (by decide) rfl ?_
                    refine wl_guard_off rfl rfl rfl (by decide) rfl ?_
                    refine wl_guard_off rfl rfl rfl (by decide) rfl ?_
                    refine wl_guard_off rfl rfl rfl (by decide) rfl ?_
                    refine wl_ov (ov_pick_t rfl rfl) rfl ?_
                    refine wl_ov (ov_assign rfl) rfl ?_
                    refine wl_nil ?_
                    refine nx_then ?_
                    refine gw_cond rfl (fun _ => ?_) (fun hh => by cases hh)
                    refine gw_seq ?_
                    refine gw_region ?_
                    refine wl_ov (ov_assign rfl) rfl ?_
                    refine wl_nil ?_
                    refine nx_then ?_
                    refine gw_ret ?_
                    refine nx_blk_ret ?_
                    refine nx_blk_ret ?_
                    refine nx_then_ret ?_
                    refine nx_then_ret ?_
                    refine nx_blk_ret ?_
                    refine nx_then_ret ?_
                    have hE : bookE (prevOf l k) ⟨ke, cl, fr, tt, ma, od⟩ = 1 := by unfold bookE; simp [h2, h3, hO, h4, h5, h6, h7]
                    refine nx_ret1 rfl rfl fun wx hm => ?_
                    exact ⟨ret_int (by rw [hinv.2, hat, if_neg (by rw [hE]; decide), hE]), hm.g⟩
                  · refine wl_set 68 rfl (congrArg Value.bool h7) ?_
                    refine wl_guard_on rfl rfl rfl ?_
                    refine wl_ov (ov_field fo46_4 rfl rfl) rfl ?_
                    refine wl_guard_on rfl rfl rfl ?_
                    refine wl_ov (ov_load sc3 rfl (fun _ hm => hm.blkI 0 rfl) rfl) rfl ?_
                    refine wl_guard_on rfl rfl rfl ?_
                    refine wl_callw rfl cb99 rfl rfl (fun wx hm => (in_any _ _ _ wx)) ?_
                    refine wl_guard_on rfl rfl rfl ?_
                    refine wl_ov (ov_un_not rfl) rfl ?_
                    refine wl_ov (ov_pick_f rfl rfl) rfl ?_
                    refine wl_ov (ov_assign rfl) rfl ?_
                    refine wl_nil ?_
                    refine nx_then ?_
                    refine gw_cond rfl (fun hh => ?_) (fun hh => ?_)
                    · have h8 : (inB od 0 100) = false := by simpa using hh
                      clear hh
                      refine gw_seq ?_
                      refine gw_region ?_
                      refine wl_ov (ov_assign rfl) rfl ?_
                      refine wl_nil ?_
                      refine nx_then ?_
                      refine gw_ret ?_
                      refine nx_blk_ret ?_
                      refine nx_blk_ret ?_
                      refine nx_then_ret ?_
                      refine nx_then_ret ?_
                      refine nx_blk_ret ?_
                      refine nx_then_ret ?_
                      have hE : bookE (prevOf l k) ⟨ke, cl, fr, tt, ma, od⟩ = 1 := by unfold bookE; simp [h2, h3, hO, h4, h5, h6, h7, h8]
                      refine nx_ret1 rfl rfl fun wx hm => ?_
                      exact ⟨ret_int (by rw [hinv.2, hat, if_neg (by rw [hE]; decide), hE]), hm.g⟩
                    · have h8 : (inB od 0 100) = true := by simpa using hh
                      clear hh
                      refine gw_skip ?_
                      refine nx_blk_nrm ?_
                      refine nx_blk_nrm ?_
                      refine nx_then ?_
                      refine gw_region ?_
                      have hE : bookE (prevOf l k) ⟨ke, cl, fr, tt, ma, od⟩ = 0 := by unfold bookE; simp [h2, h3, hO, h4, h5, h6, h7, h8]
                      refine wl_ov (ov_add rfl rfl (by omega) (by omega)) rfl ?_
                      refine wl_ov (ov_move rfl) rfl ?_
                      refine wl_nil ?_
                      exact nx_round (k + 1) ⟨by omega, by rw [hinv.2, hat, if_pos hE]⟩ (by omega) ⟨rfl, rfl, rfl, (some_int (by omega)), trivial⟩ (fun _ hm => hm.pick [] [] [0] rfl rfl)
          · obtain ⟨y, hy⟩ : ∃ x, l[k - 1]? = some x := ⟨_, List.getElem?_eq_getElem (by omega)⟩
            obtain ⟨pk, p1, p2, p3, p4, p5⟩ := y
            refine gw_draw (fun wz => Blk wz g1 46 [.string ke, .string cl, .int .i64 fr, .int .i64 tt, .int .i64 ma, .int .i64 od] ∧ (SlOld bkEnc 6 46 w.heap.size none (some ⟨b, off, none⟩) n l) wz ∧ True) mixed ?_
            refine wa_take 0 rfl (by kernel_rfl) (by kernel_rfl) (by kernel_rfl) (listed' := #[true, false, false, false, false, false, false, false, false, false, false, false, false, false]) rfl (fun _ _ _ h => h) (fun _ hm => ⟨hm.blkI 0 rfl, hm.fact 0 rfl, trivial⟩) (ov_move rfl) rfl ?_
            refine wa_take 1 rfl (by kernel_rfl) (by kernel_rfl) (by kernel_rfl) (listed' := #[true, true, false, false, false, false, false, false, false, false, false, false, false, false]) rfl (fun _ _ _ h => h) (fun _ hm => ⟨hm.blkI 0 rfl, hm.fact 0 rfl, trivial⟩) (ov_gtr rfl rfl) rfl ?_
            refine wa_set 28 (v' := .bool true) rfl (congrArg Value.bool (decide_eq_true (by omega))) ?_
            refine wa_take 2 rfl (by kernel_rfl) (by kernel_rfl) (by kernel_rfl) (listed' := #[true, true, true, false, false, false, false, false, false, false, false, false, false, false]) rfl (fun _ _ _ h => h) (fun _ hm => ⟨hm.blkI 0 rfl, hm.fact 0 rfl, trivial⟩) (ov_move rfl) rfl ?_
            refine wa_take_on 3 rfl rfl rfl (by kernel_rfl) (by kernel_rfl) (by kernel_rfl) (listed' := #[true, true, true, true, false, false, false, false, false, false, false, false, false, false]) rfl (fun _ _ _ h => h) (fun _ hm => ⟨hm.blkI 0 rfl, hm.fact 0 rfl, trivial⟩) (ov_field fo46_0 rfl rfl) rfl ?_
            refine wa_take_on 4 rfl rfl rfl (by kernel_rfl) (by kernel_rfl) (by kernel_rfl) (listed' := #[true, true, true, true, true, false, false, false, false, false, false, false, false, false]) rfl (fun _ _ _ h => h) (fun _ hm => ⟨hm.blkI 0 rfl, hm.fact 0 rfl, trivial⟩) (ov_load sc9 rfl (fun _ hm => hm.1) rfl) rfl ?_
            refine wa_take_on 5 rfl rfl rfl (by kernel_rfl) (by kernel_rfl) (by kernel_rfl) (listed' := #[true, true, true, true, true, true, false, false, false, false, false, false, false, false]) rfl (fun _ _ _ h => h) (fun _ hm => ⟨hm.blkI 0 rfl, hm.fact 0 rfl, trivial⟩) (ov_move rfl) rfl ?_
            refine wa_take_on 6 rfl rfl rfl (by kernel_rfl) (by kernel_rfl) (by kernel_rfl) (listed' := #[true, true, true, true, true, true, true, false, false, false, false, false, false, false]) rfl (fun _ _ _ h => h) (fun _ hm => ⟨hm.blkI 0 rfl, hm.fact 0 rfl, trivial⟩) (ov_move rfl) rfl ?_
            refine wa_take_on 7 rfl rfl rfl (by kernel_rfl) (by kernel_rfl) (by kernel_rfl) (listed' := #[true, true, true, true, true, true, true, true, false, false, false, false, false, false]) rfl (fun _ _ _ h => h) (fun _ hm => ⟨hm.blkI 0 rfl, hm.fact 0 rfl, trivial⟩) (ov_sub rfl rfl (by omega) (by omega)) rfl ?_
            refine wa_set 34 (v' := .int .i64 ((k - 1 : Nat) : Int)) rfl (congrArg (Value.int .i64) (by omega)) ?_
            refine wa_take_on 8 rfl rfl rfl (by kernel_rfl) (by kernel_rfl) (by kernel_rfl) (listed' := #[true, true, true, true, true, true, true, true, true, false, false, false, false, false]) rfl (fun _ _ _ h => h) (fun _ hm => ⟨hm.blkI 0 rfl, hm.fact 0 rfl, trivial⟩) (ov_index (j := k - 1) es55 rfl rfl (by omega)) rfl ?_
            refine wa_take_on 9 rfl rfl rfl (by kernel_rfl) (by kernel_rfl) (by kernel_rfl) (listed' := #[true, true, true, true, true, true, true, true, true, true, false, false, false, false]) rfl (fun _ _ _ h => h) (fun _ hm => ⟨hm.blkI 0 rfl, hm.fact 0 rfl, trivial⟩) (ov_field fo46_0 rfl rfl) rfl ?_
            refine wa_take_on 10 rfl rfl rfl (by kernel_rfl) (by kernel_rfl) (by kernel_rfl) (listed' := #[true, true, true, true, true, true, true, true, true, true, true, false, false, false]) rfl (fun _ _ _ h => h) (fun _ hm => ⟨hm.blkI 0 rfl, hm.fact 0 rfl, trivial⟩) (ov_elem1 (k := 0) sc9 rfl (fun _ hm => (hm.2.1).1) hy rfl rfl) rfl ?_
            refine wa_take_on 11 rfl rfl rfl (by kernel_rfl) (by kernel_rfl) (by kernel_rfl) (listed' := #[true, true, true, true, true, true, true, true, true, true, true, true, false, false]) rfl (fun _ _ _ h => h) (fun _ hm => ⟨hm.blkI 0 rfl, hm.fact 0 rfl, trivial⟩) (ov_sleq rfl rfl) rfl ?_
            refine wa_take 12 rfl (by kernel_rfl) (by kernel_rfl) (by kernel_rfl) (listed' := #[true, true, true, true, true, true, true, true, true, true, true, true, true, false]) rfl (fun _ _ _ h => h) (fun _ hm => ⟨hm.blkI 0 rfl, hm.fact 0 rfl, trivial⟩) (ov_pick_t rfl rfl) rfl ?_
            refine wa_take 13 rfl (by kernel_rfl) (by kernel_rfl) (by kernel_rfl) (listed' := #[true, true, true, true, true, true, true, true, true, true, true, true, true, true]) rfl (fun _ _ _ h => h) (fun _ hm => ⟨hm.blkI 0 rfl, hm.fact 0 rfl, trivial⟩) (ov_assign rfl) rfl ?_
            refine wa_done (by kernel_rfl) ?_
            refine nx_then ?_
            refine gw_cond rfl (fun hh => ?_) (fun hh => ?_)
            · have h9 : (Op.bytesLess ke.toList pk.toList || ke.toList == pk.toList) = true := by simpa using hh
              clear hh
              refine gw_seq ?_
              refine gw_region ?_
              have hO : leO (prevOf l k) ⟨ke, cl, fr, tt, ma, od⟩ = true := by rw [prevOf_pos hk0 hy]; exact h9
              refine wl_ov (ov_assign rfl) rfl ?_
              refine wl_nil ?_
              refine nx_then ?_
              refine gw_ret ?_
              refine nx_blk_ret ?_
              refine nx_blk_ret ?_
              refine nx_then_ret ?_
              refine nx_then_ret ?_
              refine nx_blk_ret ?_
              refine nx_then_ret ?_
              have hE : bookE (prevOf l k) ⟨ke, cl, fr, tt, ma, od⟩ = 7 := by unfold bookE; simp [h2, h3, hO]
              refine nx_ret1 rfl rfl fun wx hm => ?_
              exact ⟨ret_int (by rw [hinv.2, hat, if_neg (by rw [hE]; decide), hE]), hm.g⟩
            · have h9 : (Op.bytesLess ke.toList pk.toList || ke.toList == pk.toList) = false := by simpa using hh
              clear hh
              refine gw_seq ?_
              refine gw_region ?_
              have hO : leO (prevOf l k) ⟨ke, cl, fr, tt, ma, od⟩ = false := by rw [prevOf_pos hk0 hy]; exact h9
              refine wl_ov (ov_field fo46_2 rfl rfl) rfl ?_
              refine wl_ov (ov_field fo28_0 rfl rfl) rfl ?_
              refine wl_ov (ov_load sc3 rfl (fun _ hm => hm.blkI 0 rfl) rfl) rfl ?_
              refine wl_ov (ov_lss rfl rfl) rfl ?_
              refine wl_ov (ov_move rfl) rfl ?_
              rcases Bool.eq_false_or_eq_true (decide (fr < 0)) with h4 | h4
              · refine wl_set 45 rfl (congrArg Value.bool h4) ?_
                replace h4 := of_decide_eq_true h4
                refine wl_guard_off rfl rfl rfl (by decide) rfl ?_
                refine wl_guard_off rfl rfl rfl (by decide) rfl ?_
                refine wl_guard_off rfl rfl rfl (by decide) rfl ?_
                refine wl_guard_off rfl rfl rfl (by decide) rfl ?_
                refine wl_guard_off rfl rfl rfl (by decide) rfl ?_
                refine wl_guard_off rfl rfl rfl (by decide) rfl ?_
                refine wl_guard_off rfl rfl rfl (by decide) rfl ?_
                refine wl_ov (ov_pick_t rfl rfl) rfl ?_
                refine wl_ov (ov_move rfl) rfl ?_
                refine wl_guard_off rfl rfl rfl (by decide) rfl ?_
                refine wl_guard_off rfl rfl rfl (by decide) rfl ?_
                refine wl_guard_off rfl rfl rfl (by decide) rfl ?_
                refine wl_guard_off rfl rfl rfl (by decide) rfl ?_
                refine wl_ov (ov_pick_t rfl rfl) rfl ?_
                refine wl_ov (ov_assign rfl) rfl ?_
                refine wl_nil ?_
                refine nx_then ?_
                refine gw_cond rfl (fun _ => ?_) (fun hh => by cases hh)
                refine gw_seq ?_
                refine gw_region ?_
                refine wl_ov (ov_assign rfl) rfl ?_
                refine wl_nil ?_
                refine nx_then ?_
                refine gw_ret ?_
                refine nx_blk_ret ?_
                refine nx_blk_ret ?_
                refine nx_then_ret ?_
                refine nx_then_ret ?_
                refine nx_blk_ret ?_
                refine nx_then_ret ?_
                have hE : bookE (prevOf l k) ⟨ke, cl, fr, tt, ma, od⟩ = 1 := by unfold bookE; simp [h2, h3, hO, h4]
                refine nx_ret1 rfl rfl fun wx hm => ?_
                exact ⟨ret_int (by rw [hinv.2, hat, if_neg (by rw [hE]; decide), hE]), hm.g⟩
              · refine wl_set 45 rfl (congrArg Value.bool h4) ?_
                replace h4 := of_decide_eq_false h4
                refine wl_guard_on rfl rfl rfl ?_
                refine wl_ov (ov_field fo46_2 rfl rfl) rfl ?_
                refine wl_guard_on rfl rfl rfl ?_
                refine wl_ov (ov_field fo28_0 rfl rfl) rfl ?_
                refine wl_guard_on rfl rfl rfl ?_
                refine wl_ov (ov_load sc3 rfl (fun _ hm => hm.blkI 0 rfl) rfl) rfl ?_
                refine wl_guard_on rfl rfl rfl ?_
                refine wl_ov (ov_field fo46_2 rfl rfl) rfl ?_
                refine wl_guard_on rfl rfl rfl ?_
                refine wl_ov (ov_field fo28_1 rfl rfl) rfl ?_
                refine wl_guard_on rfl rfl rfl ?_
                refine wl_ov (ov_load sc3 rfl (fun _ hm => hm.blkI 0 rfl) rfl) rfl ?_
                refine wl_guard_on rfl rfl rfl ?_
                refine wl_ov (ov_geq rfl rfl) rfl ?_
                refine wl_ov (ov_pick_f rfl rfl) rfl ?_
                refine wl_ov (ov_move rfl) rfl ?_
                rcases Bool.eq_false_or_eq_true (decide (tt ≤ fr)) with h5 | h5
                · refine wl_set 54 rfl (congrArg Value.bool h5) ?_
                  replace h5 := of_decide_eq_true h5
                  refine wl_guard_off rfl rfl rfl (by decide) rfl ?_
                  refine wl_guard_off rfl rfl rfl (by decide) rfl ?_
                  refine wl_guard_off rfl rfl rfl (by decide) rfl ?_
                  refine wl_guard_off rfl rfl rfl (by decide) rfl ?_
                  refine wl_ov (ov_pick_t rfl rfl) rfl ?_
                  refine wl_ov (ov_assign rfl) rfl ?_
                  refine wl_nil ?_
                  refine nx_then ?_
                  refine gw_cond rfl (fun _ => ?_) (fun hh => by cases hh)
                  refine gw_seq ?_
                  refine gw_region ?_
                  refine wl_ov (ov_assign rfl) rfl ?_
                  refine wl_nil ?_
                  refine nx_then ?_
                  refine gw_ret ?_
                  refine nx_blk_ret ?_
                  refine nx_blk_ret ?_
                  refine nx_then_ret ?_
                  refine nx_then_ret ?_
                  refine nx_blk_ret ?_
                  refine nx_then_ret ?_
                  have hE : bookE (prevOf l k) ⟨ke, cl, fr, tt, ma, od⟩ = 1 := by unfold bookE; simp [h2, h3, hO, h4, h5]
                  refine nx_ret1 rfl rfl fun wx hm => ?_
                  exact ⟨ret_int (by rw [hinv.2, hat, if_neg (by rw [hE]; decide), hE]), hm.g⟩
                · refine wl_set 54 rfl (congrArg Value.bool h5) ?_
                  replace h5 := of_decide_eq_false h5
                  refine wl_guard_on rfl rfl rfl ?_
                  refine wl_ov (ov_field fo46_2 rfl rfl) rfl ?_
                  refine wl_guard_on rfl rfl rfl ?_
                  refine wl_ov (ov_field fo28_1 rfl rfl) rfl ?_
                  refine wl_guard_on rfl rfl rfl ?_
                  refine wl_ov (ov_load sc3 rfl (fun _ hm => hm.blkI 0 rfl) rfl) rfl ?_
                  refine wl_guard_on rfl rfl rfl ?_
                  refine wl_ov (ov_gtr rfl rfl) rfl ?_
                  refine wl_ov (ov_pick_f rfl rfl) rfl ?_
                  refine wl_ov (ov_assign rfl) rfl ?_
                  refine wl_nil ?_
                  refine nx_then ?_
                  refine gw_cond rfl (fun hh => ?_) (fun hh => ?_)
                  · have h6 : 5761439 < tt := by simpa using hh
                    clear hh
                    refine gw_seq ?_
                    refine gw_region ?_
                    refine wl_ov (ov_assign rfl) rfl ?_
                    refine wl_nil ?_
                    refine nx_then ?_
                    refine gw_ret ?_
                    refine nx_blk_ret ?_
                    refine nx_blk_ret ?_
                    refine nx_then_ret ?_
                    refine nx_then_ret ?_
                    refine nx_blk_ret ?_
                    refine nx_then_ret ?_
                    have hE : bookE (prevOf l k) ⟨ke, cl, fr, tt, ma, od⟩ = 1 := by unfold bookE; simp [h2, h3, hO, h4, h5, h6]
                    refine nx_ret1 rfl rfl fun wx hm => ?_
                    exact ⟨ret_int (by rw [hinv.2, hat, if_neg (by rw [hE]; decide), hE]), hm.g⟩
                  · have h6 : ¬ (5761439 < tt) := by simpa using hh
                    clear hh
                    refine gw_seq ?_
                    refine gw_region ?_
                    refine wl_ov (ov_field fo46_3 rfl rfl) rfl ?_
                    refine wl_ov (ov_load sc3 rfl (fun _ hm => hm.blkI 0 rfl) rfl) rfl ?_
                    refine wl_ov (ov_field fo46_2 rfl rfl) rfl ?_
                    refine wl_ov (ov_field fo28_0 rfl rfl) rfl ?_
                    refine wl_ov (ov_load sc3 rfl (fun _ hm => hm.blkI 0 rfl) rfl) rfl ?_
                    refine wl_callw rfl cb99 rfl rfl (fun wx hm => (in_any _ _ _ wx)) ?_
                    refine wl_ov (ov_un_not rfl) rfl ?_
                    refine wl_ov (ov_move rfl) rfl ?_
                    rcases Bool.eq_false_or_eq_true (!(inB ma 0 fr)) with h7 | h7
                    · refine wl_set 68 rfl (congrArg Value.bool h7) ?_
                      refine wl_guard_off rfl rfl rfl (by decide) rfl ?_
                      refine wl_guard_off rfl rfl rfl (by decide) rfl ?_
                      refine wl_guard_off rfl rfl rfl (by decide) rfl ?_
                      refine wl_guard_off rfl rfl rfl (by decide) rfl ?_
                      refine wl_ov (ov_pick_t rfl rfl) rfl ?_
                      refine wl_ov (ov_assign rfl) rfl ?_
                      refine wl_nil ?_
                      refine nx_then ?_
                      refine gw_cond rfl (fun _ => ?_) (fun hh => by cases hh)
                      refine gw_seq ?_
                      refine gw_region ?_
                      refine wl_ov (ov_assign rfl) rfl ?_
                      refine wl_nil ?_
                      refine nx_then ?_
                      refine gw_ret ?_
                      refine nx_blk_ret ?_
                      refine nx_blk_ret ?_
                      refine nx_then_ret ?_
                      refine nx_then_ret ?_
                      refine nx_blk_ret ?_
                      refine nx_then_ret ?_
                      have hE : bookE (prevOf l k) ⟨ke, cl, fr, tt, ma, od⟩ = 1 := by unfold bookE; simp [h2, h3, hO, h4, h5, h6, h7]
                      refine nx_ret1 rfl rfl fun wx hm => ?_
                      exact ⟨ret_int (by rw [hinv.2, hat, if_neg (by rw [hE]; decide), hE]), hm.g⟩
                    · refine wl_set 68 rfl (congrArg Value.bool h7) ?_
                      refine wl_guard_on rfl rfl rfl ?_
                      refine wl_ov (ov_field fo46_4 rfl rfl) rfl ?_
                      refine wl_guard_on rfl rfl rfl ?_
                      refine wl_ov (ov_load sc3 rfl (fun _ hm => hm.blkI 0 rfl) rfl) rfl ?_
                      refine wl_guard_on rfl rfl rfl ?_
                      refine wl_callw rfl cb99 rfl rfl (fun wx hm => (in_any _ _ _ wx)) ?_
                      refine wl_guard_on rfl rfl rfl ?_
                      refine wl_ov (ov_un_not rfl) rfl ?_
                      refine wl_ov (ov_pick_f rfl rfl) rfl ?_
                      refine wl_ov (ov_assign rfl) rfl ?_
                      refine wl_nil ?_
                      refine nx_then ?_
                      refine gw_cond rfl (fun hh => ?_) (fun hh => ?_)
                      · have h8 : (inB od 0 100) = false := by simpa using hh
                        clear hh
                        refine gw_seq ?_
                        refine gw_region ?_
                        refine wl_ov (ov_assign rfl) rfl ?_
                        refine wl_nil ?_
                        refine nx_then ?_
                        refine gw_ret ?_
                        refine nx_blk_ret ?_
                        refine nx_blk_ret ?_
                        refine nx_then_ret ?_
                        refine nx_then_ret ?_
                        refine nx_blk_ret ?_
                        refine nx_then_ret ?_
                        have hE : bookE (prevOf l k) ⟨ke, cl, fr, tt, ma, od⟩ = 1 := by unfold bookE; simp [h2, h3, hO, h4, h5, h6, h7, h8]
                        refine nx_ret1 rfl rfl fun wx hm => ?_
                        exact ⟨ret_int (by rw [hinv.2, hat, if_neg (by rw [hE]; decide), hE]), hm.g⟩
                      · have h8 : (inB od 0 100) = true := by simpa using hh
                        clear hh
                        refine gw_skip ?_
                        refine nx_blk_nrm ?_
                        refine nx_blk_nrm ?_
                        refine nx_then ?_
                        refine gw_region ?_
                        have hE : bookE (prevOf l k) ⟨ke, cl, fr, tt, ma, od⟩ = 0 := by unfold bookE; simp [h2, h3, hO, h4, h5, h6, h7, h8]
                        refine wl_ov (ov_add rfl rfl (by omega) (by omega)) rfl ?_
                        refine wl_ov (ov_move rfl) rfl ?_
                        refine wl_nil ?_
                        exact nx_round (k + 1) ⟨by omega, by rw [hinv.2, hat, if_pos hE]⟩ (by omega) ⟨rfl, rfl, rfl, (some_int (by omega)), trivial⟩ (fun _ hm => hm.pick [] [] [0] rfl rfl)
    · have hk : ¬ (((k : Nat) : Int) < ((n : Nat) : Int)) := by simpa using hh
      clear hh
      refine gw_exit ?_
      refine nx_then_exit ?_
      refine nx_then_exit ?_
      refine nx_blk_here ?_
      refine nx_then ?_
      refine gw_seq ?_
      refine gw_region ?_
      refine wl_ov (ov_assign rfl) rfl ?_
      refine wl_nil ?_
      refine nx_then ?_
      refine gw_ret ?_
      refine nx_ret1 rfl rfl fun wx hm => ?_
      exact ⟨ret_int (by rw [hinv.2, scanE_end _ _ _ _ (by omega)]), hm.g⟩

set_option maxRecDepth 100000 in
set_option maxHeartbeats 1000000 in
theorem bookingForm_any (l : List Bk) (A : Option Addr) (n c : Nat) (w : World) (hl : SlT bkEnc 6 46 w A n l) (hok : ∀ b ∈ l, BkOk b) (hn : n ≤ 1000000) :
    Calls Tryd.prog 28 #[.slice A n c] w (GotE w (formE l)) := by
  refine gw_enter ⟨69, w, none, []⟩ Tryd.func28 rfl Tryd.ntmps28 rfl (mem0 (X := [SlOld bkEnc 6 46 w.heap.size none A n l]) (allF_cons hl.old allF_nil) (allL_cons SlOld.lasts allL_nil)) ?_
  refine gw_seq ?_
  refine gw_region ?_
  have hlen := hl.len
  refine wl_ov (ov_assign rfl) rfl ?_
  refine wl_nil ?_
  refine nx_then ?_
  refine gw_seq ?_
  refine gw_seq ?_
  refine gw_region ?_
  refine wl_ov (ov_move rfl) rfl ?_
  refine wl_ov (ov_len es55 rfl) rfl ?_
  refine wl_ov (ov_gtr rfl rfl) rfl ?_
  refine wl_nil ?_
  refine nx_then ?_
  refine gw_cond rfl (fun hh => ?_) (fun hh => ?_)
  · have h1 : 500 < ((n : Nat) : Int) := by simpa using hh
    clear hh
    refine gw_seq ?_
    refine gw_region ?_
    refine wl_ov (ov_assign rfl) rfl ?_
    refine wl_nil ?_
    refine nx_then ?_
    refine gw_ret ?_
    refine nx_then_ret ?_
    refine nx_ret1 rfl rfl fun wx hm => ?_
    exact ⟨ret_int (by unfold formE; rw [if_pos (by omega)]), hm.g⟩
  · have h1 : ¬ (500 < ((n : Nat) : Int)) := by simpa using hh
    clear hh
    refine gw_skip ?_
    refine nx_then ?_
    refine gw_seq ?_
    refine gw_region ?_
    refine wl_ov (ov_assign rfl) rfl ?_
    refine wl_nil ?_
    refine nx_then ?_
    refine gw_seq ?_
    refine gw_seq ?_
    refine gw_region ?_
    refine wl_ov (ov_move rfl) rfl ?_
    refine wl_ov (ov_len es55 rfl) rfl ?_
    refine wl_ov (ov_move rfl) rfl ?_
    refine wl_nil ?_
    refine nx_then ?_
    refine gw_block ?_
    refine gw_loop (γ := Nat) (fun (k : Nat) => k ≤ n ∧ formE l = scanE bookE (prevOf l k) (l.drop k)) (fun (k : Nat) => [(3, .string (prevK l k)), (9, .slice A n c), (10, .int .i64 ((n : Nat) : Int)), (11, .int .i64 ((k : Nat) : Int))]) (fun (k : Nat) => fun _ => True) (fun (k : Nat) => []) (fun (k : Nat) => []) (fun (k : Nat) => [SlOld bkEnc 6 46 w.heap.size none A n l]) (fun (k : Nat) => n - k) 0 ⟨Nat.zero_le _, by unfold formE; rw [if_neg (by omega)]; rfl⟩ ⟨rfl, rfl, rfl, rfl, trivial⟩ (fun _ hm => hm.pick [] [] [0] rfl rfl) ?_
    intro k hinv
    replace hinv : k ≤ n ∧ formE l = scanE bookE (prevOf l k) (l.drop k) := hinv
    refine gw_seq ?_
    refine gw_region ?_
    refine wl_ov (ov_lss rfl rfl) rfl ?_
    refine wl_nil ?_
    refine nx_then ?_
    refine gw_seq ?_
    refine gw_cond rfl (fun hh => ?_) (fun hh => ?_)
    · have hk : ((k : Nat) : Int) < ((n : Nat) : Int) := by simpa using hh
      clear hh
      refine gw_skip ?_
      refine nx_then ?_
      refine gw_seq ?_
      refine gw_block ?_
      refine gw_seq ?_
      refine gw_region ?_
      obtain ⟨b, off, hA, _, _⟩ := hl.get (by omega)
      subst hA
      obtain ⟨x, hx⟩ : ∃ x, l[k]? = some x := ⟨_, List.getElem?_eq_getElem (by omega)⟩
      obtain ⟨ke, cl, fr, tt, ma, od⟩ := x
      have hat := scanE_at bookE l k _ hx
      obtain ⟨hk1, hk2⟩ := hok _ (List.mem_of_getElem? hx)
      have hk1 : ke.size ≤ 1000000 := hk1
      have hk2 : cl.size ≤ 1000000 := hk2
      refine wl_ov (ov_index (j := k) es55 rfl rfl (by omega)) rfl ?_
      refine wl_ov (ov_elem rz46 rfl (fun _ hm => (hm.fact 0 rfl).1) hx rfl rfl) rfl ?_
      refine wl_alloc zc46 rfl fun g1 => ?_
      refine wl_stores (cs' := [.string ke, .string cl, .int .i64 fr, .int .i64 tt, .int .i64 ma, .int .i64 od]) 0 rz46 rfl rfl rfl rfl rfl rfl rfl rfl ?_
      refine wl_nil ?_
      refine nx_then ?_
      refine gw_seq ?_
      refine gw_block ?_
      refine gw_seq ?_
      refine gw_region ?_
      refine wl_ov (ov_field fo46_0 rfl rfl) rfl ?_
      refine wl_ov (ov_load sc9 rfl (fun _ hm => hm.blkI 0 rfl) rfl) rfl ?_
      refine wl_callv rfl cb102 rfl rfl (fun wx hm => (key_any _ wx (by omega))) ?_
      refine wl_ov (ov_un_not rfl) rfl ?_
      refine wl_ov (ov_move rfl) rfl ?_
      rcases Bool.eq_false_or_eq_true (!(keyB ke)) with h2 | h2
      · refine wl_set 20 rfl (congrArg Value.bool h2) ?_
        refine wl_guard_off rfl rfl rfl (by decide) rfl ?_
        refine wl_guard_off rfl rfl rfl (by decide) rfl ?_
        refine wl_guard_off rfl rfl rfl (by decide) rfl ?_
        refine wl_guard_off rfl rfl rfl (by decide) rfl ?_
        refine wl_ov (ov_pick_t rfl rfl) rfl ?_
        refine wl_ov (ov_assign rfl) rfl ?_
        refine wl_nil ?_
        refine nx_then ?_
        refine gw_cond rfl (fun _ => ?_) (fun hh => by cases hh)
        refine gw_seq ?_
        refine gw_region ?_
        refine wl_ov (ov_assign rfl) rfl ?_
        refine wl_nil ?_
        refine nx_then ?_
        refine gw_ret ?_
        refine nx_blk_ret ?_
        refine nx_then_ret ?_
        refine nx_blk_ret ?_
        refine nx_then_ret ?_
        refine nx_then_ret ?_
        refine nx_blk_ret ?_
        refine nx_then_ret ?_
        have hE : bookE (prevOf l k) ⟨ke, cl, fr, tt, ma, od⟩ = 5 := by unfold bookE; simp [h2]
        refine nx_ret1 rfl rfl fun wx hm => ?_
        exact ⟨ret_int (by rw [hinv.2, hat, if_neg (by rw [hE]; decide), hE]), hm.g⟩
      · refine wl_set 20 rfl (congrArg Value.bool h2) ?_
        refine wl_guard_on rfl rfl rfl ?_
        refine wl_ov (ov_field fo46_1 rfl rfl) rfl ?_
        refine wl_guard_on rfl rfl rfl ?_
        refine wl_ov (ov_load sc9 rfl (fun _ hm => hm.blkI 0 rfl) rfl) rfl ?_
        refine wl_guard_on rfl rfl rfl ?_
        refine wl_callv rfl cb102 rfl rfl (fun wx hm => (key_any _ wx (by omega))) ?_
        refine wl_guard_on rfl rfl rfl ?_
        refine wl_ov (ov_un_not rfl) rfl ?_
        refine wl_ov (ov_pick_f rfl rfl) rfl ?_
        refine wl_ov (ov_assign rfl) rfl ?_
        refine wl_nil ?_
        refine nx_then ?_
        refine gw_cond rfl (fun hh => ?_) (fun hh => ?_)
        · have h3 : (keyB cl) = false := by simpa using hh
          clear hh
          refine gw_seq ?_
          refine gw_region ?_
          refine wl_ov (ov_assign rfl) rfl ?_
          refine wl_nil ?_
          refine nx_then ?_
          refine gw_ret ?_
          refine nx_blk_ret ?_
          refine nx_then_ret ?_
          refine nx_blk_ret ?_
          refine nx_then_ret ?_
          refine nx_then_ret ?_
          refine nx_blk_ret ?_
          refine nx_then_ret ?_
          have hE : bookE (prevOf l k) ⟨ke, cl, fr, tt, ma, od⟩ = 5 := by unfold bookE; simp [h2, h3]
          refine nx_ret1 rfl rfl fun wx hm => ?_
          exact ⟨ret_int (by rw [hinv.2, hat, if_neg (by rw [hE]; decide), hE]), hm.g⟩
        · have h3 : (keyB cl) = true := by simpa using hh
          clear hh
          refine gw_seq ?_
          refine gw_region ?_
          refine wl_ov (ov_field fo46_0 rfl rfl) rfl ?_
          refine wl_ov (ov_load sc9 rfl (fun _ hm => hm.blkI 0 rfl) rfl) rfl ?_
          refine wl_ov (ov_move rfl) rfl ?_
          refine wl_ov (ov_sleq rfl rfl) rfl ?_
          refine wl_ov (ov_assign rfl) rfl ?_
          refine wl_nil ?_
          refine nx_then ?_
          refine gw_cond rfl (fun hh => ?_) (fun hh => ?_)
          · have h9 : (Op.bytesLess ke.toList (prevK l k).toList || ke.toList == (prevK l k).toList) = true := by simpa using hh
            clear hh
            refine gw_seq ?_
            refine gw_region ?_
            have hO : leO (prevOf l k) ⟨ke, cl, fr, tt, ma, od⟩ = true := (leO_prevK (b := ⟨ke, cl, fr, tt, ma, od⟩) (by simpa using h2)).symm.trans h9
            refine wl_ov (ov_assign rfl) rfl ?_
            refine wl_nil ?_
            refine nx_then ?_
            refine gw_ret ?_
            refine nx_blk_ret ?_
            refine nx_then_ret ?_
            refine nx_blk_ret ?_
            refine nx_then_ret ?_
            refine nx_then_ret ?_
            refine nx_blk_ret ?_
            refine nx_then_ret ?_
            have hE : bookE (prevOf l k) ⟨ke, cl, fr, tt, ma, od⟩ = 7 := by unfold bookE; simp [h2, h3, hO]
            refine nx_ret1 rfl rfl fun wx hm => ?_
            exact ⟨ret_int (by rw [hinv.2, hat, if_neg (by rw [hE]; decide), hE]), hm.g⟩
          · have h9 : (Op.bytesLess ke.toList (prevK l k).toList || ke.toList == (prevK l k).toList) = false := by simpa using hh
            clear hh
            refine gw_seq ?_
            refine gw_region ?_
            have hO : leO (prevOf l k) ⟨ke, cl, fr, tt, ma, od⟩ = false := (leO_prevK (b := ⟨ke, cl, fr, tt, ma, od⟩) (by simpa using h2)).symm.trans h9
            refine wl_ov (ov_field fo46_2 rfl rfl) rfl ?_
            refine wl_ov (ov_field fo28_0 rfl rfl) rfl ?_
            refine wl_ov (ov_load sc3 rfl (fun _ hm => hm.blkI 0 rfl) rfl) rfl ?_
            refine wl_ov (ov_lss rfl rfl) rfl ?_
            refine wl_ov (ov_move rfl) rfl ?_
            rcases Bool.eq_false_or_eq_true (decide (fr < 0)) with h4 | h4
            · refine wl_set 36 rfl (congrArg Value.bool h4) ?_
              replace h4 := of_decide_eq_true h4
              refine wl_guard_off rfl rfl rfl (by decide) rfl ?_
              refine wl_guard_off rfl rfl rfl (by decide) rfl ?_
              refine wl_guard_off rfl rfl rfl (by decide) rfl ?_
              refine wl_guard_off rfl rfl rfl (by decide) rfl ?_
              refine wl_guard_off rfl rfl rfl (by decide) rfl ?_
              refine wl_guard_off rfl rfl rfl (by decide) rfl ?_
              refine wl_guard_off rfl rfl rfl (by decide) rfl ?_
              refine wl_ov (ov_pick_t rfl rfl) rfl ?_
              refine wl_ov (ov_move rfl) rfl ?_
              refine wl_guard_off rfl rfl rfl (by decide) rfl ?_
              refine wl_guard_off rfl rfl rfl (by decide) rfl ?_
              refine wl_guard_off rfl rfl rfl (by decide) rfl ?_
              refine wl_guard_off rfl rfl rfl (by decide) rfl ?_
              refine wl_ov (ov_pick_t rfl rfl) rfl ?_
              refine wl_ov (ov_move rfl) rfl ?_
              refine wl_guard_off rfl rfl rfl (by decide) rfl ?_
              refine wl_guard_off rfl rfl rfl (by decide) rfl ?_
              refine wl_guard_off rfl rfl rfl (by decide) rfl ?_
              refine wl_guard_off rfl rfl rfl (by decide) rfl ?_
              refine wl_guard_off rfl rfl rfl (by decide) rfl ?_
              refine wl_guard_off rfl rfl rfl (by decide) rfl ?_
              refine wl_guard_off rfl rfl rfl (by decide) rfl ?_
              refine wl_ov (ov_pick_t rfl rfl) rfl ?_
              refine wl_ov (ov_move rfl) rfl ?_
              refine wl_guard_off rfl rfl rfl (by decide) rfl ?_
              refine wl_guard_off rfl rfl rfl (by decide) rfl ?_
              refine wl_guard_off rfl rfl rfl (by decide) rfl ?_
              refine wl_guard_off rfl rfl rfl (by decide) rfl ?_
              refine wl_ov (ov_pick_t rfl rfl) rfl ?_
              refine wl_ov (ov_assign rfl) rfl ?_
              refine wl_nil ?_
              refine nx_then ?_
              refine gw_cond rfl (fun _ => ?_) (fun hh => by cases hh)
              refine gw_seq ?_
              refine gw_region ?_
              refine wl_ov (ov_assign rfl) rfl ?_
              refine wl_nil ?_
              refine nx_then ?_
              refine gw_ret ?_
              refine nx_blk_ret ?_
              refine nx_then_ret ?_
              refine nx_blk_ret ?_
              refine nx_then_ret ?_
              refine nx_then_ret ?_
              refine nx_blk_ret ?_
              refine nx_then_ret ?_
              have hE : bookE (prevOf l k) ⟨ke, cl, fr, tt, ma, od⟩ = 1 := by unfold bookE; simp [h2, h3, hO, h4]
              refine nx_ret1 rfl rfl fun wx hm => ?_
              exact ⟨ret_int (by rw [hinv.2, hat, if_neg (by rw [hE]; decide), hE]), hm.g⟩
            · refine wl_set 36 rfl (congrArg Value.bool h4) ?_
              replace h4 := of_decide_eq_false h4
              refine wl_guard_on rfl rfl rfl ?_
              refine wl_ov (ov_field fo46_2 rfl rfl) rfl ?_
              refine wl_guard_on rfl rfl rfl ?_
              refine wl_ov (ov_field fo28_0 rfl rfl) rfl ?_
              refine wl_guard_on rfl rfl rfl ?_
              refine wl_ov (ov_load sc3 rfl (fun _ hm => hm.blkI 0 rfl) rfl) rfl ?_
              refine wl_guard_on rfl rfl rfl ?_
              refine wl_ov (ov_field fo46_2 rfl rfl) rfl ?_
              refine wl_guard_on rfl rfl rfl ?_
              refine wl_ov (ov_field fo28_1 rfl rfl) rfl ?_
              refine wl_guard_on rfl rfl rfl ?_
              refine wl_ov (ov_load sc3 rfl (fun _ hm => hm.blkI 0 rfl) rfl) rfl ?_
              refine wl_guard_on rfl rfl rfl ?_
              refine wl_ov (ov_geq rfl rfl) rfl ?_
              refine wl_ov (ov_pick_f rfl rfl) rfl ?_
              refine wl_ov (ov_move rfl) rfl ?_
              rcases Bool.eq_false_or_eq_true (decide (tt ≤ fr)) with h5 | h5
              · refine wl_set 45 rfl (congrArg Value.bool h5) ?_
                replace h5 := of_decide_eq_true h5
                refine wl_guard_off rfl rfl rfl (by decide) rfl ?_
                refine wl_guard_off rfl rfl rfl (by decide) rfl ?_
                refine wl_guard_off rfl rfl rfl (by decide) rfl ?_
                refine wl_guard_off rfl rfl rfl (by decide) rfl ?_
                refine wl_ov (ov_pick_t rfl rfl) rfl ?_
                refine wl_ov (ov_move rfl) rfl ?_
                refine wl_guard_off rfl rfl rfl (by decide) rfl ?_
                refine wl_guard_off rfl rfl rfl (by decide) rfl ?_
                refine wl_guard_off rfl rfl rfl (by decide) rfl ?_
                refine wl_guard_off rfl rfl rfl (by decide) rfl ?_
                refine wl_guard_off rfl rfl rfl (by decide) rfl ?_
                refine wl_guard_off rfl rfl rfl (by decide) rfl ?_
                refine wl_guard_off rfl rfl rfl (by decide) rfl ?_
                refine wl_ov (ov_pick_t rfl rfl) rfl ?_
                refine wl_ov (ov_move rfl) rfl ?_
                refine wl_guard_off rfl rfl rfl (by decide) rfl ?_
                refine wl_guard_off rfl rfl rfl (by decide) rfl ?_
                refine wl_guard_off rfl rfl rfl (by decide) rfl ?_
                refine wl_guard_off rfl rfl rfl (by decide) rfl ?_
                refine wl_ov (ov_pick_t rfl rfl) rfl ?_
                refine wl_ov (ov_assign rfl) rfl ?_
                refine wl_nil ?_
                refine nx_then ?_
                refine gw_cond rfl (fun _ => ?_) (fun hh => by cases hh)
                refine gw_seq ?_
                refine gw_region ?_
                refine wl_ov (ov_assign rfl) rfl ?_
                refine wl_nil ?_
                refine nx_then ?_
                refine gw_ret ?_
                refine nx_blk_ret ?_
                refine nx_then_ret ?_
                refine nx_blk_ret ?_
                refine nx_then_ret ?_
                refine nx_then_ret ?_
                refine nx_blk_ret ?_
                refine nx_then_ret ?_
                have hE : bookE (prevOf l k) ⟨ke, cl, fr, tt, ma, od⟩ = 1 := by unfold bookE; simp [h2, h3, hO, h4, h5]
                refine nx_ret1 rfl rfl fun wx hm => ?_
                exact ⟨ret_int (by rw [hinv.2, hat, if_neg (by rw [hE]; decide), hE]), hm.g⟩
              · refine wl_set 45 rfl (congrArg Value.bool h5) ?_
                replace h5 := of_decide_eq_false h5
                refine wl_guard_on rfl rfl rfl ?_
                refine wl_ov (ov_field fo46_2 rfl rfl) rfl ?_
                refine wl_guard_on rfl rfl rfl ?_
                refine wl_ov (ov_field fo28_1 rfl rfl) rfl ?_
                refine wl_guard_on rfl rfl rfl ?_
                refine wl_ov (ov_load sc3 rfl (fun _ hm => hm.blkI 0 rfl) rfl) rfl ?_
                refine wl_guard_on rfl rfl rfl ?_
                refine wl_ov (ov_gtr rfl rfl) rfl ?_
                refine wl_ov (ov_pick_f rfl rfl) rfl ?_
                refine wl_ov (ov_move rfl) rfl ?_
                rcases Bool.eq_false_or_eq_true (decide (5761439 < tt)) with h6 | h6
                · refine wl_set 51 rfl (congrArg Value.bool h6) ?_
                  replace h6 := of_decide_eq_true h6
                  refine wl_guard_off rfl rfl rfl (by decide) rfl ?_
                  refine wl_guard_off rfl rfl rfl (by decide) rfl ?_
                  refine wl_guard_off rfl rfl rfl (by decide) rfl ?_
                  refine wl_guard_off rfl rfl rfl (by decide) rfl ?_
                  refine wl_guard_off rfl rfl rfl (by decide) rfl ?_
                  refine wl_guard_off rfl rfl rfl (by decide) rfl ?_
                  refine wl_guard_off rfl rfl rfl (by decide) rfl ?_
                  refine wl_ov (ov_pick_t rfl rfl) rfl ?_
                  refine wl_ov (ov_move rfl) rfl ?_
                  refine wl_guard_off rfl rfl rfl (by decide) rfl ?_
                  refine wl_guard_off rfl rfl rfl (by decide) rfl ?_
                  refine wl_guard_off rfl rfl rfl (by decide) rfl ?_
                  refine wl_guard_off rfl rfl rfl (by decide) rfl ?_
                  refine wl_ov (ov_pick_t rfl rfl) rfl ?_
                  refine wl_ov (ov_assign rfl) rfl ?_
                  refine wl_nil ?_
                  refine nx_then ?_
                  refine gw_cond rfl (fun _ => ?_) (fun hh => by cases hh)
                  refine gw_seq ?_
                  refine gw_region ?_
                  refine wl_ov (ov_assign rfl) rfl ?_
                  refine wl_nil ?_
                  refine nx_then ?_
                  refine gw_ret ?_
                  refine nx_blk_ret ?_
                  refine nx_then_ret ?_
                  refine nx_blk_ret ?_
                  refine nx_then_ret ?_
                  refine nx_then_ret ?_
                  refine nx_blk_ret ?_
                  refine nx_then_ret ?_
                  have hE : bookE (prevOf l k) ⟨ke, cl, fr, tt, ma, od⟩ = 1 := by unfold bookE; simp [h2, h3, hO, h4, h5, h6]
                  refine nx_ret1 rfl rfl fun wx hm => ?_
                  exact ⟨ret_int (by rw [hinv.2, hat, if_neg (by rw [hE]; decide), hE]), hm.g⟩
                · refine wl_set 51 rfl (congrArg Value.bool h6) ?_
                  replace h6 := of_decide_eq_false h6
                  refine wl_guard_on rfl rfl rfl ?_
                  refine wl_ov (ov_field fo46_3 rfl rfl) rfl ?_
                  refine wl_guard_on rfl rfl rfl ?_
                  refine wl_ov (ov_load sc3 rfl (fun _ hm => hm.blkI 0 rfl) rfl) rfl ?_
                  refine wl_guard_on rfl rfl rfl ?_
                  refine wl_ov (ov_field fo46_2 rfl rfl) rfl ?_
                  refine wl_guard_on rfl rfl rfl ?_
                  refine wl_ov (ov_field fo28_0 rfl rfl) rfl ?_
                  refine wl_guard_on rfl rfl rfl ?_
                  refine wl_ov (ov_load sc3 rfl (fun _ hm => hm.blkI 0 rfl) rfl) rfl ?_
                  refine wl_guard_on rfl rfl rfl ?_
                  refine wl_callw rfl cb101 rfl rfl (fun wx hm => (rin_any _ _ _ wx)) ?_
                  refine wl_guard_on rfl rfl rfl ?_
                  refine wl_ov (ov_un_not rfl) rfl ?_
                  refine wl_ov (ov_pick_f rfl rfl) rfl ?_
                  refine wl_ov (ov_move rfl) rfl ?_
                  rcases Bool.eq_false_or_eq_true (!(inB ma 0 fr)) with h7 | h7
                  · refine wl_set 60 rfl (congrArg Value.bool h7) ?_
                    refine wl_guard_off rfl rfl rfl (by decide) rfl ?_
                    refine wl_guard_off rfl rfl rfl (by decide) rfl ?_
                    refine wl_guard_off rfl rfl rfl (by decide) rfl ?_
                    refine wl_guard_off rfl rfl rfl (by decide) rfl ?_
                    refine wl_ov (ov_pick_t rfl rfl) rfl ?_
                    refine wl_ov (ov_assign rfl) rfl ?_
                    refine wl_nil ?_
                    refine nx_then ?_
                    refine gw_cond rfl (fun _ => ?_) (fun hh => by cases hh)
                    refine gw_seq ?_
                    refine gw_region ?_
                    refine wl_ov (ov_assign rfl) rfl ?_
                    refine wl_nil ?_
                    refine nx_then ?_
                    refine gw_ret ?_
                    refine nx_blk_ret ?_
                    refine nx_then_ret ?_
                    refine nx_blk_ret ?_
                    refine nx_then_ret ?_
                    refine nx_then_ret ?_
                    refine nx_blk_ret ?_
                    refine nx_then_ret ?_
                    have hE : bookE (prevOf l k) ⟨ke, cl, fr, tt, ma, od⟩ = 1 := by unfold bookE; simp [h2, h3, hO, h4, h5, h6, h7]
                    refine nx_ret1 rfl rfl fun wx hm => ?_
                    exact ⟨ret_int (by rw [hinv.2, hat, if_neg (by rw [hE]; decide), hE]), hm.g⟩
                  · refine wl_set 60 rfl (congrArg Value.bool h7) ?_
                    refine wl_guard_on rfl rfl rfl ?_
                    refine wl_ov (ov_field fo46_4 rfl rfl) rfl ?_
                    refine wl_guard_on rfl rfl rfl ?_
                    refine wl_ov (ov_load sc3 rfl (fun _ hm => hm.blkI 0 rfl) rfl) rfl ?_
                    refine wl_guard_on rfl rfl rfl ?_
                    refine wl_callw rfl cb101 rfl rfl (fun wx hm => (rin_any _ _ _ wx)) ?_
                    refine wl_guard_on rfl rfl rfl ?_
                    refine wl_ov (ov_un_not rfl) rfl ?_
                    refine wl_ov (ov_pick_f rfl rfl) rfl ?_
                    refine wl_ov (ov_assign rfl) rfl ?_
                    refine wl_nil ?_
                    refine nx_then ?_
                    refine gw_cond rfl (fun hh => ?_) (fun hh => ?_)
                    · have h8 : (inB od 0 100) = false := by simpa using hh
                      clear hh
                      refine gw_seq ?_
                      refine gw_region ?_
                      refine wl_ov (ov_assign rfl) rfl ?_
                      refine wl_nil ?_
                      refine nx_then ?_
                      refine gw_ret ?_
                      refine nx_blk_ret ?_
                      refine nx_then_ret ?_
                      refine nx_blk_ret ?_
                      refine nx_then_ret ?_
                      refine nx_then_ret ?_
                      refine nx_blk_ret ?_
                      refine nx_then_ret ?_
                      have hE : bookE (prevOf l k) ⟨ke, cl, fr, tt, ma, od⟩ = 1 := by unfold bookE; simp [h2, h3, hO, h4, h5, h6, h7, h8]
                      refine nx_ret1 rfl rfl fun wx hm => ?_
                      exact ⟨ret_int (by rw [hinv.2, hat, if_neg (by rw [hE]; decide), hE]), hm.g⟩
                    · have h8 : (inB od 0 100) = true := by simpa using hh
                      clear hh
                      refine gw_skip ?_
                      refine nx_blk_nrm ?_
                      refine nx_then ?_
                      refine gw_region ?_
                      have hE : bookE (prevOf l k) ⟨ke, cl, fr, tt, ma, od⟩ = 0 := by unfold bookE; simp [h2, h3, hO, h4, h5, h6, h7, h8]
                      refine wl_ov (ov_field fo46_0 rfl rfl) rfl ?_
                      refine wl_ov (ov_load sc9 rfl (fun _ hm => hm.blkI 0 rfl) rfl) rfl ?_
                      refine wl_ov (ov_assign rfl) rfl ?_
                      refine wl_nil ?_
                      refine nx_blk_nrm ?_
                      refine nx_then ?_
                      refine gw_region ?_
                      refine wl_ov (ov_add rfl rfl (by omega) (by omega)) rfl ?_
                      refine wl_ov (ov_move rfl) rfl ?_
                      refine wl_nil ?_
                      exact nx_round (k + 1) ⟨by omega, by rw [hinv.2, hat, if_pos hE]⟩ (by omega) ⟨(congrArg (fun z => some (Value.string z)) (prevK_succ hx).symm), rfl, rfl, (some_int (by omega)), trivial⟩ (fun _ hm => hm.pick [] [] [0] rfl rfl)
    · have hk : ¬ (((k : Nat) : Int) < ((n : Nat) : Int)) := by simpa using hh
      clear hh
      refine gw_exit ?_
      refine nx_then_exit ?_
      refine nx_then_exit ?_
      refine nx_blk_here ?_
      refine nx_then ?_
      refine gw_seq ?_
      refine gw_region ?_
      refine wl_ov (ov_assign rfl) rfl ?_
      refine wl_nil ?_
      refine nx_then ?_
      refine gw_ret ?_
      refine nx_ret1 rfl rfl fun wx hm => ?_
      exact ⟨ret_int (by rw [hinv.2, scanE_end _ _ _ _ (by omega)]), hm.g⟩

end Go.Proofs.YtljnekobfjpfaaaDoor
/- Cancelling: the generators Tiers, more, Moment; CancelFee, CancelOf. -/
namespace Go.Proofs.YtljnekobfjpfaaaDoor
open Go.RowKit

set_option maxRecDepth 100000 in
set_option maxHeartbeats 400000 in
theorem gmoment_any (w : World) (B sb m : Nat) (hS : Strm 25 w B sb m) (hm : m ≤ 100000000000) :
    Calls Tryd.prog 22 #[.pointer (some ⟨sb, 0, none⟩)] w (fun e w' => ∃ v : Int, e = .returned (.int .i64 v) ∧ (-1 ≤ v ∧ v ≤ 5761440) ∧ Strm 25 w' B sb (m + 1) ∧ w.grownBy w' (some sb)) := by
  refine gw_enter ⟨6, w, (some sb), []⟩ Tryd.func22 rfl Tryd.ntmps22 rfl (memS (X := []) hS allF_nil allL_nil) ?_
  refine gw_seq ?_
  refine gw_region ?_
  refine wl_ov (ov_assign rfl) rfl ?_
  refine wl_nil ?_
  refine nx_then ?_
  refine gw_seq ?_
  refine gw_region ?_
  refine wl_ov (ov_move rfl) rfl ?_
  refine wl_buildSlice (e := 3) (cs := [.int .i64 0, .int .i64 10, .int .i64 49, .int .i64 50, .int .i64 99, .int .i64 100, .int .i64 199, .int .i64 200, .int .i64 480, .int .i64 720, .int .i64 1000, .int .i64 1440, .int .i64 5760, .int .i64 10080, .int .i64 5761439, .int .i64 (-1), .int .i64 5761440]) rfl (by kernel_rfl) rfl fun g1 => ?_
  refine wl_got (γ := Int) (val := fun v => .int .i64 v) (φ := fun v => v ∈ ([0, 10, 49, 50, 99, 100, 199, 200, 480, 720, 1000, 1440, 5760, 10080, 5761439, -1, 5761440] : List Int)) rfl cb15 rfl rfl rfl rfl (fun wx hm => (pick_any [0, 10, 49, 50, 99, 100, 199, 200, 480, 720, 1000, 1440, 5760, 10080, 5761439, -1, 5761440] _ _ _ wx B sb _ hm.k (by omega) (by simp) (by simp) (hm.blkI 0 rfl) (hm.neRow 0 rfl rfl))) fun v2 hv2 => ?_
  have bv2 : -1 ≤ v2 ∧ v2 ≤ 5761440 := mem_rng hv2 (by decide)
  have bv20 := bv2.1
  have bv21 := bv2.2
  clear bv2
  refine wl_ov (ov_assign rfl) rfl ?_
  refine wl_nil ?_
  refine nx_then ?_
  refine gw_ret ?_
  refine nx_ret1 rfl rfl fun wx hm => ?_
  exact ⟨v2, rfl, by omega, hm.k, hm.g⟩

set_option maxRecDepth 100000 in
set_option maxHeartbeats 400000 in
theorem gtiers_any (w : World) (B sb m : Nat) (hS : Strm 25 w B sb m) (hm : m ≤ 100000000000) :
    Calls Tryd.prog 20 #[.pointer (some ⟨sb, 0, none⟩)] w (fun e w' => ∃ (A : Option Addr) (n c : Nat) (l : List Tr), e = .returned (.slice A n c) ∧ SlT trEnc 2 141 w' A n l ∧ n ≤ 3 ∧ Strm 25 w' B sb (m + 1) ∧ w.grownBy w' (some sb)) := by
  refine gw_enter ⟨28, w, (some sb), []⟩ Tryd.func20 rfl Tryd.ntmps20 rfl (memS (X := []) hS allF_nil allL_nil) ?_
  refine gw_seq ?_
  refine gw_region ?_
  refine wl_ov (ov_assign rfl) rfl ?_
  refine wl_nil ?_
  refine nx_then ?_
  refine gw_seq ?_
  refine gw_region ?_
  refine wl_ov (ov_build (cs := [.int .i64 1000, .int .i64 100]) rfl (by kernel_rfl)) rfl ?_
  refine wl_buildSlice (e := 141) (cs := [.int .i64 1000, .int .i64 100]) rfl (by kernel_rfl) rfl fun g1 => ?_
  refine wl_ov (ov_build (cs := [.int .i64 1000, .int .i64 100]) rfl (by kernel_rfl)) rfl ?_
  refine wl_ov (ov_build (cs := [.int .i64 60, .int .i64 500]) rfl (by kernel_rfl)) rfl ?_
  refine wl_ov (ov_build (cs := [.int .i64 1, .int .i64 1000]) rfl (by kernel_rfl)) rfl ?_
  refine wl_buildSlice (e := 141) (cs := [.int .i64 1000, .int .i64 100, .int .i64 60, .int .i64 500, .int .i64 1, .int .i64 1000]) rfl (by kernel_rfl) rfl fun g2 => ?_
  refine wl_ov (ov_build (cs := [.int .i64 10, .int .i64 300]) rfl (by kernel_rfl)) rfl ?_
  refine wl_ov (ov_build (cs := [.int .i64 9, .int .i64 300]) rfl (by kernel_rfl)) rfl ?_
  refine wl_buildSlice (e := 141) (cs := [.int .i64 10, .int .i64 300, .int .i64 9, .int .i64 300]) rfl (by kernel_rfl) rfl fun g3 => ?_
  refine wl_ov (ov_build (cs := [.int .i64 5, .int .i64 1]) rfl (by kernel_rfl)) rfl ?_
  refine wl_ov (ov_build (cs := [.int .i64 5, .int .i64 2]) rfl (by kernel_rfl)) rfl ?_
  refine wl_buildSlice (e := 141) (cs := [.int .i64 5, .int .i64 1, .int .i64 5, .int .i64 2]) rfl (by kernel_rfl) rfl fun g4 => ?_
  refine wl_ov (ov_build (cs := [.int .i64 0, .int .i64 1]) rfl (by kernel_rfl)) rfl ?_
  refine wl_buildSlice (e := 141) (cs := [.int .i64 0, .int .i64 1]) rfl (by kernel_rfl) rfl fun g5 => ?_
  refine wl_ov (ov_build (cs := [.int .i64 9, .int .i64 1001]) rfl (by kernel_rfl)) rfl ?_
  refine wl_buildSlice (e := 141) (cs := [.int .i64 9, .int .i64 1001]) rfl (by kernel_rfl) rfl fun g6 => ?_
  refine wl_ov (ov_build (cs := [.int .i64 9, .int .i64 500]) rfl (by kernel_rfl)) rfl ?_
  refine wl_ov (ov_build (cs := [.int .i64 5, .int .i64 400]) rfl (by kernel_rfl)) rfl ?_
  refine wl_buildSlice (e := 141) (cs := [.int .i64 9, .int .i64 500, .int .i64 5, .int .i64 400]) rfl (by kernel_rfl) rfl fun g7 => ?_
  refine wl_buildSlice (e := 43) (cs := [.slice none 0 0, .slice (some ⟨g1, 0, none⟩) 1 1, .slice (some ⟨g2, 0, none⟩) 3 3, .slice (some ⟨g3, 0, none⟩) 2 2, .slice (some ⟨g4, 0, none⟩) 2 2, .slice (some ⟨g5, 0, none⟩) 1 1, .slice (some ⟨g6, 0, none⟩) 1 1, .slice (some ⟨g7, 0, none⟩) 2 2]) rfl (by kernel_rfl) rfl fun g8 => ?_
  refine wl_ov (ov_move rfl) rfl ?_
  refine wl_buildSlice (e := 3) (cs := [.int .i64 0, .int .i64 1, .int .i64 1, .int .i64 2, .int .i64 2, .int .i64 2, .int .i64 3, .int .i64 3, .int .i64 4, .int .i64 5, .int .i64 6, .int .i64 7]) rfl (by kernel_rfl) rfl fun g9 => ?_
  refine wl_got (γ := Int) (val := fun v => .int .i64 v) (φ := fun v => v ∈ ([0, 1, 1, 2, 2, 2, 3, 3, 4, 5, 6, 7] : List Int)) rfl cb15 rfl rfl rfl rfl (fun wx hm => (pick_any [0, 1, 1, 2, 2, 2, 3, 3, 4, 5, 6, 7] _ _ _ wx B sb _ hm.k (by omega) (by simp) (by simp) (hm.blkI 0 rfl) (hm.neRow 0 rfl rfl))) fun v hv => ?_
  have bv : 0 ≤ v ∧ v ≤ 7 := mem_rng hv (by decide)
  have bv0 := bv.1
  have bv1 := bv.2
  clear bv
  obtain hv10 | hv10 | hv10 | hv10 | hv10 | hv10 | hv10 | hv10 : v = 0 ∨ v = 1 ∨ v = 2 ∨ v = 3 ∨ v = 4 ∨ v = 5 ∨ v = 6 ∨ v = 7 := (by simp at hv; omega)
  · subst hv10
    refine wl_ov (ov_index (j := 0) es142 rfl rfl (by decide)) rfl ?_
    refine wl_ov (ov_load sc43 rfl (fun _ hm => hm.blkI 1 rfl) rfl) rfl ?_
    refine wl_ov (ov_assign rfl) rfl ?_
    refine wl_nil ?_
    refine nx_then ?_
    refine gw_ret ?_
    refine nx_ret1 rfl rfl fun wx hm => ?_
    exact ⟨none, 0, 0, [], rfl, SlT.nil_ _ _, by omega, hm.k, hm.g⟩
  · subst hv10
    refine wl_ov (ov_index (j := 1) es142 rfl rfl (by decide)) rfl ?_
    refine wl_ov (ov_load sc43 rfl (fun _ hm => hm.blkI 1 rfl) rfl) rfl ?_
    refine wl_ov (ov_assign rfl) rfl ?_
    refine wl_nil ?_
    refine nx_then ?_
    refine gw_ret ?_
    refine nx_ret1 rfl rfl fun wx hm => ?_
    exact ⟨some ⟨g1, 0, none⟩, 1, 1, [⟨1000, 100⟩], rfl, SlT.ofBlk (l := [⟨1000, 100⟩]) tr_len (hm.blkI 8 rfl), by omega, hm.k, hm.g⟩
  · subst hv10
    refine wl_ov (ov_index (j := 2) es142 rfl rfl (by decide)) rfl ?_
    refine wl_ov (ov_load sc43 rfl (fun _ hm => hm.blkI 1 rfl) rfl) rfl ?_
    refine wl_ov (ov_assign rfl) rfl ?_
    refine wl_nil ?_
    refine nx_then ?_
    refine gw_ret ?_
    refine nx_ret1 rfl rfl fun wx hm => ?_
    exact ⟨some ⟨g2, 0, none⟩, 3, 3, [⟨1000, 100⟩, ⟨60, 500⟩, ⟨1, 1000⟩], rfl, SlT.ofBlk (l := [⟨1000, 100⟩, ⟨60, 500⟩, ⟨1, 1000⟩]) tr_len (hm.blkI 7 rfl), by omega, hm.k, hm.g⟩
  · subst hv10
    refine wl_ov (ov_index (j := 3) es142 rfl rfl (by decide)) rfl ?_
    refine wl_ov (ov_load sc43 rfl (fun _ hm => hm.blkI 1 rfl) rfl) rfl ?_
    refine wl_ov (ov_assign rfl) rfl ?_
    refine wl_nil ?_
    refine nx_then ?_
    refine gw_ret ?_
    refine nx_ret1 rfl rfl fun wx hm => ?_
    exact ⟨some ⟨g3, 0, none⟩, 2, 2, [⟨10, 300⟩, ⟨9, 300⟩], rfl, SlT.ofBlk (l := [⟨10, 300⟩, ⟨9, 300⟩]) tr_len (hm.blkI 6 rfl), by omega, hm.k, hm.g⟩
  · subst hv10
    refine wl_ov (ov_index (j := 4) es142 rfl rfl (by decide)) rfl ?_
    refine wl_ov (ov_load sc43 rfl (fun _ hm => hm.blkI 1 rfl) rfl) rfl ?_
    refine wl_ov (ov_assign rfl) rfl ?_
    refine wl_nil ?_
    refine nx_then ?_
    refine gw_ret ?_
    refine nx_ret1 rfl rfl fun wx hm => ?_
    exact ⟨some ⟨g4, 0, none⟩, 2, 2, [⟨5, 1⟩, ⟨5, 2⟩], rfl, SlT.ofBlk (l := [⟨5, 1⟩, ⟨5, 2⟩]) tr_len (hm.blkI 5 rfl), by omega, hm.k, hm.g⟩
  · subst hv10
    refine wl_ov (ov_index (j := 5) es142 rfl rfl (by decide)) rfl ?_
    refine wl_ov (ov_load sc43 rfl (fun _ hm => hm.blkI 1 rfl) rfl) rfl ?_
    refine wl_ov (ov_assign rfl) rfl ?_
    refine wl_nil ?_
    refine nx_then ?_
    refine gw_ret ?_
    refine nx_ret1 rfl rfl fun wx hm => ?_
    exact ⟨some ⟨g5, 0, none⟩, 1, 1, [⟨0, 1⟩], rfl, SlT.ofBlk (l := [⟨0, 1⟩]) tr_len (hm.blkI 4 rfl), by omega, hm.k, hm.g⟩
  · subst hv10
    refine wl_ov (ov_index (j := 6) es142 rfl rfl (by decide)) rfl ?_
    refine wl_ov (ov_load sc43 rfl (fun _ hm => hm.blkI 1 rfl) rfl) rfl ?_
    refine wl_ov (ov_assign rfl) rfl ?_
    refine wl_nil ?_
    refine nx_then ?_
    refine gw_ret ?_
    refine nx_ret1 rfl rfl fun wx hm => ?_
    exact ⟨some ⟨g6, 0, none⟩, 1, 1, [⟨9, 1001⟩], rfl, SlT.ofBlk (l := [⟨9, 1001⟩]) tr_len (hm.blkI 3 rfl), by omega, hm.k, hm.g⟩
  · subst hv10
    refine wl_ov (ov_index (j := 7) es142 rfl rfl (by decide)) rfl ?_
    refine wl_ov (ov_load sc43 rfl (fun _ hm => hm.blkI 1 rfl) rfl) rfl ?_
    refine wl_ov (ov_assign rfl) rfl ?_
    refine wl_nil ?_
    refine nx_then ?_
    refine gw_ret ?_
    refine nx_ret1 rfl rfl fun wx hm => ?_
    exact ⟨some ⟨g7, 0, none⟩, 2, 2, [⟨9, 500⟩, ⟨5, 400⟩], rfl, SlT.ofBlk (l := [⟨9, 500⟩, ⟨5, 400⟩]) tr_len (hm.blkI 2 rfl), by omega, hm.k, hm.g⟩

set_option maxRecDepth 100000 in
set_option maxHeartbeats 400000 in
theorem gmore_any (w : World) (B sb m : Nat) (hS : Strm 25 w B sb m) (hm : m ≤ 100000000000) :
    Calls Tryd.prog 21 #[.pointer (some ⟨sb, 0, none⟩)] w (fun e w' => ∃ b : Bk, e = .returned (.agg (bkEnc b).toArray) ∧ BkOk b ∧ (0 ≤ b.fr ∧ b.fr ≤ 5761410) ∧ Strm 25 w' B sb (m + 20) ∧ w.grownBy w' (some sb)) := by
  refine gw_enter ⟨34, w, (some sb), []⟩ Tryd.func21 rfl Tryd.ntmps21 rfl (memS (X := []) hS allF_nil allL_nil) ?_
  refine gw_seq ?_
  refine gw_region ?_
  refine wl_alloc zc46 rfl fun g1 => ?_
  refine wl_nil ?_
  refine nx_then ?_
  refine gw_seq ?_
  refine gw_region ?_
  refine wl_ov (ov_move rfl) rfl ?_
  refine wl_buildSlice (e := 9) (cs := [.string ⟨#[98, 122]⟩, .string ⟨#[98, 122]⟩, .string ⟨#[97, 97]⟩, .string ⟨#[98, 97]⟩]) rfl (by kernel_rfl) rfl fun g2 => ?_
  refine wl_got (γ := ByteArray) (val := fun v => .string v) (φ := fun v => v ∈ ([⟨#[98, 122]⟩, ⟨#[98, 122]⟩, ⟨#[97, 97]⟩, ⟨#[98, 97]⟩] : List ByteArray)) rfl cb12 rfl rfl rfl rfl (fun wx hm => (some_any [⟨#[98, 122]⟩, ⟨#[98, 122]⟩, ⟨#[97, 97]⟩, ⟨#[98, 97]⟩] _ _ _ wx B sb _ hm.k (by omega) (by simp) (by simp) (hm.blkI 0 rfl) (hm.neRow 0 rfl rfl))) fun s3 hs3 => ?_
  have zs3 : s3.size ≤ 100 := mem_sz hs3 (by decide)
  refine wl_ov (ov_move rfl) rfl ?_
  refine wl_buildSlice (e := 9) (cs := [.string ⟨#[109, 105, 110, 105]⟩, .string ⟨#[109, 105, 100, 105]⟩, .string ⟨#[98, 105, 103]⟩, .string ⟨#[109, 97, 120, 105]⟩, .string ⟨#[110, 111, 110, 101]⟩]) rfl (by kernel_rfl) rfl fun g4 => ?_
  refine wl_got (γ := ByteArray) (val := fun v => .string v) (φ := fun v => v ∈ ([⟨#[109, 105, 110, 105]⟩, ⟨#[109, 105, 100, 105]⟩, ⟨#[98, 105, 103]⟩, ⟨#[109, 97, 120, 105]⟩, ⟨#[110, 111, 110, 101]⟩] : List ByteArray)) rfl cb12 rfl rfl rfl rfl (fun wx hm => (some_any [⟨#[109, 105, 110, 105]⟩, ⟨#[109, 105, 100, 105]⟩, ⟨#[98, 105, 103]⟩, ⟨#[109, 97, 120, 105]⟩, ⟨#[110, 111, 110, 101]⟩] _ _ _ wx B sb _ hm.k (by omega) (by simp) (by simp) (hm.blkI 0 rfl) (hm.neRow 0 rfl rfl))) fun s5 hs5 => ?_
  have zs5 : s5.size ≤ 100 := mem_sz hs5 (by decide)
  refine wl_ov (ov_build (cs := [.string s3, .string s5, .int .i64 0, .int .i64 0, .int .i64 0, .int .i64 50]) rfl (by kernel_rfl)) rfl ?_
  refine wl_alloc zc46 rfl fun g6 => ?_
  refine wl_stores (cs' := [.string s3, .string s5, .int .i64 0, .int .i64 0, .int .i64 0, .int .i64 50]) 0 rz46 rfl rfl rfl rfl rfl rfl rfl rfl ?_
  refine wl_nil ?_
  refine nx_then ?_
  refine gw_seq ?_
  refine gw_region ?_
  refine wl_ov (ov_move rfl) rfl ?_
  refine wl_buildSlice (e := 3) (cs := [.int .i64 0, .int .i64 10, .int .i64 15, .int .i64 25, .int .i64 5761410]) rfl (by kernel_rfl) rfl fun g7 => ?_
  refine wl_got (γ := Int) (val := fun v => .int .i64 v) (φ := fun v => v ∈ ([0, 10, 15, 25, 5761410] : List Int)) rfl cb15 rfl rfl rfl rfl (fun wx hm => (pick_any [0, 10, 15, 25, 5761410] _ _ _ wx B sb _ hm.k (by omega) (by simp) (by simp) (hm.blkI 0 rfl) (hm.neRow 0 rfl rfl))) fun v8 hv8 => ?_
  have bv8 : 0 ≤ v8 ∧ v8 ≤ 5761410 := mem_rng hv8 (by decide)
  have bv80 := bv8.1
  have bv81 := bv8.2
  clear bv8
  refine wl_ov (ov_field fo46_2 rfl rfl) rfl ?_
  refine wl_ov (ov_field fo28_0 rfl rfl) rfl ?_
  refine wl_store 1 sc3 rfl rfl rfl rfl rfl rfl ?_
  refine wl_nil ?_
  refine nx_then ?_
  refine gw_cut (γ := Int) (I := (fun (v1 : Int) => v1 ≤ 10000000000 ∧ -1 ≤ v1)) (S' := (fun (v1 : Int) => [(0, .pointer (some ⟨sb, 0, none⟩)), (2, .pointer (some ⟨g1, 0, none⟩)), (3, .pointer (some ⟨g6, 0, none⟩))])) (K' := (fun (v1 : Int) => fun w => Strm 25 w B sb (m + 1 + 1 + 1 + 1))) (L' := (fun (v1 : Int) => [(g7, 3, [.int .i64 0, .int .i64 10, .int .i64 15, .int .i64 25, .int .i64 5761410]), (g6, 46, [.string s3, .string s5, .int .i64 v8, .int .i64 v1, .int .i64 0, .int .i64 50]), (g4, 9, [.string ⟨#[109, 105, 110, 105]⟩, .string ⟨#[109, 105, 100, 105]⟩, .string ⟨#[98, 105, 103]⟩, .string ⟨#[109, 97, 120, 105]⟩, .string ⟨#[110, 111, 110, 101]⟩]), (g2, 9, [.string ⟨#[98, 122]⟩, .string ⟨#[98, 122]⟩, .string ⟨#[97, 97]⟩, .string ⟨#[98, 97]⟩]), (g1, 46, [.string ⟨#[]⟩, .string ⟨#[]⟩, .int .i64 0, .int .i64 0, .int .i64 0, .int .i64 0])])) (O' := (fun (v1 : Int) => [])) (X' := (fun (v1 : Int) => [])) ?_ ?_
  · refine gw_draw (fun wz => Blk wz g7 3 [.int .i64 0, .int .i64 10, .int .i64 15, .int .i64 25, .int .i64 5761410] ∧ Blk wz g4 9 [.string ⟨#[109, 105, 110, 105]⟩, .string ⟨#[109, 105, 100, 105]⟩, .string ⟨#[98, 105, 103]⟩, .string ⟨#[109, 97, 120, 105]⟩, .string ⟨#[110, 111, 110, 101]⟩] ∧ Blk wz g2 9 [.string ⟨#[98, 122]⟩, .string ⟨#[98, 122]⟩, .string ⟨#[97, 97]⟩, .string ⟨#[98, 97]⟩] ∧ Blk wz g1 46 [.string ⟨#[]⟩, .string ⟨#[]⟩, .int .i64 0, .int .i64 0, .int .i64 0, .int .i64 0] ∧ True) mixed ?_
    refine wa_take 0 rfl (by kernel_rfl) (by kernel_rfl) (by kernel_rfl) (listed' := #[true, false, false, false, false, false, false, false, false, false]) rfl (fun _ _ _ h => h) (fun _ hm => ⟨hm.blkI 0 rfl, hm.blkI 2 rfl, hm.blkI 3 rfl, hm.blkI 4 rfl, trivial⟩) (ov_field fo46_2 rfl rfl) rfl ?_
    refine wa_take 1 rfl (by kernel_rfl) (by kernel_rfl) (by kernel_rfl) (listed' := #[true, true, false, false, false, false, false, false, false, false]) rfl (fun _ _ _ h => h) (fun _ hm => ⟨hm.blkI 0 rfl, hm.blkI 2 rfl, hm.blkI 3 rfl, hm.blkI 4 rfl, trivial⟩) (ov_field fo28_0 rfl rfl) rfl ?_
    refine wa_take 3 rfl (by kernel_rfl) (by kernel_rfl) (by kernel_rfl) (listed' := #[true, true, false, true, false, false, false, false, false, false]) rfl (fun _ _ _ h => h) (fun _ hm => ⟨hm.blkI 0 rfl, hm.blkI 2 rfl, hm.blkI 3 rfl, hm.blkI 4 rfl, trivial⟩) (ov_move rfl) rfl ?_
    refine wa_all [2, 4] (by kernel_rfl) rfl ⟨⟨_, rfl, ?_⟩, ⟨_, rfl, ?_⟩, trivial⟩
    · refine wl_ov (ov_load sc3 rfl (fun _ hm => hm.blkI 1 rfl) rfl) rfl ?_
      refine wl_nil ?_
      refine nx_wa0 (listed' := #[true, true, true, true, false, false, false, false, false, false]) rfl (fun _ hm => ⟨hm.blkI 0 rfl, hm.blkI 2 rfl, hm.blkI 3 rfl, hm.blkI 4 rfl, trivial⟩) ?_
      refine wa_all [4] (by kernel_rfl) rfl ⟨⟨_, rfl, ?_⟩, trivial⟩
      refine wl_buildSlice (e := 3) (cs := [.int .i64 1, .int .i64 5, .int .i64 10, .int .i64 10, .int .i64 29, .int .i64 0]) rfl (by kernel_rfl) rfl fun g9 => ?_
      refine wl_nil ?_
      refine nx_wa0 (listed' := #[true, true, true, true, true, false, false, false, false, false]) rfl (fun _ hm => ⟨hm.blkI 1 rfl, hm.blkI 3 rfl, hm.blkI 4 rfl, hm.blkI 5 rfl, trivial⟩) ?_
      refine wa_all [5] (by kernel_rfl) rfl ⟨⟨_, rfl, ?_⟩, trivial⟩
      refine wl_got (γ := Int) (val := fun v => .int .i64 v) (φ := fun v => v ∈ ([1, 5, 10, 10, 29, 0] : List Int)) rfl cb15 rfl rfl rfl rfl (fun wx hm => (pick_any [1, 5, 10, 10, 29, 0] _ _ _ wx B sb _ hm.k (by omega) (by simp) (by simp) (hm.blkI 0 rfl) (hm.neRow 0 rfl rfl))) fun v10 hv10 => ?_
      have bv10 : 0 ≤ v10 ∧ v10 ≤ 29 := mem_rng hv10 (by decide)
      have bv100 := bv10.1
      have bv101 := bv10.2
      clear bv10
      refine wl_nil ?_
      refine nx_wa0 (listed' := #[true, true, true, true, true, true, false, false, false, false]) rfl (fun _ hm => ⟨hm.blkI 1 rfl, hm.blkI 3 rfl, hm.blkI 4 rfl, hm.blkI 5 rfl, trivial⟩) ?_
      refine wa_take 6 rfl (by kernel_rfl) (by kernel_rfl) (by kernel_rfl) (listed' := #[true, true, true, true, true, true, true, false, false, false]) rfl (fun _ _ _ h => h) (fun _ hm => ⟨hm.blkI 1 rfl, hm.blkI 3 rfl, hm.blkI 4 rfl, hm.blkI 5 rfl, trivial⟩) (ov_add rfl rfl (by omega) (by omega)) rfl ?_
      refine wa_take 7 rfl (by kernel_rfl) (by kernel_rfl) (by kernel_rfl) (listed' := #[true, true, true, true, true, true, true, true, false, false]) rfl (fun _ _ _ h => h) (fun _ hm => ⟨hm.blkI 1 rfl, hm.blkI 3 rfl, hm.blkI 4 rfl, hm.blkI 5 rfl, trivial⟩) (ov_field fo46_2 rfl rfl) rfl ?_
      refine wa_take 8 rfl (by kernel_rfl) (by kernel_rfl) (by kernel_rfl) (listed' := #[true, true, true, true, true, true, true, true, true, false]) rfl (fun _ _ _ h => h) (fun _ hm => ⟨hm.blkI 1 rfl, hm.blkI 3 rfl, hm.blkI 4 rfl, hm.blkI 5 rfl, trivial⟩) (ov_field fo28_1 rfl rfl) rfl ?_
      refine wa_all [9] (by kernel_rfl) rfl ⟨⟨_, rfl, ?_⟩, trivial⟩
      refine wl_store 2 sc3 rfl rfl rfl rfl rfl rfl ?_
      refine wl_nil ?_
      refine nx_wa0 (listed' := #[true, true, true, true, true, true, true, true, true, true]) rfl (fun _ hm => ⟨hm.blkI 1 rfl, hm.blkI 3 rfl, hm.blkI 4 rfl, hm.blkI 5 rfl, trivial⟩) ?_
      refine wa_done (by kernel_rfl) ?_
      exact nx_meet (v8 + v10) (by omega) ⟨rfl, rfl, rfl, trivial⟩ (fun _ hm => hm.pick [1, 2, 3, 4, 5] [] [] rfl rfl)
    · refine wl_buildSlice (e := 3) (cs := [.int .i64 1, .int .i64 5, .int .i64 10, .int .i64 10, .int .i64 29, .int .i64 0]) rfl (by kernel_rfl) rfl fun g11 => ?_
      refine wl_nil ?_
      refine nx_wa0 (listed' := #[true, true, false, true, true, false, false, false, false, false]) rfl (fun _ hm => ⟨hm.blkI 1 rfl, hm.blkI 3 rfl, hm.blkI 4 rfl, hm.blkI 5 rfl, trivial⟩) ?_
      refine wa_all [2, 5] (by kernel_rfl) rfl ⟨⟨_, rfl, ?_⟩, ⟨_, rfl, ?_⟩, trivial⟩
      · refine wl_ov (ov_load sc3 rfl (fun _ hm => hm.blkI 2 rfl) rfl) rfl ?_
        refine wl_nil ?_
        refine nx_wa0 (listed' := #[true, true, true, true, true, false, false, false, false, false]) rfl (fun _ hm => ⟨hm.blkI 1 rfl, hm.blkI 3 rfl, hm.blkI 4 rfl, hm.blkI 5 rfl, trivial⟩) ?_
        refine wa_all [5] (by kernel_rfl) rfl ⟨⟨_, rfl, ?_⟩, trivial⟩
        refine wl_got (γ := Int) (val := fun v => .int .i64 v) (φ := fun v => v ∈ ([1, 5, 10, 10, 29, 0] : List Int)) rfl cb15 rfl rfl rfl rfl (fun wx hm => (pick_any [1, 5, 10, 10, 29, 0] _ _ _ wx B sb _ hm.k (by omega) (by simp) (by simp) (hm.blkI 0 rfl) (hm.neRow 0 rfl rfl))) fun v12 hv12 => ?_
        have bv12 : 0 ≤ v12 ∧ v12 ≤ 29 := mem_rng hv12 (by decide)
        have bv120 := bv12.1
        have bv121 := bv12.2
        clear bv12
        refine wl_nil ?_
        refine nx_wa0 (listed' := #[true, true, true, true, true, true, false, false, false, false]) rfl (fun _ hm => ⟨hm.blkI 1 rfl, hm.blkI 3 rfl, hm.blkI 4 rfl, hm.blkI 5 rfl, trivial⟩) ?_
        refine wa_take 6 rfl (by kernel_rfl) (by kernel_rfl) (by kernel_rfl) (listed' := #[true, true, true, true, true, true, true, false, false, false]) rfl (fun _ _ _ h => h) (fun _ hm => ⟨hm.blkI 1 rfl, hm.blkI 3 rfl, hm.blkI 4 rfl, hm.blkI 5 rfl, trivial⟩) (ov_add rfl rfl (by omega) (by omega)) rfl ?_
        refine wa_take 7 rfl (by kernel_rfl) (by kernel_rfl) (by kernel_rfl) (listed' := #[true, true, true, true, true, true, true, true, false, false]) rfl (fun _ _ _ h => h) (fun _ hm => ⟨hm.blkI 1 rfl, hm.blkI 3 rfl, hm.blkI 4 rfl, hm.blkI 5 rfl, trivial⟩) (ov_field fo46_2 rfl rfl) rfl ?_
        refine wa_take 8 rfl (by kernel_rfl) (by kernel_rfl) (by kernel_rfl) (listed' := #[true, true, true, true, true, true, true, true, true, false]) rfl (fun _ _ _ h => h) (fun _ hm => ⟨hm.blkI 1 rfl, hm.blkI 3 rfl, hm.blkI 4 rfl, hm.blkI 5 rfl, trivial⟩) (ov_field fo28_1 rfl rfl) rfl ?_
        refine wa_all [9] (by kernel_rfl) rfl ⟨⟨_, rfl, ?_⟩, trivial⟩
        refine wl_store 2 sc3 rfl rfl rfl rfl rfl rfl ?_
        refine wl_nil ?_
        refine nx_wa0 (listed' := #[true, true, true, true, true, true, true, true, true, true]) rfl (fun _ hm => ⟨hm.blkI 1 rfl, hm.blkI 3 rfl, hm.blkI 4 rfl, hm.blkI 5 rfl, trivial⟩) ?_
        refine wa_done (by kernel_rfl) ?_
        exact nx_meet (v8 + v12) (by omega) ⟨rfl, rfl, rfl, trivial⟩ (fun _ hm => hm.pick [1, 2, 3, 4, 5] [] [] rfl rfl)
      · refine wl_got (γ := Int) (val := fun v => .int .i64 v) (φ := fun v => v ∈ ([1, 5, 10, 10, 29, 0] : List Int)) rfl cb15 rfl rfl rfl rfl (fun wx hm => (pick_any [1, 5, 10, 10, 29, 0] _ _ _ wx B sb _ hm.k (by omega) (by simp) (by simp) (hm.blkI 0 rfl) (hm.neRow 0 rfl rfl))) fun v13 hv13 => ?_
        have bv13 : 0 ≤ v13 ∧ v13 ≤ 29 := mem_rng hv13 (by decide)
        have bv130 := bv13.1
        have bv131 := bv13.2
        clear bv13
        refine wl_nil ?_
        refine nx_wa0 (listed' := #[true, true, false, true, true, true, false, false, false, false]) rfl (fun _ hm => ⟨hm.blkI 1 rfl, hm.blkI 3 rfl, hm.blkI 4 rfl, hm.blkI 5 rfl, trivial⟩) ?_
        refine wa_all [2] (by kernel_rfl) rfl ⟨⟨_, rfl, ?_⟩, trivial⟩
        refine wl_ov (ov_load sc3 rfl (fun _ hm => hm.blkI 2 rfl) rfl) rfl ?_
        refine wl_nil ?_
        refine nx_wa0 (listed' := #[true, true, true, true, true, true, false, false, false, false]) rfl (fun _ hm => ⟨hm.blkI 1 rfl, hm.blkI 3 rfl, hm.blkI 4 rfl, hm.blkI 5 rfl, trivial⟩) ?_
        refine wa_take 6 rfl (by kernel_rfl) (by kernel_rfl) (by kernel_rfl) (listed' := #[true, true, true, true, true, true, true, false, false, false]) rfl (fun _ _ _ h => h) (fun _ hm => ⟨hm.blkI 1 rfl, hm.blkI 3 rfl, hm.blkI 4 rfl, hm.blkI 5 rfl, trivial⟩) (ov_add rfl rfl (by omega) (by omega)) rfl ?_
        refine wa_take 7 rfl (by kernel_rfl) (by kernel_rfl) (by kernel_rfl) (listed' := #[true, true, true, true, true, true, true, true, false, false]) rfl (fun _ _ _ h => h) (fun _ hm => ⟨hm.blkI 1 rfl, hm.blkI 3 rfl, hm.blkI 4 rfl, hm.blkI 5 rfl, trivial⟩) (ov_field fo46_2 rfl rfl) rfl ?_
        refine wa_take 8 rfl (by kernel_rfl) (by kernel_rfl) (by kernel_rfl) (listed' := #[true, true, true, true, true, true, true, true, true, false]) rfl (fun _ _ _ h => h) (fun _ hm => ⟨hm.blkI 1 rfl, hm.blkI 3 rfl, hm.blkI 4 rfl, hm.blkI 5 rfl, trivial⟩) (ov_field fo28_1 rfl rfl) rfl ?_
        refine wa_all [9] (by kernel_rfl) rfl ⟨⟨_, rfl, ?_⟩, trivial⟩
        refine wl_store 2 sc3 rfl rfl rfl rfl rfl rfl ?_
        refine wl_nil ?_
        refine nx_wa0 (listed' := #[true, true, true, true, true, true, true, true, true, true]) rfl (fun _ hm => ⟨hm.blkI 1 rfl, hm.blkI 3 rfl, hm.blkI 4 rfl, hm.blkI 5 rfl, trivial⟩) ?_
        refine wa_done (by kernel_rfl) ?_
        exact nx_meet (v8 + v13) (by omega) ⟨rfl, rfl, rfl, trivial⟩ (fun _ hm => hm.pick [1, 2, 3, 4, 5] [] [] rfl rfl)
  · intro v1 hinv
    replace hinv : v1 ≤ 10000000000 ∧ -1 ≤ v1 := hinv
    refine gw_seq ?_
    refine gw_seq ?_
    refine gw_region ?_
    obtain ⟨hv1, hv2⟩ := hinv
    refine wl_ov (ov_move rfl) rfl ?_
    refine wl_got (γ := Bool) (val := fun v => .bool v) (φ := fun v => True) rfl cb23 rfl rfl rfl rfl (fun wx hm => ((flip_any _ wx B sb _ hm.k (by omega) (by omega) (by omega)).mono fun _ _ ⟨v, he, hS, hg⟩ => ⟨v, trivial, he, hS, hg⟩)) fun f14 _ => ?_
    refine wl_nil ?_
    refine nx_then ?_
    refine gw_cond rfl (fun hh => ?_) (fun hh => ?_)
    · have hf : f14 = true := by simpa using hh
      clear hh
      refine gw_region ?_
      refine wl_ov (ov_move rfl) rfl ?_
      refine wl_got (γ := Int) (val := fun v => .int .i64 v) (φ := fun v => -2000000000000000 ≤ v ∧ v ≤ 2000000000000000) rfl cb34 rfl rfl rfl rfl (fun wx hm => (odd_any _ _ wx B sb _ hm.k (by omega) (by omega) (by omega) (by omega))) fun v15 hv15 => ?_
      refine wl_ov (ov_move rfl) rfl ?_
      refine wl_got (γ := Int) (val := fun v => .int .i64 v) (φ := fun v => -2000000000000000 ≤ v ∧ v ≤ 2000000000000000) rfl cb34 rfl rfl rfl rfl (fun wx hm => (odd_any _ _ wx B sb _ hm.k (by omega) (by omega) (by omega) (by omega))) fun v16 hv16 => ?_
      refine wl_ov (ov_field fo46_4 rfl rfl) rfl ?_
      refine wl_store 1 sc3 rfl rfl rfl rfl rfl rfl ?_
      refine wl_ov (ov_field fo46_3 rfl rfl) rfl ?_
      refine wl_store 1 sc3 rfl rfl rfl rfl rfl rfl ?_
      refine wl_nil ?_
      refine nx_then ?_
      refine gw_seq ?_
      refine gw_region ?_
      refine wl_ov (ov_loads rz46 rfl (fun _ hm => hm.blkI 1 rfl) rfl rfl) rfl ?_
      refine wl_stores (cs' := [.string s3, .string s5, .int .i64 v8, .int .i64 v1, .int .i64 v16, .int .i64 v15]) 4 rz46 rfl rfl rfl rfl rfl rfl rfl rfl ?_
      refine wl_nil ?_
      refine nx_then ?_
      refine gw_ret ?_
      refine nx_retc 4 rfl rz46 rfl rfl rfl fun wx hm => ?_
      exact ⟨⟨s3, s5, v8, v1, v16, v15⟩, rfl, ⟨show s3.size ≤ 1000000 by omega, show s5.size ≤ 1000000 by omega⟩, show 0 ≤ v8 ∧ v8 ≤ 5761410 by omega, hm.k.more (by omega), hm.g⟩
    · have hf : f14 = false := by simpa using hh
      clear hh
      refine gw_skip ?_
      refine nx_then ?_
      refine gw_seq ?_
      refine gw_region ?_
      refine wl_ov (ov_loads rz46 rfl (fun _ hm => hm.blkI 1 rfl) rfl rfl) rfl ?_
      refine wl_stores (cs' := [.string s3, .string s5, .int .i64 v8, .int .i64 v1, .int .i64 0, .int .i64 50]) 4 rz46 rfl rfl rfl rfl rfl rfl rfl rfl ?_
      refine wl_nil ?_
      refine nx_then ?_
      refine gw_ret ?_
      refine nx_retc 4 rfl rz46 rfl rfl rfl fun wx hm => ?_
      exact ⟨⟨s3, s5, v8, v1, 0, 50⟩, rfl, ⟨show s3.size ≤ 1000000 by omega, show s5.size ≤ 1000000 by omega⟩, show 0 ≤ v8 ∧ v8 ≤ 5761410 by omega, hm.k.more (by omega), hm.g⟩

set_option maxRecDepth 100000 in
set_option maxHeartbeats 400000 in
theorem momentFault_any (n : Int) (w : World) : Calls Tryd.prog 30 #[.int .i64 n] w (GotE w (momentE n)) := by
  refine gw_enter ⟨7, w, none, []⟩ Tryd.func30 rfl Tryd.ntmps30 rfl (mem0 (X := []) allF_nil allL_nil) ?_
  refine gw_seq ?_
  refine gw_region ?_
  refine wl_ov (ov_assign rfl) rfl ?_
  refine wl_nil ?_
  refine nx_then ?_
  refine gw_seq ?_
  refine gw_region ?_
  refine wl_ov (ov_move rfl) rfl ?_
  refine wl_callw rfl cb103 rfl rfl (fun wx hm => (rmoment_any _ wx)) ?_
  refine wl_ov (ov_un_not rfl) rfl ?_
  refine wl_callw rfl cb29 rfl rfl (fun wx hm => (rwhen_any _ _ wx)) ?_
  refine wl_ov (ov_assign rfl) rfl ?_
  refine wl_nil ?_
  refine nx_then ?_
  refine gw_ret ?_
  refine nx_ret1 rfl rfl fun wx hm => ?_
  exact ⟨rfl, hm.g⟩

/-- What is wrong with a cancelling. -/
def cancelE (l : List Tr) (b : Bk) (v mo : Int) : Int := firstE [tiersE l, formE [b], whenE (!inB v 0 1000000000) 1, momentE mo]
set_option maxRecDepth 100000 in
set_option maxHeartbeats 400000 in
theorem cancelFee_any (l : List Tr) (A : Option Addr) (n c : Nat) (ke cl : ByteArray) (fr tt ma od v mo : Int) (w : World) (hl : SlT trEnc 2 141 w A n l) (hn : n ≤ 1000000) (hok : BkOk ⟨ke, cl, fr, tt, ma, od⟩) :
    Calls Tryd.prog 24 #[.slice A n c, .agg #[.string ke, .string cl, .int .i64 fr, .int .i64 tt, .int .i64 ma, .int .i64 od], .int .i64 v, .int .i64 mo] w (RetIE w (if cancelE l ⟨ke, cl, fr, tt, ma, od⟩ v mo = 0 then feeV l v (fr - mo) else 0) (cancelE l ⟨ke, cl, fr, tt, ma, od⟩ v mo)) := by
  refine gw_enter ⟨51, w, none, []⟩ Tryd.func24 rfl Tryd.ntmps24 rfl (mem0 (X := [SlOld trEnc 2 141 w.heap.size none A n l]) (allF_cons hl.old allF_nil) (allL_cons SlOld.lasts allL_nil)) ?_
  refine gw_seq ?_
  refine gw_region ?_
  have hlen := hl.len
  refine wl_box rfl rfl rfl fun g1 => ?_
  refine wl_ov (ov_assign rfl) rfl ?_
  refine wl_ov (ov_assign rfl) rfl ?_
  refine wl_nil ?_
  refine nx_then ?_
  refine gw_seq ?_
  refine gw_cut (γ := Unit) (I := (fun (u : Unit) => True)) (S' := (fun (u : Unit) => [(0, .slice A n c), (2, .int .i64 v), (3, .int .i64 mo), (5, .pointer (some ⟨g1, 0, none⟩)), (8, .int .i64 0), (9, .int .i64 0), (10, .int .i64 (firstE [tiersE l, formE [⟨ke, cl, fr, tt, ma, od⟩], whenE (!inB v 0 1000000000) 1, momentE mo]))])) (K' := (fun (u : Unit) => fun _ => True)) (L' := (fun (u : Unit) => [(g1, 46, [.string ke, .string cl, .int .i64 fr, .int .i64 tt, .int .i64 ma, .int .i64 od])])) (O' := (fun (u : Unit) => [])) (X' := (fun (u : Unit) => [SlOld trEnc 2 141 w.heap.size none A n l])) ?_ ?_
  · refine gw_draw (fun wz => Blk wz g1 46 [.string ke, .string cl, .int .i64 fr, .int .i64 tt, .int .i64 ma, .int .i64 od] ∧ (SlOld trEnc 2 141 w.heap.size none A n l) wz ∧ True) mixed ?_
    refine wa_take 0 rfl (by kernel_rfl) (by kernel_rfl) (by kernel_rfl) (listed' := #[true, false, false, false, false, false, false, false, false, false, false, false, false, false]) rfl (fun _ _ _ h => h) (fun _ hm => ⟨hm.blkI 0 rfl, hm.fact 0 rfl, trivial⟩) (ov_move rfl) rfl ?_
    refine wa_take 2 rfl (by kernel_rfl) (by kernel_rfl) (by kernel_rfl) (listed' := #[true, false, true, false, false, false, false, false, false, false, false, false, false, false]) rfl (fun _ _ _ h => h) (fun _ hm => ⟨hm.blkI 0 rfl, hm.fact 0 rfl, trivial⟩) (ov_loads rz46 rfl (fun _ hm => hm.1) rfl rfl) rfl ?_
    refine wa_take 5 rfl (by kernel_rfl) (by kernel_rfl) (by kernel_rfl) (listed' := #[true, false, true, false, false, true, false, false, false, false, false, false, false, false]) rfl (fun _ _ _ h => h) (fun _ hm => ⟨hm.blkI 0 rfl, hm.fact 0 rfl, trivial⟩) (ov_move rfl) rfl ?_
    refine wa_take 9 rfl (by kernel_rfl) (by kernel_rfl) (by kernel_rfl) (listed' := #[true, false, true, false, false, true, false, false, false, true, false, false, false, false]) rfl (fun _ _ _ h => h) (fun _ hm => ⟨hm.blkI 0 rfl, hm.fact 0 rfl, trivial⟩) (ov_move rfl) rfl ?_
    refine wa_all [1, 3] (by kernel_rfl) rfl ⟨⟨_, rfl, ?_⟩, ⟨_, rfl, ?_⟩, trivial⟩
    · refine wl_callv rfl cb26 rfl rfl (fun wx hm => (checkTiers_any l A n c wx (hm.fact 0 rfl).1 hn)) ?_
      refine wl_nil ?_
      refine nx_wa0 (listed' := #[true, true, true, false, false, true, false, false, false, true, false, false, false, false]) rfl (fun _ hm => ⟨hm.blkI 0 rfl, hm.fact 0 rfl, trivial⟩) ?_
      refine wa_all [3] (by kernel_rfl) rfl ⟨⟨_, rfl, ?_⟩, trivial⟩
      refine wl_buildSlice (e := 46) (cs := [.string ke, .string cl, .int .i64 fr, .int .i64 tt, .int .i64 ma, .int .i64 od]) rfl (by kernel_rfl) rfl fun g2 => ?_
      refine wl_nil ?_
      refine nx_wa0 (listed' := #[true, true, true, true, false, true, false, false, false, true, false, false, false, false]) rfl (fun _ hm => ⟨hm.blkI 1 rfl, hm.fact 0 rfl, trivial⟩) ?_
      refine wa_all [4] (by kernel_rfl) rfl ⟨⟨_, rfl, ?_⟩, trivial⟩
      refine wl_callv rfl cb97 rfl rfl (fun wx hm => (formed_any [⟨ke, cl, fr, tt, ma, od⟩] _ 1 1 wx (SlT.ofBlk (l := [⟨ke, cl, fr, tt, ma, od⟩]) bk_len (hm.blkI 0 rfl)) (fun b hb => by rw [List.mem_singleton.1 hb]; exact hok) (by omega))) ?_
      refine wl_nil ?_
      refine nx_wa0 (listed' := #[true, true, true, true, true, true, false, false, false, true, false, false, false, false]) rfl (fun _ hm => ⟨hm.blkI 1 rfl, hm.fact 0 rfl, trivial⟩) ?_
      refine wa_all [6] (by kernel_rfl) rfl ⟨⟨_, rfl, ?_⟩, trivial⟩
      refine wl_callw rfl cb99 rfl rfl (fun wx hm => (in_any _ _ _ wx)) ?_
      refine wl_nil ?_
      refine nx_wa0 (listed' := #[true, true, true, true, true, true, true, false, false, true, false, false, false, false]) rfl (fun _ hm => ⟨hm.blkI 1 rfl, hm.fact 0 rfl, trivial⟩) ?_
      refine wa_take 7 rfl (by kernel_rfl) (by kernel_rfl) (by kernel_rfl) (listed' := #[true, true, true, true, true, true, true, true, false, true, false, false, false, false]) rfl (fun _ _ _ h => h) (fun _ hm => ⟨hm.blkI 1 rfl, hm.fact 0 rfl, trivial⟩) (ov_un_not rfl) rfl ?_
      refine wa_all [8] (by kernel_rfl) rfl ⟨⟨_, rfl, ?_⟩, trivial⟩
      refine wl_callw rfl cb98 rfl rfl (fun wx hm => (when_any _ _ wx)) ?_
      refine wl_nil ?_
      refine nx_wa0 (listed' := #[true, true, true, true, true, true, true, true, true, true, false, false, false, false]) rfl (fun _ hm => ⟨hm.blkI 1 rfl, hm.fact 0 rfl, trivial⟩) ?_
      refine wa_all [10] (by kernel_rfl) rfl ⟨⟨_, rfl, ?_⟩, trivial⟩
      refine wl_callw rfl cb100 rfl rfl (fun wx hm => (moment_any _ wx)) ?_
      refine wl_nil ?_
      refine nx_wa0 (listed' := #[true, true, true, true, true, true, true, true, true, true, true, false, false, false]) rfl (fun _ hm => ⟨hm.blkI 1 rfl, hm.fact 0 rfl, trivial⟩) ?_
      refine wa_all [11] (by kernel_rfl) rfl ⟨⟨_, rfl, ?_⟩, trivial⟩
      refine wl_buildSlice (e := 37) (cs := [.int .i64 (tiersE l), .int .i64 (formE [⟨ke, cl, fr, tt, ma, od⟩]), .int .i64 (whenE (!(inB v 0 1000000000)) 1), .int .i64 (momentE mo)]) rfl (by kernel_rfl) rfl fun g3 => ?_
      refine wl_nil ?_
      refine nx_wa0 (listed' := #[true, true, true, true, true, true, true, true, true, true, true, true, false, false]) rfl (fun _ hm => ⟨hm.blkI 2 rfl, hm.fact 0 rfl, trivial⟩) ?_
      refine wa_all [12] (by kernel_rfl) rfl ⟨⟨_, rfl, ?_⟩, trivial⟩
      refine wl_callw rfl cb96 rfl rfl (fun wx hm => (first_any [tiersE l, formE [⟨ke, cl, fr, tt, ma, od⟩], whenE (!(inB v 0 1000000000)) 1, momentE mo] _ _ _ wx (hm.blkI 0 rfl) (by simp))) ?_
      refine wl_nil ?_
      refine nx_wa0 (listed' := #[true, true, true, true, true, true, true, true, true, true, true, true, true, false]) rfl (fun _ hm => ⟨hm.blkI 2 rfl, hm.fact 0 rfl, trivial⟩) ?_
      refine wa_take 13 rfl (by kernel_rfl) (by kernel_rfl) (by kernel_rfl) (listed' := #[true, true, true, true, true, true, true, true, true, true, true, true, true, true]) rfl (fun _ _ _ h => h) (fun _ hm => ⟨hm.blkI 2 rfl, hm.fact 0 rfl, trivial⟩) (ov_assign rfl) rfl ?_
      refine wa_done (by kernel_rfl) ?_
      exact nx_meet () trivial ⟨rfl, rfl, rfl, rfl, rfl, rfl, rfl, trivial⟩ (fun _ hm => hm.pick [2] [] [0] rfl rfl)
    · refine wl_buildSlice (e := 46) (cs := [.string ke, .string cl, .int .i64 fr, .int .i64 tt, .int .i64 ma, .int .i64 od]) rfl (by kernel_rfl) rfl fun g4 => ?_
      refine wl_nil ?_
      refine nx_wa0 (listed' := #[true, false, true, true, false, true, false, false, false, true, false, false, false, false]) rfl (fun _ hm => ⟨hm.blkI 1 rfl, hm.fact 0 rfl, trivial⟩) ?_
      refine wa_all [1] (by kernel_rfl) rfl ⟨⟨_, rfl, ?_⟩, trivial⟩
      refine wl_callv rfl cb26 rfl rfl (fun wx hm => (checkTiers_any l A n c wx (hm.fact 0 rfl).1 hn)) ?_
      refine wl_nil ?_
      refine nx_wa0 (listed' := #[true, true, true, true, false, true, false, false, false, true, false, false, false, false]) rfl (fun _ hm => ⟨hm.blkI 1 rfl, hm.fact 0 rfl, trivial⟩) ?_
      refine wa_all [4] (by kernel_rfl) rfl ⟨⟨_, rfl, ?_⟩, trivial⟩
      refine wl_callv rfl cb97 rfl rfl (fun wx hm => (formed_any [⟨ke, cl, fr, tt, ma, od⟩] _ 1 1 wx (SlT.ofBlk (l := [⟨ke, cl, fr, tt, ma, od⟩]) bk_len (hm.blkI 0 rfl)) (fun b hb => by rw [List.mem_singleton.1 hb]; exact hok) (by omega))) ?_
      refine wl_nil ?_
      refine nx_wa0 (listed' := #[true, true, true, true, true, true, false, false, false, true, false, false, false, false]) rfl (fun _ hm => ⟨hm.blkI 1 rfl, hm.fact 0 rfl, trivial⟩) ?_
      refine wa_all [6] (by kernel_rfl) rfl ⟨⟨_, rfl, ?_⟩, trivial⟩
      refine wl_callw rfl cb99 rfl rfl (fun wx hm => (in_any _ _ _ wx)) ?_
      refine wl_nil ?_
      refine nx_wa0 (listed' := #[true, true, true, true, true, true, true, false, false, true, false, false, false, false]) rfl (fun _ hm => ⟨hm.blkI 1 rfl, hm.fact 0 rfl, trivial⟩) ?_
      refine wa_take 7 rfl (by kernel_rfl) (by kernel_rfl) (by kernel_rfl) (listed' := #[true, true, true, true, true, true, true, true, false, true, false, false, false, false]) rfl (fun _ _ _ h => h) (fun _ hm => ⟨hm.blkI 1 rfl, hm.fact 0 rfl, trivial⟩) (ov_un_not rfl) rfl ?_
      refine wa_all [8] (by kernel_rfl) rfl ⟨⟨_, rfl, ?_⟩, trivial⟩
      refine wl_callw rfl cb98 rfl rfl (fun wx hm => (when_any _ _ wx)) ?_
      refine wl_nil ?_
      refine nx_wa0 (listed' := #[true, true, true, true, true, true, true, true, true, true, false, false, false, false]) rfl (fun _ hm => ⟨hm.blkI 1 rfl, hm.fact 0 rfl, trivial⟩) ?_
      refine wa_all [10] (by kernel_rfl) rfl ⟨⟨_, rfl, ?_⟩, trivial⟩
      refine wl_callw rfl cb100 rfl rfl (fun wx hm => (moment_any _ wx)) ?_
      refine wl_nil ?_
      refine nx_wa0 (listed' := #[true, true, true, true, true, true, true, true, true, true, true, false, false, false]) rfl (fun _ hm => ⟨hm.blkI 1 rfl, hm.fact 0 rfl, trivial⟩) ?_
      refine wa_all [11] (by kernel_rfl) rfl ⟨⟨_, rfl, ?_⟩, trivial⟩
      refine wl_buildSlice (e := 37) (cs := [.int .i64 (tiersE l), .int .i64 (formE [⟨ke, cl, fr, tt, ma, od⟩]), .int .i64 (whenE (!(inB v 0 1000000000)) 1), .int .i64 (momentE mo)]) rfl (by kernel_rfl) rfl fun g5 => ?_
      refine wl_nil ?_
      refine nx_wa0 (listed' := #[true, true, true, true, true, true, true, true, true, true, true, true, false, false]) rfl (fun _ hm => ⟨hm.blkI 2 rfl, hm.fact 0 rfl, trivial⟩) ?_
      refine wa_all [12] (by kernel_rfl) rfl ⟨⟨_, rfl, ?_⟩, trivial⟩
      refine wl_callw rfl cb96 rfl rfl (fun wx hm => (first_any [tiersE l, formE [⟨ke, cl, fr, tt, ma, od⟩], whenE (!(inB v 0 1000000000)) 1, momentE mo] _ _ _ wx (hm.blkI 0 rfl) (by simp))) ?_
      refine wl_nil ?_
      refine nx_wa0 (listed' := #[true, true, true, true, true, true, true, true, true, true, true, true, true, false]) rfl (fun _ hm => ⟨hm.blkI 2 rfl, hm.fact 0 rfl, trivial⟩) ?_
      refine wa_take 13 rfl (by kernel_rfl) (by kernel_rfl) (by kernel_rfl) (listed' := #[true, true, true, true, true, true, true, true, true, true, true, true, true, true]) rfl (fun _ _ _ h => h) (fun _ hm => ⟨hm.blkI 2 rfl, hm.fact 0 rfl, trivial⟩) (ov_assign rfl) rfl ?_
      refine wa_done (by kernel_rfl) ?_
      exact nx_meet () trivial ⟨rfl, rfl, rfl, rfl, rfl, rfl, rfl, trivial⟩ (fun _ hm => hm.pick [2] [] [0] rfl rfl)
  · intro u hinv
    replace hinv : True := hinv
    refine gw_seq ?_
    refine gw_region ?_
    refine wl_ov (ov_move rfl) rfl ?_
    refine wl_ov (ov_neq rfl rfl) rfl ?_
    refine wl_nil ?_
    refine nx_then ?_
    refine gw_cond rfl (fun hh => ?_) (fun hh => ?_)
    · have hE : ¬ (firstE [tiersE l, formE [⟨ke, cl, fr, tt, ma, od⟩], whenE (!inB v 0 1000000000) 1, momentE mo] = 0) := by simpa using hh
      clear hh
      refine gw_seq ?_
      refine gw_region ?_
      refine wl_ov (ov_move rfl) rfl ?_
      refine wl_ov (ov_assign rfl) rfl ?_
      refine wl_ov (ov_assign rfl) rfl ?_
      refine wl_nil ?_
      refine nx_then ?_
      refine gw_ret ?_
      refine nx_then_ret ?_
      refine nx_ret2 rfl rfl rfl fun wx hm => ?_
      exact ⟨ret_ie (by rw [if_neg (show ¬ cancelE l ⟨ke, cl, fr, tt, ma, od⟩ v mo = 0 from hE)]) rfl, hm.g⟩
    · have hE : firstE [tiersE l, formE [⟨ke, cl, fr, tt, ma, od⟩], whenE (!inB v 0 1000000000) 1, momentE mo] = 0 := by simpa using hh
      clear hh
      refine gw_skip ?_
      refine nx_then ?_
      refine gw_seq ?_
      refine gw_region ?_
      have hz := firstE_all hE
      have ht := tiersE_ok (hz (tiersE l) (by simp))
      have hb := formE_one (hz (formE [⟨ke, cl, fr, tt, ma, od⟩]) (by simp))
      have hv := whenE_ok (by decide) (hz (whenE (!inB v 0 1000000000) 1) (by simp))
      have hmo := whenE_ok (by decide) (show whenE (!inB mo 0 5761439) 1 = 0 from hz (momentE mo) (by simp))
      have hv : 0 ≤ v ∧ v ≤ 1000000000 := by simpa [inB] using hv
      have hmo : 0 ≤ mo ∧ mo ≤ 5761439 := by simpa [inB] using hmo
      have hf0 : 0 ≤ fr := hb.1
      have hf1 : fr < tt := hb.2.1
      have hf2 : tt ≤ 5761439 := hb.2.2.1
      have htl := ht.2
      obtain ⟨hv0, hv1⟩ := hv
      obtain ⟨hmo0, hmo1⟩ := hmo
      clear hz hb ht
      refine wl_ov (ov_assign rfl) rfl ?_
      refine wl_nil ?_
      refine nx_then ?_
      refine gw_seq ?_
      refine gw_seq ?_
      refine gw_region ?_
      refine wl_ov (ov_move rfl) rfl ?_
      refine wl_ov (ov_len es43 rfl) rfl ?_
      refine wl_ov (ov_move rfl) rfl ?_
      refine wl_nil ?_
      refine nx_then ?_
      refine gw_block ?_
      refine gw_loop (γ := Nat) (fun (k : Nat) => k ≤ n) (fun (k : Nat) => [(2, .int .i64 v), (3, .int .i64 mo), (5, .pointer (some ⟨g1, 0, none⟩)), (8, .int .i64 0), (9, .int .i64 0), (11, .int .i64 (feeV (l.take k) v (fr - mo))), (30, .slice A n c), (31, .int .i64 ((n : Nat) : Int)), (32, .int .i64 ((k : Nat) : Int))]) (fun (k : Nat) => fun _ => True) (fun (k : Nat) => [(g1, 46, [.string ke, .string cl, .int .i64 fr, .int .i64 tt, .int .i64 ma, .int .i64 od])]) (fun (k : Nat) => []) (fun (k : Nat) => [SlOld trEnc 2 141 w.heap.size none A n l]) (fun (k : Nat) => n - k) 0 (Nat.zero_le _) ⟨rfl, rfl, rfl, rfl, rfl, rfl, rfl, rfl, rfl, trivial⟩ (fun _ hm => hm.pick [0] [] [0] rfl rfl) ?_
      intro k hinv
      replace hinv : k ≤ n := hinv
      refine gw_seq ?_
      refine gw_region ?_
      refine wl_ov (ov_lss rfl rfl) rfl ?_
      refine wl_nil ?_
      refine nx_then ?_
      refine gw_seq ?_
      refine gw_cond rfl (fun hh => ?_) (fun hh => ?_)
      · have hk : ((k : Nat) : Int) < ((n : Nat) : Int) := by simpa using hh
        clear hh
        refine gw_skip ?_
        refine nx_then ?_
        refine gw_seq ?_
        refine gw_block ?_
        refine gw_seq ?_
        refine gw_region ?_
        obtain ⟨b, off, hA, _, _⟩ := hl.get (by omega)
        subst hA
        obtain ⟨x, hx⟩ : ∃ x, l[k]? = some x := ⟨_, List.getElem?_eq_getElem (by omega)⟩
        obtain ⟨hr, ml⟩ := x
        have hft := feeV_take (v := v) (d := fr - mo) hx
        have hml := (htl _ (List.mem_of_getElem? hx)).2
        have hp := mul_bound hv0 hv1 hml.1 hml.2
        have hp : 0 ≤ v * ml ∧ v * ml ≤ 1000000000 * 1000 := hp
        refine wl_ov (ov_index (j := k) es43 rfl rfl (by omega)) rfl ?_
        refine wl_ov (ov_elem rz141 rfl (fun _ hm => (hm.fact 0 rfl).1) hx rfl rfl) rfl ?_
        refine wl_alloc zc141 rfl fun g6 => ?_
        refine wl_stores (cs' := [.int .i64 hr, .int .i64 ml]) 0 rz141 rfl rfl rfl rfl rfl rfl rfl rfl ?_
        refine wl_nil ?_
        refine nx_then ?_
        refine gw_seq ?_
        refine gw_region ?_
        refine wl_ov (ov_field fo141_0 rfl rfl) rfl ?_
        refine wl_ov (ov_load sc3 rfl (fun _ hm => hm.blkI 0 rfl) rfl) rfl ?_
        refine wl_ov (ov_field fo46_2 rfl rfl) rfl ?_
        refine wl_ov (ov_field fo28_0 rfl rfl) rfl ?_
        refine wl_ov (ov_load sc3 rfl (fun _ hm => hm.blkI 1 rfl) rfl) rfl ?_
        refine wl_ov (ov_move rfl) rfl ?_
        refine wl_ov (ov_sub rfl rfl (by omega) (by omega)) rfl ?_
        refine wl_ov (ov_gtr rfl rfl) rfl ?_
        refine wl_nil ?_
        refine nx_then ?_
        refine gw_cond rfl (fun hh => ?_) (fun hh => ?_)
        · have hd : fr - mo < hr := by simpa using hh
          clear hh
          refine gw_region ?_
          refine wl_ov (ov_move rfl) rfl ?_
          refine wl_ov (ov_field fo141_1 rfl rfl) rfl ?_
          refine wl_ov (ov_load sc3 rfl (fun _ hm => hm.blkI 0 rfl) rfl) rfl ?_
          refine wl_ov (ov_mul rfl rfl (by omega) (by omega)) rfl ?_
          refine wl_ov (ov_quo rfl rfl (by omega) (by omega) (by omega)) rfl ?_
          refine wl_ov (ov_assign rfl) rfl ?_
          refine wl_nil ?_
          refine nx_blk_nrm ?_
          refine nx_then ?_
          refine gw_region ?_
          refine wl_ov (ov_add rfl rfl (by omega) (by omega)) rfl ?_
          refine wl_ov (ov_move rfl) rfl ?_
          refine wl_nil ?_
          exact nx_round (k + 1) (by omega) (by omega) ⟨rfl, rfl, rfl, rfl, rfl, (some_int (by rw [hft, if_pos (show fr - mo < hr from hd)])), rfl, rfl, (some_int (by omega)), trivial⟩ (fun _ hm => hm.pick [1] [] [0] rfl rfl)
        · have hd : ¬ (fr - mo < hr) := by simpa using hh
          clear hh
          refine gw_skip ?_
          refine nx_blk_nrm ?_
          refine nx_then ?_
          refine gw_region ?_
          refine wl_ov (ov_add rfl rfl (by omega) (by omega)) rfl ?_
          refine wl_ov (ov_move rfl) rfl ?_
          refine wl_nil ?_
          exact nx_round (k + 1) (by omega) (by omega) ⟨rfl, rfl, rfl, rfl, rfl, (some_int (by rw [hft, if_neg (show ¬ fr - mo < hr from hd)])), rfl, rfl, (some_int (by omega)), trivial⟩ (fun _ hm => hm.pick [1] [] [0] rfl rfl)
      · have hk : ¬ (((k : Nat) : Int) < ((n : Nat) : Int)) := by simpa using hh
        clear hh
        refine gw_exit ?_
        refine nx_then_exit ?_
        refine nx_then_exit ?_
        refine nx_blk_here ?_
        refine nx_then ?_
        refine gw_seq ?_
        refine gw_region ?_
        refine wl_ov (ov_move rfl) rfl ?_
        refine wl_ov (ov_assign rfl) rfl ?_
        refine wl_ov (ov_assign rfl) rfl ?_
        refine wl_nil ?_
        refine nx_then ?_
        refine gw_ret ?_
        have hk2 : l.take k = l := List.take_of_length_le (by omega)
        refine nx_ret2 rfl rfl rfl fun wx hm => ?_
        exact ⟨ret_ie (by rw [if_pos (show cancelE l ⟨ke, cl, fr, tt, ma, od⟩ v mo = 0 from hE), hk2]) hE.symm, hm.g⟩

set_option maxRecDepth 100000 in
set_option maxHeartbeats 400000 in
theorem cancelOf_any (l : List Tr) (A : Option Addr) (n c : Nat) (ke cl : ByteArray) (fr tt ma od v mo : Int) (w : World) (hl : SlT trEnc 2 141 w A n l) (hn : n ≤ 1000000) (hE : cancelE l ⟨ke, cl, fr, tt, ma, od⟩ v mo = 0) :
    Calls Tryd.prog 31 #[.slice A n c, .agg #[.string ke, .string cl, .int .i64 fr, .int .i64 tt, .int .i64 ma, .int .i64 od], .int .i64 v, .int .i64 mo] w (GotE w (feeV l v (fr - mo))) := by
  refine gw_enter ⟨33, w, none, []⟩ Tryd.func31 rfl Tryd.ntmps31 rfl (mem0 (X := [SlOld trEnc 2 141 w.heap.size none A n l]) (allF_cons hl.old allF_nil) (allL_cons SlOld.lasts allL_nil)) ?_
  refine gw_seq ?_
  refine gw_region ?_
  have hlen := hl.len
  have hz := firstE_all hE
  have ht := tiersE_ok (hz (tiersE l) (by simp))
  have hb := formE_one (hz (formE [⟨ke, cl, fr, tt, ma, od⟩]) (by simp))
  have hv := whenE_ok (by decide) (hz (whenE (!inB v 0 1000000000) 1) (by simp))
  have hmo := whenE_ok (by decide) (show whenE (!inB mo 0 5761439) 1 = 0 from hz (momentE mo) (by simp))
  have hv : 0 ≤ v ∧ v ≤ 1000000000 := by simpa [inB] using hv
  have hmo : 0 ≤ mo ∧ mo ≤ 5761439 := by simpa [inB] using hmo
  have hf0 : 0 ≤ fr := hb.1
  have hf1 : fr < tt := hb.2.1
  have hf2 : tt ≤ 5761439 := hb.2.2.1
  have htl := ht.2
  obtain ⟨hv0, hv1⟩ := hv
  obtain ⟨hmo0, hmo1⟩ := hmo
  clear hz hb ht
  refine wl_box rfl rfl rfl fun g1 => ?_
  refine wl_ov (ov_assign rfl) rfl ?_
  refine wl_nil ?_
  refine nx_then ?_
  refine gw_seq ?_
  refine gw_region ?_
  refine wl_ov (ov_assign rfl) rfl ?_
  refine wl_nil ?_
  refine nx_then ?_
  refine gw_seq ?_
  refine gw_seq ?_
  refine gw_region ?_
  refine wl_ov (ov_move rfl) rfl ?_
  refine wl_ov (ov_len es43 rfl) rfl ?_
  refine wl_ov (ov_move rfl) rfl ?_
  refine wl_nil ?_
  refine nx_then ?_
  refine gw_block ?_
  refine gw_loop (γ := Nat) (fun (k : Nat) => k ≤ n) (fun (k : Nat) => [(2, .int .i64 v), (3, .int .i64 mo), (5, .pointer (some ⟨g1, 0, none⟩)), (8, .int .i64 0), (9, .int .i64 (feeV (l.take k) v (fr - mo))), (12, .slice A n c), (13, .int .i64 ((n : Nat) : Int)), (14, .int .i64 ((k : Nat) : Int))]) (fun (k : Nat) => fun _ => True) (fun (k : Nat) => [(g1, 46, [.string ke, .string cl, .int .i64 fr, .int .i64 tt, .int .i64 ma, .int .i64 od])]) (fun (k : Nat) => []) (fun (k : Nat) => [SlOld trEnc 2 141 w.heap.size none A n l]) (fun (k : Nat) => n - k) 0 (Nat.zero_le _) ⟨rfl, rfl, rfl, rfl, rfl, rfl, rfl, rfl, trivial⟩ (fun _ hm => hm.pick [0] [] [0] rfl rfl) ?_
  intro k hinv
  replace hinv : k ≤ n := hinv
  refine gw_seq ?_
  refine gw_region ?_
  refine wl_ov (ov_lss rfl rfl) rfl ?_
  refine wl_nil ?_
  refine nx_then ?_
  refine gw_seq ?_
  refine gw_cond rfl (fun hh => ?_) (fun hh => ?_)
  · have hk : ((k : Nat) : Int) < ((n : Nat) : Int) := by simpa using hh
    clear hh
    refine gw_skip ?_
    refine nx_then ?_
    refine gw_seq ?_
    refine gw_block ?_
    refine gw_seq ?_
    refine gw_region ?_
    obtain ⟨b, off, hA, _, _⟩ := hl.get (by omega)
    subst hA
    obtain ⟨x, hx⟩ : ∃ x, l[k]? = some x := ⟨_, List.getElem?_eq_getElem (by omega)⟩
    obtain ⟨hr, ml⟩ := x
    have hft := feeV_take (v := v) (d := fr - mo) hx
    have hml := (htl _ (List.mem_of_getElem? hx)).2
    have hp := mul_bound hv0 hv1 hml.1 hml.2
    have hp : 0 ≤ v * ml ∧ v * ml ≤ 1000000000 * 1000 := hp
    refine wl_ov (ov_index (j := k) es43 rfl rfl (by omega)) rfl ?_
    refine wl_ov (ov_elem rz141 rfl (fun _ hm => (hm.fact 0 rfl).1) hx rfl rfl) rfl ?_
    refine wl_alloc zc141 rfl fun g2 => ?_
    refine wl_stores (cs' := [.int .i64 hr, .int .i64 ml]) 0 rz141 rfl rfl rfl rfl rfl rfl rfl rfl ?_
    refine wl_nil ?_
    refine nx_then ?_
    refine gw_seq ?_
    refine gw_region ?_
    refine wl_ov (ov_field fo46_2 rfl rfl) rfl ?_
    refine wl_ov (ov_field fo28_0 rfl rfl) rfl ?_
    refine wl_ov (ov_load sc3 rfl (fun _ hm => hm.blkI 1 rfl) rfl) rfl ?_
    refine wl_ov (ov_move rfl) rfl ?_
    refine wl_ov (ov_sub rfl rfl (by omega) (by omega)) rfl ?_
    refine wl_ov (ov_field fo141_0 rfl rfl) rfl ?_
    refine wl_ov (ov_load sc3 rfl (fun _ hm => hm.blkI 0 rfl) rfl) rfl ?_
    refine wl_ov (ov_lss rfl rfl) rfl ?_
    refine wl_nil ?_
    refine nx_then ?_
    refine gw_cond rfl (fun hh => ?_) (fun hh => ?_)
    · have hd : fr - mo < hr := by simpa using hh
      clear hh
      refine gw_region ?_
      refine wl_ov (ov_move rfl) rfl ?_
      refine wl_ov (ov_field fo141_1 rfl rfl) rfl ?_
      refine wl_ov (ov_load sc3 rfl (fun _ hm => hm.blkI 0 rfl) rfl) rfl ?_
      refine wl_ov (ov_mul rfl rfl (by omega) (by omega)) rfl ?_
      refine wl_ov (ov_quo rfl rfl (by omega) (by omega) (by omega)) rfl ?_
      refine wl_ov (ov_assign rfl) rfl ?_
      refine wl_nil ?_
      refine nx_blk_nrm ?_
      refine nx_then ?_
      refine gw_region ?_
      refine wl_ov (ov_add rfl rfl (by omega) (by omega)) rfl ?_
      refine wl_ov (ov_move rfl) rfl ?_
      refine wl_nil ?_
      exact nx_round (k + 1) (by omega) (by omega) ⟨rfl, rfl, rfl, rfl, (some_int (by rw [hft, if_pos (show fr - mo < hr from hd)])), rfl, rfl, (some_int (by omega)), trivial⟩ (fun _ hm => hm.pick [1] [] [0] rfl rfl)
    · have hd : ¬ (fr - mo < hr) := by simpa using hh
      clear hh
      refine gw_skip ?_
      refine nx_blk_nrm ?_
      refine nx_then ?_
      refine gw_region ?_
      refine wl_ov (ov_add rfl rfl (by omega) (by omega)) rfl ?_
      refine wl_ov (ov_move rfl) rfl ?_
      refine wl_nil ?_
      exact nx_round (k + 1) (by omega) (by omega) ⟨rfl, rfl, rfl, rfl, (some_int (by rw [hft, if_neg (show ¬ fr - mo < hr from hd)])), rfl, rfl, (some_int (by omega)), trivial⟩ (fun _ hm => hm.pick [1] [] [0] rfl rfl)
  · have hk : ¬ (((k : Nat) : Int) < ((n : Nat) : Int)) := by simpa using hh
    clear hh
    refine gw_exit ?_
    refine nx_then_exit ?_
    refine nx_then_exit ?_
    refine nx_blk_here ?_
    refine nx_then ?_
    refine gw_seq ?_
    refine gw_region ?_
    refine wl_ov (ov_move rfl) rfl ?_
    refine wl_ov (ov_assign rfl) rfl ?_
    refine wl_nil ?_
    refine nx_then ?_
    refine gw_ret ?_
    have hk2 : l.take k = l := List.take_of_length_le (by omega)
    refine nx_ret1 rfl rfl fun wx hm => ?_
    exact ⟨ret_int (by rw [hk2]), hm.g⟩

end Go.Proofs.YtljnekobfjpfaaaDoor
/- Lowest terms; the odds of one booking; what a law knows of bookings. -/
namespace Go.Proofs.YtljnekobfjpfaaaDoor
open Go.RowKit

structure Fr where
  num : Int
  den : Int
def frEnc (x : Fr) : List Value := [.int .i64 x.num, .int .i64 x.den]
theorem fr_len (x : Fr) : (frEnc x).length = 2 := rfl
/-- The lowest terms of n / d. -/
def lowF (n d : Nat) : Fr := ⟨((n / Nat.gcd n d : Nat) : Int), ((d / Nat.gcd n d : Nat) : Int)⟩
theorem gcd_step {a b g : Nat} (h : Nat.gcd a b = g) : Nat.gcd b (a % b) = g := by
  rw [Nat.gcd_comm, ← Nat.gcd_rec, Nat.gcd_comm]; exact h
def oddsE (l : List Bk) : Int := firstE [formE l, whenE (decide (9 < (l.length : Int))) 2]

set_option maxRecDepth 100000 in
set_option maxHeartbeats 400000 in
theorem lowest_any (n d : Nat) (w : World) (hn : n ≤ 1000000000000000000) (hd : d ≤ 1000000000000000000) (hd0 : 0 < d) :
    Calls Tryd.prog 106 #[.int .i64 ((n : Nat) : Int), .int .i64 ((d : Nat) : Int)] w (fun e w' => e = .returned (.agg #[.int .i64 (lowF n d).num, .int .i64 (lowF n d).den]) ∧ w.grownBy w' none) := by
  refine gw_enter ⟨25, w, none, []⟩ Tryd.func106 rfl Tryd.ntmps106 rfl (mem0 (X := []) allF_nil allL_nil) ?_
  refine gw_seq ?_
  refine gw_region ?_
  refine wl_alloc zc61 rfl fun g1 => ?_
  refine wl_nil ?_
  refine nx_then ?_
  refine gw_seq ?_
  refine gw_region ?_
  refine wl_ov (ov_move rfl) rfl ?_
  refine wl_ov (ov_move rfl) rfl ?_
  refine wl_ov (ov_neg rfl (by omega) (by omega)) rfl ?_
  refine wl_ov (ov_max rfl rfl) rfl ?_
  refine wl_ov (ov_move rfl) rfl ?_
  refine wl_ov (ov_assign rfl) rfl ?_
  refine wl_ov (ov_assign rfl) rfl ?_
  refine wl_nil ?_
  refine nx_then ?_
  refine gw_seq ?_
  refine gw_block ?_
  refine gw_loop (γ := Nat × Nat) (fun (g : Nat × Nat) => Nat.gcd g.1 g.2 = Nat.gcd n d ∧ g.1 ≤ 1000000000000000000 ∧ g.2 ≤ 1000000000000000000) (fun (g : Nat × Nat) => [(0, .int .i64 ((n : Nat) : Int)), (1, .int .i64 ((d : Nat) : Int)), (4, .pointer (some ⟨g1, 0, none⟩)), (5, .int .i64 ((g.1 : Nat) : Int)), (6, .int .i64 ((g.2 : Nat) : Int))]) (fun (g : Nat × Nat) => fun _ => True) (fun (g : Nat × Nat) => [(g1, 61, [.int .i64 0, .int .i64 0])]) (fun (g : Nat × Nat) => []) (fun (g : Nat × Nat) => []) (fun (g : Nat × Nat) => g.2) (n, d) ⟨rfl, by omega, by omega⟩ ⟨rfl, rfl, rfl, (some_int (by omega)), rfl, trivial⟩ (fun _ hm => hm.pick [0] [] [] rfl rfl) ?_
  rintro ⟨a, b⟩ hinv
  replace hinv : Nat.gcd a b = Nat.gcd n d ∧ a ≤ 1000000000000000000 ∧ b ≤ 1000000000000000000 := hinv
  dsimp only
  refine gw_seq ?_
  refine gw_seq ?_
  refine gw_region ?_
  refine wl_ov (ov_move rfl) rfl ?_
  refine wl_ov (ov_neq rfl rfl) rfl ?_
  refine wl_nil ?_
  refine nx_then ?_
  refine gw_cond rfl (fun hh => ?_) (fun hh => ?_)
  · have hb : ¬ (((b : Nat) : Int) = 0) := by simpa using hh
    clear hh
    refine gw_skip ?_
    refine nx_then ?_
    refine gw_block ?_
    have hb0 : 0 < b := by omega
    have hlt := Nat.mod_lt a hb0
    refine gw_draw (fun wz => Blk wz g1 61 [.int .i64 0, .int .i64 0] ∧ True) mixed ?_
    refine wa_take 0 rfl (by kernel_rfl) (by kernel_rfl) (by kernel_rfl) (listed' := #[true, false, false, false, false, false]) rfl (fun _ _ _ h => h) (fun _ hm => ⟨hm.blkI 0 rfl, trivial⟩) (ov_move rfl) rfl ?_
    refine wa_take 1 rfl (by kernel_rfl) (by kernel_rfl) (by kernel_rfl) (listed' := #[true, true, false, false, false, false]) rfl (fun _ _ _ h => h) (fun _ hm => ⟨hm.blkI 0 rfl, trivial⟩) (ov_move rfl) rfl ?_
    refine wa_take 2 rfl (by kernel_rfl) (by kernel_rfl) (by kernel_rfl) (listed' := #[true, true, true, false, false, false]) rfl (fun _ _ _ h => h) (fun _ hm => ⟨hm.blkI 0 rfl, trivial⟩) (ov_move rfl) rfl ?_
    refine wa_take 3 rfl (by kernel_rfl) (by kernel_rfl) (by kernel_rfl) (listed' := #[true, true, true, true, false, false]) rfl (fun _ _ _ h => h) (fun _ hm => ⟨hm.blkI 0 rfl, trivial⟩) (ov_rem rfl rfl (by omega) (by omega) (by omega)) rfl ?_
    refine wa_take 4 rfl (by kernel_rfl) (by kernel_rfl) (by kernel_rfl) (listed' := #[true, true, true, true, true, false]) rfl (fun _ _ _ h => h) (fun _ hm => ⟨hm.blkI 0 rfl, trivial⟩) (ov_assign rfl) rfl ?_
    refine wa_take 5 rfl (by kernel_rfl) (by kernel_rfl) (by kernel_rfl) (listed' := #[true, true, true, true, true, true]) rfl (fun _ _ _ h => h) (fun _ hm => ⟨hm.blkI 0 rfl, trivial⟩) (ov_assign rfl) rfl ?_
    refine wa_done (by kernel_rfl) ?_
    refine nx_blk_nrm ?_
    exact nx_round (b, a % b) ⟨gcd_step hinv.1, by dsimp only; omega, by dsimp only; omega⟩ hlt ⟨rfl, rfl, rfl, rfl, (some_int (Int.natCast_emod a b).symm), trivial⟩ (fun _ hm => hm.pick [0] [] [] rfl rfl)
  · have hb : ((b : Nat) : Int) = 0 := by simpa using hh
    clear hh
    refine gw_exit ?_
    refine nx_then_exit ?_
    refine nx_then_exit ?_
    refine nx_blk_here ?_
    refine nx_then ?_
    refine gw_seq ?_
    have hb0 : b = 0 := by omega
    subst hb0
    have hga : a = Nat.gcd n d := by rw [← hinv.1, Nat.gcd_zero_right]
    have ha0 : 0 < a := by rw [hga]; exact Nat.gcd_pos_of_pos_right n hd0
    refine gw_draw (fun wz => True) mixed ?_
    refine wa_take 0 rfl (by kernel_rfl) (by kernel_rfl) (by kernel_rfl) (listed' := #[true, false, false, false, false, false, false, false]) rfl (fun _ _ _ h => h) (fun _ _ => trivial) (ov_move rfl) rfl ?_
    refine wa_take 1 rfl (by kernel_rfl) (by kernel_rfl) (by kernel_rfl) (listed' := #[true, true, false, false, false, false, false, false]) rfl (fun _ _ _ h => h) (fun _ _ => trivial) (ov_move rfl) rfl ?_
    refine wa_take 2 rfl (by kernel_rfl) (by kernel_rfl) (by kernel_rfl) (listed' := #[true, true, true, false, false, false, false, false]) rfl (fun _ _ _ h => h) (fun _ _ => trivial) (ov_quo rfl rfl (by omega) (by omega) (by omega)) rfl ?_
    refine wa_take 3 rfl (by kernel_rfl) (by kernel_rfl) (by kernel_rfl) (listed' := #[true, true, true, true, false, false, false, false]) rfl (fun _ _ _ h => h) (fun _ _ => trivial) (ov_move rfl) rfl ?_
    refine wa_take 4 rfl (by kernel_rfl) (by kernel_rfl) (by kernel_rfl) (listed' := #[true, true, true, true, true, false, false, false]) rfl (fun _ _ _ h => h) (fun _ _ => trivial) (ov_move rfl) rfl ?_
    refine wa_take 5 rfl (by kernel_rfl) (by kernel_rfl) (by kernel_rfl) (listed' := #[true, true, true, true, true, true, false, false]) rfl (fun _ _ _ h => h) (fun _ _ => trivial) (ov_quo rfl rfl (by omega) (by omega) (by omega)) rfl ?_
    refine wa_take 6 rfl (by kernel_rfl) (by kernel_rfl) (by kernel_rfl) (listed' := #[true, true, true, true, true, true, true, false]) rfl (fun _ _ _ h => h) (fun _ _ => trivial) (ov_build (cs := [.int .i64 (((n : Nat) : Int) / ((a : Nat) : Int)), .int .i64 (((d : Nat) : Int) / ((a : Nat) : Int))]) rfl (by kernel_rfl)) rfl ?_
    refine wa_all [7] (by kernel_rfl) rfl ⟨⟨_, rfl, ?_⟩, trivial⟩
    refine wl_stores (cs' := [.int .i64 (((n : Nat) : Int) / ((a : Nat) : Int)), .int .i64 (((d : Nat) : Int) / ((a : Nat) : Int))]) 0 rz61 rfl rfl rfl rfl rfl rfl rfl rfl ?_
    refine wl_nil ?_
    refine nx_wa0 (listed' := #[true, true, true, true, true, true, true, true]) rfl (fun _ _ => trivial) ?_
    refine wa_done (by kernel_rfl) ?_
    refine nx_then ?_
    refine gw_ret ?_
    refine nx_retc 0 rfl rz61 rfl rfl rfl fun wx hm => ?_
    refine ⟨?_, hm.g⟩
    unfold lowF
    rw [← hga, Int.natCast_ediv, Int.natCast_ediv]

set_option maxRecDepth 100000 in
set_option maxHeartbeats 400000 in
theorem rlowest_any (n d : Nat) (w : World) (hn : n ≤ 1000000000000000000) (hd : d ≤ 1000000000000000000) (hd0 : 0 < d) :
    Calls Tryd.prog 109 #[.int .i64 ((n : Nat) : Int), .int .i64 ((d : Nat) : Int)] w (fun e w' => e = .returned (.agg #[.int .i64 (lowF n d).num, .int .i64 (lowF n d).den]) ∧ w.grownBy w' none) := by
  refine gw_enter ⟨26, w, none, []⟩ Tryd.func109 rfl Tryd.ntmps109 rfl (mem0 (X := []) allF_nil allL_nil) ?_
  refine gw_seq ?_
  refine gw_region ?_
  refine wl_alloc zc61 rfl fun g1 => ?_
  refine wl_nil ?_
  refine nx_then ?_
  refine gw_seq ?_
  refine gw_region ?_
  refine wl_ov (ov_move rfl) rfl ?_
  refine wl_ov (ov_move rfl) rfl ?_
  refine wl_ov (ov_assign rfl) rfl ?_
  refine wl_ov (ov_assign rfl) rfl ?_
  refine wl_nil ?_
  refine nx_then ?_
  refine gw_seq ?_
  refine gw_block ?_
  refine gw_loop (γ := Nat × Nat) (fun (g : Nat × Nat) => Nat.gcd g.1 g.2 = Nat.gcd n d ∧ g.1 ≤ 1000000000000000000 ∧ g.2 ≤ 1000000000000000000) (fun (g : Nat × Nat) => [(0, .int .i64 ((n : Nat) : Int)), (1, .int .i64 ((d : Nat) : Int)), (4, .pointer (some ⟨g1, 0, none⟩)), (5, .int .i64 ((g.1 : Nat) : Int)), (6, .int .i64 ((g.2 : Nat) : Int))]) (fun (g : Nat × Nat) => fun _ => True) (fun (g : Nat × Nat) => [(g1, 61, [.int .i64 0, .int .i64 0])]) (fun (g : Nat × Nat) => []) (fun (g : Nat × Nat) => []) (fun (g : Nat × Nat) => g.2) (n, d) ⟨rfl, by omega, by omega⟩ ⟨rfl, rfl, rfl, (some_int (by omega)), rfl, trivial⟩ (fun _ hm => hm.pick [0] [] [] rfl rfl) ?_
  rintro ⟨a, b⟩ hinv
  replace hinv : Nat.gcd a b = Nat.gcd n d ∧ a ≤ 1000000000000000000 ∧ b ≤ 1000000000000000000 := hinv
  dsimp only
  refine gw_seq ?_
  refine gw_seq ?_
  refine gw_region ?_
  refine wl_ov (ov_move rfl) rfl ?_
  refine wl_ov (ov_neq rfl rfl) rfl ?_
  refine wl_nil ?_
  refine nx_then ?_
  refine gw_cond rfl (fun hh => ?_) (fun hh => ?_)
  · have hb : ¬ (((b : Nat) : Int) = 0) := by simpa using hh
    clear hh
    refine gw_skip ?_
    refine nx_then ?_
    refine gw_block ?_
    have hb0 : 0 < b := by omega
    have hlt := Nat.mod_lt a hb0
    refine gw_draw (fun wz => Blk wz g1 61 [.int .i64 0, .int .i64 0] ∧ True) mixed ?_
    refine wa_take 0 rfl (by kernel_rfl) (by kernel_rfl) (by kernel_rfl) (listed' := #[true, false, false, false, false, false]) rfl (fun _ _ _ h => h) (fun _ hm => ⟨hm.blkI 0 rfl, trivial⟩) (ov_move rfl) rfl ?_
    refine wa_take 1 rfl (by kernel_rfl) (by kernel_rfl) (by kernel_rfl) (listed' := #[true, true, false, false, false, false]) rfl (fun _ _ _ h => h) (fun _ hm => ⟨hm.blkI 0 rfl, trivial⟩) (ov_move rfl) rfl ?_
    refine wa_take 2 rfl (by kernel_rfl) (by kernel_rfl) (by kernel_rfl) (listed' := #[true, true, true, false, false, false]) rfl (fun _ _ _ h => h) (fun _ hm => ⟨hm.blkI 0 rfl, trivial⟩) (ov_move rfl) rfl ?_
    refine wa_take 3 rfl (by kernel_rfl) (by kernel_rfl) (by kernel_rfl) (listed' := #[true, true, true, true, false, false]) rfl (fun _ _ _ h => h) (fun _ hm => ⟨hm.blkI 0 rfl, trivial⟩) (ov_rem rfl rfl (by omega) (by omega) (by omega)) rfl ?_
    refine wa_take 4 rfl (by kernel_rfl) (by kernel_rfl) (by kernel_rfl) (listed' := #[true, true, true, true, true, false]) rfl (fun _ _ _ h => h) (fun _ hm => ⟨hm.blkI 0 rfl, trivial⟩) (ov_assign rfl) rfl ?_
    refine wa_take 5 rfl (by kernel_rfl) (by kernel_rfl) (by kernel_rfl) (listed' := #[true, true, true, true, true, true]) rfl (fun _ _ _ h => h) (fun _ hm => ⟨hm.blkI 0 rfl, trivial⟩) (ov_assign rfl) rfl ?_
    refine wa_done (by kernel_rfl) ?_
    refine nx_blk_nrm ?_
    exact nx_round (b, a % b) ⟨gcd_step hinv.1, by dsimp only; omega, by dsimp only; omega⟩ hlt ⟨rfl, rfl, rfl, rfl, (some_int (Int.natCast_emod a b).symm), trivial⟩ (fun _ hm => hm.pick [0] [] [] rfl rfl)
  · have hb : ((b : Nat) : Int) = 0 := by simpa using hh
    clear hh
    refine gw_exit ?_
    refine nx_then_exit ?_
    refine nx_then_exit ?_
    refine nx_blk_here ?_
    refine nx_then ?_
    refine gw_seq ?_
    refine gw_seq ?_
    refine gw_region ?_
    have hb0 : b = 0 := by omega
    subst hb0
    have hga : a = Nat.gcd n d := by rw [← hinv.1, Nat.gcd_zero_right]
    have ha0 : 0 < a := by rw [hga]; exact Nat.gcd_pos_of_pos_right n hd0
    refine wl_ov (ov_move rfl) rfl ?_
    refine wl_ov (ov_lss rfl rfl) rfl ?_
    refine wl_set 16 (v' := .bool false) rfl (congrArg Value.bool (decide_eq_false (by omega))) ?_
    refine wl_nil ?_
    refine nx_then ?_
    refine gw_cond rfl (fun hh => by cases hh) (fun _ => ?_)
    refine gw_skip ?_
    refine nx_then ?_
    refine gw_seq ?_
    refine gw_draw (fun wz => True) mixed ?_
    refine wa_take 0 rfl (by kernel_rfl) (by kernel_rfl) (by kernel_rfl) (listed' := #[true, false, false, false, false, false, false, false]) rfl (fun _ _ _ h => h) (fun _ _ => trivial) (ov_move rfl) rfl ?_
    refine wa_take 1 rfl (by kernel_rfl) (by kernel_rfl) (by kernel_rfl) (listed' := #[true, true, false, false, false, false, false, false]) rfl (fun _ _ _ h => h) (fun _ _ => trivial) (ov_move rfl) rfl ?_
    refine wa_take 2 rfl (by kernel_rfl) (by kernel_rfl) (by kernel_rfl) (listed' := #[true, true, true, false, false, false, false, false]) rfl (fun _ _ _ h => h) (fun _ _ => trivial) (ov_quo rfl rfl (by omega) (by omega) (by omega)) rfl ?_
    refine wa_take 3 rfl (by kernel_rfl) (by kernel_rfl) (by kernel_rfl) (listed' := #[true, true, true, true, false, false, false, false]) rfl (fun _ _ _ h => h) (fun _ _ => trivial) (ov_move rfl) rfl ?_
    refine wa_take 4 rfl (by kernel_rfl) (by kernel_rfl) (by kernel_rfl) (listed' := #[true, true, true, true, true, false, false, false]) rfl (fun _ _ _ h => h) (fun _ _ => trivial) (ov_move rfl) rfl ?_
    refine wa_take 5 rfl (by kernel_rfl) (by kernel_rfl) (by kernel_rfl) (listed' := #[true, true, true, true, true, true, false, false]) rfl (fun _ _ _ h => h) (fun _ _ => trivial) (ov_quo rfl rfl (by omega) (by omega) (by omega)) rfl ?_
    refine wa_take 6 rfl (by kernel_rfl) (by kernel_rfl) (by kernel_rfl) (listed' := #[true, true, true, true, true, true, true, false]) rfl (fun _ _ _ h => h) (fun _ _ => trivial) (ov_build (cs := [.int .i64 (((n : Nat) : Int) / ((a : Nat) : Int)), .int .i64 (((d : Nat) : Int) / ((a : Nat) : Int))]) rfl (by kernel_rfl)) rfl ?_
    refine wa_all [7] (by kernel_rfl) rfl ⟨⟨_, rfl, ?_⟩, trivial⟩
    refine wl_stores (cs' := [.int .i64 (((n : Nat) : Int) / ((a : Nat) : Int)), .int .i64 (((d : Nat) : Int) / ((a : Nat) : Int))]) 0 rz61 rfl rfl rfl rfl rfl rfl rfl rfl ?_
    refine wl_nil ?_
    refine nx_wa0 (listed' := #[true, true, true, true, true, true, true, true]) rfl (fun _ _ => trivial) ?_
    refine wa_done (by kernel_rfl) ?_
    refine nx_then ?_
    refine gw_ret ?_
    refine nx_retc 0 rfl rz61 rfl rfl rfl fun wx hm => ?_
    refine ⟨?_, hm.g⟩
    unfold lowF
    rw [← hga, Int.natCast_ediv, Int.natCast_ediv]

set_option maxRecDepth 100000 in
set_option maxHeartbeats 400000 in
theorem checkOdds_any (l : List Bk) (A : Option Addr) (n c : Nat) (w : World) (hl : SlT bkEnc 6 46 w A n l) (hok : ∀ b ∈ l, BkOk b) (hn : n ≤ 1000000) :
    Calls Tryd.prog 104 #[.slice A n c] w (GotE w (oddsE l)) := by
  refine gw_enter ⟨11, w, none, []⟩ Tryd.func104 rfl Tryd.ntmps104 rfl (mem0 (X := [SlOld bkEnc 6 46 w.heap.size none A n l]) (allF_cons hl.old allF_nil) (allL_cons SlOld.lasts allL_nil)) ?_
  refine gw_seq ?_
  refine gw_region ?_
  have hlen := hl.len
  refine wl_ov (ov_assign rfl) rfl ?_
  refine wl_nil ?_
  refine nx_then ?_
  refine gw_seq ?_
  refine gw_region ?_
  refine wl_ov (ov_move rfl) rfl ?_
  refine wl_callv rfl cb97 rfl rfl (fun wx hm => (formed_any l A n c wx (hm.fact 0 rfl).1 hok hn)) ?_
  refine wl_ov (ov_move rfl) rfl ?_
  refine wl_ov (ov_len es55 rfl) rfl ?_
  refine wl_ov (ov_gtr rfl rfl) rfl ?_
  refine wl_callw rfl cb98 rfl rfl (fun wx hm => (when_any _ _ wx)) ?_
  refine wl_buildSlice (e := 37) (cs := [.int .i64 (formE l), .int .i64 (whenE (decide (9 < ((n : Nat) : Int))) 2)]) rfl (by kernel_rfl) rfl fun g1 => ?_
  refine wl_callw rfl cb96 rfl rfl (fun wx hm => (first_any [formE l, whenE (decide (9 < ((n : Nat) : Int))) 2] _ _ _ wx (hm.blkI 0 rfl) (by simp))) ?_
  refine wl_ov (ov_assign rfl) rfl ?_
  refine wl_nil ?_
  refine nx_then ?_
  refine gw_ret ?_
  refine nx_ret1 rfl rfl fun wx hm => ?_
  exact ⟨ret_int (by unfold oddsE; rw [hlen]), hm.g⟩

set_option maxRecDepth 100000 in
set_option maxHeartbeats 400000 in
theorem spread_one (A : Option Addr) (c : Nat) (w : World) (hl : SlT bkEnc 6 46 w A 1 [⟨⟨#[97]⟩, ⟨#[99]⟩, 0, 1, 0, 50⟩]) :
    Calls Tryd.prog 105 #[.slice A 1 c] w (fun e w' => ∃ A2 c2, e = .returned (.tuple #[.slice A2 2 c2, .int .i64 100]) ∧ w.grownBy w' none ∧ w'.ownsRow w.heap.size 3 1 (.slice A2 2 c2) 2 [.int .i64 50, .int .i64 50]) := by
  refine gw_enter ⟨58, w, none, []⟩ Tryd.func105 rfl Tryd.ntmps105 rfl (mem0 (X := [SlOld bkEnc 6 46 w.heap.size none A 1 [⟨⟨#[97]⟩, ⟨#[99]⟩, 0, 1, 0, 50⟩]]) (allF_cons hl.old allF_nil) (allL_cons SlOld.lasts allL_nil)) ?_
  refine gw_seq ?_
  refine gw_region ?_
  refine wl_ov (ov_assign rfl) rfl ?_
  refine wl_ov (ov_assign rfl) rfl ?_
  refine wl_nil ?_
  refine nx_then ?_
  refine gw_seq ?_
  refine gw_region ?_
  refine wl_buildSlice (e := 3) (cs := [.int .i64 1]) rfl (by kernel_rfl) rfl fun g1 => ?_
  refine wl_ov (ov_assign rfl) rfl ?_
  refine wl_ov (ov_assign rfl) rfl ?_
  refine wl_nil ?_
  refine nx_then ?_
  refine gw_seq ?_
  refine gw_seq ?_
  refine gw_region ?_
  refine wl_ov (ov_move rfl) rfl ?_
  refine wl_ov (ov_len es55 rfl) rfl ?_
  refine wl_set 13 (v' := .int .i64 1) rfl rfl ?_
  refine wl_ov (ov_move rfl) rfl ?_
  refine wl_nil ?_
  refine nx_then ?_
  refine gw_block ?_
  obtain ⟨b, off, hA, _, _⟩ := hl.get (by omega)
  subst hA
  refine gw_rounds 3 ?_
  refine gr_next ?_
  refine gw_seq ?_
  refine gw_region ?_
  refine wl_ov (ov_lss rfl rfl) rfl ?_
  refine wl_set 15 (v' := .bool true) rfl (congrArg Value.bool (by decide)) ?_
  refine wl_nil ?_
  refine nx_then ?_
  refine gw_seq ?_
  refine gw_cond rfl (fun _ => ?_) (fun hh => by cases hh)
  refine gw_skip ?_
  refine nx_then ?_
  refine gw_seq ?_
  refine gw_block ?_
  refine gw_seq ?_
  refine gw_region ?_
  refine wl_ov (ov_index (j := 0) es55 rfl rfl (by omega)) rfl ?_
  refine wl_ov (ov_elem rz46 rfl (fun _ hm => (hm.fact 0 rfl).1) (rfl : [(⟨⟨#[97]⟩, ⟨#[99]⟩, 0, 1, 0, 50⟩ : Bk)][0]? = some ⟨⟨#[97]⟩, ⟨#[99]⟩, 0, 1, 0, 50⟩) rfl rfl) rfl ?_
  refine wl_alloc zc46 rfl fun g2 => ?_
  refine wl_stores (cs' := [.string ⟨#[97]⟩, .string ⟨#[99]⟩, .int .i64 0, .int .i64 1, .int .i64 0, .int .i64 50]) 0 rz46 rfl rfl rfl rfl rfl rfl rfl rfl ?_
  refine wl_nil ?_
  refine nx_then ?_
  refine gw_seq ?_
  refine gw_region ?_
  refine wl_ov (ov_move rfl) rfl ?_
  refine wl_ov (ov_len es22 rfl) rfl ?_
  refine wl_set 19 (v' := .int .i64 1) rfl rfl ?_
  refine wl_ov (ov_add rfl rfl (by omega) (by omega)) rfl ?_
  refine wl_set 20 (v' := .int .i64 2) rfl rfl ?_
  refine wl_makeB (n := 2) (e := 3) (by_ := 8) (z := .int .i64 0) (cs := [.int .i64 0, .int .i64 0]) (by kernel_rfl) (by kernel_rfl) rfl rfl rfl rfl rfl (by kernel_rfl) rfl fun g3 => ?_
  refine wl_ov (ov_assign rfl) rfl ?_
  refine wl_nil ?_
  refine nx_then ?_
  refine gw_seq ?_
  refine gw_seq ?_
  refine gw_region ?_
  refine wl_ov (ov_move rfl) rfl ?_
  refine wl_ov (ov_len es22 rfl) rfl ?_
  refine wl_set 23 (v' := .int .i64 1) rfl rfl ?_
  refine wl_ov (ov_move rfl) rfl ?_
  refine wl_nil ?_
  refine nx_then ?_
  refine gw_block ?_
  refine gw_rounds 3 ?_
  refine gr_next ?_
  refine gw_seq ?_
  refine gw_region ?_
  refine wl_ov (ov_lss rfl rfl) rfl ?_
  refine wl_set 25 (v' := .bool true) rfl (congrArg Value.bool (by decide)) ?_
  refine wl_nil ?_
  refine nx_then ?_
  refine gw_seq ?_
  refine gw_cond rfl (fun _ => ?_) (fun hh => by cases hh)
  refine gw_skip ?_
  refine nx_then ?_
  refine gw_seq ?_
  refine gw_block ?_
  refine gw_seq ?_
  refine gw_region ?_
  refine wl_ov (ov_move rfl) rfl ?_
  refine wl_ov (ov_index (j := 0) es22 rfl rfl (by decide)) rfl ?_
  refine wl_ov (ov_load sc3 rfl (fun _ hm => hm.blkI 2 rfl) rfl) rfl ?_
  refine wl_ov (ov_assign rfl) rfl ?_
  refine wl_ov (ov_assign rfl) rfl ?_
  refine wl_nil ?_
  refine nx_then ?_
  refine gw_seq ?_
  refine gw_draw (fun wz => Blk wz g2 46 [.string ⟨#[97]⟩, .string ⟨#[99]⟩, .int .i64 0, .int .i64 1, .int .i64 0, .int .i64 50] ∧ Blk wz g1 3 [.int .i64 1] ∧ (SlOld bkEnc 6 46 w.heap.size none (some ⟨b, off, none⟩) 1 [⟨⟨#[97]⟩, ⟨#[99]⟩, 0, 1, 0, 50⟩]) wz ∧ True) mixed ?_
  refine wa_take 0 rfl (by kernel_rfl) (by kernel_rfl) (by kernel_rfl) (listed' := #[true, false, false, false, false, false, false, false, false, false, false, false]) rfl (fun _ _ _ h => h) (fun _ hm => ⟨hm.blkI 1 rfl, hm.blkI 2 rfl, hm.fact 0 rfl, trivial⟩) (ov_move rfl) rfl ?_
  refine wa_take 1 rfl (by kernel_rfl) (by kernel_rfl) (by kernel_rfl) (listed' := #[true, true, false, false, false, false, false, false, false, false, false, false]) rfl (fun _ _ _ h => h) (fun _ hm => ⟨hm.blkI 1 rfl, hm.blkI 2 rfl, hm.fact 0 rfl, trivial⟩) (ov_move rfl) rfl ?_
  refine wa_take 2 rfl (by kernel_rfl) (by kernel_rfl) (by kernel_rfl) (listed' := #[true, true, true, false, false, false, false, false, false, false, false, false]) rfl (fun _ _ _ h => h) (fun _ hm => ⟨hm.blkI 1 rfl, hm.blkI 2 rfl, hm.fact 0 rfl, trivial⟩) (ov_index (j := 0) es22 rfl rfl (by decide)) rfl ?_
  refine wa_take 4 rfl (by kernel_rfl) (by kernel_rfl) (by kernel_rfl) (listed' := #[true, true, true, false, true, false, false, false, false, false, false, false]) rfl (fun _ _ _ h => h) (fun _ hm => ⟨hm.blkI 1 rfl, hm.blkI 2 rfl, hm.fact 0 rfl, trivial⟩) (ov_move rfl) rfl ?_
  refine wa_take 5 rfl (by kernel_rfl) (by kernel_rfl) (by kernel_rfl) (listed' := #[true, true, true, false, true, true, false, false, false, false, false, false]) rfl (fun _ _ _ h => h) (fun _ hm => ⟨hm.blkI 1 rfl, hm.blkI 2 rfl, hm.fact 0 rfl, trivial⟩) (ov_field fo46_4 rfl rfl) rfl ?_
  refine wa_take 6 rfl (by kernel_rfl) (by kernel_rfl) (by kernel_rfl) (listed' := #[true, true, true, false, true, true, true, false, false, false, false, false]) rfl (fun _ _ _ h => h) (fun _ hm => ⟨hm.blkI 1 rfl, hm.blkI 2 rfl, hm.fact 0 rfl, trivial⟩) (ov_load sc3 rfl (fun _ hm => hm.1) rfl) rfl ?_
  refine wa_take 7 rfl (by kernel_rfl) (by kernel_rfl) (by kernel_rfl) (listed' := #[true, true, true, false, true, true, true, true, false, false, false, false]) rfl (fun _ _ _ h => h) (fun _ hm => ⟨hm.blkI 1 rfl, hm.blkI 2 rfl, hm.fact 0 rfl, trivial⟩) (ov_sub rfl rfl (by omega) (by omega)) rfl ?_
  refine wa_set 36 (v' := .int .i64 50) rfl rfl ?_
  refine wa_take 8 rfl (by kernel_rfl) (by kernel_rfl) (by kernel_rfl) (listed' := #[true, true, true, false, true, true, true, true, true, false, false, false]) rfl (fun _ _ _ h => h) (fun _ hm => ⟨hm.blkI 1 rfl, hm.blkI 2 rfl, hm.fact 0 rfl, trivial⟩) (ov_mul rfl rfl (by omega) (by omega)) rfl ?_
  refine wa_set 37 (v' := .int .i64 50) rfl rfl ?_
  refine wa_all [3] (by kernel_rfl) rfl ⟨⟨_, rfl, ?_⟩, trivial⟩
  refine wl_ov (ov_load sc3 rfl (fun _ hm => hm.blkI 0 rfl) rfl) rfl ?_
  refine wl_nil ?_
  refine nx_wa0 (listed' := #[true, true, true, true, true, true, true, true, true, false, false, false]) rfl (fun _ hm => ⟨hm.blkI 1 rfl, hm.blkI 2 rfl, hm.fact 0 rfl, trivial⟩) ?_
  refine wa_take 9 rfl (by kernel_rfl) (by kernel_rfl) (by kernel_rfl) (listed' := #[true, true, true, true, true, true, true, true, true, true, false, false]) rfl (fun _ _ _ h => h) (fun _ hm => ⟨hm.blkI 1 rfl, hm.blkI 2 rfl, hm.fact 0 rfl, trivial⟩) (ov_add rfl rfl (by omega) (by omega)) rfl ?_
  refine wa_set 38 (v' := .int .i64 50) rfl rfl ?_
  refine wa_take 10 rfl (by kernel_rfl) (by kernel_rfl) (by kernel_rfl) (listed' := #[true, true, true, true, true, true, true, true, true, true, true, false]) rfl (fun _ _ _ h => h) (fun _ hm => ⟨hm.blkI 1 rfl, hm.blkI 2 rfl, hm.fact 0 rfl, trivial⟩) (ov_index (j := 0) es22 rfl rfl (by decide)) rfl ?_
  refine wa_all [11] (by kernel_rfl) rfl ⟨⟨_, rfl, ?_⟩, trivial⟩
  refine wl_store 0 sc3 rfl rfl rfl rfl rfl rfl ?_
  refine wl_nil ?_
  refine nx_wa0 (listed' := #[true, true, true, true, true, true, true, true, true, true, true, true]) rfl (fun _ hm => ⟨hm.blkI 1 rfl, hm.blkI 2 rfl, hm.fact 0 rfl, trivial⟩) ?_
  refine wa_done (by kernel_rfl) ?_
  refine nx_then ?_
  refine gw_draw (fun wz => Blk wz g2 46 [.string ⟨#[97]⟩, .string ⟨#[99]⟩, .int .i64 0, .int .i64 1, .int .i64 0, .int .i64 50] ∧ Blk wz g1 3 [.int .i64 1] ∧ (SlOld bkEnc 6 46 w.heap.size none (some ⟨b, off, none⟩) 1 [⟨⟨#[97]⟩, ⟨#[99]⟩, 0, 1, 0, 50⟩]) wz ∧ True) mixed ?_
  refine wa_take 0 rfl (by kernel_rfl) (by kernel_rfl) (by kernel_rfl) (listed' := #[true, false, false, false, false, false, false, false, false, false, false, false]) rfl (fun _ _ _ h => h) (fun _ hm => ⟨hm.blkI 1 rfl, hm.blkI 2 rfl, hm.fact 0 rfl, trivial⟩) (ov_move rfl) rfl ?_
  refine wa_take 1 rfl (by kernel_rfl) (by kernel_rfl) (by kernel_rfl) (listed' := #[true, true, false, false, false, false, false, false, false, false, false, false]) rfl (fun _ _ _ h => h) (fun _ hm => ⟨hm.blkI 1 rfl, hm.blkI 2 rfl, hm.fact 0 rfl, trivial⟩) (ov_move rfl) rfl ?_
  refine wa_take 2 rfl (by kernel_rfl) (by kernel_rfl) (by kernel_rfl) (listed' := #[true, true, true, false, false, false, false, false, false, false, false, false]) rfl (fun _ _ _ h => h) (fun _ hm => ⟨hm.blkI 1 rfl, hm.blkI 2 rfl, hm.fact 0 rfl, trivial⟩) (ov_add rfl rfl (by omega) (by omega)) rfl ?_
  refine wa_set 42 (v' := .int .i64 1) rfl rfl ?_
  refine wa_take 3 rfl (by kernel_rfl) (by kernel_rfl) (by kernel_rfl) (listed' := #[true, true, true, true, false, false, false, false, false, false, false, false]) rfl (fun _ _ _ h => h) (fun _ hm => ⟨hm.blkI 1 rfl, hm.blkI 2 rfl, hm.fact 0 rfl, trivial⟩) (ov_index (j := 1) es22 rfl rfl (by decide)) rfl ?_
  refine wa_take 5 rfl (by kernel_rfl) (by kernel_rfl) (by kernel_rfl) (listed' := #[true, true, true, true, false, true, false, false, false, false, false, false]) rfl (fun _ _ _ h => h) (fun _ hm => ⟨hm.blkI 1 rfl, hm.blkI 2 rfl, hm.fact 0 rfl, trivial⟩) (ov_move rfl) rfl ?_
  refine wa_take 6 rfl (by kernel_rfl) (by kernel_rfl) (by kernel_rfl) (listed' := #[true, true, true, true, false, true, true, false, false, false, false, false]) rfl (fun _ _ _ h => h) (fun _ hm => ⟨hm.blkI 1 rfl, hm.blkI 2 rfl, hm.fact 0 rfl, trivial⟩) (ov_field fo46_4 rfl rfl) rfl ?_
  refine wa_take 7 rfl (by kernel_rfl) (by kernel_rfl) (by kernel_rfl) (listed' := #[true, true, true, true, false, true, true, true, false, false, false, false]) rfl (fun _ _ _ h => h) (fun _ hm => ⟨hm.blkI 1 rfl, hm.blkI 2 rfl, hm.fact 0 rfl, trivial⟩) (ov_load sc3 rfl (fun _ hm => hm.1) rfl) rfl ?_
  refine wa_take 8 rfl (by kernel_rfl) (by kernel_rfl) (by kernel_rfl) (listed' := #[true, true, true, true, false, true, true, true, true, false, false, false]) rfl (fun _ _ _ h => h) (fun _ hm => ⟨hm.blkI 1 rfl, hm.blkI 2 rfl, hm.fact 0 rfl, trivial⟩) (ov_mul rfl rfl (by omega) (by omega)) rfl ?_
  refine wa_set 48 (v' := .int .i64 50) rfl rfl ?_
  refine wa_all [4] (by kernel_rfl) rfl ⟨⟨_, rfl, ?_⟩, trivial⟩
  refine wl_ov (ov_load sc3 rfl (fun _ hm => hm.blkI 0 rfl) rfl) rfl ?_
  refine wl_nil ?_
  refine nx_wa0 (listed' := #[true, true, true, true, true, true, true, true, true, false, false, false]) rfl (fun _ hm => ⟨hm.blkI 1 rfl, hm.blkI 2 rfl, hm.fact 0 rfl, trivial⟩) ?_
  refine wa_take 9 rfl (by kernel_rfl) (by kernel_rfl) (by kernel_rfl) (listed' := #[true, true, true, true, true, true, true, true, true, true, false, false]) rfl (fun _ _ _ h => h) (fun _ hm => ⟨hm.blkI 1 rfl, hm.blkI 2 rfl, hm.fact 0 rfl, trivial⟩) (ov_add rfl rfl (by omega) (by omega)) rfl ?_
  refine wa_set 49 (v' := .int .i64 50) rfl rfl ?_
  refine wa_take 10 rfl (by kernel_rfl) (by kernel_rfl) (by kernel_rfl) (listed' := #[true, true, true, true, true, true, true, true, true, true, true, false]) rfl (fun _ _ _ h => h) (fun _ hm => ⟨hm.blkI 1 rfl, hm.blkI 2 rfl, hm.fact 0 rfl, trivial⟩) (ov_index (j := 1) es22 rfl rfl (by decide)) rfl ?_
  refine wa_all [11] (by kernel_rfl) rfl ⟨⟨_, rfl, ?_⟩, trivial⟩
  refine wl_store 0 sc3 rfl rfl rfl rfl rfl rfl ?_
  refine wl_nil ?_
  refine nx_wa0 (listed' := #[true, true, true, true, true, true, true, true, true, true, true, true]) rfl (fun _ hm => ⟨hm.blkI 1 rfl, hm.blkI 2 rfl, hm.fact 0 rfl, trivial⟩) ?_
  refine wa_done (by kernel_rfl) ?_
  refine nx_blk_nrm ?_
  refine nx_then ?_
  refine gw_region ?_
  refine wl_ov (ov_add rfl rfl (by omega) (by omega)) rfl ?_
  refine wl_set 51 (v' := .int .i64 1) rfl rfl ?_
  refine wl_ov (ov_move rfl) rfl ?_
  refine wl_nil ?_
  refine nx_next ?_
  refine gr_next ?_
  refine gw_seq ?_
  refine gw_region ?_
  refine wl_ov (ov_lss rfl rfl) rfl ?_
  refine wl_set 25 (v' := .bool false) rfl (congrArg Value.bool (by decide)) ?_
  refine wl_nil ?_
  refine nx_then ?_
  refine gw_seq ?_
  refine gw_cond rfl (fun hh => by cases hh) (fun _ => ?_)
  refine gw_exit ?_
  refine nx_then_exit ?_
  refine nx_then_exit ?_
  refine nx_blk_here ?_
  refine nx_then ?_
  refine gw_region ?_
  refine wl_ov (ov_move rfl) rfl ?_
  refine wl_ov (ov_move rfl) rfl ?_
  refine wl_ov (ov_mul rfl rfl (by omega) (by omega)) rfl ?_
  refine wl_set 54 (v' := .int .i64 100) rfl rfl ?_
  refine wl_ov (ov_assign rfl) rfl ?_
  refine wl_ov (ov_assign rfl) rfl ?_
  refine wl_nil ?_
  refine nx_blk_nrm ?_
  refine nx_then ?_
  refine gw_region ?_
  refine wl_ov (ov_add rfl rfl (by omega) (by omega)) rfl ?_
  refine wl_set 55 (v' := .int .i64 1) rfl rfl ?_
  refine wl_ov (ov_move rfl) rfl ?_
  refine wl_nil ?_
  refine nx_next ?_
  refine gr_next ?_
  refine gw_seq ?_
  refine gw_region ?_
  refine wl_ov (ov_lss rfl rfl) rfl ?_
  refine wl_set 15 (v' := .bool false) rfl (congrArg Value.bool (by decide)) ?_
  refine wl_nil ?_
  refine nx_then ?_
  refine gw_seq ?_
  refine gw_cond rfl (fun hh => by cases hh) (fun _ => ?_)
  refine gw_exit ?_
  refine nx_then_exit ?_
  refine nx_then_exit ?_
  refine nx_blk_here ?_
  refine nx_then ?_
  refine gw_seq ?_
  refine gw_region ?_
  refine wl_ov (ov_move rfl) rfl ?_
  refine wl_ov (ov_move rfl) rfl ?_
  refine wl_ov (ov_assign rfl) rfl ?_
  refine wl_ov (ov_assign rfl) rfl ?_
  refine wl_nil ?_
  refine nx_then ?_
  refine gw_ret ?_
  refine nx_ret2 rfl rfl rfl fun wx hm => ?_
  exact ⟨_, 2, rfl, hm.g, hm.rowOf 0 rfl rfl (by decide)⟩

end Go.Proofs.YtljnekobfjpfaaaDoor
/- What a law knows of bookings: booked. -/
namespace Go.Proofs.YtljnekobfjpfaaaDoor
open Go.RowKit

set_option maxRecDepth 100000 in
theorem same_fraction_neq (x0 : Int) (x1 : Int) (w : World) : (binOp .neq 61 (.agg #[.int .i64 x0, .int .i64 x1]) (.agg #[.int .i64 x0, .int .i64 x1])).run Tryd.prog w = .ok (.bool false) w := by
  have hS : Tryd.prog.underlying 61 = some (.struct (Tryd.prog.fieldsOf 61)) := by kernel_rfl
  have hp : Tryd.prog.stoodInHeld 61 = false := by kernel_rfl
  rw [run_neq_struct, show (10000 : Nat) = 9999 + 1 from rfl, run_equalIn_agg w 9999 61 _ _ hS hp]
  simp only [Program.fieldsOf, Tryd.underlying61]
  have u3 := Tryd.underlying3
  clear hS hp
  go_simp
set_option maxRecDepth 100000 in
theorem same_fraction_eql (x0 : Int) (x1 : Int) (w : World) : (binOp .eql 61 (.agg #[.int .i64 x0, .int .i64 x1]) (.agg #[.int .i64 x0, .int .i64 x1])).run Tryd.prog w = .ok (.bool true) w := by
  have hS : Tryd.prog.underlying 61 = some (.struct (Tryd.prog.fieldsOf 61)) := by kernel_rfl
  have hp : Tryd.prog.stoodInHeld 61 = false := by kernel_rfl
  rw [run_eql_struct, show (10000 : Nat) = 9999 + 1 from rfl, run_equalIn_agg w 9999 61 _ _ hS hp]
  simp only [Program.fieldsOf, Tryd.underlying61]
  have u3 := Tryd.underlying3
  clear hS hp
  go_simp
theorem guard_fraction : Tryd.prog.eqGuardType Tryd.prog.depth 61 = false := by kernel_rfl

set_option maxRecDepth 100000 in
set_option maxHeartbeats 400000 in
theorem equal_fraction_any (l : List Fr) (A1 A2 : Option Addr) (n c1 c2 : Nat) (w : World) (h1 : SlT frEnc 2 61 w A1 n l) (h2 : SlT frEnc 2 61 w A2 n l) (hn : n ≤ 1000000) :
    Calls Tryd.prog 38 #[.slice A1 n c1, .slice A2 n c2] w (fun e w' => e = .returned (.bool true) ∧ w.grownBy w' none) := by
  refine gw_enter ⟨26, w, none, []⟩ Tryd.func38 rfl Tryd.ntmps38 rfl (mem0 (X := [SlOld frEnc 2 61 w.heap.size none A1 n l, SlOld frEnc 2 61 w.heap.size none A2 n l]) (allF_cons h1.old (allF_cons h2.old allF_nil)) (allL_cons SlOld.lasts (allL_cons SlOld.lasts allL_nil))) ?_
  refine gw_seq ?_
  refine gw_region ?_
  have hlen := h1.len
  refine wl_ov (ov_assign rfl) rfl ?_
  refine wl_nil ?_
  refine nx_then ?_
  refine gw_seq ?_
  refine gw_seq ?_
  refine gw_region ?_
  refine wl_ov (ov_move rfl) rfl ?_
  refine wl_ov (ov_len es63 rfl) rfl ?_
  refine wl_ov (ov_move rfl) rfl ?_
  refine wl_ov (ov_len es63 rfl) rfl ?_
  refine wl_ov (ov_neq rfl rfl) rfl ?_
  refine wl_set 10 (v' := .bool false) rfl (congrArg Value.bool (by simp)) ?_
  refine wl_nil ?_
  refine nx_then ?_
  refine gw_cond rfl (fun hh => by cases hh) (fun _ => ?_)
  refine gw_skip ?_
  refine nx_then ?_
  refine gw_seq ?_
  refine gw_seq ?_
  refine gw_region ?_
  refine wl_ov (ov_move rfl) rfl ?_
  refine wl_ov (ov_len es63 rfl) rfl ?_
  refine wl_ov (ov_move rfl) rfl ?_
  refine wl_nil ?_
  refine nx_then ?_
  refine gw_block ?_
  refine gw_loop (γ := Nat) (fun (k : Nat) => k ≤ n) (fun (k : Nat) => [(0, .slice A1 n c1), (1, .slice A2 n c2), (12, .int .i64 ((n : Nat) : Int)), (13, .int .i64 ((k : Nat) : Int))]) (fun (k : Nat) => fun _ => True) (fun (k : Nat) => []) (fun (k : Nat) => []) (fun (k : Nat) => [SlOld frEnc 2 61 w.heap.size none A1 n l, SlOld frEnc 2 61 w.heap.size none A2 n l]) (fun (k : Nat) => n - k) 0 (Nat.zero_le _) ⟨rfl, rfl, rfl, rfl, trivial⟩ (fun _ hm => hm.pick [] [] [0, 1] rfl rfl) ?_
  intro k hinv
  replace hinv : k ≤ n := hinv
  refine gw_seq ?_
  refine gw_region ?_
  refine wl_ov (ov_lss rfl rfl) rfl ?_
  refine wl_nil ?_
  refine nx_then ?_
  refine gw_seq ?_
  refine gw_cond rfl (fun hh => ?_) (fun hh => ?_)
  · have hk : ((k : Nat) : Int) < ((n : Nat) : Int) := by simpa using hh
    clear hh
    refine gw_skip ?_
    refine nx_then ?_
    refine gw_seq ?_
    refine gw_block ?_
    refine gw_seq ?_
    refine gw_region ?_
    obtain ⟨b1, o1, hA, _, _⟩ := h1.get (by omega)
    subst hA
    obtain ⟨b2, o2, hA, _, _⟩ := h2.get (by omega)
    subst hA
    obtain ⟨x, hx⟩ : ∃ x, l[k]? = some x := ⟨_, List.getElem?_eq_getElem (by omega)⟩
    obtain ⟨x0, x1⟩ := x
    refine wl_ov (ov_move rfl) rfl ?_
    refine wl_ov (ov_assign rfl) rfl ?_
    refine wl_nil ?_
    refine nx_then ?_
    refine gw_seq ?_
    refine gw_draw (fun wz => (SlOld frEnc 2 61 w.heap.size none (some ⟨b1, o1, none⟩) n l) wz ∧ (SlOld frEnc 2 61 w.heap.size none (some ⟨b2, o2, none⟩) n l) wz ∧ True) mixed ?_
    refine wa_take 0 rfl (by kernel_rfl) (by kernel_rfl) (by kernel_rfl) (listed' := #[true, false, false, false, false, false, false, false, false]) rfl (fun _ _ _ h => h) (fun _ hm => ⟨hm.fact 0 rfl, hm.fact 1 rfl, trivial⟩) (ov_move rfl) rfl ?_
    refine wa_take 1 rfl (by kernel_rfl) (by kernel_rfl) (by kernel_rfl) (listed' := #[true, true, false, false, false, false, false, false, false]) rfl (fun _ _ _ h => h) (fun _ hm => ⟨hm.fact 0 rfl, hm.fact 1 rfl, trivial⟩) (ov_move rfl) rfl ?_
    refine wa_take 2 rfl (by kernel_rfl) (by kernel_rfl) (by kernel_rfl) (listed' := #[true, true, true, false, false, false, false, false, false]) rfl (fun _ _ _ h => h) (fun _ hm => ⟨hm.fact 0 rfl, hm.fact 1 rfl, trivial⟩) (ov_index (j := k) es63 rfl rfl (by omega)) rfl ?_
    refine wa_take 3 rfl (by kernel_rfl) (by kernel_rfl) (by kernel_rfl) (listed' := #[true, true, true, true, false, false, false, false, false]) rfl (fun _ _ _ h => h) (fun _ hm => ⟨hm.fact 0 rfl, hm.fact 1 rfl, trivial⟩) (ov_elem rz61 rfl (fun _ hm => (hm.1).1) hx rfl rfl) rfl ?_
    refine wa_take 4 rfl (by kernel_rfl) (by kernel_rfl) (by kernel_rfl) (listed' := #[true, true, true, true, true, false, false, false, false]) rfl (fun _ _ _ h => h) (fun _ hm => ⟨hm.fact 0 rfl, hm.fact 1 rfl, trivial⟩) (ov_move rfl) rfl ?_
    refine wa_take 5 rfl (by kernel_rfl) (by kernel_rfl) (by kernel_rfl) (listed' := #[true, true, true, true, true, true, false, false, false]) rfl (fun _ _ _ h => h) (fun _ hm => ⟨hm.fact 0 rfl, hm.fact 1 rfl, trivial⟩) (ov_move rfl) rfl ?_
    refine wa_take 6 rfl (by kernel_rfl) (by kernel_rfl) (by kernel_rfl) (listed' := #[true, true, true, true, true, true, true, false, false]) rfl (fun _ _ _ h => h) (fun _ hm => ⟨hm.fact 0 rfl, hm.fact 1 rfl, trivial⟩) (ov_index (j := k) es63 rfl rfl (by omega)) rfl ?_
    refine wa_take 7 rfl (by kernel_rfl) (by kernel_rfl) (by kernel_rfl) (listed' := #[true, true, true, true, true, true, true, true, false]) rfl (fun _ _ _ h => h) (fun _ hm => ⟨hm.fact 0 rfl, hm.fact 1 rfl, trivial⟩) (ov_elem rz61 rfl (fun _ hm => (hm.2.1).1) hx rfl rfl) rfl ?_
    refine wa_take 8 rfl (by kernel_rfl) (by kernel_rfl) (by kernel_rfl) (listed' := #[true, true, true, true, true, true, true, true, true]) rfl (fun _ _ _ h => h) (fun _ hm => ⟨hm.fact 0 rfl, hm.fact 1 rfl, trivial⟩) (ov_bin rfl rfl (cmp_agg guard_fraction (fun wx => same_fraction_neq x0 x1 wx))) rfl ?_
    refine wa_done (by kernel_rfl) ?_
    refine nx_then ?_
    refine gw_cond rfl (fun hh => by cases hh) (fun _ => ?_)
    refine gw_skip ?_
    refine nx_blk_nrm ?_
    refine nx_then ?_
    refine gw_region ?_
    refine wl_ov (ov_add rfl rfl (by omega) (by omega)) rfl ?_
    refine wl_ov (ov_move rfl) rfl ?_
    refine wl_nil ?_
    exact nx_round (k + 1) (by omega) (by omega) ⟨rfl, rfl, rfl, (some_int (by omega)), trivial⟩ (fun _ hm => hm.pick [] [] [0, 1] rfl rfl)
  · have hk : ¬ (((k : Nat) : Int) < ((n : Nat) : Int)) := by simpa using hh
    clear hh
    refine gw_exit ?_
    refine nx_then_exit ?_
    refine nx_then_exit ?_
    refine nx_blk_here ?_
    refine nx_then ?_
    refine gw_seq ?_
    refine gw_region ?_
    refine wl_ov (ov_assign rfl) rfl ?_
    refine wl_nil ?_
    refine nx_then ?_
    refine gw_ret ?_
    refine nx_ret1 rfl rfl fun wx hm => ?_
    exact ⟨rfl, hm.g⟩

def inEnc (z : Int) : List Value := [.int .i64 z]
theorem in_len (z : Int) : (inEnc z).length = 1 := rfl
theorem one_ok : ∀ b ∈ [(⟨⟨#[97]⟩, ⟨#[99]⟩, 0, 1, 0, 50⟩ : Bk)], BkOk b := fun b hb => by
  rw [List.mem_singleton.1 hb]; exact ⟨by decide, by decide⟩
theorem one_zero : oddsE [⟨⟨#[97]⟩, ⟨#[99]⟩, 0, 1, 0, 50⟩] = 0 := by decide +kernel
theorem lowF_50 : lowF 50 100 = ⟨1, 2⟩ := by simp [lowF]

set_option maxRecDepth 100000 in
set_option maxHeartbeats 400000 in
theorem bspread_one (A : Option Addr) (c : Nat) (w : World) (hl : SlT bkEnc 6 46 w A 1 [⟨⟨#[97]⟩, ⟨#[99]⟩, 0, 1, 0, 50⟩]) :
    Calls Tryd.prog 35 #[.slice A 1 c] w (fun e w' => ∃ A2 c2, e = .returned (.tuple #[.slice A2 2 c2, .int .i64 0]) ∧ w.grownBy w' none ∧ SlT frEnc 2 61 w' A2 2 [⟨1, 2⟩, ⟨1, 2⟩]) := by
  refine gw_enter ⟨34, w, none, []⟩ Tryd.func35 rfl Tryd.ntmps35 rfl (mem0 (X := [SlOld bkEnc 6 46 w.heap.size none A 1 [⟨⟨#[97]⟩, ⟨#[99]⟩, 0, 1, 0, 50⟩]]) (allF_cons hl.old allF_nil) (allL_cons SlOld.lasts allL_nil)) ?_
  refine gw_seq ?_
  refine gw_region ?_
  refine wl_ov (ov_assign rfl) rfl ?_
  refine wl_ov (ov_assign rfl) rfl ?_
  refine wl_nil ?_
  refine nx_then ?_
  refine gw_seq ?_
  refine gw_seq ?_
  refine gw_region ?_
  refine wl_ov (ov_move rfl) rfl ?_
  refine wl_callv (v := .int .i64 0) rfl cb104 rfl rfl (fun wx hm => (by rw [← one_zero]; exact checkOdds_any [⟨⟨#[97]⟩, ⟨#[99]⟩, 0, 1, 0, 50⟩] A 1 c wx (hm.fact 0 rfl).1 one_ok (by omega))) ?_
  refine wl_ov (ov_assign rfl) rfl ?_
  refine wl_nil ?_
  refine nx_then ?_
  refine gw_seq ?_
  refine gw_region ?_
  refine wl_ov (ov_move rfl) rfl ?_
  refine wl_ov (ov_neq rfl rfl) rfl ?_
  refine wl_set 13 (v' := .bool false) rfl (congrArg Value.bool (by decide)) ?_
  refine wl_nil ?_
  refine nx_then ?_
  refine gw_cond rfl (fun hh => by cases hh) (fun _ => ?_)
  refine gw_skip ?_
  refine nx_then ?_
  refine gw_seq ?_
  refine gw_region ?_
  refine wl_ov (ov_move rfl) rfl ?_
  refine wl_callgo (γ := Option Addr × Nat) (val := (fun (g : Option Addr × Nat) => .tuple #[.slice g.1 2 g.2, .int .i64 100])) (φ := (fun (g : Option Addr × Nat) => True)) (fun (g : Option Addr × Nat) => ⟨.slice g.1 2 g.2, 3, 1, 2, [.int .i64 50, .int .i64 50]⟩) rfl cb105 rfl rfl (fun wx hm => (spread_one A c wx (hm.fact 0 rfl).1).mono fun _ _ ⟨A2, c2, he, hg, ho⟩ => ⟨(A2, c2), he, trivial, ho, hg⟩) ?_
  rintro ⟨A2, c2⟩ hphi
  dsimp only at hphi ⊢
  clear hphi
  refine wl_look (R := ∃ g, A2 = some ⟨g, 0, none⟩) (fun wx hm => own_addr (hm.ownI 0 rfl) (by omega)) ?_
  rintro ⟨b2, rfl⟩
  refine wl_nilOwn 61 2 ?_
  refine wl_ov (ov_move rfl) rfl ?_
  refine wl_ov (ov_extract rfl rfl) rfl ?_
  refine wl_ov (ov_extract rfl rfl) rfl ?_
  refine wl_ov (ov_assign rfl) rfl ?_
  refine wl_ov (ov_assign rfl) rfl ?_
  refine wl_nil ?_
  refine nx_then ?_
  refine gw_seq ?_
  refine gw_region ?_
  refine wl_ov (ov_assign rfl) rfl ?_
  refine wl_nil ?_
  refine nx_then ?_
  refine gw_seq ?_
  refine gw_seq ?_
  refine gw_region ?_
  refine wl_ov (ov_move rfl) rfl ?_
  refine wl_ov (ov_len es22 rfl) rfl ?_
  refine wl_set 21 (v' := .int .i64 2) rfl rfl ?_
  refine wl_ov (ov_move rfl) rfl ?_
  refine wl_nil ?_
  refine nx_then ?_
  refine gw_block ?_
  refine gw_rounds 4 ?_
  refine gr_next ?_
  refine gw_seq ?_
  refine gw_region ?_
  refine wl_ov (ov_lss rfl rfl) rfl ?_
  refine wl_set 23 (v' := .bool true) rfl (congrArg Value.bool (by decide)) ?_
  refine wl_nil ?_
  refine nx_then ?_
  refine gw_seq ?_
  refine gw_cond rfl (fun _ => ?_) (fun hh => by cases hh)
  refine gw_skip ?_
  refine nx_then ?_
  refine gw_seq ?_
  refine gw_block ?_
  refine gw_seq ?_
  refine gw_region ?_
  refine wl_ov (ov_index (j := 0) es22 rfl rfl (by decide)) rfl ?_
  refine wl_ov (ov_elem1 (k := 0) sc3 rfl (fun _ hm => (SlT.ofOwn (l := [50, 50]) in_len (hm.ownI 1 rfl) rfl)) (rfl : [(50 : Int), 50][0]? = some 50) rfl rfl) rfl ?_
  refine wl_ov (ov_assign rfl) rfl ?_
  refine wl_nil ?_
  refine nx_then ?_
  refine gw_region ?_
  refine wl_ov (ov_move rfl) rfl ?_
  refine wl_ov (ov_move rfl) rfl ?_
  refine wl_ov (ov_move rfl) rfl ?_
  refine wl_callv (v := .agg #[.int .i64 1, .int .i64 2]) rfl cb106 rfl rfl (fun wx hm => (by have h := lowest_any 50 100 wx (by omega) (by omega) (by omega); rw [lowF_50] at h; exact h)) ?_
  refine wl_buildSlice (e := 61) (cs := [.int .i64 1, .int .i64 2]) rfl (by kernel_rfl) rfl fun g1 => ?_
  refine wl_append (news := [.int .i64 1, .int .i64 2]) 0 0 ap63 rfl rfl rfl rfl rfl rfl rfl (by decide) (by decide) rfl rfl fun v1 hv1 => ?_
  refine wl_ov (ov_assign rfl) rfl ?_
  refine wl_nil ?_
  refine nx_blk_nrm ?_
  refine nx_then ?_
  refine gw_region ?_
  refine wl_ov (ov_add rfl rfl (by omega) (by omega)) rfl ?_
  refine wl_set 32 (v' := .int .i64 1) rfl rfl ?_
  refine wl_ov (ov_move rfl) rfl ?_
  refine wl_nil ?_
  refine nx_next ?_
  refine gr_next ?_
  refine gw_seq ?_
  refine gw_region ?_
  refine wl_ov (ov_lss rfl rfl) rfl ?_
  refine wl_set 23 (v' := .bool true) rfl (congrArg Value.bool (by decide)) ?_
  refine wl_nil ?_
  refine nx_then ?_
  refine gw_seq ?_
  refine gw_cond rfl (fun _ => ?_) (fun hh => by cases hh)
  refine gw_skip ?_
  refine nx_then ?_
  refine gw_seq ?_
  refine gw_block ?_
  refine gw_seq ?_
  refine gw_region ?_
  refine wl_ov (ov_index (j := 1) es22 rfl rfl (by decide)) rfl ?_
  refine wl_ov (ov_elem1 (k := 0) sc3 rfl (fun _ hm => (SlT.ofOwn (l := [50, 50]) in_len (hm.ownI 1 rfl) rfl)) (rfl : [(50 : Int), 50][1]? = some 50) rfl rfl) rfl ?_
  refine wl_ov (ov_assign rfl) rfl ?_
  refine wl_nil ?_
  refine nx_then ?_
  refine gw_region ?_
  refine wl_ov (ov_move rfl) rfl ?_
  refine wl_ov (ov_move rfl) rfl ?_
  refine wl_ov (ov_move rfl) rfl ?_
  refine wl_callv (v := .agg #[.int .i64 1, .int .i64 2]) rfl cb106 rfl rfl (fun wx hm => (by have h := lowest_any 50 100 wx (by omega) (by omega) (by omega); rw [lowF_50] at h; exact h)) ?_
  refine wl_buildSlice (e := 61) (cs := [.int .i64 1, .int .i64 2]) rfl (by kernel_rfl) rfl fun g2 => ?_
  refine wl_append (news := [.int .i64 1, .int .i64 2]) 0 0 ap63 rfl rfl rfl rfl rfl rfl rfl (by decide) (by decide) rfl rfl fun v2 hv2 => ?_
  refine wl_ov (ov_assign rfl) rfl ?_
  refine wl_nil ?_
  refine nx_blk_nrm ?_
  refine nx_then ?_
  refine gw_region ?_
  refine wl_ov (ov_add rfl rfl (by omega) (by omega)) rfl ?_
  refine wl_set 32 (v' := .int .i64 2) rfl rfl ?_
  refine wl_ov (ov_move rfl) rfl ?_
  refine wl_nil ?_
  refine nx_next ?_
  refine gr_next ?_
  refine gw_seq ?_
  refine gw_region ?_
  refine wl_ov (ov_lss rfl rfl) rfl ?_
  refine wl_set 23 (v' := .bool false) rfl (congrArg Value.bool (by decide)) ?_
  refine wl_nil ?_
  refine nx_then ?_
  refine gw_seq ?_
  refine gw_cond rfl (fun hh => by cases hh) (fun _ => ?_)
  refine gw_exit ?_
  refine nx_then_exit ?_
  refine nx_then_exit ?_
  refine nx_blk_here ?_
  refine nx_then ?_
  refine gw_seq ?_
  refine gw_region ?_
  refine wl_ov (ov_move rfl) rfl ?_
  refine wl_ov (ov_assign rfl) rfl ?_
  refine wl_ov (ov_assign rfl) rfl ?_
  refine wl_nil ?_
  refine nx_then ?_
  refine gw_ret ?_
  refine nx_look (R := ∃ A cc, v2 = .slice A (0 + 1 + 1) cc) (fun wx hm => own_slice (hm.ownI 0 rfl)) ?_
  rintro ⟨A3, c3, rfl⟩
  refine nx_ret2 rfl rfl rfl fun wx hm => ?_
  exact ⟨A3, c3, rfl, hm.g, SlT.ofOwn (l := [⟨1, 2⟩, ⟨1, 2⟩]) fr_len (hm.ownI 0 rfl) rfl⟩

set_option maxRecDepth 100000 in
set_option maxHeartbeats 400000 in
theorem booked_any (w : World) : Calls Tryd.prog 32 #[] w (fun e w' => e = .returned (.bool true) ∧ w.grownBy w' none) := by
  refine gw_enter ⟨19, w, none, [61]⟩ Tryd.func32 rfl Tryd.ntmps32 rfl (mem0 (X := []) allF_nil allL_nil) ?_
  refine gw_seq ?_
  refine gw_region ?_
  refine wl_ov (ov_assign rfl) rfl ?_
  refine wl_nil ?_
  refine nx_then ?_
  refine gw_seq ?_
  refine gw_region ?_
  refine wl_ov (ov_build (cs := [.int .i64 0, .int .i64 1]) rfl (by kernel_rfl)) rfl ?_
  refine wl_ov (ov_build (cs := [.string ⟨#[97]⟩, .string ⟨#[99]⟩, .int .i64 0, .int .i64 1, .int .i64 0, .int .i64 50]) rfl (by kernel_rfl)) rfl ?_
  refine wl_buildSlice (e := 46) (cs := [.string ⟨#[97]⟩, .string ⟨#[99]⟩, .int .i64 0, .int .i64 1, .int .i64 0, .int .i64 50]) rfl (by kernel_rfl) rfl fun g1 => ?_
  refine wl_callx (γ := Option Addr × Nat) (val := (fun (g : Option Addr × Nat) => .tuple #[.slice g.1 2 g.2, .int .i64 0])) (φ := (fun (g : Option Addr × Nat) => True)) (Y := (fun (g : Option Addr × Nat) => fun wy => SlT frEnc 2 61 wy g.1 2 [⟨1, 2⟩, ⟨1, 2⟩])) rfl cb35 rfl rfl (fun wx hm => (bspread_one _ _ wx (SlT.ofBlk (l := [⟨⟨#[97]⟩, ⟨#[99]⟩, 0, 1, 0, 50⟩]) bk_len (hm.blkI 0 rfl))).mono fun _ _ ⟨A2, c2, he, hg, hs⟩ => ⟨(A2, c2), he, trivial, hg, hs⟩) (fun _ => SlT.lasts2 rfl) ?_
  rintro ⟨A2, c2⟩ hphi
  dsimp only
  clear hphi
  refine wl_ov (ov_move rfl) rfl ?_
  refine wl_ov (ov_extract rfl rfl) rfl ?_
  refine wl_ov (ov_extract rfl rfl) rfl ?_
  refine wl_ov (ov_assign rfl) rfl ?_
  refine wl_ov (ov_assign rfl) rfl ?_
  refine wl_nil ?_
  refine nx_then ?_
  refine gw_seq ?_
  refine gw_region ?_
  refine wl_ov (ov_move rfl) rfl ?_
  refine wl_ov (ov_eql rfl rfl) rfl ?_
  refine wl_set 11 (v' := .bool true) rfl (congrArg Value.bool (by decide)) ?_
  refine wl_ov (ov_move rfl) rfl ?_
  refine wl_guard_on rfl rfl rfl ?_
  refine wl_ov (ov_move rfl) rfl ?_
  refine wl_guard_on rfl rfl rfl ?_
  refine wl_ov (ov_build (cs := [.int .i64 1, .int .i64 2]) rfl (by kernel_rfl)) rfl ?_
  refine wl_guard_on rfl rfl rfl ?_
  refine wl_ov (ov_build (cs := [.int .i64 1, .int .i64 2]) rfl (by kernel_rfl)) rfl ?_
  refine wl_guard_on rfl rfl rfl ?_
  refine wl_buildSlice (e := 61) (cs := [.int .i64 1, .int .i64 2, .int .i64 1, .int .i64 2]) rfl (by kernel_rfl) rfl fun g2 => ?_
  refine wl_guard_on rfl rfl rfl ?_
  refine wl_callv rfl cb38 rfl rfl (fun wx hm => (equal_fraction_any [⟨1, 2⟩, ⟨1, 2⟩] A2 _ 2 c2 2 wx (hm.fact 0 rfl) (SlT.ofBlk (l := [⟨1, 2⟩, ⟨1, 2⟩]) fr_len (hm.blkI 0 rfl)) (by omega))) ?_
  refine wl_ov (ov_pick_t rfl rfl) rfl ?_
  refine wl_ov (ov_assign rfl) rfl ?_
  refine wl_nil ?_
  refine nx_then ?_
  refine gw_ret ?_
  refine nx_ret1 rfl rfl fun wx hm => ?_
  exact ⟨rfl, hm.g⟩

end Go.Proofs.YtljnekobfjpfaaaDoor
/- The walk of the law CancelsCost. -/
namespace Go.Proofs.YtljnekobfjpfaaaDoor
open Go.RowKit

theorem cpay_out {p : Int} (h : decide (p < 0) = true) : whenE (!inB p 0 1000000000) 1 = whenE true 1 := by
  have h1 := of_decide_eq_true h
  rw [inB_false.2 (by omega)]; rfl
theorem cpay_in {p : Int} (h : decide (p < 0) = false) : whenE (!inB p 0 1000000000) 1 = whenE (decide (1000000000 < p)) 1 := by
  have h1 := of_decide_eq_false h
  by_cases h2 : 1000000000 < p
  · rw [inB_false.2 (by omega), decide_eq_true h2]; rfl
  · rw [inB_iff.2 (by omega), decide_eq_false h2]; rfl
theorem list_one {b : Bk} (h : BkOk b) : ∀ x ∈ [b], BkOk x := fun x hx => by rw [List.mem_singleton.1 hx]; exact h

set_option maxRecDepth 100000 in
set_option maxHeartbeats 2000000 in
theorem cancels_walk (a0 : Option Addr) (len0 cap0 : Nat) (z0 : List Int) (w : World) (hR : RowIn w a0 len0 cap0 z0) :
    Calls Tryd.prog 4 #[.slice a0 len0 cap0] w fun e w' => e = .returned (.bool true) ∧ Below w.heap.size w w' := by
  refine gw_enter ⟨80, w, none, []⟩ Tryd.func4 rfl Tryd.ntmps4 rfl (mem0 (X := []) allF_nil allL_nil) ?_
  refine gw_seq ?_
  refine gw_region ?_
  refine wl_ov (ov_assign rfl) rfl ?_
  refine wl_nil ?_
  refine nx_then ?_
  refine gw_seq ?_
  refine gw_region ?_
  refine wl_ov (ov_move rfl) rfl ?_
  refine wl_ov (ov_build (cs := [.slice a0 len0 cap0, .int .i64 0]) rfl (by kernel_rfl)) rfl ?_
  refine wl_box rfl rfl rfl fun sb => ?_
  refine wl_ov (ov_assign rfl) rfl ?_
  refine wl_nil ?_
  refine nx_then ?_
  refine gw_seq ?_
  refine gw_region ?_
  refine wl_ov (ov_move rfl) rfl ?_
  refine wl_law [141] hR 0 rfl fun w1 B hg1 hsb => ?_
  refine wl_calls (γ := Option Addr × Nat × Nat × List Tr) (val := (fun (g : Option Addr × Nat × Nat × List Tr) => .slice g.1 g.2.1 g.2.2.1)) (φ := (fun (g : Option Addr × Nat × Nat × List Tr) => g.2.1 ≤ 3)) (Y := (fun (g : Option Addr × Nat × Nat × List Tr) => fun wy => SlT trEnc 2 141 wy g.1 g.2.1 g.2.2.2)) (m' := 0 + 1) rfl cb20 rfl rfl rfl rfl (fun wx hm => (gtiers_any wx B sb _ hm.k (by omega)).mono fun _ _ ⟨A, n, c, l, he, hsl, hn3, hS, hg⟩ => ⟨(A, n, c, l), he, hn3, hS, hg, hsl⟩) (fun _ => SlT.lasts2 rfl) ?_
  rintro ⟨A, n, c, l⟩ hn3
  dsimp only at hn3 ⊢
  refine wl_ov (ov_move rfl) rfl ?_
  refine wl_calls (γ := ByteArray × ByteArray × Int × Int × Int × Int) (val := (fun (g : ByteArray × ByteArray × Int × Int × Int × Int) => .agg #[.string g.1, .string g.2.1, .int .i64 g.2.2.1, .int .i64 g.2.2.2.1, .int .i64 g.2.2.2.2.1, .int .i64 g.2.2.2.2.2])) (φ := (fun (g : ByteArray × ByteArray × Int × Int × Int × Int) => BkOk ⟨g.1, g.2.1, g.2.2.1, g.2.2.2.1, g.2.2.2.2.1, g.2.2.2.2.2⟩ ∧ (0 ≤ g.2.2.1 ∧ g.2.2.1 ≤ 5761410))) (Y := (fun (g : ByteArray × ByteArray × Int × Int × Int × Int) => fun _ => True)) (m' := 0 + 1 + 20) rfl cb21 rfl rfl rfl rfl (fun wx hm => (gmore_any wx B sb _ hm.k (by omega)).mono fun _ _ ⟨b, he, hok, hf, hS, hg⟩ => ⟨(b.key, b.cls, b.fr, b.to_, b.made, b.odds), he, ⟨hok, hf⟩, hS, hg, trivial⟩) (fun _ => Lasts2.true_) ?_
  rintro ⟨ke, cl, fr, tt, ma, od⟩ hb
  dsimp only at hb ⊢
  obtain ⟨hbk, hf0, hf1⟩ := hb
  refine wl_ov (ov_move rfl) rfl ?_
  refine wl_buildSlice (e := 3) (cs := [.int .i64 0, .int .i64 999, .int .i64 10000, .int .i64 1000000000, .int .i64 (-1), .int .i64 1000000001]) rfl (by kernel_rfl) rfl fun g2 => ?_
  refine wl_got (γ := Int) (val := fun v => .int .i64 v) (φ := fun v => v ∈ ([0, 999, 10000, 1000000000, -1, 1000000001] : List Int)) rfl cb15 rfl rfl rfl rfl (fun wx hm => (pick_any [0, 999, 10000, 1000000000, -1, 1000000001] _ _ _ wx B sb _ hm.k (by omega) (by simp) (by simp) (hm.blkI 0 rfl) (hm.neRow 0 rfl rfl))) fun v3 hv3 => ?_
  have bv3 : -1 ≤ v3 ∧ v3 ≤ 1000000001 := mem_rng hv3 (by decide)
  have bv30 := bv3.1
  have bv31 := bv3.2
  clear bv3
  refine wl_ov (ov_move rfl) rfl ?_
  refine wl_calls (γ := Int) (val := (fun (g : Int) => .int .i64 g)) (φ := (fun (g : Int) => -1 ≤ g ∧ g ≤ 5761440)) (Y := (fun (g : Int) => fun _ => True)) (m' := 0 + 1 + 20 + 1 + 1) rfl cb22 rfl rfl rfl rfl (fun wx hm => (gmoment_any wx B sb _ hm.k (by omega)).mono fun _ _ ⟨v, he, hv, hS, hg⟩ => ⟨v, he, hv, hS, hg, trivial⟩) (fun _ => Lasts2.true_) ?_
  rintro mo1 hmo1
  obtain ⟨hm0, hm1⟩ := hmo1
  refine wl_alloc zc46 rfl fun g5 => ?_
  refine wl_ov (ov_assign rfl) rfl ?_
  refine wl_stores (cs' := [.string ke, .string cl, .int .i64 fr, .int .i64 tt, .int .i64 ma, .int .i64 od]) 0 rz46 rfl rfl rfl rfl rfl rfl rfl rfl ?_
  refine wl_ov (ov_assign rfl) rfl ?_
  refine wl_ov (ov_assign rfl) rfl ?_
  refine wl_nil ?_
  refine nx_then ?_
  refine gw_cut (γ := Int) (I := (fun (mo : Int) => -10000000000 ≤ mo ∧ mo ≤ 10000000000)) (S' := (fun (mo : Int) => [(2, .bool false), (4, .slice A n c), (5, .pointer (some ⟨g5, 0, none⟩)), (6, .int .i64 v3), (7, .int .i64 mo)])) (K' := (fun (mo : Int) => fun w => Strm 25 w B sb (0 + 1 + 20 + 1 + 1 + 1 + 1))) (L' := (fun (mo : Int) => [(g5, 46, [.string ke, .string cl, .int .i64 fr, .int .i64 tt, .int .i64 ma, .int .i64 od]), (g2, 3, [.int .i64 0, .int .i64 999, .int .i64 10000, .int .i64 1000000000, .int .i64 (-1), .int .i64 1000000001])])) (O' := (fun (mo : Int) => [])) (X' := (fun (mo : Int) => [fun _ => True, fun _ => True, fun wy => SlT trEnc 2 141 wy A n l])) ?_ ?_
  · refine gw_seq ?_
    refine gw_region ?_
    refine wl_ov (ov_move rfl) rfl ?_
    refine wl_got (γ := Bool) (val := fun v => .bool v) (φ := fun v => True) rfl cb23 rfl rfl rfl rfl (fun wx hm => ((flip_any _ wx B sb _ hm.k (by omega) (by omega) (by omega)).mono fun _ _ ⟨v, he, hS, hg⟩ => ⟨v, trivial, he, hS, hg⟩)) fun f6 _ => ?_
    refine wl_nil ?_
    refine nx_then ?_
    refine gw_cond rfl (fun hh => ?_) (fun hh => ?_)
    · have hf : f6 = true := by simpa using hh
      clear hh
      refine gw_draw (fun wz => Blk wz g5 46 [.string ke, .string cl, .int .i64 fr, .int .i64 tt, .int .i64 ma, .int .i64 od] ∧ Blk wz g2 3 [.int .i64 0, .int .i64 999, .int .i64 10000, .int .i64 1000000000, .int .i64 (-1), .int .i64 1000000001] ∧ (fun _ => True) wz ∧ (fun _ => True) wz ∧ (fun wy => SlT trEnc 2 141 wy A n l) wz ∧ True) mixed ?_
      refine wa_take 0 rfl (by kernel_rfl) (by kernel_rfl) (by kernel_rfl) (listed' := #[true, false, false, false, false, false, false, false]) rfl (fun _ _ _ h => h) (fun _ hm => ⟨hm.blkI 0 rfl, hm.blkI 1 rfl, hm.fact 0 rfl, hm.fact 1 rfl, hm.fact 2 rfl, trivial⟩) (ov_field fo46_2 rfl rfl) rfl ?_
      refine wa_take 1 rfl (by kernel_rfl) (by kernel_rfl) (by kernel_rfl) (listed' := #[true, true, false, false, false, false, false, false]) rfl (fun _ _ _ h => h) (fun _ hm => ⟨hm.blkI 0 rfl, hm.blkI 1 rfl, hm.fact 0 rfl, hm.fact 1 rfl, hm.fact 2 rfl, trivial⟩) (ov_field fo28_0 rfl rfl) rfl ?_
      refine wa_take 2 rfl (by kernel_rfl) (by kernel_rfl) (by kernel_rfl) (listed' := #[true, true, true, false, false, false, false, false]) rfl (fun _ _ _ h => h) (fun _ hm => ⟨hm.blkI 0 rfl, hm.blkI 1 rfl, hm.fact 0 rfl, hm.fact 1 rfl, hm.fact 2 rfl, trivial⟩) (ov_load sc3 rfl (fun _ hm => hm.1) rfl) rfl ?_
      refine wa_take 3 rfl (by kernel_rfl) (by kernel_rfl) (by kernel_rfl) (listed' := #[true, true, true, true, false, false, false, false]) rfl (fun _ _ _ h => h) (fun _ hm => ⟨hm.blkI 0 rfl, hm.blkI 1 rfl, hm.fact 0 rfl, hm.fact 1 rfl, hm.fact 2 rfl, trivial⟩) (ov_move rfl) rfl ?_
      refine wa_all [4] (by kernel_rfl) rfl ⟨⟨_, rfl, ?_⟩, trivial⟩
      refine wl_buildSlice (e := 3) (cs := [.int .i64 0, .int .i64 1, .int .i64 8, .int .i64 9, .int .i64 10, .int .i64 59, .int .i64 60, .int .i64 999, .int .i64 1000]) rfl (by kernel_rfl) rfl fun g7 => ?_
      refine wl_nil ?_
      refine nx_wa0 (listed' := #[true, true, true, true, true, false, false, false]) rfl (fun _ hm => ⟨hm.blkI 1 rfl, hm.blkI 2 rfl, hm.fact 0 rfl, hm.fact 1 rfl, hm.fact 2 rfl, trivial⟩) ?_
      refine wa_all [5] (by kernel_rfl) rfl ⟨⟨_, rfl, ?_⟩, trivial⟩
      refine wl_got (γ := Int) (val := fun v => .int .i64 v) (φ := fun v => v ∈ ([0, 1, 8, 9, 10, 59, 60, 999, 1000] : List Int)) rfl cb15 rfl rfl rfl rfl (fun wx hm => (pick_any [0, 1, 8, 9, 10, 59, 60, 999, 1000] _ _ _ wx B sb _ hm.k (by omega) (by simp) (by simp) (hm.blkI 0 rfl) (hm.neRow 0 rfl rfl))) fun v8 hv8 => ?_
      have bv8 : 0 ≤ v8 ∧ v8 ≤ 1000 := mem_rng hv8 (by decide)
      have bv80 := bv8.1
      have bv81 := bv8.2
      clear bv8
      refine wl_nil ?_
      refine nx_wa0 (listed' := #[true, true, true, true, true, true, false, false]) rfl (fun _ hm => ⟨hm.blkI 1 rfl, hm.blkI 2 rfl, hm.fact 0 rfl, hm.fact 1 rfl, hm.fact 2 rfl, trivial⟩) ?_
      refine wa_take 6 rfl (by kernel_rfl) (by kernel_rfl) (by kernel_rfl) (listed' := #[true, true, true, true, true, true, true, false]) rfl (fun _ _ _ h => h) (fun _ hm => ⟨hm.blkI 1 rfl, hm.blkI 2 rfl, hm.fact 0 rfl, hm.fact 1 rfl, hm.fact 2 rfl, trivial⟩) (ov_sub rfl rfl (by omega) (by omega)) rfl ?_
      refine wa_take 7 rfl (by kernel_rfl) (by kernel_rfl) (by kernel_rfl) (listed' := #[true, true, true, true, true, true, true, true]) rfl (fun _ _ _ h => h) (fun _ hm => ⟨hm.blkI 1 rfl, hm.blkI 2 rfl, hm.fact 0 rfl, hm.fact 1 rfl, hm.fact 2 rfl, trivial⟩) (ov_assign rfl) rfl ?_
      refine wa_done (by kernel_rfl) ?_
      exact nx_meet (fr - v8) (by omega) ⟨rfl, rfl, rfl, rfl, rfl, trivial⟩ (fun _ hm => hm.pick [1, 2] [] [0, 1, 2] rfl rfl)
    · have hf : f6 = false := by simpa using hh
      clear hh
      refine gw_skip ?_
      exact nx_meet mo1 (by omega) ⟨rfl, rfl, rfl, rfl, rfl, trivial⟩ (fun _ hm => (hm.more rfl (by first | omega | (dsimp only; omega))).pick [0, 1] [] [0, 1, 2] rfl rfl)
  · intro mo hinv
    replace hinv : -10000000000 ≤ mo ∧ mo ≤ 10000000000 := hinv
    refine gw_seq ?_
    refine gw_region ?_
    refine wl_ov (ov_move rfl) rfl ?_
    refine wl_ov (ov_loads rz46 rfl (fun _ hm => hm.blkI 0 rfl) rfl rfl) rfl ?_
    refine wl_ov (ov_move rfl) rfl ?_
    refine wl_ov (ov_move rfl) rfl ?_
    refine wl_callv rfl cb24 rfl rfl (fun wx hm => (cancelFee_any l A n c ke cl fr tt ma od v3 mo wx (hm.fact 2 rfl) (by omega) hbk)) ?_
    refine wl_ov (ov_move rfl) rfl ?_
    refine wl_ov (ov_extract rfl rfl) rfl ?_
    refine wl_ov (ov_extract rfl rfl) rfl ?_
    refine wl_ov (ov_assign rfl) rfl ?_
    refine wl_ov (ov_assign rfl) rfl ?_
    refine wl_nil ?_
    refine nx_then ?_
    refine gw_seq ?_
    refine gw_region ?_
    refine wl_ov (ov_move rfl) rfl ?_
    refine wl_callv rfl cb25 rfl rfl (fun wx hm => (tiersFault_any l A n c wx (hm.fact 2 rfl) (by omega))) ?_
    refine wl_ov (ov_assign rfl) rfl ?_
    refine wl_ov (ov_assign rfl) rfl ?_
    refine wl_nil ?_
    refine nx_then ?_
    refine gw_seq ?_
    refine gw_seq ?_
    refine gw_region ?_
    refine wl_ov (ov_move rfl) rfl ?_
    refine wl_callv rfl cb26 rfl rfl (fun wx hm => (checkTiers_any l A n c wx (hm.fact 2 rfl) (by omega))) ?_
    refine wl_ov (ov_move rfl) rfl ?_
    refine wl_ov (ov_neq rfl rfl) rfl ?_
    refine wl_set 46 (v' := .bool false) rfl (congrArg Value.bool (by simp)) ?_
    refine wl_nil ?_
    refine nx_then ?_
    refine gw_cond rfl (fun hh => by cases hh) (fun _ => ?_)
    refine gw_skip ?_
    refine nx_then ?_
    refine gw_seq ?_
    refine gw_cut (γ := Unit) (I := (fun (u : Unit) => True)) (S' := (fun (u : Unit) => [(2, .bool false), (4, .slice A n c), (5, .pointer (some ⟨g5, 0, none⟩)), (6, .int .i64 v3), (7, .int .i64 mo), (8, .int .i64 (if cancelE l ⟨ke, cl, fr, tt, ma, od⟩ v3 mo = 0 then feeV l v3 (fr - mo) else 0)), (9, .int .i64 (cancelE l ⟨ke, cl, fr, tt, ma, od⟩ v3 mo)), (10, .int .i64 (cancelE l ⟨ke, cl, fr, tt, ma, od⟩ v3 mo)), (11, .int .i64 0)])) (K' := (fun (u : Unit) => fun w => Strm 25 w B sb (0 + 1 + 20 + 1 + 1 + 1 + 1))) (L' := (fun (u : Unit) => [(g5, 46, [.string ke, .string cl, .int .i64 fr, .int .i64 tt, .int .i64 ma, .int .i64 od]), (g2, 3, [.int .i64 0, .int .i64 999, .int .i64 10000, .int .i64 1000000000, .int .i64 (-1), .int .i64 1000000001])])) (O' := (fun (u : Unit) => [])) (X' := (fun (u : Unit) => [fun _ => True, fun _ => True, fun wy => SlT trEnc 2 141 wy A n l])) ?_ ?_
    · refine gw_region ?_
      refine wl_ov (ov_move rfl) rfl ?_
      refine wl_ov (ov_loads rz46 rfl (fun _ hm => hm.blkI 0 rfl) rfl rfl) rfl ?_
      refine wl_buildSlice (e := 46) (cs := [.string ke, .string cl, .int .i64 fr, .int .i64 tt, .int .i64 ma, .int .i64 od]) rfl (by kernel_rfl) rfl fun g9 => ?_
      refine wl_callv rfl cb28 rfl rfl (fun wx hm => (bookingForm_any [⟨ke, cl, fr, tt, ma, od⟩] _ 1 1 wx (SlT.ofBlk (l := [⟨ke, cl, fr, tt, ma, od⟩]) bk_len (hm.blkI 0 rfl)) (list_one hbk) (by omega))) ?_
      refine wl_ov (ov_move rfl) rfl ?_
      refine wl_ov (ov_lss rfl rfl) rfl ?_
      refine wl_ov (ov_move rfl) rfl ?_
      rcases Bool.eq_false_or_eq_true (decide (v3 < 0)) with hp0 | hp0
      · refine wl_set 53 rfl (congrArg Value.bool hp0) ?_
        refine wl_guard_off rfl rfl rfl (by decide) rfl ?_
        refine wl_guard_off rfl rfl rfl (by decide) rfl ?_
        refine wl_ov (ov_pick_t rfl rfl) rfl ?_
        refine wl_callw rfl cb29 rfl rfl (fun wx hm => (rwhen_any _ _ wx)) ?_
        refine wl_ov (ov_move rfl) rfl ?_
        refine wl_callv rfl cb30 rfl rfl (fun wx hm => (momentFault_any mo wx)) ?_
        refine wl_buildSlice (e := 37) (cs := [.int .i64 (tiersE l), .int .i64 (formE [⟨ke, cl, fr, tt, ma, od⟩]), .int .i64 (whenE true 1), .int .i64 (momentE mo)]) rfl (by kernel_rfl) rfl fun g10 => ?_
        refine wl_callw rfl cb27 rfl rfl (fun wx hm => (errs_any [tiersE l, formE [⟨ke, cl, fr, tt, ma, od⟩], whenE true 1, momentE mo] _ _ _ wx (hm.blkI 0 rfl) (by simp))) ?_
        refine wl_ov (ov_assign rfl) rfl ?_
        refine wl_nil ?_
        exact nx_meet () trivial ⟨rfl, rfl, rfl, rfl, rfl, rfl, rfl, (some_int (by unfold cancelE; rw [cpay_out hp0])), rfl, trivial⟩ (fun _ hm => hm.pick [2, 3] [] [0, 1, 2] rfl rfl)
      · refine wl_set 53 rfl (congrArg Value.bool hp0) ?_
        refine wl_guard_on rfl rfl rfl ?_
        refine wl_ov (ov_move rfl) rfl ?_
        refine wl_guard_on rfl rfl rfl ?_
        refine wl_ov (ov_gtr rfl rfl) rfl ?_
        refine wl_ov (ov_pick_f rfl rfl) rfl ?_
        refine wl_callw rfl cb29 rfl rfl (fun wx hm => (rwhen_any _ _ wx)) ?_
        refine wl_ov (ov_move rfl) rfl ?_
        refine wl_callv rfl cb30 rfl rfl (fun wx hm => (momentFault_any mo wx)) ?_
        refine wl_buildSlice (e := 37) (cs := [.int .i64 (tiersE l), .int .i64 (formE [⟨ke, cl, fr, tt, ma, od⟩]), .int .i64 (whenE (decide (1000000000 < v3)) 1), .int .i64 (momentE mo)]) rfl (by kernel_rfl) rfl fun g11 => ?_
        refine wl_callw rfl cb27 rfl rfl (fun wx hm => (errs_any [tiersE l, formE [⟨ke, cl, fr, tt, ma, od⟩], whenE (decide (1000000000 < v3)) 1, momentE mo] _ _ _ wx (hm.blkI 0 rfl) (by simp))) ?_
        refine wl_ov (ov_assign rfl) rfl ?_
        refine wl_nil ?_
        exact nx_meet () trivial ⟨rfl, rfl, rfl, rfl, rfl, rfl, rfl, (some_int (by unfold cancelE; rw [cpay_in hp0])), rfl, trivial⟩ (fun _ hm => hm.pick [2, 3] [] [0, 1, 2] rfl rfl)
    · intro u hinv
      replace hinv : True := hinv
      refine gw_seq ?_
      refine gw_region ?_
      refine wl_ov (ov_move rfl) rfl ?_
      refine wl_ov (ov_eql rfl rfl) rfl ?_
      refine wl_nil ?_
      refine nx_then ?_
      refine gw_cond rfl (fun hh => ?_) (fun hh => ?_)
      · have hE : cancelE l ⟨ke, cl, fr, tt, ma, od⟩ v3 mo = 0 := by simpa using hh
        clear hh
        refine gw_region ?_
        refine wl_ov (ov_move rfl) rfl ?_
        refine wl_ov (ov_loads rz46 rfl (fun _ hm => hm.blkI 0 rfl) rfl rfl) rfl ?_
        refine wl_ov (ov_move rfl) rfl ?_
        refine wl_ov (ov_move rfl) rfl ?_
        refine wl_callv rfl cb31 rfl rfl (fun wx hm => (cancelOf_any l A n c ke cl fr tt ma od v3 mo wx (hm.fact 2 rfl) (by omega) hE)) ?_
        refine wl_ov (ov_assign rfl) rfl ?_
        refine wl_nil ?_
        refine nx_then ?_
        refine gw_seq ?_
        refine gw_region ?_
        refine wl_ov (ov_move rfl) rfl ?_
        refine wl_ov (ov_move rfl) rfl ?_
        refine wl_ov (ov_eql rfl rfl) rfl ?_
        refine wl_set 71 (v' := .bool true) rfl (congrArg Value.bool (by simp)) ?_
        refine wl_ov (ov_move rfl) rfl ?_
        refine wl_guard_on rfl rfl rfl ?_
        refine wl_ov (ov_move rfl) rfl ?_
        refine wl_guard_on rfl rfl rfl ?_
        refine wl_ov (ov_move rfl) rfl ?_
        refine wl_guard_on rfl rfl rfl ?_
        refine wl_ov (ov_eql rfl rfl) rfl ?_
        refine wl_set 75 (v' := .bool true) rfl (congrArg Value.bool (decide_eq_true (if_pos hE))) ?_
        refine wl_ov (ov_pick_t rfl rfl) rfl ?_
        refine wl_ov (ov_move rfl) rfl ?_
        refine wl_guard_on rfl rfl rfl ?_
        refine wl_callv rfl cb32 rfl rfl (fun wx hm => (booked_any wx)) ?_
        refine wl_ov (ov_pick_t rfl rfl) rfl ?_
        refine wl_ov (ov_assign rfl) rfl ?_
        refine wl_nil ?_
        refine nx_then ?_
        refine gw_ret ?_
        refine nx_ret1 rfl rfl fun wx hm => ?_
        exact ⟨rfl, law_end hg1 hsb hm.g⟩
      · have hE : ¬ (cancelE l ⟨ke, cl, fr, tt, ma, od⟩ v3 mo = 0) := by simpa using hh
        clear hh
        refine gw_skip ?_
        refine nx_then ?_
        refine gw_seq ?_
        refine gw_region ?_
        refine wl_ov (ov_move rfl) rfl ?_
        refine wl_ov (ov_move rfl) rfl ?_
        refine wl_ov (ov_eql rfl rfl) rfl ?_
        refine wl_set 71 (v' := .bool true) rfl (congrArg Value.bool (by simp)) ?_
        refine wl_ov (ov_move rfl) rfl ?_
        refine wl_guard_on rfl rfl rfl ?_
        refine wl_ov (ov_move rfl) rfl ?_
        refine wl_guard_on rfl rfl rfl ?_
        refine wl_ov (ov_move rfl) rfl ?_
        refine wl_guard_on rfl rfl rfl ?_
        refine wl_ov (ov_eql rfl rfl) rfl ?_
        refine wl_set 75 (v' := .bool true) rfl (congrArg Value.bool (decide_eq_true (if_neg hE))) ?_
        refine wl_ov (ov_pick_t rfl rfl) rfl ?_
        refine wl_ov (ov_move rfl) rfl ?_
        refine wl_guard_on rfl rfl rfl ?_
        refine wl_callv rfl cb32 rfl rfl (fun wx hm => (booked_any wx)) ?_
        refine wl_ov (ov_pick_t rfl rfl) rfl ?_
        refine wl_ov (ov_assign rfl) rfl ?_
        refine wl_nil ?_
        refine nx_then ?_
        refine gw_ret ?_
        refine nx_ret1 rfl rfl fun wx hm => ?_
        exact ⟨rfl, law_end hg1 hsb hm.g⟩

end Go.Proofs.YtljnekobfjpfaaaDoor
