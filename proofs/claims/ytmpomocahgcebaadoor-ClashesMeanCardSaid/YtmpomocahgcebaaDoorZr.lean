/- Several texts as one: Fm Ck Hw Tg -/
import Derived.Test.YtmpomocahgcebaaDoorSi
import Derived.Test.YtmpomocahgcebaaDoorTy
import Derived.Test.YtmpomocahgcebaaDoorPv
import Derived.Test.YtmpomocahgcebaaDoorRk
import Derived.Test.YtmpomocahgcebaaDoorWkey
import Derived.Test.YtmpomocahgcebaaDoorRt
import Derived.Test.YtmpomocahgcebaaDoorSw
import Derived.Test.YtmpomocahgcebaaDoorGb
import Derived.Test.YtmpomocahgcebaaDoorZq
import Derived.Test.YtmpomocahgcebaaDoorZp
import Derived.Test.YtmpomocahgcebaaDoorHe
import Derived.Test.YtmpomocahgcebaaDoorSg
import Derived.Test.YtmpomocahgcebaaDoorHg
import Derived.Test.YtmpomocahgcebaaDoorTw
import Derived.Test.YtmpomocahgcebaaDoorBl
/- The form of bookings: formed, BookingForm. -/
namespace Go.Proofs.YtmpomocahgcebaaDoor
open Go.RowKit

structure Bk where
  key : ByteArray
  cls : ByteArray
  fr : Int
  to_ : Int
  made : Int
  odds : Int
def bkEnc (b : Bk) : List Value := [.string b.key, .string b.cls, .int .i64 b.fr, .int .i64 b.to_, .int .i64 b.made, .int .i64 b.odds]
theorem bk_len (b : Bk) : (bkEnc b).length = 6 := rfl
def BkOk (b : Bk) : Prop := b.key.size ≤ 1000000 ∧ b.cls.size ≤ 1000000
def leO (p : Option Bk) (b : Bk) : Bool := match p with
  | none => false
  | some q => leB b.key q.key
def bookE (p : Option Bk) (b : Bk) : Int :=
  if !keyB b.key then 5 else if !keyB b.cls then 5 else if leO p b then 7 else
  if b.fr < 0 then 1 else if b.to_ ≤ b.fr then 1 else if 5761439 < b.to_ then 1 else if !inB b.made 0 b.fr then 1 else if !inB b.odds 0 100 then 1 else 0
def formE (l : List Bk) : Int := if 500 < l.length then 2 else scanE bookE none l
def prevK (l : List Bk) (k : Nat) : ByteArray := match prevOf l k with
  | none => ⟨#[]⟩
  | some q => q.key
theorem prevK_succ {l : List Bk} {k : Nat} {x : Bk} (h : l[k]? = some x) : prevK l (k + 1) = x.key := by
  unfold prevK prevOf; rw [if_neg (by omega), Nat.add_sub_cancel, h]
theorem leO_prevK {l : List Bk} {k : Nat} {b : Bk} (h : keyB b.key = true) : leB b.key (prevK l k) = leO (prevOf l k) b := by
  unfold prevK leO
  cases prevOf l k with
  | none => exact key_low h
  | some q => rfl
theorem bookE_ok {p : Option Bk} {b : Bk} (h : bookE p b = 0) : 0 ≤ b.fr ∧ b.fr < b.to_ ∧ b.to_ ≤ 5761439 ∧ 0 ≤ b.made ∧ b.made ≤ b.fr ∧ 0 ≤ b.odds ∧ b.odds ≤ 100 := by
  unfold bookE at h
  repeat (split at h; · cases h)
  rename_i h1 h2 h3 h4 h5 h6 h7 h8
  simp [inB] at h7 h8
  omega
theorem formE_one {b : Bk} (h : formE [b] = 0) : 0 ≤ b.fr ∧ b.fr < b.to_ ∧ b.to_ ≤ 5761439 ∧ 0 ≤ b.made ∧ b.made ≤ b.fr ∧ 0 ≤ b.odds ∧ b.odds ≤ 100 := by
  unfold formE at h
  rw [if_neg (by simp)] at h
  obtain ⟨q, hq⟩ := scanE_all h b (List.mem_singleton.2 rfl)
  exact bookE_ok hq

set_option maxRecDepth 100000 in
set_option maxHeartbeats 1000000 in
theorem formed_any (l : List Bk) (A : Option Addr) (n c : Nat) (w : World) (hl : SlT bkEnc 6 138 w A n l) (hok : ∀ b ∈ l, BkOk b) (hn : n ≤ 1000000) :
    Calls Tryd.prog 148 #[.slice A n c] w (GotE w (formE l)) := by
  refine gw_enter ⟨75, w, none, []⟩ Tryd.func148 rfl Tryd.ntmps148 rfl (mem0 (X := [SlOld bkEnc 6 138 w.heap.size none A n l]) (allF_cons hl.old allF_nil) (allL_cons SlOld.lasts allL_nil)) ?_
  refine gw_seq ?_
  refine gw_region ?_
  have hlen := hl.len
  refine wl_ov (ov_assign rfl) rfl ?_
  refine wl_nil ?_
  refine nx_then ?_
  refine gw_seq ?_
  refine gw_seq ?_
  refine gw_region ?_
  refine wl_ov (ov_move rfl) rfl ?_
  refine wl_ov (ov_len es26 rfl) rfl ?_
  refine wl_ov (ov_gtr rfl rfl) rfl ?_
  refine wl_nil ?_
  refine nx_then ?_
  refine gw_cond rfl (fun hh => ?_) (fun hh => ?_)
  · have h1 : 500 < ((n : Nat) : Int) := by simpa using hh
    clear hh
    refine gw_seq ?_
    refine gw_region ?_
    refine wl_ov (ov_assign rfl) rfl ?_
    refine wl_nil ?_
    refine nx_then ?_
    refine gw_ret ?_
    refine nx_then_ret ?_
    refine nx_ret1 rfl rfl fun wx hm => ?_
    exact ⟨ret_int (by unfold formE; rw [if_pos (by omega)]), hm.g⟩
  · have h1 : ¬ (500 < ((n : Nat) : Int)) := by simpa using hh
    clear hh
    refine gw_skip ?_
    refine nx_then ?_
    refine gw_seq ?_
    refine gw_seq ?_
    refine gw_region ?_
    refine wl_ov (ov_move rfl) rfl ?_
    refine wl_ov (ov_len es26 rfl) rfl ?_
    refine wl_ov (ov_move rfl) rfl ?_
    refine wl_nil ?_
    refine nx_then ?_
    refine gw_block ?_
    refine gw_loop (γ := Nat) (fun (k : Nat) => k ≤ n ∧ formE l = scanE bookE (prevOf l k) (l.drop k)) (fun (k : Nat) => [(0, .slice A n c), (8, .slice A n c), (9, .int .i64 ((n : Nat) : Int)), (10, .int .i64 ((k : Nat) : Int))]) (fun (k : Nat) => fun _ => True) (fun (k : Nat) => []) (fun (k : Nat) => []) (fun (k : Nat) => [SlOld bkEnc 6 138 w.heap.size none A n l]) (fun (k : Nat) => n - k) 0 ⟨Nat.zero_le _, by unfold formE; rw [if_neg (by omega)]; rfl⟩ ⟨rfl, rfl, rfl, rfl, trivial⟩ (fun _ hm => hm.pick [] [] [0] rfl rfl) ?_
    intro k hinv
    replace hinv : k ≤ n ∧ formE l = scanE bookE (prevOf l k) (l.drop k) := hinv
    refine gw_seq ?_
    refine gw_region ?_
    refine wl_ov (ov_lss rfl rfl) rfl ?_
    refine wl_nil ?_
    refine nx_then ?_
    refine gw_seq ?_
    refine gw_cond rfl (fun hh => ?_) (fun hh => ?_)
    · have hk : ((k : Nat) : Int) < ((n : Nat) : Int) := by simpa using hh
      clear hh
      refine gw_skip ?_
      refine nx_then ?_
      refine gw_seq ?_
      refine gw_block ?_
      refine gw_seq ?_
      refine gw_region ?_
      obtain ⟨b, off, hA, _, _⟩ := hl.get (by omega)
      subst hA
      obtain ⟨x, hx⟩ : ∃ x, l[k]? = some x := ⟨_, List.getElem?_eq_getElem (by omega)⟩
      obtain ⟨ke, cl, fr, tt, ma, od⟩ := x
      have hat := scanE_at bookE l k _ hx
      obtain ⟨hk1, hk2⟩ := hok _ (List.mem_of_getElem? hx)
      have hk1 : ke.size ≤ 1000000 := hk1
      have hk2 : cl.size ≤ 1000000 := hk2
      refine wl_ov (ov_move rfl) rfl ?_
      refine wl_ov (ov_index (j := k) es26 rfl rfl (by omega)) rfl ?_
      refine wl_ov (ov_elem (vs := [.string ke, .string cl, .int .i64 fr, .int .i64 tt, .int .i64 ma, .int .i64 od]) rz138 rfl (fun _ hm => (hm.fact 0 rfl).1) hx rfl rfl) rfl ?_
      refine wl_alloc zc138 rfl fun g1 => ?_
      refine wl_ov (ov_assign rfl) rfl ?_
      refine wl_stores (cs' := [.string ke, .string cl, .int .i64 fr, .int .i64 tt, .int .i64 ma, .int .i64 od]) 0 rz138 rfl rfl rfl rfl rfl rfl rfl rfl ?_
      refine wl_nil ?_
      refine nx_then ?_
      refine gw_block ?_
      refine gw_seq ?_
      refine gw_region ?_
      refine wl_ov (ov_field fo138_0 rfl rfl) rfl ?_
      refine wl_ov (ov_load sc9 rfl (fun _ hm => hm.blkI 0 rfl) rfl) rfl ?_
      refine wl_callw rfl cb106 rfl rfl (fun wx hm => (isKey_any _ wx (by omega))) ?_
      refine wl_ov (ov_un_not rfl) rfl ?_
      refine wl_ov (ov_move rfl) rfl ?_
      rcases Bool.eq_false_or_eq_true (!(keyB ke)) with h2 | h2
      · refine wl_set 20 rfl (congrArg Value.bool h2) ?_
        refine wl_guard_off rfl rfl rfl (by decide) rfl ?_
        refine wl_guard_off rfl rfl rfl (by decide) rfl ?_
        refine wl_guard_off rfl rfl rfl (by decide) rfl ?_
        refine wl_guard_off rfl rfl rfl (by decide) rfl ?_
        refine wl_ov (ov_pick_t rfl rfl) rfl ?_
        refine wl_ov (ov_assign rfl) rfl ?_
        refine wl_nil ?_
        refine nx_then ?_
        refine gw_cond rfl (fun _ => ?_) (fun hh => by cases hh)
        refine gw_seq ?_
        refine gw_region ?_
        refine wl_ov (ov_assign rfl) rfl ?_
        refine wl_nil ?_
        refine nx_then ?_
        refine gw_ret ?_
        refine nx_blk_ret ?_
        refine nx_blk_ret ?_
        refine nx_then_ret ?_
        refine nx_then_ret ?_
        refine nx_blk_ret ?_
        refine nx_then_ret ?_
        have hE : bookE (prevOf l k) ⟨ke, cl, fr, tt, ma, od⟩ = 5 := by unfold bookE; simp [h2]
        refine nx_ret1 rfl rfl fun wx hm => ?_
        exact ⟨ret_int (by rw [hinv.2, hat, if_neg (by rw [hE]; decide), hE]), hm.g⟩
      · refine wl_set 20 rfl (congrArg Value.bool h2) ?_
        refine wl_guard_on rfl rfl rfl ?_
        refine wl_ov (ov_field fo138_1 rfl rfl) rfl ?_
        refine wl_guard_on rfl rfl rfl ?_
        refine wl_ov (ov_load sc9 rfl (fun _ hm => hm.blkI 0 rfl) rfl) rfl ?_
        refine wl_guard_on rfl rfl rfl ?_
        refine wl_callw rfl cb106 rfl rfl (fun wx hm => (isKey_any _ wx (by omega))) ?_
        refine wl_guard_on rfl rfl rfl ?_
        refine wl_ov (ov_un_not rfl) rfl ?_
        refine wl_ov (ov_pick_f rfl rfl) rfl ?_
        refine wl_ov (ov_assign rfl) rfl ?_
        refine wl_nil ?_
        refine nx_then ?_
        refine gw_cond rfl (fun hh => ?_) (fun hh => ?_)
        · have h3 : (keyB cl) = false := by simpa using hh
          clear hh
          refine gw_seq ?_
          refine gw_region ?_
          refine wl_ov (ov_assign rfl) rfl ?_
          refine wl_nil ?_
          refine nx_then ?_
          refine gw_ret ?_
          refine nx_blk_ret ?_
          refine nx_blk_ret ?_
          refine nx_then_ret ?_
          refine nx_then_ret ?_
          refine nx_blk_ret ?_
          refine nx_then_ret ?_
          have hE : bookE (prevOf l k) ⟨ke, cl, fr, tt, ma, od⟩ = 5 := by unfold bookE; simp [h2, h3]
          refine nx_ret1 rfl rfl fun wx hm => ?_
          exact ⟨ret_int (by rw [hinv.2, hat, if_neg (by rw [hE]; decide), hE]), hm.g⟩
        · have h3 : (keyB cl) = true := by simpa using hh
          clear hh
          refine gw_seq ?_
          by_cases hk0 : k = 0
          · have hO : leO (prevOf l k) ⟨ke, cl, fr, tt, ma, od⟩ = false := by rw [prevOf_zero hk0]; rfl
            refine gw_draw (fun wz => Blk wz g1 138 [.string ke, .string cl, .int .i64 fr, .int .i64 tt, .int .i64 ma, .int .i64 od] ∧ (SlOld bkEnc 6 138 w.heap.size none (some ⟨b, off, none⟩) n l) wz ∧ True) mixed ?_
            refine wa_take 0 rfl (by kernel_rfl) (by kernel_rfl) (by kernel_rfl) (listed' := #[true, false, false, false, false, false, false, false, false, false, false, false, false, false]) rfl (fun _ _ _ h => h) (fun _ hm => ⟨hm.blkI 0 rfl, hm.fact 0 rfl, trivial⟩) (ov_move rfl) rfl ?_
            refine wa_take 1 rfl (by kernel_rfl) (by kernel_rfl) (by kernel_rfl) (listed' := #[true, true, false, false, false, false, false, false, false, false, false, false, false, false]) rfl (fun _ _ _ h => h) (fun _ hm => ⟨hm.blkI 0 rfl, hm.fact 0 rfl, trivial⟩) (ov_gtr rfl rfl) rfl ?_
            refine wa_set 28 (v' := .bool false) rfl (congrArg Value.bool (decide_eq_false (by omega))) ?_
            refine wa_take 2 rfl (by kernel_rfl) (by kernel_rfl) (by kernel_rfl) (listed' := #[true, true, true, false, false, false, false, false, false, false, false, false, false, false]) rfl (fun _ _ _ h => h) (fun _ hm => ⟨hm.blkI 0 rfl, hm.fact 0 rfl, trivial⟩) (ov_move rfl) rfl ?_
            refine wa_take_off 3 rfl rfl rfl (by decide) (by kernel_rfl) (by kernel_rfl) (by kernel_rfl) (listed' := #[true, true, true, true, false, false, false, false, false, false, false, false, false, false]) rfl (fun _ _ _ h => h) (fun _ hm => ⟨hm.blkI 0 rfl, hm.fact 0 rfl, trivial⟩) rfl ?_
            refine wa_take_off 4 rfl rfl rfl (by decide) (by kernel_rfl) (by kernel_rfl) (by kernel_rfl) (listed' := #[true, true, true, true, true, false, false, false, false, false, false, false, false, false]) rfl (fun _ _ _ h => h) (fun _ hm => ⟨hm.blkI 0 rfl, hm.fact 0 rfl, trivial⟩) rfl ?_
            refine wa_take_off 5 rfl rfl rfl (by decide) (by kernel_rfl) (by kernel_rfl) (by kernel_rfl) (listed' := #[true, true, true, true, true, true, false, false, false, false, false, false, false, false]) rfl (fun _ _ _ h => h) (fun _ hm => ⟨hm.blkI 0 rfl, hm.fact 0 rfl, trivial⟩) rfl ?_
            refine wa_take_off 6 rfl rfl rfl (by decide) (by kernel_rfl) (by kernel_rfl) (by kernel_rfl) (listed' := #[true, true, true, true, true, true, true, false, false, false, false, false, false, false]) rfl (fun _ _ _ h => h) (fun _ hm => ⟨hm.blkI 0 rfl, hm.fact 0 rfl, trivial⟩) rfl ?_
            refine wa_take_off 7 rfl rfl rfl (by decide) (by kernel_rfl) (by kernel_rfl) (by kernel_rfl) (listed' := #[true, true, true, true, true, true, true, true, false, false, false, false, false, false]) rfl (fun _ _ _ h => h) (fun _ hm => ⟨hm.blkI 0 rfl, hm.fact 0 rfl, trivial⟩) rfl ?_
            refine wa_take_off 8 rfl rfl rfl (by decide) (by kernel_rfl) (by kernel_rfl) (by kernel_rfl) (listed' := #[true, true, true, true, true, true, true, true, true, false, false, false, false, false]) rfl (fun _ _ _ h => h) (fun _ hm => ⟨hm.blkI 0 rfl, hm.fact 0 rfl, trivial⟩) rfl ?_
            refine wa_take_off 9 rfl rfl rfl (by decide) (by kernel_rfl) (by kernel_rfl) (by kernel_rfl) (listed' := #[true, true, true, true, true, true, true, true, true, true, false, false, false, false]) rfl (fun _ _ _ h => h) (fun _ hm => ⟨hm.blkI 0 rfl, hm.fact 0 rfl, trivial⟩) rfl ?_
            refine wa_take_off 10 rfl rfl rfl (by decide) (by kernel_rfl) (by kernel_rfl) (by kernel_rfl) (listed' := #[true, true, true, true, true, true, true, true, true, true, true, false, false, false]) rfl (fun _ _ _ h => h) (fun _ hm => ⟨hm.blkI 0 rfl, hm.fact 0 rfl, trivial⟩) rfl ?_
            refine wa_take_off 11 rfl rfl rfl (by decide) (by kernel_rfl) (by kernel_rfl) (by kernel_rfl) (listed' := #[true, true, true, true, true, true, true, true, true, true, true, true, false, false]) rfl (fun _ _ _ h => h) (fun _ hm => ⟨hm.blkI 0 rfl, hm.fact 0 rfl, trivial⟩) rfl ?_
            refine wa_take 12 rfl (by kernel_rfl) (by kernel_rfl) (by kernel_rfl) (listed' := #[true, true, true, true, true, true, true, true, true, true, true, true, true, false]) rfl (fun _ _ _ h => h) (fun _ hm => ⟨hm.blkI 0 rfl, hm.fact 0 rfl, trivial⟩) (ov_pick_f rfl rfl) rfl ?_
            refine wa_take 13 rfl (by kernel_rfl) (by kernel_rfl) (by kernel_rfl) (listed' := #[true, true, true, true, true, true, true, true, true, true, true, true, true, true]) rfl (fun _ _ _ h => h) (fun _ hm => ⟨hm.blkI 0 rfl, hm.fact 0 rfl, trivial⟩) (ov_assign rfl) rfl ?_
            refine wa_done (by kernel_rfl) ?_
            refine nx_then ?_
            refine gw_cond rfl (fun hh => by cases hh) (fun _ => ?_)
            refine gw_seq ?_
            refine gw_region ?_
            refine wl_ov (ov_field fo138_2 rfl rfl) rfl ?_
            refine wl_ov (ov_field fo56_0 rfl rfl) rfl ?_
            refine wl_ov (ov_load sc3 rfl (fun _ hm => hm.blkI 0 rfl) rfl) rfl ?_
            refine wl_ov (ov_lss rfl rfl) rfl ?_
            refine wl_ov (ov_move rfl) rfl ?_
            rcases Bool.eq_false_or_eq_true (decide (fr < 0)) with h4 | h4
            · refine wl_set 45 rfl (congrArg Value.bool h4) ?_
              replace h4 := of_decide_eq_true h4
              refine wl_guard_off rfl rfl rfl (by decide) rfl ?_
              refine wl_guard_off rfl rfl rfl (by decide) rfl ?_
              refine wl_guard_off rfl rfl rfl (by decide) rfl ?_
              refine wl_guard_off rfl rfl rfl (by decide) rfl ?_
              refine wl_guard_off rfl rfl rfl (by decide) rfl ?_
              refine wl_guard_off rfl rfl rfl (by decide) rfl ?_
              refine wl_guard_off rfl rfl rfl (by decide) rfl ?_
              refine wl_ov (ov_pick_t rfl rfl) rfl ?_
              refine wl_ov (ov_move rfl) rfl ?_
              refine wl_guard_off rfl rfl rfl (by decide) rfl ?_
              refine wl_guard_off rfl rfl rfl (by decide) rfl ?_
              refine wl_guard_off rfl rfl rfl (by decide) rfl ?_
              refine wl_guard_off rfl rfl rfl (by decide) rfl ?_
              refine wl_ov (ov_pick_t rfl rfl) rfl ?_
              refine wl_ov (ov_assign rfl) rfl ?_
              refine wl_nil ?_
              refine nx_then ?_
              refine gw_cond rfl (fun _ => ?_) (fun hh => by cases hh)
              refine gw_seq ?_
              refine gw_region ?_
              refine wl_ov (ov_assign rfl) rfl ?_
              refine wl_nil ?_
              refine nx_then ?_
              refine gw_ret ?_
              refine nx_blk_ret ?_
              refine nx_blk_ret ?_
              refine nx_then_ret ?_
              refine nx_then_ret ?_
              refine nx_blk_ret ?_
              refine nx_then_ret ?_
              have hE : bookE (prevOf l k) ⟨ke, cl, fr, tt, ma, od⟩ = 1 := by unfold bookE; simp [h2, h3, hO, h4]
              refine nx_ret1 rfl rfl fun wx hm => ?_
              exact ⟨ret_int (by rw [hinv.2, hat, if_neg (by rw [hE]; decide), hE]), hm.g⟩
            · refine wl_set 45 rfl (congrArg Value.bool h4) ?_
              replace h4 := of_decide_eq_false h4
              refine wl_guard_on rfl rfl rfl ?_
              refine wl_ov (ov_field fo138_2 rfl rfl) rfl ?_
              refine wl_guard_on rfl rfl rfl ?_
              refine wl_ov (ov_field fo56_0 rfl rfl) rfl ?_
              refine wl_guard_on rfl rfl rfl ?_
              refine wl_ov (ov_load sc3 rfl (fun _ hm => hm.blkI 0 rfl) rfl) rfl ?_
              refine wl_guard_on rfl rfl rfl ?_
              refine wl_ov (ov_field fo138_2 rfl rfl) rfl ?_
              refine wl_guard_on rfl rfl rfl ?_
              refine wl_ov (ov_field fo56_1 rfl rfl) rfl ?_
              refine wl_guard_on rfl rfl rfl ?_
              refine wl_ov (ov_load sc3 rfl (fun _ hm => hm.blkI 0 rfl) rfl) rfl ?_
              refine wl_guard_on rfl rfl rfl ?_
              refine wl_ov (ov_geq rfl rfl) rfl ?_
              refine wl_ov (ov_pick_f rfl rfl) rfl ?_
              refine wl_ov (ov_move rfl) rfl ?_
              rcases Bool.eq_false_or_eq_true (decide (tt ≤ fr)) with h5 | h5
              · refine wl_set 54 rfl (congrArg Value.bool h5) ?_
                replace h5 := of_decide_eq_true h5
                refine wl_guard_off rfl rfl rfl (by decide) rfl ?_
                refine wl_guard_off rfl rfl rfl (by decide) rfl ?_
                refine wl_guard_off rfl rfl rfl (by decide) rfl ?_
                refine wl_guard_off rfl rfl rfl (by decide) rfl ?_
                refine wl_ov (ov_pick_t rfl rfl) rfl ?_
                refine wl_ov (ov_assign rfl) rfl ?_
                refine wl_nil ?_
                refine nx_then ?_
                refine gw_cond rfl (fun _ => ?_) (fun hh => by cases hh)
                refine gw_seq ?_
                refine gw_region ?_
                refine wl_ov (ov_assign rfl) rfl ?_
                refine wl_nil ?_
                refine nx_then ?_
                refine gw_ret ?_
                refine nx_blk_ret ?_
                refine nx_blk_ret ?_
                refine nx_then_ret ?_
                refine nx_then_ret ?_
                refine nx_blk_ret ?_
                refine nx_then_ret ?_
                have hE : bookE (prevOf l k) ⟨ke, cl, fr, tt, ma, od⟩ = 1 := by unfold bookE; simp [h2, h3, hO, h4, h5]
                refine nx_ret1 rfl rfl fun wx hm => ?_
                exact ⟨ret_int (by rw [hinv.2, hat, if_neg (by rw [hE]; decide), hE]), hm.g⟩
              · refine wl_set 54 rfl (congrArg Value.bool h5) ?_
                replace h5 := of_decide_eq_false h5
                refine wl_guard_on rfl rfl rfl ?_
                refine wl_ov (ov_field fo138_2 rfl rfl) rfl ?_
                refine wl_guard_on rfl rfl rfl ?_
                refine wl_ov (ov_field fo56_1 rfl rfl) rfl ?_
                refine wl_guard_on rfl rfl rfl ?_
                refine wl_ov (ov_load sc3 rfl (fun _ hm => hm.blkI 0 rfl) rfl) rfl ?_
                refine wl_guard_on rfl rfl rfl ?_
                refine wl_ov (ov_gtr rfl rfl) rfl ?_
                refine wl_ov (ov_pick_f rfl rfl) rfl ?_
                refine wl_ov (ov_assign rfl) rfl ?_
                refine wl_nil ?_
                refine nx_then ?_
                refine gw_cond rfl (fun hh => ?_) (fun hh => ?_)
                · have h6 : 5761439 < tt := by simpa using hh
                  clear hh
                  refine gw_seq ?_
                  refine gw_region ?_
                  refine wl_ov (ov_assign rfl) rfl ?_
                  refine wl_nil ?_
                  refine nx_then ?_
                  refine gw_ret ?_
                  refine nx_blk_ret ?_
                  refine nx_blk_ret ?_
                  refine nx_then_ret ?_
                  refine nx_then_ret ?_
                  refine nx_blk_ret ?_
                  refine nx_then_ret ?_
                  have hE : bookE (prevOf l k) ⟨ke, cl, fr, tt, ma, od⟩ = 1 := by unfold bookE; simp [h2, h3, hO, h4, h5, h6]
                  refine nx_ret1 rfl rfl fun wx hm => ?_
                  exact ⟨ret_int (by rw [hinv.2, hat, if_neg (by rw [hE]; decide), hE]), hm.g⟩
                · have h6 : ¬ (5761439 < tt) := by simpa using hh
                  clear hh
                  refine gw_seq ?_
                  refine gw_region ?_
                  refine wl_ov (ov_field fo138_3 rfl rfl) rfl ?_
                  refine wl_ov (ov_load sc3 rfl (fun _ hm => hm.blkI 0 rfl) rfl) rfl ?_
                  refine wl_ov (ov_field fo138_2 rfl rfl) rfl ?_
                  refine wl_ov (ov_field fo56_0 rfl rfl) rfl ?_
                  refine wl_ov (ov_load sc3 rfl (fun _ hm => hm.blkI 0 rfl) rfl) rfl ?_
                  refine wl_callw rfl cb99 rfl rfl (fun wx hm => (in_any _ _ _ wx)) ?_
                  refine wl_ov (ov_un_not rfl) rfl ?_
                  refine wl_ov (ov_move rfl) rfl ?_
                  rcases Bool.eq_false_or_eq_true (!(inB ma 0 fr)) with h7 | h7
                  · refine wl_set 68 rfl (congrArg Value.bool h7) ?_
                    refine wl_guard_off rfl rfl rfl (by decide) rfl ?_
                    refine wl_guard_off rfl rfl rfl (by decide) rfl ?_
                    refine wl_guard_off rfl rfl rfl (by decide) rfl ?_
                    refine wl_guard_off rfl rfl rfl (by decide) rfl ?_
                    refine wl_ov (ov_pick_t rfl rfl) rfl ?_
                    refine wl_ov (ov_assign rfl) rfl ?_
                    refine wl_nil ?_
                    refine nx_then ?_
                    refine gw_cond rfl (fun _ => ?_) (fun hh => by cases hh)
                    refine gw_seq ?_
                    refine gw_region ?_
                    refine wl_ov (ov_assign rfl) rfl ?_
                    refine wl_nil ?_
                    refine nx_then ?_
                    refine gw_ret ?_
                    refine nx_blk_ret ?_
                    refine nx_blk_ret ?_
                    refine nx_then_ret ?_
                    refine nx_then_ret ?_
                    refine nx_blk_ret ?_
                    refine nx_then_ret ?_
                    have hE : bookE (prevOf l k) ⟨ke, cl, fr, tt, ma, od⟩ = 1 := by unfold bookE; simp [h2, h3, hO, h4, h5, h6, h7]
                    refine nx_ret1 rfl rfl fun wx hm => ?_
                    exact ⟨ret_int (by rw [hinv.2, hat, if_neg (by rw [hE]; decide), hE]), hm.g⟩
                  · refine wl_set 68 rfl (congrArg Value.bool h7) ?_
                    refine wl_guard_on rfl rfl rfl ?_
                    refine wl_ov (ov_field fo138_4 rfl rfl) rfl ?_
                    refine wl_guard_on rfl rfl rfl ?_
                    refine wl_ov (ov_load sc3 rfl (fun _ hm => hm.blkI 0 rfl) rfl) rfl ?_
                    refine wl_guard_on rfl rfl rfl ?_
                    refine wl_callw rfl cb99 rfl rfl (fun wx hm => (in_any _ _ _ wx)) ?_
                    refine wl_guard_on rfl rfl rfl ?_
                    refine wl_ov (ov_un_not rfl) rfl ?_
                    refine wl_ov (ov_pick_f rfl rfl) rfl ?_
                    refine wl_ov (ov_assign rfl) rfl ?_
                    refine wl_nil ?_
                    refine nx_then ?_
                    refine gw_cond rfl (fun hh => ?_) (fun hh => ?_)
                    · have h8 : (inB od 0 100) = false := by simpa using hh
                      clear hh
                      refine gw_seq ?_
                      refine gw_region ?_
                      refine wl_ov (ov_assign rfl) rfl ?_
                      refine wl_nil ?_
                      refine nx_then ?_
                      refine gw_ret ?_
                      refine nx_blk_ret ?_
                      refine nx_blk_ret ?_
                      refine nx_then_ret ?_
                      refine nx_then_ret ?_
                      refine nx_blk_ret ?_
                      refine nx_then_ret ?_
                      have hE : bookE (prevOf l k) ⟨ke, cl, fr, tt, ma, od⟩ = 1 := by unfold bookE; simp [h2, h3, hO, h4, h5, h6, h7, h8]
                      refine nx_ret1 rfl rfl fun wx hm => ?_
                      exact ⟨ret_int (by rw [hinv.2, hat, if_neg (by rw [hE]; decide), hE]), hm.g⟩
                    · have h8 : (inB od 0 100) = true := by simpa using hh
                      clear hh
                      refine gw_skip ?_
                      refine nx_blk_nrm ?_
                      refine nx_blk_nrm ?_
                      refine nx_then ?_
                      refine gw_region ?_
                      have hE : bookE (prevOf l k) ⟨ke, cl, fr, tt, ma, od⟩ = 0 := by unfold bookE; simp [h2, h3, hO, h4, h5, h6, h7, h8]
                      refine wl_ov (ov_add rfl rfl (by omega) (by omega)) rfl ?_
                      refine wl_ov (ov_move rfl) rfl ?_
                      refine wl_nil ?_
                      exact nx_round (k + 1) ⟨by omega, by rw [hinv.2, hat, if_pos hE]⟩ (by omega) ⟨rfl, rfl, rfl, (some_int (by omega)), trivial⟩ (fun _ hm => hm.pick [] [] [0] rfl rfl)
          · obtain ⟨y, hy⟩ : ∃ x, l[k - 1]? = some x := ⟨_, List.getElem?_eq_getElem (by omega)⟩
            obtain ⟨pk, p1, p2, p3, p4, p5⟩ := y
            refine gw_draw (fun wz => Blk wz g1 138 [.string ke, .string cl, .int .i64 fr, .int .i64 tt, .int .i64 ma, .int .i64 od] ∧ (SlOld bkEnc 6 138 w.heap.size none (some ⟨b, off, none⟩) n l) wz ∧ True) mixed ?_
            refine wa_take 0 rfl (by kernel_rfl) (by kernel_rfl) (by kernel_rfl) (listed' := #[true, false, false, false, false, false, false, false, false, false, false, false, false, false]) rfl (fun _ _ _ h => h) (fun _ hm => ⟨hm.blkI 0 rfl, hm.fact 0 rfl, trivial⟩) (ov_move rfl) rfl ?_
            refine wa_take 1 rfl (by kernel_rfl) (by kernel_rfl) (by kernel_rfl) (listed' := #[true, true, false, false, false, false, false, false, false, false, false, false, false, false]) rfl (fun _ _ _ h => h) (fun _ hm => ⟨hm.blkI 0 rfl, hm.fact 0 rfl, trivial⟩) (ov_gtr rfl rfl) rfl ?_
            refine wa_set 28 (v' := .bool true) rfl (congrArg Value.bool (decide_eq_true (by omega))) ?_
            refine wa_take 2 rfl (by kernel_rfl) (by kernel_rfl) (by kernel_rfl) (listed' := #[true, true, true, false, false, false, false, false, false, false, false, false, false, false]) rfl (fun _ _ _ h => h) (fun _ hm => ⟨hm.blkI 0 rfl, hm.fact 0 rfl, trivial⟩) (ov_move rfl) rfl ?_
            refine wa_take_on 3 rfl rfl rfl (by kernel_rfl) (by kernel_rfl) (by kernel_rfl) (listed' := #[true, true, true, true, false, false, false, false, false, false, false, false, false, false]) rfl (fun _ _ _ h => h) (fun _ hm => ⟨hm.blkI 0 rfl, hm.fact 0 rfl, trivial⟩) (ov_field fo138_0 rfl rfl) rfl ?_
            refine wa_take_on 4 rfl rfl rfl (by kernel_rfl) (by kernel_rfl) (by kernel_rfl) (listed' := #[true, true, true, true, true, false, false, false, false, false, false, false, false, false]) rfl (fun _ _ _ h => h) (fun _ hm => ⟨hm.blkI 0 rfl, hm.fact 0 rfl, trivial⟩) (ov_load sc9 rfl (fun _ hm => hm.1) rfl) rfl ?_
            refine wa_take_on 5 rfl rfl rfl (by kernel_rfl) (by kernel_rfl) (by kernel_rfl) (listed' := #[true, true, true, true, true, true, false, false, false, false, false, false, false, false]) rfl (fun _ _ _ h => h) (fun _ hm => ⟨hm.blkI 0 rfl, hm.fact 0 rfl, trivial⟩) (ov_move rfl) rfl ?_
            refine wa_take_on 6 rfl rfl rfl (by kernel_rfl) (by kernel_rfl) (by kernel_rfl) (listed' := #[true, true, true, true, true, true, true, false, false, false, false, false, false, false]) rfl (fun _ _ _ h => h) (fun _ hm => ⟨hm.blkI 0 rfl, hm.fact 0 rfl, trivial⟩) (ov_move rfl) rfl ?_
            refine wa_take_on 7 rfl rfl rfl (by kernel_rfl) (by kernel_rfl) (by kernel_rfl) (listed' := #[true, true, true, true, true, true, true, true, false, false, false, false, false, false]) rfl (fun _ _ _ h => h) (fun _ hm => ⟨hm.blkI 0 rfl, hm.fact 0 rfl, trivial⟩) (ov_sub rfl rfl (by omega) (by omega)) rfl ?_
            refine wa_set 34 (v' := .int .i64 ((k - 1 : Nat) : Int)) rfl (congrArg (Value.int .i64) (by omega)) ?_
            refine wa_take_on 8 rfl rfl rfl (by kernel_rfl) (by kernel_rfl) (by kernel_rfl) (listed' := #[true, true, true, true, true, true, true, true, true, false, false, false, false, false]) rfl (fun _ _ _ h => h) (fun _ hm => ⟨hm.blkI 0 rfl, hm.fact 0 rfl, trivial⟩) (ov_index (j := k - 1) es26 rfl rfl (by omega)) rfl ?_
            refine wa_take_on 9 rfl rfl rfl (by kernel_rfl) (by kernel_rfl) (by kernel_rfl) (listed' := #[true, true, true, true, true, true, true, true, true, true, false, false, false, false]) rfl (fun _ _ _ h => h) (fun _ hm => ⟨hm.blkI 0 rfl, hm.fact 0 rfl, trivial⟩) (ov_field fo138_0 rfl rfl) rfl ?_
            refine wa_take_on 10 rfl rfl rfl (by kernel_rfl) (by kernel_rfl) (by kernel_rfl) (listed' := #[true, true, true, true, true, true, true, true, true, true, true, false, false, false]) rfl (fun _ _ _ h => h) (fun _ hm => ⟨hm.blkI 0 rfl, hm.fact 0 rfl, trivial⟩) (ov_elem1 (k := 0) (v := .string pk) sc9 rfl (fun _ hm => (hm.2.1).1) hy rfl rfl) rfl ?_
            refine wa_take_on 11 rfl rfl rfl (by kernel_rfl) (by kernel_rfl) (by kernel_rfl) (listed' := #[true, true, true, true, true, true, true, true, true, true, true, true, false, false]) rfl (fun _ _ _ h => h) (fun _ hm => ⟨hm.blkI 0 rfl, hm.fact 0 rfl, trivial⟩) (ov_sleq rfl rfl) rfl ?_
            refine wa_take 12 rfl (by kernel_rfl) (by kernel_rfl) (by kernel_rfl) (listed' := #[true, true, true, true, true, true, true, true, true, true, true, true, true, false]) rfl (fun _ _ _ h => h) (fun _ hm => ⟨hm.blkI 0 rfl, hm.fact 0 rfl, trivial⟩) (ov_pick_t rfl rfl) rfl ?_
            refine wa_take 13 rfl (by kernel_rfl) (by kernel_rfl) (by kernel_rfl) (listed' := #[true, true, true, true, true, true, true, true, true, true, true, true, true, true]) rfl (fun _ _ _ h => h) (fun _ hm => ⟨hm.blkI 0 rfl, hm.fact 0 rfl, trivial⟩) (ov_assign rfl) rfl ?_
            refine wa_done (by kernel_rfl) ?_
            refine nx_then ?_
            refine gw_cond rfl (fun hh => ?_) (fun hh => ?_)
            · have h9 : (Op.bytesLess ke.toList pk.toList || ke.toList == pk.toList) = true := by simpa using hh
              clear hh
              refine gw_seq ?_
              refine gw_region ?_
              have hO : leO (prevOf l k) ⟨ke, cl, fr, tt, ma, od⟩ = true := by rw [prevOf_pos hk0 hy]; exact h9
              refine wl_ov (ov_assign rfl) rfl ?_
              refine wl_nil ?_
              refine nx_then ?_
              refine gw_ret ?_
              refine nx_blk_ret ?_
              refine nx_blk_ret ?_
              refine nx_then_ret ?_
              refine nx_then_ret ?_
              refine nx_blk_ret ?_
              refine nx_then_ret ?_
              have hE : bookE (prevOf l k) ⟨ke, cl, fr, tt, ma, od⟩ = 7 := by unfold bookE; simp [h2, h3, hO]
              refine nx_ret1 rfl rfl fun wx hm => ?_
              exact ⟨ret_int (by rw [hinv.2, hat, if_neg (by rw [hE]; decide), hE]), hm.g⟩
            · have h9 : (Op.bytesLess ke.toList pk.toList || ke.toList == pk.toList) = false := by simpa using hh
              clear hh
              refine gw_seq ?_
              refine gw_region ?_
              have hO : leO (prevOf l k) ⟨ke, cl, fr, tt, ma, od⟩ = false := by rw [prevOf_pos hk0 hy]; exact h9
              refine wl_ov (ov_field fo138_2 rfl rfl) rfl ?_
              refine wl_ov (ov_field fo56_0 rfl rfl) rfl ?_
              refine wl_ov (ov_load sc3 rfl (fun _ hm => hm.blkI 0 rfl) rfl) rfl ?_
              refine wl_ov (ov_lss rfl rfl) rfl ?_
              refine wl_ov (ov_move rfl) rfl ?_
              rcases Bool.eq_false_or_eq_true (decide (fr < 0)) with h4 | h4
              · refine wl_set 45 rfl (congrArg Value.bool h4) ?_
                replace h4 := of_decide_eq_true h4
                refine wl_guard_off rfl rfl rfl (by decide) rfl ?_
                refine wl_guard_off rfl rfl rfl (by decide) rfl ?_
                refine wl_guard_off rfl rfl rfl (by decide) rfl ?_
                refine wl_guard_off rfl rfl rfl (by decide) rfl ?_
                refine wl_guard_off rfl rfl rfl (by decide) rfl ?_
                refine wl_guard_off rfl rfl rfl (by decide) rfl ?_
                refine wl_guard_off rfl rfl rfl (by decide) rfl ?_
                refine wl_ov (ov_pick_t rfl rfl) rfl ?_
                refine wl_ov (ov_move rfl) rfl ?_
                refine wl_guard_off rfl rfl rfl (by decide) rfl ?_
                refine wl_guard_off rfl rfl rfl (by decide) rfl ?_
                refine wl_guard_off rfl rfl rfl (by decide) rfl ?_
                refine wl_guard_off rfl rfl rfl (by decide) rfl ?_
                refine wl_ov (ov_pick_t rfl rfl) rfl ?_
                refine wl_ov (ov_assign rfl) rfl ?_
                refine wl_nil ?_
                refine nx_then ?_
                refine gw_cond rfl (fun _ => ?_) (fun hh => by cases hh)
                refine gw_seq ?_
                refine gw_region ?_
                refine wl_ov (ov_assign rfl) rfl ?_
                refine wl_nil ?_
                refine nx_then ?_
                refine gw_ret ?_
                refine nx_blk_ret ?_
                refine nx_blk_ret ?_
                refine nx_then_ret ?_
                refine nx_then_ret ?_
                refine nx_blk_ret ?_
                refine nx_then_ret ?_
                have hE : bookE (prevOf l k) ⟨ke, cl, fr, tt, ma, od⟩ = 1 := by unfold bookE; simp [h2, h3, hO, h4]
                refine nx_ret1 rfl rfl fun wx hm => ?_
                exact ⟨ret_int (by rw [hinv.2, hat, if_neg (by rw [hE]; decide), hE]), hm.g⟩
              · refine wl_set 45 rfl (congrArg Value.bool h4) ?_
                replace h4 := of_decide_eq_false h4
                refine wl_guard_on rfl rfl rfl ?_
                refine wl_ov (ov_field fo138_2 rfl rfl) rfl ?_
                refine wl_guard_on rfl rfl rfl ?_
                refine wl_ov (ov_field fo56_0 rfl rfl) rfl ?_
                refine wl_guard_on rfl rfl rfl ?_
                refine wl_ov (ov_load sc3 rfl (fun _ hm => hm.blkI 0 rfl) rfl) rfl ?_
                refine wl_guard_on rfl rfl rfl ?_
                refine wl_ov (ov_field fo138_2 rfl rfl) rfl ?_
                refine wl_guard_on rfl rfl rfl ?_
                refine wl_ov (ov_field fo56_1 rfl rfl) rfl ?_
                refine wl_guard_on rfl rfl rfl ?_
                refine wl_ov (ov_load sc3 rfl (fun _ hm => hm.blkI 0 rfl) rfl) rfl ?_
                refine wl_guard_on rfl rfl rfl ?_
                refine wl_ov (ov_geq rfl rfl) rfl ?_
                refine wl_ov (ov_pick_f rfl rfl) rfl ?_
                refine wl_ov (ov_move rfl) rfl ?_
                rcases Bool.eq_false_or_eq_true (decide (tt ≤ fr)) with h5 | h5
                · refine wl_set 54 rfl (congrArg Value.bool h5) ?_
                  replace h5 := of_decide_eq_true h5
                  refine wl_guard_off rfl rfl rfl (by decide) rfl ?_
                  refine wl_guard_off rfl rfl rfl (by decide) rfl ?_
                  refine wl_guard_off rfl rfl rfl (by decide) rfl ?_
                  refine wl_guard_off rfl rfl rfl (by decide) rfl ?_
                  refine wl_ov (ov_pick_t rfl rfl) rfl ?_
                  refine wl_ov (ov_assign rfl) rfl ?_
                  refine wl_nil ?_
                  refine nx_then ?_
                  refine gw_cond rfl (fun _ => ?_) (fun hh => by cases hh)
                  refine gw_seq ?_
                  refine gw_region ?_
                  refine wl_ov (ov_assign rfl) rfl ?_
                  refine wl_nil ?_
                  refine nx_then ?_
                  refine gw_ret ?_
                  refine nx_blk_ret ?_
                  refine nx_blk_ret ?_
                  refine nx_then_ret ?_
                  refine nx_then_ret ?_
                  refine nx_blk_ret ?_
                  refine nx_then_ret ?_
                  have hE : bookE (prevOf l k) ⟨ke, cl, fr, tt, ma, od⟩ = 1 := by unfold bookE; simp [h2, h3, hO, h4, h5]
                  refine nx_ret1 rfl rfl fun wx hm => ?_
                  exact ⟨ret_int (by rw [hinv.2, hat, if_neg (by rw [hE]; decide), hE]), hm.g⟩
                · refine wl_set 54 rfl (congrArg Value.bool h5) ?_
                  replace h5 := of_decide_eq_false h5
                  refine wl_guard_on rfl rfl rfl ?_
                  refine wl_ov (ov_field fo138_2 rfl rfl) rfl ?_
                  refine wl_guard_on rfl rfl rfl ?_
                  refine wl_ov (ov_field fo56_1 rfl rfl) rfl ?_
                  refine wl_guard_on rfl rfl rfl ?_
                  refine wl_ov (ov_load sc3 rfl (fun _ hm => hm.blkI 0 rfl) rfl) rfl ?_
                  refine wl_guard_on rfl rfl rfl ?_
                  refine wl_ov (ov_gtr rfl rfl) rfl ?_
                  refine wl_ov (ov_pick_f rfl rfl) rfl ?_
                  refine wl_ov (ov_assign rfl) rfl ?_
                  refine wl_nil ?_
                  refine nx_then ?_
                  refine gw_cond rfl (fun hh => ?_) (fun hh => ?_)
                  · have h6 : 5761439 < tt := by simpa using hh
                    clear hh
                    refine gw_seq ?_
                    refine gw_region ?_
                    refine wl_ov (ov_assign rfl) rfl ?_
                    refine wl_nil ?_
                    refine nx_then ?_
                    refine gw_ret ?_
                    refine nx_blk_ret ?_
                    refine nx_blk_ret ?_
                    refine nx_then_ret ?_
                    refine nx_then_ret ?_
                    refine nx_blk_ret ?_
                    refine nx_then_ret ?_
                    have hE : bookE (prevOf l k) ⟨ke, cl, fr, tt, ma, od⟩ = 1 := by unfold bookE; simp [h2, h3, hO, h4, h5, h6]
                    refine nx_ret1 rfl rfl fun wx hm => ?_
                    exact ⟨ret_int (by rw [hinv.2, hat, if_neg (by rw [hE]; decide), hE]), hm.g⟩
                  · have h6 : ¬ (5761439 < tt) := by simpa using hh
                    clear hh
                    refine gw_seq ?_
                    refine gw_region ?_
                    refine wl_ov (ov_field fo138_3 rfl rfl) rfl ?_
                    refine wl_ov (ov_load sc3 rfl (fun _ hm => hm.blkI 0 rfl) rfl) rfl ?_
                    refine wl_ov (ov_field fo138_2 rfl rfl) rfl ?_
                    refine wl_ov (ov_field fo56_0 rfl rfl) rfl ?_
                    refine wl_ov (ov_load sc3 rfl (fun _ hm => hm.blkI 0 rfl) rfl) rfl ?_
                    refine wl_callw rfl cb99 rfl rfl (fun wx hm => (in_any _ _ _ wx)) ?_
                    refine wl_ov (ov_un_not rfl) rfl ?_
                    refine wl_ov (ov_move rfl) rfl ?_
                    rcases Bool.eq_false_or_eq_true (!(inB ma 0 fr)) with h7 | h7
                    · refine wl_set 68 rfl (congrArg Value.bool h7) ?_
                      refine wl_guard_off rfl rfl rfl (by decide) rfl ?_
                      refine wl_guard_off rfl rfl rfl (by decide) rfl ?_
                      refine wl_guard_off rfl rfl rfl (by decide) rfl ?_
                      refine wl_guard_off rfl rfl rfl (by decide) rfl ?_
                      refine wl_ov (ov_pick_t rfl rfl) rfl ?_
                      refine wl_ov (ov_assign rfl) rfl ?_
                      refine wl_nil ?_
                      refine nx_then ?_
                      refine gw_cond rfl (fun _ => ?_) (fun hh => by cases hh)
                      refine gw_seq ?_
                      refine gw_region ?_
                      refine wl_ov (ov_assign rfl) rfl ?_
                      refine wl_nil ?_
                      refine nx_then ?_
                      refine gw_ret ?_
                      refine nx_blk_ret ?_
                      refine nx_blk_ret ?_
                      refine nx_then_ret ?_
                      refine nx_then_ret ?_
                      refine nx_blk_ret ?_
                      refine nx_then_ret ?_
                      have hE : bookE (prevOf l k) ⟨ke, cl, fr, tt, ma, od⟩ = 1 := by unfold bookE; simp [h2, h3, hO, h4, h5, h6, h7]
                      refine nx_ret1 rfl rfl fun wx hm => ?_
                      exact ⟨ret_int (by rw [hinv.2, hat, if_neg (by rw [hE]; decide), hE]), hm.g⟩
                    · refine wl_set 68 rfl (congrArg Value.bool h7) ?_
                      refine wl_guard_on rfl rfl rfl ?_
                      refine wl_ov (ov_field fo138_4 rfl rfl) rfl ?_
                      refine wl_guard_on rfl rfl rfl ?_
                      refine wl_ov (ov_load sc3 rfl (fun _ hm => hm.blkI 0 rfl) rfl) rfl ?_
                      refine wl_guard_on rfl rfl rfl ?_
                      refine wl_callw rfl cb99 rfl rfl (fun wx hm => (in_any _ _ _ wx)) ?_
                      refine wl_guard_on rfl rfl rfl ?_
                      refine wl_ov (ov_un_not rfl) rfl ?_
                      refine wl_ov (ov_pick_f rfl rfl) rfl ?_
                      refine wl_ov (ov_assign rfl) rfl ?_
                      refine wl_nil ?_
                      refine nx_then ?_
                      refine gw_cond rfl (fun hh => ?_) (fun hh => ?_)
                      · have h8 : (inB od 0 100) = false := by simpa using hh
                        clear hh
                        refine gw_seq ?_
                        refine gw_region ?_
                        refine wl_ov (ov_assign rfl) rfl ?_
                        refine wl_nil ?_
                        refine nx_then ?_
                        refine gw_ret ?_
                        refine nx_blk_ret ?_
                        refine nx_blk_ret ?_
                        refine nx_then_ret ?_
                        refine nx_then_ret ?_
                        refine nx_blk_ret ?_
                        refine nx_then_ret ?_
                        have hE : bookE (prevOf l k) ⟨ke, cl, fr, tt, ma, od⟩ = 1 := by unfold bookE; simp [h2, h3, hO, h4, h5, h6, h7, h8]
                        refine nx_ret1 rfl rfl fun wx hm => ?_
                        exact ⟨ret_int (by rw [hinv.2, hat, if_neg (by rw [hE]; decide), hE]), hm.g⟩
                      · have h8 : (inB od 0 100) = true := by simpa using hh
                        clear hh
                        refine gw_skip ?_
                        refine nx_blk_nrm ?_
                        refine nx_blk_nrm ?_
                        refine nx_then ?_
                        refine gw_region ?_
                        have hE : bookE (prevOf l k) ⟨ke, cl, fr, tt, ma, od⟩ = 0 := by unfold bookE; simp [h2, h3, hO, h4, h5, h6, h7, h8]
                        refine wl_ov (ov_add rfl rfl (by omega) (by omega)) rfl ?_
                        refine wl_ov (ov_move rfl) rfl ?_
                        refine wl_nil ?_
                        exact nx_round (k + 1) ⟨by omega, by rw [hinv.2, hat, if_pos hE]⟩ (by omega) ⟨rfl, rfl, rfl, (some_int (by omega)), trivial⟩ (fun _ hm => hm.pick [] [] [0] rfl rfl)
    · have hk : ¬ (((k : Nat) : Int) < ((n : Nat) : Int)) := by simpa using hh
      clear hh
      refine gw_exit ?_
      refine nx_then_exit ?_
      refine nx_then_exit ?_
      refine nx_blk_here ?_
      refine nx_then ?_
      refine gw_seq ?_
      refine gw_region ?_
      refine wl_ov (ov_assign rfl) rfl ?_
      refine wl_nil ?_
      refine nx_then ?_
      refine gw_ret ?_
      refine nx_ret1 rfl rfl fun wx hm => ?_
      exact ⟨ret_int (by rw [hinv.2, scanE_end _ _ _ _ (by omega)]), hm.g⟩

set_option maxRecDepth 100000 in
set_option maxHeartbeats 1000000 in
theorem bookingForm_any (l : List Bk) (A : Option Addr) (n c : Nat) (w : World) (hl : SlT bkEnc 6 138 w A n l) (hok : ∀ b ∈ l, BkOk b) (hn : n ≤ 1000000) :
    Calls Tryd.prog 16 #[.slice A n c] w (GotE w (formE l)) := by
  refine gw_enter ⟨69, w, none, []⟩ Tryd.func16 rfl Tryd.ntmps16 rfl (mem0 (X := [SlOld bkEnc 6 138 w.heap.size none A n l]) (allF_cons hl.old allF_nil) (allL_cons SlOld.lasts allL_nil)) ?_
  refine gw_seq ?_
  refine gw_region ?_
  have hlen := hl.len
  refine wl_ov (ov_assign rfl) rfl ?_
  refine wl_nil ?_
  refine nx_then ?_
  refine gw_seq ?_
  refine gw_seq ?_
  refine gw_region ?_
  refine wl_ov (ov_move rfl) rfl ?_
  refine wl_ov (ov_len es26 rfl) rfl ?_
  refine wl_ov (ov_gtr rfl rfl) rfl ?_
  refine wl_nil ?_
  refine nx_then ?_
  refine gw_cond rfl (fun hh => ?_) (fun hh => ?_)
  · have h1 : 500 < ((n : Nat) : Int) := by simpa using hh
    clear hh
    refine gw_seq ?_
    refine gw_region ?_
    refine wl_ov (ov_assign rfl) rfl ?_
    refine wl_nil ?_
    refine nx_then ?_
    refine gw_ret ?_
    refine nx_then_ret ?_
    refine nx_ret1 rfl rfl fun wx hm => ?_
    exact ⟨ret_int (by unfold formE; rw [if_pos (by omega)]), hm.g⟩
  · have h1 : ¬ (500 < ((n : Nat) : Int)) := by simpa using hh
    clear hh
    refine gw_skip ?_
    refine nx_then ?_
    refine gw_seq ?_
    refine gw_region ?_
    refine wl_ov (ov_assign rfl) rfl ?_
    refine wl_nil ?_
    refine nx_then ?_
    refine gw_seq ?_
    refine gw_seq ?_
    refine gw_region ?_
    refine wl_ov (ov_move rfl) rfl ?_
    refine wl_ov (ov_len es26 rfl) rfl ?_
    refine wl_ov (ov_move rfl) rfl ?_
    refine wl_nil ?_
    refine nx_then ?_
    refine gw_block ?_
    refine gw_loop (γ := Nat) (fun (k : Nat) => k ≤ n ∧ formE l = scanE bookE (prevOf l k) (l.drop k)) (fun (k : Nat) => [(3, .string (prevK l k)), (9, .slice A n c), (10, .int .i64 ((n : Nat) : Int)), (11, .int .i64 ((k : Nat) : Int))]) (fun (k : Nat) => fun _ => True) (fun (k : Nat) => []) (fun (k : Nat) => []) (fun (k : Nat) => [SlOld bkEnc 6 138 w.heap.size none A n l]) (fun (k : Nat) => n - k) 0 ⟨Nat.zero_le _, by unfold formE; rw [if_neg (by omega)]; rfl⟩ ⟨rfl, rfl, rfl, rfl, trivial⟩ (fun _ hm => hm.pick [] [] [0] rfl rfl) ?_
    intro k hinv
    replace hinv : k ≤ n ∧ formE l = scanE bookE (prevOf l k) (l.drop k) := hinv
    refine gw_seq ?_
    refine gw_region ?_
    refine wl_ov (ov_lss rfl rfl) rfl ?_
    refine wl_nil ?_
    refine nx_then ?_
    refine gw_seq ?_
    refine gw_cond rfl (fun hh => ?_) (fun hh => ?_)
    · have hk : ((k : Nat) : Int) < ((n : Nat) : Int) := by simpa using hh
      clear hh
      refine gw_skip ?_
      refine nx_then ?_
      refine gw_seq ?_
      refine gw_block ?_
      refine gw_seq ?_
      refine gw_region ?_
      obtain ⟨b, off, hA, _, _⟩ := hl.get (by omega)
      subst hA
      obtain ⟨x, hx⟩ : ∃ x, l[k]? = some x := ⟨_, List.getElem?_eq_getElem (by omega)⟩
      obtain ⟨ke, cl, fr, tt, ma, od⟩ := x
      have hat := scanE_at bookE l k _ hx
      obtain ⟨hk1, hk2⟩ := hok _ (List.mem_of_getElem? hx)
      have hk1 : ke.size ≤ 1000000 := hk1
      have hk2 : cl.size ≤ 1000000 := hk2
      refine wl_ov (ov_index (j := k) es26 rfl rfl (by omega)) rfl ?_
      refine wl_ov (ov_elem (vs := [.string ke, .string cl, .int .i64 fr, .int .i64 tt, .int .i64 ma, .int .i64 od]) rz138 rfl (fun _ hm => (hm.fact 0 rfl).1) hx rfl rfl) rfl ?_
      refine wl_alloc zc138 rfl fun g1 => ?_
      refine wl_stores (cs' := [.string ke, .string cl, .int .i64 fr, .int .i64 tt, .int .i64 ma, .int .i64 od]) 0 rz138 rfl rfl rfl rfl rfl rfl rfl rfl ?_
      refine wl_nil ?_
      refine nx_then ?_
      refine gw_seq ?_
      refine gw_block ?_
      refine gw_seq ?_
      refine gw_region ?_
      refine wl_ov (ov_field fo138_0 rfl rfl) rfl ?_
      refine wl_ov (ov_load sc9 rfl (fun _ hm => hm.blkI 0 rfl) rfl) rfl ?_
      refine wl_callv rfl cb90 rfl rfl (fun wx hm => (key_any _ wx (by omega))) ?_
      refine wl_ov (ov_un_not rfl) rfl ?_
      refine wl_ov (ov_move rfl) rfl ?_
      rcases Bool.eq_false_or_eq_true (!(keyB ke)) with h2 | h2
      · refine wl_set 20 rfl (congrArg Value.bool h2) ?_
        refine wl_guard_off rfl rfl rfl (by decide) rfl ?_
        refine wl_guard_off rfl rfl rfl (by decide) rfl ?_
        refine wl_guard_off rfl rfl rfl (by decide) rfl ?_
        refine wl_guard_off rfl rfl rfl (by decide) rfl ?_
        refine wl_ov (ov_pick_t rfl rfl) rfl ?_
        refine wl_ov (ov_assign rfl) rfl ?_
        refine wl_nil ?_
        refine nx_then ?_
        refine gw_cond rfl (fun _ => ?_) (fun hh => by cases hh)
        refine gw_seq ?_
        refine gw_region ?_
        refine wl_ov (ov_assign rfl) rfl ?_
        refine wl_nil ?_
        refine nx_then ?_
        refine gw_ret ?_
        refine nx_blk_ret ?_
        refine nx_then_ret ?_
        refine nx_blk_ret ?_
        refine nx_then_ret ?_
        refine nx_then_ret ?_
        refine nx_blk_ret ?_
        refine nx_then_ret ?_
        have hE : bookE (prevOf l k) ⟨ke, cl, fr, tt, ma, od⟩ = 5 := by unfold bookE; simp [h2]
        refine nx_ret1 rfl rfl fun wx hm => ?_
        exact ⟨ret_int (by rw [hinv.2, hat, if_neg (by rw [hE]; decide), hE]), hm.g⟩
      · refine wl_set 20 rfl (congrArg Value.bool h2) ?_
        refine wl_guard_on rfl rfl rfl ?_
        refine wl_ov (ov_field fo138_1 rfl rfl) rfl ?_
        refine wl_guard_on rfl rfl rfl ?_
        refine wl_ov (ov_load sc9 rfl (fun _ hm => hm.blkI 0 rfl) rfl) rfl ?_
        refine wl_guard_on rfl rfl rfl ?_
        refine wl_callv rfl cb90 rfl rfl (fun wx hm => (key_any _ wx (by omega))) ?_
        refine wl_guard_on rfl rfl rfl ?_
        refine wl_ov (ov_un_not rfl) rfl ?_
        refine wl_ov (ov_pick_f rfl rfl) rfl ?_
        refine wl_ov (ov_assign rfl) rfl ?_
        refine wl_nil ?_
        refine nx_then ?_
        refine gw_cond rfl (fun hh => ?_) (fun hh => ?_)
        · have h3 : (keyB cl) = false := by simpa using hh
          clear hh
          refine gw_seq ?_
          refine gw_region ?_
          refine wl_ov (ov_assign rfl) rfl ?_
          refine wl_nil ?_
          refine nx_then ?_
          refine gw_ret ?_
          refine nx_blk_ret ?_
          refine nx_then_ret ?_
          refine nx_blk_ret ?_
          refine nx_then_ret ?_
          refine nx_then_ret ?_
          refine nx_blk_ret ?_
          refine nx_then_ret ?_
          have hE : bookE (prevOf l k) ⟨ke, cl, fr, tt, ma, od⟩ = 5 := by unfold bookE; simp [h2, h3]
          refine nx_ret1 rfl rfl fun wx hm => ?_
          exact ⟨ret_int (by rw [hinv.2, hat, if_neg (by rw [hE]; decide), hE]), hm.g⟩
        · have h3 : (keyB cl) = true := by simpa using hh
          clear hh
          refine gw_seq ?_
          refine gw_region ?_
          refine wl_ov (ov_field fo138_0 rfl rfl) rfl ?_
          refine wl_ov (ov_load sc9 rfl (fun _ hm => hm.blkI 0 rfl) rfl) rfl ?_
          refine wl_ov (ov_move rfl) rfl ?_
          refine wl_ov (ov_sleq rfl rfl) rfl ?_
          refine wl_ov (ov_assign rfl) rfl ?_
          refine wl_nil ?_
          refine nx_then ?_
          refine gw_cond rfl (fun hh => ?_) (fun hh => ?_)
          · have h9 : (Op.bytesLess ke.toList (prevK l k).toList || ke.toList == (prevK l k).toList) = true := by simpa using hh
            clear hh
            refine gw_seq ?_
            refine gw_region ?_
            have hO : leO (prevOf l k) ⟨ke, cl, fr, tt, ma, od⟩ = true := (leO_prevK (b := ⟨ke, cl, fr, tt, ma, od⟩) (by simpa using h2)).symm.trans h9
            refine wl_ov (ov_assign rfl) rfl ?_
            refine wl_nil ?_
            refine nx_then ?_
            refine gw_ret ?_
            refine nx_blk_ret ?_
            refine nx_then_ret ?_
            refine nx_blk_ret ?_
            refine nx_then_ret ?_
            refine nx_then_ret ?_
            refine nx_blk_ret ?_
            refine nx_then_ret ?_
            have hE : bookE (prevOf l k) ⟨ke, cl, fr, tt, ma, od⟩ = 7 := by unfold bookE; simp [h2, h3, hO]
            refine nx_ret1 rfl rfl fun wx hm => ?_
            exact ⟨ret_int (by rw [hinv.2, hat, if_neg (by rw [hE]; decide), hE]), hm.g⟩
          · have h9 : (Op.bytesLess ke.toList (prevK l k).toList || ke.toList == (prevK l k).toList) = false := by simpa using hh
            clear hh
            refine gw_seq ?_
            refine gw_region ?_
            have hO : leO (prevOf l k) ⟨ke, cl, fr, tt, ma, od⟩ = false := (leO_prevK (b := ⟨ke, cl, fr, tt, ma, od⟩) (by simpa using h2)).symm.trans h9
            refine wl_ov (ov_field fo138_2 rfl rfl) rfl ?_
            refine wl_ov (ov_field fo56_0 rfl rfl) rfl ?_
            refine wl_ov (ov_load sc3 rfl (fun _ hm => hm.blkI 0 rfl) rfl) rfl ?_
            refine wl_ov (ov_lss rfl rfl) rfl ?_
            refine wl_ov (ov_move rfl) rfl ?_
            rcases Bool.eq_false_or_eq_true (decide (fr < 0)) with h4 | h4
            · refine wl_set 36 rfl (congrArg Value.bool h4) ?_
              replace h4 := of_decide_eq_true h4
              refine wl_guard_off rfl rfl rfl (by decide) rfl ?_
              refine wl_guard_off rfl rfl rfl (by decide) rfl ?_
              refine wl_guard_off rfl rfl rfl (by decide) rfl ?_
              refine wl_guard_off rfl rfl rfl (by decide) rfl ?_
              refine wl_guard_off rfl rfl rfl (by decide) rfl ?_
              refine wl_guard_off rfl rfl rfl (by decide) rfl ?_
              refine wl_guard_off rfl rfl rfl (by decide) rfl ?_
              refine wl_ov (ov_pick_t rfl rfl) rfl ?_
              refine wl_ov (ov_move rfl) rfl ?_
              refine wl_guard_off rfl rfl rfl (by decide) rfl ?_
              refine wl_guard_off rfl rfl rfl (by decide) rfl ?_
              refine wl_guard_off rfl rfl rfl (by decide) rfl ?_
              refine wl_guard_off rfl rfl rfl (by decide) rfl ?_
              refine wl_ov (ov_pick_t rfl rfl) rfl ?_
              refine wl_ov (ov_move rfl) rfl ?_
              refine wl_guard_off rfl rfl rfl (by decide) rfl ?_
              refine wl_guard_off rfl rfl rfl (by decide) rfl ?_
              refine wl_guard_off rfl rfl rfl (by decide) rfl ?_
              refine wl_guard_off rfl rfl rfl (by decide) rfl ?_
              refine wl_guard_off rfl rfl rfl (by decide) rfl ?_
              refine wl_guard_off rfl rfl rfl (by decide) rfl ?_
              refine wl_guard_off rfl rfl rfl (by decide) rfl ?_
              refine wl_ov (ov_pick_t rfl rfl) rfl ?_
              refine wl_ov (ov_move rfl) rfl ?_
              refine wl_guard_off rfl rfl rfl (by decide) rfl ?_
              refine wl_guard_off rfl rfl rfl (by decide) rfl ?_
              refine wl_guard_off rfl rfl rfl (by decide) rfl ?_
              refine wl_guard_off rfl rfl rfl (by decide) rfl ?_
              refine wl_ov (ov_pick_t rfl rfl) rfl ?_
              refine wl_ov (ov_assign rfl) rfl ?_
              refine wl_nil ?_
              refine nx_then ?_
              refine gw_cond rfl (fun _ => ?_) (fun hh => by cases hh)
              refine gw_seq ?_
              refine gw_region ?_
              refine wl_ov (ov_assign rfl) rfl ?_
              refine wl_nil ?_
              refine nx_then ?_
              refine gw_ret ?_
              refine nx_blk_ret ?_
              refine nx_then_ret ?_
              refine nx_blk_ret ?_
              refine nx_then_ret ?_
              refine nx_then_ret ?_
              refine nx_blk_ret ?_
              refine nx_then_ret ?_
              have hE : bookE (prevOf l k) ⟨ke, cl, fr, tt, ma, od⟩ = 1 := by unfold bookE; simp [h2, h3, hO, h4]
              refine nx_ret1 rfl rfl fun wx hm => ?_
              exact ⟨ret_int (by rw [hinv.2, hat, if_neg (by rw [hE]; decide), hE]), hm.g⟩
            · refine wl_set 36 rfl (congrArg Value.bool h4) ?_
              replace h4 := of_decide_eq_false h4
              refine wl_guard_on rfl rfl rfl ?_
              refine wl_ov (ov_field fo138_2 rfl rfl) rfl ?_
              refine wl_guard_on rfl rfl rfl ?_
              refine wl_ov (ov_field fo56_0 rfl rfl) rfl ?_
              refine wl_guard_on rfl rfl rfl ?_
              refine wl_ov (ov_load sc3 rfl (fun _ hm => hm.blkI 0 rfl) rfl) rfl ?_
              refine wl_guard_on rfl rfl rfl ?_
              refine wl_ov (ov_field fo138_2 rfl rfl) rfl ?_
              refine wl_guard_on rfl rfl rfl ?_
              refine wl_ov (ov_field fo56_1 rfl rfl) rfl ?_
              refine wl_guard_on rfl rfl rfl ?_
              refine wl_ov (ov_load sc3 rfl (fun _ hm => hm.blkI 0 rfl) rfl) rfl ?_
              refine wl_guard_on rfl rfl rfl ?_
              refine wl_ov (ov_geq rfl rfl) rfl ?_
              refine wl_ov (ov_pick_f rfl rfl) rfl ?_
              refine wl_ov (ov_move rfl) rfl ?_
              rcases Bool.eq_false_or_eq_true (decide (tt ≤ fr)) with h5 | h5
              · refine wl_set 45 rfl (congrArg Value.bool h5) ?_
                replace h5 := of_decide_eq_true h5
                refine wl_guard_off rfl rfl rfl (by decide) rfl ?_
                refine wl_guard_off rfl rfl rfl (by decide) rfl ?_
                refine wl_guard_off rfl rfl rfl (by decide) rfl ?_
                refine wl_guard_off rfl rfl rfl (by decide) rfl ?_
                refine wl_ov (ov_pick_t rfl rfl) rfl ?_
                refine wl_ov (ov_move rfl) rfl ?_
                refine wl_guard_off rfl rfl rfl (by decide) rfl ?_
                refine wl_guard_off rfl rfl rfl (by decide) rfl ?_
                refine wl_guard_off rfl rfl rfl (by decide) rfl ?_
                refine wl_guard_off rfl rfl rfl (by decide) rfl ?_
                refine wl_guard_off rfl rfl rfl (by decide) rfl ?_
                refine wl_guard_off rfl rfl rfl (by decide) rfl ?_
                refine wl_guard_off rfl rfl rfl (by decide) rfl ?_
                refine wl_ov (ov_pick_t rfl rfl) rfl ?_
                refine wl_ov (ov_move rfl) rfl ?_
                refine wl_guard_off rfl rfl rfl (by decide) rfl ?_
                refine wl_guard_off rfl rfl rfl (by decide) rfl ?_
                refine wl_guard_off rfl rfl rfl (by decide) rfl ?_
                refine wl_guard_off rfl rfl rfl (by decide) rfl ?_
                refine wl_ov (ov_pick_t rfl rfl) rfl ?_
                refine wl_ov (ov_assign rfl) rfl ?_
                refine wl_nil ?_
                refine nx_then ?_
                refine gw_cond rfl (fun _ => ?_) (fun hh => by cases hh)
                refine gw_seq ?_
                refine gw_region ?_
                refine wl_ov (ov_assign rfl) rfl ?_
                refine wl_nil ?_
                refine nx_then ?_
                refine gw_ret ?_
                refine nx_blk_ret ?_
                refine nx_then_ret ?_
                refine nx_blk_ret ?_
                refine nx_then_ret ?_
                refine nx_then_ret ?_
                refine nx_blk_ret ?_
                refine nx_then_ret ?_
                have hE : bookE (prevOf l k) ⟨ke, cl, fr, tt, ma, od⟩ = 1 := by unfold bookE; simp [h2, h3, hO, h4, h5]
                refine nx_ret1 rfl rfl fun wx hm => ?_
                exact ⟨ret_int (by rw [hinv.2, hat, if_neg (by rw [hE]; decide), hE]), hm.g⟩
              · refine wl_set 45 rfl (congrArg Value.bool h5) ?_
                replace h5 := of_decide_eq_false h5
                refine wl_guard_on rfl rfl rfl ?_
                refine wl_ov (ov_field fo138_2 rfl rfl) rfl ?_
                refine wl_guard_on rfl rfl rfl ?_
                refine wl_ov (ov_field fo56_1 rfl rfl) rfl ?_
                refine wl_guard_on rfl rfl rfl ?_
                refine wl_ov (ov_load sc3 rfl (fun _ hm => hm.blkI 0 rfl) rfl) rfl ?_
                refine wl_guard_on rfl rfl rfl ?_
                refine wl_ov (ov_gtr rfl rfl) rfl ?_
                refine wl_ov (ov_pick_f rfl rfl) rfl ?_
                refine wl_ov (ov_move rfl) rfl ?_
                rcases Bool.eq_false_or_eq_true (decide (5761439 < tt)) with h6 | h6
                · refine wl_set 51 rfl (congrArg Value.bool h6) ?_
                  replace h6 := of_decide_eq_true h6
                  refine wl_guard_off rfl rfl rfl (by decide) rfl ?_
                  refine wl_guard_off rfl rfl rfl (by decide) rfl ?_
                  refine wl_guard_off rfl rfl rfl (by decide) rfl ?_
                  refine wl_guard_off rfl rfl rfl (by decide) rfl ?_
                  refine wl_guard_off rfl rfl rfl (by decide) rfl ?_
                  refine wl_guard_off rfl rfl rfl (by decide) rfl ?_
                  refine wl_guard_off rfl rfl rfl (by decide) rfl ?_
                  refine wl_ov (ov_pick_t rfl rfl) rfl ?_
                  refine wl_ov (ov_move rfl) rfl ?_
                  refine wl_guard_off rfl rfl rfl (by decide) rfl ?_
                  refine wl_guard_off rfl rfl rfl (by decide) rfl ?_
                  refine wl_guard_off rfl rfl rfl (by decide) rfl ?_
                  refine wl_guard_off rfl rfl rfl (by decide) rfl ?_
                  refine wl_ov (ov_pick_t rfl rfl) rfl ?_
                  refine wl_ov (ov_assign rfl) rfl ?_
                  refine wl_nil ?_
                  refine nx_then ?_
                  refine gw_cond rfl (fun _ => ?_) (fun hh => by cases hh)
                  refine gw_seq ?_
                  refine gw_region ?_
                  refine wl_ov (ov_assign rfl) rfl ?_
                  refine wl_nil ?_
                  refine nx_then ?_
                  refine gw_ret ?_
                  refine nx_blk_ret ?_
                  refine nx_then_ret ?_
                  refine nx_blk_ret ?_
                  refine nx_then_ret ?_
                  refine nx_then_ret ?_
                  refine nx_blk_ret ?_
                  refine nx_then_ret ?_
                  have hE : bookE (prevOf l k) ⟨ke, cl, fr, tt, ma, od⟩ = 1 := by unfold bookE; simp [h2, h3, hO, h4, h5, h6]
                  refine nx_ret1 rfl rfl fun wx hm => ?_
                  exact ⟨ret_int (by rw [hinv.2, hat, if_neg (by rw [hE]; decide), hE]), hm.g⟩
                · refine wl_set 51 rfl (congrArg Value.bool h6) ?_
                  replace h6 := of_decide_eq_false h6
                  refine wl_guard_on rfl rfl rfl ?_
                  refine wl_ov (ov_field fo138_3 rfl rfl) rfl ?_
                  refine wl_guard_on rfl rfl rfl ?_
                  refine wl_ov (ov_load sc3 rfl (fun _ hm => hm.blkI 0 rfl) rfl) rfl ?_
                  refine wl_guard_on rfl rfl rfl ?_
                  refine wl_ov (ov_field fo138_2 rfl rfl) rfl ?_
                  refine wl_guard_on rfl rfl rfl ?_
                  refine wl_ov (ov_field fo56_0 rfl rfl) rfl ?_
                  refine wl_guard_on rfl rfl rfl ?_
                  refine wl_ov (ov_load sc3 rfl (fun _ hm => hm.blkI 0 rfl) rfl) rfl ?_
                  refine wl_guard_on rfl rfl rfl ?_
                  refine wl_callw rfl cb91 rfl rfl (fun wx hm => (rin_any _ _ _ wx)) ?_
                  refine wl_guard_on rfl rfl rfl ?_
                  refine wl_ov (ov_un_not rfl) rfl ?_
                  refine wl_ov (ov_pick_f rfl rfl) rfl ?_
                  refine wl_ov (ov_move rfl) rfl ?_
                  rcases Bool.eq_false_or_eq_true (!(inB ma 0 fr)) with h7 | h7
                  · refine wl_set 60 rfl (congrArg Value.bool h7) ?_
                    refine wl_guard_off rfl rfl rfl (by decide) rfl ?_
                    refine wl_guard_off rfl rfl rfl (by decide) rfl ?_
                    refine wl_guard_off rfl rfl rfl (by decide) rfl ?_
                    refine wl_guard_off rfl rfl rfl (by decide) rfl ?_
                    refine wl_ov (ov_pick_t rfl rfl) rfl ?_
                    refine wl_ov (ov_assign rfl) rfl ?_
                    refine wl_nil ?_
                    refine nx_then ?_
                    refine gw_cond rfl (fun _ => ?_) (fun hh => by cases hh)
                    refine gw_seq ?_
                    refine gw_region ?_
                    refine wl_ov (ov_assign rfl) rfl ?_
                    refine wl_nil ?_
                    refine nx_then ?_
                    refine gw_ret ?_
                    refine nx_blk_ret ?_
                    refine nx_then_ret ?_
                    refine nx_blk_ret ?_
                    refine nx_then_ret ?_
                    refine nx_then_ret ?_
                    refine nx_blk_ret ?_
                    refine nx_then_ret ?_
                    have hE : bookE (prevOf l k) ⟨ke, cl, fr, tt, ma, od⟩ = 1 := by unfold bookE; simp [h2, h3, hO, h4, h5, h6, h7]
                    refine nx_ret1 rfl rfl fun wx hm => ?_
                    exact ⟨ret_int (by rw [hinv.2, hat, if_neg (by rw [hE]; decide), hE]), hm.g⟩
                  · refine wl_set 60 rfl (congrArg Value.bool h7) ?_
                    refine wl_guard_on rfl rfl rfl ?_
                    refine wl_ov (ov_field fo138_4 rfl rfl) rfl ?_
                    refine wl_guard_on rfl rfl rfl ?_
                    refine wl_ov (ov_load sc3 rfl (fun _ hm => hm.blkI 0 rfl) rfl) rfl ?_
                    refine wl_guard_on rfl rfl rfl ?_
                    refine wl_callw rfl cb91 rfl rfl (fun wx hm => (rin_any _ _ _ wx)) ?_
                    refine wl_guard_on rfl rfl rfl ?_
                    refine wl_ov (ov_un_not rfl) rfl ?_
                    refine wl_ov (ov_pick_f rfl rfl) rfl ?_
                    refine wl_ov (ov_assign rfl) rfl ?_
                    refine wl_nil ?_
                    refine nx_then ?_
                    refine gw_cond rfl (fun hh => ?_) (fun hh => ?_)
                    · have h8 : (inB od 0 100) = false := by simpa using hh
                      clear hh
                      refine gw_seq ?_
                      refine gw_region ?_
                      refine wl_ov (ov_assign rfl) rfl ?_
                      refine wl_nil ?_
                      refine nx_then ?_
                      refine gw_ret ?_
                      refine nx_blk_ret ?_
                      refine nx_then_ret ?_
                      refine nx_blk_ret ?_
                      refine nx_then_ret ?_
                      refine nx_then_ret ?_
                      refine nx_blk_ret ?_
                      refine nx_then_ret ?_
                      have hE : bookE (prevOf l k) ⟨ke, cl, fr, tt, ma, od⟩ = 1 := by unfold bookE; simp [h2, h3, hO, h4, h5, h6, h7, h8]
                      refine nx_ret1 rfl rfl fun wx hm => ?_
                      exact ⟨ret_int (by rw [hinv.2, hat, if_neg (by rw [hE]; decide), hE]), hm.g⟩
                    · have h8 : (inB od 0 100) = true := by simpa using hh
                      clear hh
                      refine gw_skip ?_
                      refine nx_blk_nrm ?_
                      refine nx_then ?_
                      refine gw_region ?_
                      have hE : bookE (prevOf l k) ⟨ke, cl, fr, tt, ma, od⟩ = 0 := by unfold bookE; simp [h2, h3, hO, h4, h5, h6, h7, h8]
                      refine wl_ov (ov_field fo138_0 rfl rfl) rfl ?_
                      refine wl_ov (ov_load sc9 rfl (fun _ hm => hm.blkI 0 rfl) rfl) rfl ?_
                      refine wl_ov (ov_assign rfl) rfl ?_
                      refine wl_nil ?_
                      refine nx_blk_nrm ?_
                      refine nx_then ?_
                      refine gw_region ?_
                      refine wl_ov (ov_add rfl rfl (by omega) (by omega)) rfl ?_
                      refine wl_ov (ov_move rfl) rfl ?_
                      refine wl_nil ?_
                      exact nx_round (k + 1) ⟨by omega, by rw [hinv.2, hat, if_pos hE]⟩ (by omega) ⟨(congrArg (fun z => some (Value.string z)) (prevK_succ hx).symm), rfl, rfl, (some_int (by omega)), trivial⟩ (fun _ hm => hm.pick [] [] [0] rfl rfl)
    · have hk : ¬ (((k : Nat) : Int) < ((n : Nat) : Int)) := by simpa using hh
      clear hh
      refine gw_exit ?_
      refine nx_then_exit ?_
      refine nx_then_exit ?_
      refine nx_blk_here ?_
      refine nx_then ?_
      refine gw_seq ?_
      refine gw_region ?_
      refine wl_ov (ov_assign rfl) rfl ?_
      refine wl_nil ?_
      refine nx_then ?_
      refine gw_ret ?_
      refine nx_ret1 rfl rfl fun wx hm => ?_
      exact ⟨ret_int (by rw [hinv.2, scanE_end _ _ _ _ (by omega)]), hm.g⟩

end Go.Proofs.YtmpomocahgcebaaDoor
/- Hires in a list: CheckAll, HiresFault, when a leg lasts, the generator Hires. -/
namespace Go.Proofs.YtmpomocahgcebaaDoor
open Go.RowKit

/-- A hire as it lies in a list: its legs lie elsewhere. -/
structure Hs where
  key : ByteArray
  driver : ByteArray
  fr : Int
  to_ : Int
  A : Option Addr
  n : Nat
  c : Nat
  legs : List Lg
def hsEnc (h : Hs) : List Value := [.string h.key, .string h.driver, .int .i64 h.fr, .int .i64 h.to_, .slice h.A h.n h.c]
theorem hs_len (h : Hs) : (hsEnc h).length = 5 := rfl
def Hs.hr (h : Hs) : Hr := ⟨h.key, h.driver, h.fr, h.to_, h.legs⟩
def HsOk (h : Hs) : Prop := HrOk h.key h.driver h.legs ∧ h.n ≤ 1000
/-- The legs of all hires of the list. -/
def Legs (l : List Hs) (w : World) : Prop := ∀ h ∈ l, SlT lgEnc 9 100 w h.A h.n h.legs
def LegsOld (N : Nat) (row : Option Nat) (l : List Hs) (w : World) : Prop := ∀ h ∈ l, SlOld lgEnc 9 100 N row h.A h.n h.legs w
theorem LegsOld.lasts {N : Nat} {row : Option Nat} {Tt : List TypeId} {l : List Hs} : Lasts2 N row Tt (LegsOld N row l) := lasts_all fun _ _ => SlOld.lasts
theorem Legs.lasts {N : Nat} {row : Option Nat} {Tt : List TypeId} {l : List Hs} (hT : Tt.contains 100 = true) : Lasts2 N row Tt (Legs l) := lasts_all fun _ _ => SlT.lasts2 hT
theorem Legs.old {l : List Hs} {w : World} (h : Legs l w) : LegsOld w.heap.size none l w := fun x hx => (h x hx).old
theorem Legs.snoc {l : List Hs} {x : Hs} {w : World} (h : Legs l w) (hx : SlT lgEnc 9 100 w x.A x.n x.legs) : Legs (l ++ [x]) w := fun y hy => by
  rcases List.mem_append.1 hy with hy | hy
  · exact h y hy
  · rw [List.mem_singleton.1 hy]; exact hx
theorem hs_snoc {l : List Hs} {x : Hs} (h : ∀ y ∈ l, HsOk y) (hx : HrOk x.key x.driver x.legs) (hn : x.n ≤ 1000) : ∀ y ∈ l ++ [x], HsOk y := fun y hy => by
  rcases List.mem_append.1 hy with hy | hy
  · exact h y hy
  · rw [List.mem_singleton.1 hy]; exact ⟨hx, hn⟩
def leH (p : Option Hs) (b : Hs) : Bool := match p with
  | none => false
  | some q => leB b.key q.key
def hsE (p : Option Hs) (b : Hs) : Int := if hireE b.hr = 0 then (if leH p b then 7 else 0) else hireE b.hr
def hiresE (l : List Hs) : Int := if 500 < l.length then 2 else scanE hsE none l
def prevH (l : List Hs) (k : Nat) : ByteArray := match prevOf l k with
  | none => ⟨#[]⟩
  | some q => q.key
theorem prevH_succ {l : List Hs} {k : Nat} {x : Hs} (h : l[k]? = some x) : prevH l (k + 1) = x.key := by
  unfold prevH prevOf; rw [if_neg (by omega), Nat.add_sub_cancel, h]
theorem hireE_key {h : Hr} (h0 : hireE h = 0) : keyB h.key = true := by
  cases hk : keyB h.key with
  | true => rfl
  | false =>
    obtain ⟨key, driver, fr, to_, l⟩ := h
    have hk2 : keyB key = false := hk
    have := hireE_stop (key := key) (driver := driver) (fr := fr) (to_ := to_) (l := l) (e := 5) (by rw [hk2]; rfl) (by decide)
    rw [this] at h0; cases h0
theorem prevH_le {l : List Hs} {k : Nat} {b : Hs} (h : keyB b.key = true) : leB b.key (prevH l k) = leH (prevOf l k) b := by
  unfold prevH leH
  cases prevOf l k with
  | none => exact key_low h
  | some q => rfl
def stEnc1 (x : ByteArray) : List Value := [.string x]
theorem stEnc1_len (x : ByteArray) : (stEnc1 x).length = 1 := rfl
/-- When a leg's vehicle is taken. -/
def lastA (g : Lg) : Int := g.out.at_
def lastB (g : Lg) : Int := if g.inn.at_ = -1 then 5761440 else g.inn.at_

theorem whenE_ok {b : Bool} {e : Int} (he : e ≠ 0) (h : whenE b e = 0) : b = false := by
  cases b
  · rfl
  · exact absurd h he
set_option maxRecDepth 100000 in
set_option maxHeartbeats 400000 in
theorem lasts_any (gv : ByteArray) (oa : Int) (os : ByteArray) (om of ia : Int) (is_ : ByteArray) (im if_ : Int) (w : World) :
    Calls Tryd.prog 126 #[.agg #[.string gv, .int .i64 oa, .string os, .int .i64 om, .int .i64 of, .int .i64 ia, .string is_, .int .i64 im, .int .i64 if_]] w (fun e w' => e = .returned (.agg #[.int .i64 (lastA ⟨gv, ⟨oa, os, om, of⟩, ⟨ia, is_, im, if_⟩⟩), .int .i64 (lastB ⟨gv, ⟨oa, os, om, of⟩, ⟨ia, is_, im, if_⟩⟩)]) ∧ w.grownBy w' none) := by
  refine gw_enter ⟨18, w, none, []⟩ Tryd.func126 rfl Tryd.ntmps126 rfl (mem0 (X := []) allF_nil allL_nil) ?_
  refine gw_seq ?_
  refine gw_region ?_
  refine wl_box rfl rfl rfl fun g1 => ?_
  refine wl_alloc zc56 rfl fun g2 => ?_
  refine wl_nil ?_
  refine nx_then ?_
  refine gw_seq ?_
  refine gw_seq ?_
  refine gw_region ?_
  refine wl_ov (ov_field fo100_2 rfl rfl) rfl ?_
  refine wl_ov (ov_field fo98_0 rfl rfl) rfl ?_
  refine wl_ov (ov_load sc3 rfl (fun _ hm => hm.blkI 1 rfl) rfl) rfl ?_
  refine wl_ov (ov_eql rfl rfl) rfl ?_
  refine wl_nil ?_
  refine nx_then ?_
  refine gw_cond rfl (fun hh => ?_) (fun hh => ?_)
  · have h : ia = -1 := by simpa using hh
    clear hh
    refine gw_seq ?_
    refine gw_region ?_
    refine wl_ov (ov_field fo100_1 rfl rfl) rfl ?_
    refine wl_ov (ov_field fo98_0 rfl rfl) rfl ?_
    refine wl_ov (ov_load sc3 rfl (fun _ hm => hm.blkI 1 rfl) rfl) rfl ?_
    refine wl_ov (ov_build (cs := [.int .i64 oa, .int .i64 5761440]) rfl (by kernel_rfl)) rfl ?_
    refine wl_stores (cs' := [.int .i64 oa, .int .i64 5761440]) 0 rz56 rfl rfl rfl rfl rfl rfl rfl rfl ?_
    refine wl_nil ?_
    refine nx_then ?_
    refine gw_ret ?_
    refine nx_then_ret ?_
    refine nx_retc 0 rfl rz56 rfl rfl rfl fun wx hm => ?_
    refine ⟨?_, hm.g⟩
    unfold lastA lastB
    rw [if_pos (show ia = -1 from h)]
  · have h : ¬ (ia = -1) := by simpa using hh
    clear hh
    refine gw_skip ?_
    refine nx_then ?_
    refine gw_seq ?_
    refine gw_region ?_
    refine wl_ov (ov_field fo100_1 rfl rfl) rfl ?_
    refine wl_ov (ov_field fo98_0 rfl rfl) rfl ?_
    refine wl_ov (ov_load sc3 rfl (fun _ hm => hm.blkI 1 rfl) rfl) rfl ?_
    refine wl_ov (ov_field fo100_2 rfl rfl) rfl ?_
    refine wl_ov (ov_field fo98_0 rfl rfl) rfl ?_
    refine wl_ov (ov_load sc3 rfl (fun _ hm => hm.blkI 1 rfl) rfl) rfl ?_
    refine wl_ov (ov_build (cs := [.int .i64 oa, .int .i64 ia]) rfl (by kernel_rfl)) rfl ?_
    refine wl_stores (cs' := [.int .i64 oa, .int .i64 ia]) 0 rz56 rfl rfl rfl rfl rfl rfl rfl rfl ?_
    refine wl_nil ?_
    refine nx_then ?_
    refine gw_ret ?_
    refine nx_retc 0 rfl rz56 rfl rfl rfl fun wx hm => ?_
    refine ⟨?_, hm.g⟩
    unfold lastA lastB
    rw [if_neg (show ¬ ia = -1 from h)]

set_option maxRecDepth 100000 in
set_option maxHeartbeats 1000000 in
theorem checkAll_any (hs : List Hs) (A : Option Addr) (n c : Nat) (w : World) (hl : SlT hsEnc 5 95 w A n hs) (hg : Legs hs w) (hok : ∀ h ∈ hs, HsOk h) (hn : n ≤ 1000000) :
    Calls Tryd.prog 52 #[.slice A n c] w (GotE w (hiresE hs)) := by
  refine gw_enter ⟨39, w, none, []⟩ Tryd.func52 rfl Tryd.ntmps52 rfl (mem0 (X := [SlOld hsEnc 5 95 w.heap.size none A n hs, LegsOld w.heap.size none hs]) (allF_cons hl.old (allF_cons hg.old allF_nil)) (allL_cons SlOld.lasts (allL_cons LegsOld.lasts allL_nil))) ?_
  refine gw_seq ?_
  refine gw_region ?_
  have hlen := hl.len
  refine wl_ov (ov_assign rfl) rfl ?_
  refine wl_nil ?_
  refine nx_then ?_
  refine gw_seq ?_
  refine gw_seq ?_
  refine gw_region ?_
  refine wl_ov (ov_move rfl) rfl ?_
  refine wl_ov (ov_len es84 rfl) rfl ?_
  refine wl_ov (ov_gtr rfl rfl) rfl ?_
  refine wl_nil ?_
  refine nx_then ?_
  refine gw_cond rfl (fun hh => ?_) (fun hh => ?_)
  · have h1 : 500 < ((n : Nat) : Int) := by simpa using hh
    clear hh
    refine gw_seq ?_
    refine gw_region ?_
    refine wl_ov (ov_assign rfl) rfl ?_
    refine wl_nil ?_
    refine nx_then ?_
    refine gw_ret ?_
    refine nx_then_ret ?_
    refine nx_ret1 rfl rfl fun wx hm => ?_
    exact ⟨ret_int (by unfold hiresE; rw [if_pos (by omega)]), hm.g⟩
  · have h1 : ¬ (500 < ((n : Nat) : Int)) := by simpa using hh
    clear hh
    refine gw_skip ?_
    refine nx_then ?_
    refine gw_seq ?_
    refine gw_seq ?_
    refine gw_region ?_
    refine wl_ov (ov_move rfl) rfl ?_
    refine wl_ov (ov_len es84 rfl) rfl ?_
    refine wl_ov (ov_move rfl) rfl ?_
    refine wl_nil ?_
    refine nx_then ?_
    refine gw_block ?_
    refine gw_loop (γ := Nat) (fun (k : Nat) => k ≤ n ∧ hiresE hs = scanE hsE (prevOf hs k) (hs.drop k)) (fun (k : Nat) => [(0, .slice A n c), (9, .slice A n c), (10, .int .i64 ((n : Nat) : Int)), (11, .int .i64 ((k : Nat) : Int))]) (fun (k : Nat) => fun _ => True) (fun (k : Nat) => []) (fun (k : Nat) => []) (fun (k : Nat) => [SlOld hsEnc 5 95 w.heap.size none A n hs, LegsOld w.heap.size none hs]) (fun (k : Nat) => n - k) 0 ⟨Nat.zero_le _, by unfold hiresE; rw [if_neg (by omega)]; rfl⟩ ⟨rfl, rfl, rfl, rfl, trivial⟩ (fun _ hm => hm.pick [] [] [0, 1] rfl rfl) ?_
    intro k hinv
    replace hinv : k ≤ n ∧ hiresE hs = scanE hsE (prevOf hs k) (hs.drop k) := hinv
    refine gw_seq ?_
    refine gw_region ?_
    refine wl_ov (ov_lss rfl rfl) rfl ?_
    refine wl_nil ?_
    refine nx_then ?_
    refine gw_seq ?_
    refine gw_cond rfl (fun hh => ?_) (fun hh => ?_)
    · have hk : ((k : Nat) : Int) < ((n : Nat) : Int) := by simpa using hh
      clear hh
      refine gw_skip ?_
      refine nx_then ?_
      refine gw_seq ?_
      refine gw_block ?_
      refine gw_seq ?_
      refine gw_region ?_
      obtain ⟨b, off, hA, _, _⟩ := hl.get (by omega)
      subst hA
      obtain ⟨x, hx⟩ : ∃ x, hs[k]? = some x := ⟨_, List.getElem?_eq_getElem (by omega)⟩
      obtain ⟨key, driver, fr, to_, Ah, nh, ch, lh⟩ := x
      have hat := scanE_at hsE hs k _ hx
      obtain ⟨hho, hhn⟩ := hok _ (List.mem_of_getElem? hx)
      have hho : HrOk key driver lh := hho
      have hhn : nh ≤ 1000 := hhn
      obtain ⟨E, hE⟩ : ∃ E, E = hireE ⟨key, driver, fr, to_, lh⟩ := ⟨_, rfl⟩
      by_cases hk0 : k = 0
      · refine wl_ov (ov_move rfl) rfl ?_
        refine wl_ov (ov_index (j := k) es84 rfl rfl (by omega)) rfl ?_
        refine wl_ov (ov_elem (vs := [.string key, .string driver, .int .i64 fr, .int .i64 to_, .slice Ah nh ch]) rz95 rfl (fun _ hm => (hm.fact 0 rfl).1) hx rfl rfl) rfl ?_
        refine wl_alloc zc95 rfl fun g1 => ?_
        refine wl_ov (ov_assign rfl) rfl ?_
        refine wl_stores (cs' := [.string key, .string driver, .int .i64 fr, .int .i64 to_, .slice Ah nh ch]) 0 rz95 rfl rfl rfl rfl rfl rfl rfl rfl ?_
        refine wl_nil ?_
        refine nx_then ?_
        refine gw_seq ?_
        refine gw_draw (fun wz => Blk wz g1 95 [.string key, .string driver, .int .i64 fr, .int .i64 to_, .slice Ah nh ch] ∧ (SlOld hsEnc 5 95 w.heap.size none (some ⟨b, off, none⟩) n hs) wz ∧ (LegsOld w.heap.size none hs) wz ∧ True) mixed ?_
        refine wa_take 0 rfl (by kernel_rfl) (by kernel_rfl) (by kernel_rfl) (listed' := #[true, false, false, false, false, false, false, false, false, false, false, false, false, false, false, false, false, false, false, false]) rfl (fun _ _ _ h => h) (fun _ hm => ⟨hm.blkI 0 rfl, hm.fact 0 rfl, hm.fact 1 rfl, trivial⟩) (ov_loads rz95 rfl (fun _ hm => hm.1) rfl rfl) rfl ?_
        refine wa_take 2 rfl (by kernel_rfl) (by kernel_rfl) (by kernel_rfl) (listed' := #[true, false, true, false, false, false, false, false, false, false, false, false, false, false, false, false, false, false, false, false]) rfl (fun _ _ _ h => h) (fun _ hm => ⟨hm.blkI 0 rfl, hm.fact 0 rfl, hm.fact 1 rfl, trivial⟩) (ov_move rfl) rfl ?_
        refine wa_take 3 rfl (by kernel_rfl) (by kernel_rfl) (by kernel_rfl) (listed' := #[true, false, true, true, false, false, false, false, false, false, false, false, false, false, false, false, false, false, false, false]) rfl (fun _ _ _ h => h) (fun _ hm => ⟨hm.blkI 0 rfl, hm.fact 0 rfl, hm.fact 1 rfl, trivial⟩) (ov_gtr rfl rfl) rfl ?_
        refine wa_set 19 (v' := .bool false) rfl (congrArg Value.bool (decide_eq_false (by omega))) ?_
        refine wa_all [1] (by kernel_rfl) rfl ⟨⟨_, rfl, ?_⟩, trivial⟩
        refine wl_callv (v := .int .i64 E) rfl cb123 rfl rfl (fun wx hm => (by rw [hE]; exact check_any key driver fr to_ lh Ah nh ch wx ((hm.fact 1 rfl) _ (List.mem_of_getElem? hx)).1 hho (by omega))) ?_
        have hO : leH (prevOf hs k) ⟨key, driver, fr, to_, Ah, nh, ch, lh⟩ = false := by rw [prevOf_zero hk0]; rfl
        refine wl_nil ?_
        refine nx_wa0 (listed' := #[true, true, true, true, false, false, false, false, false, false, false, false, false, false, false, false, false, false, false, false]) rfl (fun _ hm => ⟨hm.blkI 0 rfl, hm.fact 0 rfl, hm.fact 1 rfl, trivial⟩) ?_
        refine wa_take 4 rfl (by kernel_rfl) (by kernel_rfl) (by kernel_rfl) (listed' := #[true, true, true, true, true, false, false, false, false, false, false, false, false, false, false, false, false, false, false, false]) rfl (fun _ _ _ h => h) (fun _ hm => ⟨hm.blkI 0 rfl, hm.fact 0 rfl, hm.fact 1 rfl, trivial⟩) (ov_move rfl) rfl ?_
        refine wa_take_off 5 rfl rfl rfl (by decide) (by kernel_rfl) (by kernel_rfl) (by kernel_rfl) (listed' := #[true, true, true, true, true, true, false, false, false, false, false, false, false, false, false, false, false, false, false, false]) rfl (fun _ _ _ h => h) (fun _ hm => ⟨hm.blkI 0 rfl, hm.fact 0 rfl, hm.fact 1 rfl, trivial⟩) rfl ?_
        refine wa_take_off 6 rfl rfl rfl (by decide) (by kernel_rfl) (by kernel_rfl) (by kernel_rfl) (listed' := #[true, true, true, true, true, true, true, false, false, false, false, false, false, false, false, false, false, false, false, false]) rfl (fun _ _ _ h => h) (fun _ hm => ⟨hm.blkI 0 rfl, hm.fact 0 rfl, hm.fact 1 rfl, trivial⟩) rfl ?_
        refine wa_take_off 7 rfl rfl rfl (by decide) (by kernel_rfl) (by kernel_rfl) (by kernel_rfl) (listed' := #[true, true, true, true, true, true, true, true, false, false, false, false, false, false, false, false, false, false, false, false]) rfl (fun _ _ _ h => h) (fun _ hm => ⟨hm.blkI 0 rfl, hm.fact 0 rfl, hm.fact 1 rfl, trivial⟩) rfl ?_
        refine wa_take_off 8 rfl rfl rfl (by decide) (by kernel_rfl) (by kernel_rfl) (by kernel_rfl) (listed' := #[true, true, true, true, true, true, true, true, true, false, false, false, false, false, false, false, false, false, false, false]) rfl (fun _ _ _ h => h) (fun _ hm => ⟨hm.blkI 0 rfl, hm.fact 0 rfl, hm.fact 1 rfl, trivial⟩) rfl ?_
        refine wa_take_off 9 rfl rfl rfl (by decide) (by kernel_rfl) (by kernel_rfl) (by kernel_rfl) (listed' := #[true, true, true, true, true, true, true, true, true, true, false, false, false, false, false, false, false, false, false, false]) rfl (fun _ _ _ h => h) (fun _ hm => ⟨hm.blkI 0 rfl, hm.fact 0 rfl, hm.fact 1 rfl, trivial⟩) rfl ?_
        refine wa_take_off 10 rfl rfl rfl (by decide) (by kernel_rfl) (by kernel_rfl) (by kernel_rfl) (listed' := #[true, true, true, true, true, true, true, true, true, true, true, false, false, false, false, false, false, false, false, false]) rfl (fun _ _ _ h => h) (fun _ hm => ⟨hm.blkI 0 rfl, hm.fact 0 rfl, hm.fact 1 rfl, trivial⟩) rfl ?_
        refine wa_take_off 11 rfl rfl rfl (by decide) (by kernel_rfl) (by kernel_rfl) (by kernel_rfl) (listed' := #[true, true, true, true, true, true, true, true, true, true, true, true, false, false, false, false, false, false, false, false]) rfl (fun _ _ _ h => h) (fun _ hm => ⟨hm.blkI 0 rfl, hm.fact 0 rfl, hm.fact 1 rfl, trivial⟩) rfl ?_
        refine wa_take_off 12 rfl rfl rfl (by decide) (by kernel_rfl) (by kernel_rfl) (by kernel_rfl) (listed' := #[true, true, true, true, true, true, true, true, true, true, true, true, true, false, false, false, false, false, false, false]) rfl (fun _ _ _ h => h) (fun _ hm => ⟨hm.blkI 0 rfl, hm.fact 0 rfl, hm.fact 1 rfl, trivial⟩) rfl ?_
        refine wa_take_off 13 rfl rfl rfl (by decide) (by kernel_rfl) (by kernel_rfl) (by kernel_rfl) (listed' := #[true, true, true, true, true, true, true, true, true, true, true, true, true, true, false, false, false, false, false, false]) rfl (fun _ _ _ h => h) (fun _ hm => ⟨hm.blkI 0 rfl, hm.fact 0 rfl, hm.fact 1 rfl, trivial⟩) rfl ?_
        refine wa_take_off 14 rfl rfl rfl (by decide) (by kernel_rfl) (by kernel_rfl) (by kernel_rfl) (listed' := #[true, true, true, true, true, true, true, true, true, true, true, true, true, true, true, false, false, false, false, false]) rfl (fun _ _ _ h => h) (fun _ hm => ⟨hm.blkI 0 rfl, hm.fact 0 rfl, hm.fact 1 rfl, trivial⟩) rfl ?_
        refine wa_take 15 rfl (by kernel_rfl) (by kernel_rfl) (by kernel_rfl) (listed' := #[true, true, true, true, true, true, true, true, true, true, true, true, true, true, true, true, false, false, false, false]) rfl (fun _ _ _ h => h) (fun _ hm => ⟨hm.blkI 0 rfl, hm.fact 0 rfl, hm.fact 1 rfl, trivial⟩) (ov_pick_f rfl rfl) rfl ?_
        refine wa_all [16] (by kernel_rfl) rfl ⟨⟨_, rfl, ?_⟩, trivial⟩
        refine wl_callw rfl cb98 rfl rfl (fun wx hm => (when_any _ _ wx)) ?_
        refine wl_nil ?_
        refine nx_wa0 (listed' := #[true, true, true, true, true, true, true, true, true, true, true, true, true, true, true, true, true, false, false, false]) rfl (fun _ hm => ⟨hm.blkI 0 rfl, hm.fact 0 rfl, hm.fact 1 rfl, trivial⟩) ?_
        refine wa_all [17] (by kernel_rfl) rfl ⟨⟨_, rfl, ?_⟩, trivial⟩
        refine wl_buildSlice (e := 29) (cs := [.int .i64 E, .int .i64 (whenE false 7)]) rfl (by kernel_rfl) rfl fun g3 => ?_
        refine wl_nil ?_
        refine nx_wa0 (listed' := #[true, true, true, true, true, true, true, true, true, true, true, true, true, true, true, true, true, true, false, false]) rfl (fun _ hm => ⟨hm.blkI 1 rfl, hm.fact 0 rfl, hm.fact 1 rfl, trivial⟩) ?_
        refine wa_all [18] (by kernel_rfl) rfl ⟨⟨_, rfl, ?_⟩, trivial⟩
        refine wl_callw rfl cb97 rfl rfl (fun wx hm => (first_any [E, whenE false 7] _ _ _ wx (hm.blkI 0 rfl) (by simp))) ?_
        refine wl_nil ?_
        refine nx_wa0 (listed' := #[true, true, true, true, true, true, true, true, true, true, true, true, true, true, true, true, true, true, true, false]) rfl (fun _ hm => ⟨hm.blkI 1 rfl, hm.fact 0 rfl, hm.fact 1 rfl, trivial⟩) ?_
        refine wa_take 19 rfl (by kernel_rfl) (by kernel_rfl) (by kernel_rfl) (listed' := #[true, true, true, true, true, true, true, true, true, true, true, true, true, true, true, true, true, true, true, true]) rfl (fun _ _ _ h => h) (fun _ hm => ⟨hm.blkI 1 rfl, hm.fact 0 rfl, hm.fact 1 rfl, trivial⟩) (ov_assign rfl) rfl ?_
        refine wa_done (by kernel_rfl) ?_
        refine nx_then ?_
        refine gw_seq ?_
        refine gw_region ?_
        refine wl_ov (ov_move rfl) rfl ?_
        refine wl_ov (ov_neq rfl rfl) rfl ?_
        refine wl_nil ?_
        refine nx_then ?_
        refine gw_cond rfl (fun hh => ?_) (fun hh => ?_)
        · have he : ¬ (firstE [E, whenE false 7] = 0) := by simpa using hh
          clear hh
          refine gw_seq ?_
          refine gw_region ?_
          refine wl_ov (ov_move rfl) rfl ?_
          refine wl_ov (ov_assign rfl) rfl ?_
          refine wl_nil ?_
          refine nx_then ?_
          refine gw_ret ?_
          refine nx_blk_ret ?_
          refine nx_then_ret ?_
          refine nx_then_ret ?_
          refine nx_blk_ret ?_
          refine nx_then_ret ?_
          have hF : hsE (prevOf hs k) ⟨key, driver, fr, to_, Ah, nh, ch, lh⟩ = firstE [E, whenE false 7] := by
            unfold hsE
            by_cases h2 : E = 0
            · rw [if_pos (show hireE (Hs.hr ⟨key, driver, fr, to_, Ah, nh, ch, lh⟩) = 0 from hE.symm.trans h2), hO, h2]; cases (false : Bool) <;> rfl
            · rw [if_neg (show ¬ hireE (Hs.hr ⟨key, driver, fr, to_, Ah, nh, ch, lh⟩) = 0 from fun h => h2 (hE.trans h))]; unfold firstE; rw [if_neg h2]; exact hE.symm
          refine nx_ret1 rfl rfl fun wx hm => ?_
          exact ⟨ret_int (by rw [hinv.2, hat, if_neg (by rw [hF]; exact he), hF]), hm.g⟩
        · have he : firstE [E, whenE false 7] = 0 := by simpa using hh
          clear hh
          refine gw_skip ?_
          refine nx_blk_nrm ?_
          refine nx_then ?_
          refine gw_region ?_
          have hF : hsE (prevOf hs k) ⟨key, driver, fr, to_, Ah, nh, ch, lh⟩ = 0 := by
            have h3 := firstE_two he
            unfold hsE
            rw [if_pos (show hireE (Hs.hr ⟨key, driver, fr, to_, Ah, nh, ch, lh⟩) = 0 from hE.symm.trans h3.1), hO, whenE_ok (by decide) h3.2]; rfl
          refine wl_ov (ov_add rfl rfl (by omega) (by omega)) rfl ?_
          refine wl_ov (ov_move rfl) rfl ?_
          refine wl_nil ?_
          exact nx_round (k + 1) ⟨by omega, by rw [hinv.2, hat, if_pos hF]⟩ (by omega) ⟨rfl, rfl, rfl, (some_int (by omega)), trivial⟩ (fun _ hm => hm.pick [] [] [0, 1] rfl rfl)
      · obtain ⟨y, hy⟩ : ∃ x, hs[k - 1]? = some x := ⟨_, List.getElem?_eq_getElem (by omega)⟩
        obtain ⟨p0, p1, p2, p3, p4, p5, p6, p7⟩ := y
        obtain ⟨B, hB⟩ : ∃ B, B = leB key p0 := ⟨_, rfl⟩
        have hO : leH (prevOf hs k) ⟨key, driver, fr, to_, Ah, nh, ch, lh⟩ = B := by rw [prevOf_pos hk0 hy]; exact hB.symm
        refine wl_ov (ov_move rfl) rfl ?_
        refine wl_ov (ov_index (j := k) es84 rfl rfl (by omega)) rfl ?_
        refine wl_ov (ov_elem (vs := [.string key, .string driver, .int .i64 fr, .int .i64 to_, .slice Ah nh ch]) rz95 rfl (fun _ hm => (hm.fact 0 rfl).1) hx rfl rfl) rfl ?_
        refine wl_alloc zc95 rfl fun g2 => ?_
        refine wl_ov (ov_assign rfl) rfl ?_
        refine wl_stores (cs' := [.string key, .string driver, .int .i64 fr, .int .i64 to_, .slice Ah nh ch]) 0 rz95 rfl rfl rfl rfl rfl rfl rfl rfl ?_
        refine wl_nil ?_
        refine nx_then ?_
        refine gw_seq ?_
        refine gw_draw (fun wz => Blk wz g2 95 [.string key, .string driver, .int .i64 fr, .int .i64 to_, .slice Ah nh ch] ∧ (SlOld hsEnc 5 95 w.heap.size none (some ⟨b, off, none⟩) n hs) wz ∧ (LegsOld w.heap.size none hs) wz ∧ True) mixed ?_
        refine wa_take 0 rfl (by kernel_rfl) (by kernel_rfl) (by kernel_rfl) (listed' := #[true, false, false, false, false, false, false, false, false, false, false, false, false, false, false, false, false, false, false, false]) rfl (fun _ _ _ h => h) (fun _ hm => ⟨hm.blkI 0 rfl, hm.fact 0 rfl, hm.fact 1 rfl, trivial⟩) (ov_loads rz95 rfl (fun _ hm => hm.1) rfl rfl) rfl ?_
        refine wa_take 2 rfl (by kernel_rfl) (by kernel_rfl) (by kernel_rfl) (listed' := #[true, false, true, false, false, false, false, false, false, false, false, false, false, false, false, false, false, false, false, false]) rfl (fun _ _ _ h => h) (fun _ hm => ⟨hm.blkI 0 rfl, hm.fact 0 rfl, hm.fact 1 rfl, trivial⟩) (ov_move rfl) rfl ?_
        refine wa_take 3 rfl (by kernel_rfl) (by kernel_rfl) (by kernel_rfl) (listed' := #[true, false, true, true, false, false, false, false, false, false, false, false, false, false, false, false, false, false, false, false]) rfl (fun _ _ _ h => h) (fun _ hm => ⟨hm.blkI 0 rfl, hm.fact 0 rfl, hm.fact 1 rfl, trivial⟩) (ov_gtr rfl rfl) rfl ?_
        refine wa_set 19 (v' := .bool true) rfl (congrArg Value.bool (decide_eq_true (by omega))) ?_
        refine wa_all [1] (by kernel_rfl) rfl ⟨⟨_, rfl, ?_⟩, trivial⟩
        refine wl_callv (v := .int .i64 E) rfl cb123 rfl rfl (fun wx hm => (by rw [hE]; exact check_any key driver fr to_ lh Ah nh ch wx ((hm.fact 1 rfl) _ (List.mem_of_getElem? hx)).1 hho (by omega))) ?_
        refine wl_nil ?_
        refine nx_wa0 (listed' := #[true, true, true, true, false, false, false, false, false, false, false, false, false, false, false, false, false, false, false, false]) rfl (fun _ hm => ⟨hm.blkI 0 rfl, hm.fact 0 rfl, hm.fact 1 rfl, trivial⟩) ?_
        refine wa_take 4 rfl (by kernel_rfl) (by kernel_rfl) (by kernel_rfl) (listed' := #[true, true, true, true, true, false, false, false, false, false, false, false, false, false, false, false, false, false, false, false]) rfl (fun _ _ _ h => h) (fun _ hm => ⟨hm.blkI 0 rfl, hm.fact 0 rfl, hm.fact 1 rfl, trivial⟩) (ov_move rfl) rfl ?_
        refine wa_take_on 5 rfl rfl rfl (by kernel_rfl) (by kernel_rfl) (by kernel_rfl) (listed' := #[true, true, true, true, true, true, false, false, false, false, false, false, false, false, false, false, false, false, false, false]) rfl (fun _ _ _ h => h) (fun _ hm => ⟨hm.blkI 0 rfl, hm.fact 0 rfl, hm.fact 1 rfl, trivial⟩) (ov_field fo95_0 rfl rfl) rfl ?_
        refine wa_take_on 6 rfl rfl rfl (by kernel_rfl) (by kernel_rfl) (by kernel_rfl) (listed' := #[true, true, true, true, true, true, true, false, false, false, false, false, false, false, false, false, false, false, false, false]) rfl (fun _ _ _ h => h) (fun _ hm => ⟨hm.blkI 0 rfl, hm.fact 0 rfl, hm.fact 1 rfl, trivial⟩) (ov_load sc9 rfl (fun _ hm => hm.1) rfl) rfl ?_
        refine wa_take_on 7 rfl rfl rfl (by kernel_rfl) (by kernel_rfl) (by kernel_rfl) (listed' := #[true, true, true, true, true, true, true, true, false, false, false, false, false, false, false, false, false, false, false, false]) rfl (fun _ _ _ h => h) (fun _ hm => ⟨hm.blkI 0 rfl, hm.fact 0 rfl, hm.fact 1 rfl, trivial⟩) (ov_move rfl) rfl ?_
        refine wa_take_on 8 rfl rfl rfl (by kernel_rfl) (by kernel_rfl) (by kernel_rfl) (listed' := #[true, true, true, true, true, true, true, true, true, false, false, false, false, false, false, false, false, false, false, false]) rfl (fun _ _ _ h => h) (fun _ hm => ⟨hm.blkI 0 rfl, hm.fact 0 rfl, hm.fact 1 rfl, trivial⟩) (ov_move rfl) rfl ?_
        refine wa_take_on 9 rfl rfl rfl (by kernel_rfl) (by kernel_rfl) (by kernel_rfl) (listed' := #[true, true, true, true, true, true, true, true, true, true, false, false, false, false, false, false, false, false, false, false]) rfl (fun _ _ _ h => h) (fun _ hm => ⟨hm.blkI 0 rfl, hm.fact 0 rfl, hm.fact 1 rfl, trivial⟩) (ov_sub rfl rfl (by omega) (by omega)) rfl ?_
        refine wa_take_on 10 rfl rfl rfl (by kernel_rfl) (by kernel_rfl) (by kernel_rfl) (listed' := #[true, true, true, true, true, true, true, true, true, true, true, false, false, false, false, false, false, false, false, false]) rfl (fun _ _ _ h => h) (fun _ hm => ⟨hm.blkI 0 rfl, hm.fact 0 rfl, hm.fact 1 rfl, trivial⟩) (ov_max rfl rfl) rfl ?_
        refine wa_set 26 (v' := .int .i64 ((k - 1 : Nat) : Int)) rfl (congrArg (Value.int .i64) (by omega)) ?_
        refine wa_take_on 11 rfl rfl rfl (by kernel_rfl) (by kernel_rfl) (by kernel_rfl) (listed' := #[true, true, true, true, true, true, true, true, true, true, true, true, false, false, false, false, false, false, false, false]) rfl (fun _ _ _ h => h) (fun _ hm => ⟨hm.blkI 0 rfl, hm.fact 0 rfl, hm.fact 1 rfl, trivial⟩) (ov_index (j := k - 1) es84 rfl rfl (by omega)) rfl ?_
        refine wa_take_on 12 rfl rfl rfl (by kernel_rfl) (by kernel_rfl) (by kernel_rfl) (listed' := #[true, true, true, true, true, true, true, true, true, true, true, true, true, false, false, false, false, false, false, false]) rfl (fun _ _ _ h => h) (fun _ hm => ⟨hm.blkI 0 rfl, hm.fact 0 rfl, hm.fact 1 rfl, trivial⟩) (ov_field fo95_0 rfl rfl) rfl ?_
        refine wa_take_on 13 rfl rfl rfl (by kernel_rfl) (by kernel_rfl) (by kernel_rfl) (listed' := #[true, true, true, true, true, true, true, true, true, true, true, true, true, true, false, false, false, false, false, false]) rfl (fun _ _ _ h => h) (fun _ hm => ⟨hm.blkI 0 rfl, hm.fact 0 rfl, hm.fact 1 rfl, trivial⟩) (ov_elem1 (k := 0) (v := .string p0) sc9 rfl (fun _ hm => (hm.2.1).1) hy rfl rfl) rfl ?_
        refine wa_take_on 14 rfl rfl rfl (by kernel_rfl) (by kernel_rfl) (by kernel_rfl) (listed' := #[true, true, true, true, true, true, true, true, true, true, true, true, true, true, true, false, false, false, false, false]) rfl (fun _ _ _ h => h) (fun _ hm => ⟨hm.blkI 0 rfl, hm.fact 0 rfl, hm.fact 1 rfl, trivial⟩) (ov_sleq rfl rfl) rfl ?_
        refine wa_set 30 (v' := .bool B) rfl (congrArg Value.bool hB.symm) ?_
        refine wa_take 15 rfl (by kernel_rfl) (by kernel_rfl) (by kernel_rfl) (listed' := #[true, true, true, true, true, true, true, true, true, true, true, true, true, true, true, true, false, false, false, false]) rfl (fun _ _ _ h => h) (fun _ hm => ⟨hm.blkI 0 rfl, hm.fact 0 rfl, hm.fact 1 rfl, trivial⟩) (ov_pick_t rfl rfl) rfl ?_
        refine wa_all [16] (by kernel_rfl) rfl ⟨⟨_, rfl, ?_⟩, trivial⟩
        refine wl_callw rfl cb98 rfl rfl (fun wx hm => (when_any _ _ wx)) ?_
        refine wl_nil ?_
        refine nx_wa0 (listed' := #[true, true, true, true, true, true, true, true, true, true, true, true, true, true, true, true, true, false, false, false]) rfl (fun _ hm => ⟨hm.blkI 0 rfl, hm.fact 0 rfl, hm.fact 1 rfl, trivial⟩) ?_
        refine wa_all [17] (by kernel_rfl) rfl ⟨⟨_, rfl, ?_⟩, trivial⟩
        refine wl_buildSlice (e := 29) (cs := [.int .i64 E, .int .i64 (whenE B 7)]) rfl (by kernel_rfl) rfl fun g4 => ?_
        refine wl_nil ?_
        refine nx_wa0 (listed' := #[true, true, true, true, true, true, true, true, true, true, true, true, true, true, true, true, true, true, false, false]) rfl (fun _ hm => ⟨hm.blkI 1 rfl, hm.fact 0 rfl, hm.fact 1 rfl, trivial⟩) ?_
        refine wa_all [18] (by kernel_rfl) rfl ⟨⟨_, rfl, ?_⟩, trivial⟩
        refine wl_callw rfl cb97 rfl rfl (fun wx hm => (first_any [E, whenE B 7] _ _ _ wx (hm.blkI 0 rfl) (by simp))) ?_
        refine wl_nil ?_
        refine nx_wa0 (listed' := #[true, true, true, true, true, true, true, true, true, true, true, true, true, true, true, true, true, true, true, false]) rfl (fun _ hm => ⟨hm.blkI 1 rfl, hm.fact 0 rfl, hm.fact 1 rfl, trivial⟩) ?_
        refine wa_take 19 rfl (by kernel_rfl) (by kernel_rfl) (by kernel_rfl) (listed' := #[true, true, true, true, true, true, true, true, true, true, true, true, true, true, true, true, true, true, true, true]) rfl (fun _ _ _ h => h) (fun _ hm => ⟨hm.blkI 1 rfl, hm.fact 0 rfl, hm.fact 1 rfl, trivial⟩) (ov_assign rfl) rfl ?_
        refine wa_done (by kernel_rfl) ?_
        refine nx_then ?_
        refine gw_seq ?_
        refine gw_region ?_
        refine wl_ov (ov_move rfl) rfl ?_
        refine wl_ov (ov_neq rfl rfl) rfl ?_
        refine wl_nil ?_
        refine nx_then ?_
        refine gw_cond rfl (fun hh => ?_) (fun hh => ?_)
        · have he : ¬ (firstE [E, whenE B 7] = 0) := by simpa using hh
          clear hh
          refine gw_seq ?_
          refine gw_region ?_
          refine wl_ov (ov_move rfl) rfl ?_
          refine wl_ov (ov_assign rfl) rfl ?_
          refine wl_nil ?_
          refine nx_then ?_
          refine gw_ret ?_
          refine nx_blk_ret ?_
          refine nx_then_ret ?_
          refine nx_then_ret ?_
          refine nx_blk_ret ?_
          refine nx_then_ret ?_
          have hF : hsE (prevOf hs k) ⟨key, driver, fr, to_, Ah, nh, ch, lh⟩ = firstE [E, whenE B 7] := by
            unfold hsE
            by_cases h2 : E = 0
            · rw [if_pos (show hireE (Hs.hr ⟨key, driver, fr, to_, Ah, nh, ch, lh⟩) = 0 from hE.symm.trans h2), hO, h2]; cases B <;> rfl
            · rw [if_neg (show ¬ hireE (Hs.hr ⟨key, driver, fr, to_, Ah, nh, ch, lh⟩) = 0 from fun h => h2 (hE.trans h))]; unfold firstE; rw [if_neg h2]; exact hE.symm
          refine nx_ret1 rfl rfl fun wx hm => ?_
          exact ⟨ret_int (by rw [hinv.2, hat, if_neg (by rw [hF]; exact he), hF]), hm.g⟩
        · have he : firstE [E, whenE B 7] = 0 := by simpa using hh
          clear hh
          refine gw_skip ?_
          refine nx_blk_nrm ?_
          refine nx_then ?_
          refine gw_region ?_
          have hF : hsE (prevOf hs k) ⟨key, driver, fr, to_, Ah, nh, ch, lh⟩ = 0 := by
            have h3 := firstE_two he
            unfold hsE
            rw [if_pos (show hireE (Hs.hr ⟨key, driver, fr, to_, Ah, nh, ch, lh⟩) = 0 from hE.symm.trans h3.1), hO, whenE_ok (by decide) h3.2]; rfl
          refine wl_ov (ov_add rfl rfl (by omega) (by omega)) rfl ?_
          refine wl_ov (ov_move rfl) rfl ?_
          refine wl_nil ?_
          exact nx_round (k + 1) ⟨by omega, by rw [hinv.2, hat, if_pos hF]⟩ (by omega) ⟨rfl, rfl, rfl, (some_int (by omega)), trivial⟩ (fun _ hm => hm.pick [] [] [0, 1] rfl rfl)
    · have hk : ¬ (((k : Nat) : Int) < ((n : Nat) : Int)) := by simpa using hh
      clear hh
      refine gw_exit ?_
      refine nx_then_exit ?_
      refine nx_then_exit ?_
      refine nx_blk_here ?_
      refine nx_then ?_
      refine gw_seq ?_
      refine gw_region ?_
      refine wl_ov (ov_assign rfl) rfl ?_
      refine wl_nil ?_
      refine nx_then ?_
      refine gw_ret ?_
      refine nx_ret1 rfl rfl fun wx hm => ?_
      exact ⟨ret_int (by rw [hinv.2, scanE_end _ _ _ _ (by omega)]), hm.g⟩

set_option maxRecDepth 100000 in
set_option maxHeartbeats 1000000 in
theorem hiresFault_any (hs : List Hs) (A : Option Addr) (n c : Nat) (w : World) (hl : SlT hsEnc 5 95 w A n hs) (hg : Legs hs w) (hok : ∀ h ∈ hs, HsOk h) (hn : n ≤ 1000000) :
    Calls Tryd.prog 51 #[.slice A n c] w (GotE w (hiresE hs)) := by
  refine gw_enter ⟨28, w, none, []⟩ Tryd.func51 rfl Tryd.ntmps51 rfl (mem0 (X := [SlOld hsEnc 5 95 w.heap.size none A n hs, LegsOld w.heap.size none hs]) (allF_cons hl.old (allF_cons hg.old allF_nil)) (allL_cons SlOld.lasts (allL_cons LegsOld.lasts allL_nil))) ?_
  refine gw_seq ?_
  refine gw_region ?_
  have hlen := hl.len
  refine wl_ov (ov_assign rfl) rfl ?_
  refine wl_nil ?_
  refine nx_then ?_
  refine gw_seq ?_
  refine gw_seq ?_
  refine gw_region ?_
  refine wl_ov (ov_move rfl) rfl ?_
  refine wl_ov (ov_len es84 rfl) rfl ?_
  refine wl_ov (ov_gtr rfl rfl) rfl ?_
  refine wl_nil ?_
  refine nx_then ?_
  refine gw_cond rfl (fun hh => ?_) (fun hh => ?_)
  · have h1 : 500 < ((n : Nat) : Int) := by simpa using hh
    clear hh
    refine gw_seq ?_
    refine gw_region ?_
    refine wl_ov (ov_assign rfl) rfl ?_
    refine wl_nil ?_
    refine nx_then ?_
    refine gw_ret ?_
    refine nx_then_ret ?_
    refine nx_ret1 rfl rfl fun wx hm => ?_
    exact ⟨ret_int (by unfold hiresE; rw [if_pos (by omega)]), hm.g⟩
  · have h1 : ¬ (500 < ((n : Nat) : Int)) := by simpa using hh
    clear hh
    refine gw_skip ?_
    refine nx_then ?_
    refine gw_seq ?_
    refine gw_region ?_
    refine wl_ov (ov_assign rfl) rfl ?_
    refine wl_nil ?_
    refine nx_then ?_
    refine gw_seq ?_
    refine gw_seq ?_
    refine gw_region ?_
    refine wl_ov (ov_move rfl) rfl ?_
    refine wl_ov (ov_len es84 rfl) rfl ?_
    refine wl_ov (ov_move rfl) rfl ?_
    refine wl_nil ?_
    refine nx_then ?_
    refine gw_block ?_
    refine gw_loop (γ := Nat) (fun (k : Nat) => k ≤ n ∧ hiresE hs = scanE hsE (prevOf hs k) (hs.drop k)) (fun (k : Nat) => [(3, .string (prevH hs k)), (10, .slice A n c), (11, .int .i64 ((n : Nat) : Int)), (12, .int .i64 ((k : Nat) : Int))]) (fun (k : Nat) => fun _ => True) (fun (k : Nat) => []) (fun (k : Nat) => []) (fun (k : Nat) => [SlOld hsEnc 5 95 w.heap.size none A n hs, LegsOld w.heap.size none hs]) (fun (k : Nat) => n - k) 0 ⟨Nat.zero_le _, by unfold hiresE; rw [if_neg (by omega)]; rfl⟩ ⟨rfl, rfl, rfl, rfl, trivial⟩ (fun _ hm => hm.pick [] [] [0, 1] rfl rfl) ?_
    intro k hinv
    replace hinv : k ≤ n ∧ hiresE hs = scanE hsE (prevOf hs k) (hs.drop k) := hinv
    refine gw_seq ?_
    refine gw_region ?_
    refine wl_ov (ov_lss rfl rfl) rfl ?_
    refine wl_nil ?_
    refine nx_then ?_
    refine gw_seq ?_
    refine gw_cond rfl (fun hh => ?_) (fun hh => ?_)
    · have hk : ((k : Nat) : Int) < ((n : Nat) : Int) := by simpa using hh
      clear hh
      refine gw_skip ?_
      refine nx_then ?_
      refine gw_seq ?_
      refine gw_block ?_
      refine gw_seq ?_
      refine gw_region ?_
      obtain ⟨b, off, hA, _, _⟩ := hl.get (by omega)
      subst hA
      obtain ⟨x, hx⟩ : ∃ x, hs[k]? = some x := ⟨_, List.getElem?_eq_getElem (by omega)⟩
      obtain ⟨key, driver, fr, to_, Ah, nh, ch, lh⟩ := x
      have hat := scanE_at hsE hs k _ hx
      obtain ⟨hho, hhn⟩ := hok _ (List.mem_of_getElem? hx)
      have hho : HrOk key driver lh := hho
      have hhn : nh ≤ 1000 := hhn
      obtain ⟨E, hE⟩ : ∃ E, E = hireE ⟨key, driver, fr, to_, lh⟩ := ⟨_, rfl⟩
      refine wl_ov (ov_index (j := k) es84 rfl rfl (by omega)) rfl ?_
      refine wl_ov (ov_elem (vs := [.string key, .string driver, .int .i64 fr, .int .i64 to_, .slice Ah nh ch]) rz95 rfl (fun _ hm => (hm.fact 0 rfl).1) hx rfl rfl) rfl ?_
      refine wl_alloc zc95 rfl fun g1 => ?_
      refine wl_stores (cs' := [.string key, .string driver, .int .i64 fr, .int .i64 to_, .slice Ah nh ch]) 0 rz95 rfl rfl rfl rfl rfl rfl rfl rfl ?_
      refine wl_nil ?_
      refine nx_then ?_
      refine gw_seq ?_
      refine gw_seq ?_
      refine gw_region ?_
      refine wl_ov (ov_loads rz95 rfl (fun _ hm => hm.blkI 0 rfl) rfl rfl) rfl ?_
      refine wl_callv (v := .int .i64 E) rfl cb122 rfl rfl (fun wx hm => (by rw [hE]; exact hireFault_any key driver fr to_ lh Ah nh ch wx ((hm.fact 1 rfl) _ (List.mem_of_getElem? hx)).1 hho (by omega))) ?_
      refine wl_ov (ov_assign rfl) rfl ?_
      refine wl_nil ?_
      refine nx_then ?_
      refine gw_seq ?_
      refine gw_region ?_
      refine wl_ov (ov_move rfl) rfl ?_
      refine wl_ov (ov_neq rfl rfl) rfl ?_
      refine wl_nil ?_
      refine nx_then ?_
      refine gw_cond rfl (fun hh => ?_) (fun hh => ?_)
      · have h2 : ¬ (E = 0) := by simpa using hh
        clear hh
        refine gw_seq ?_
        refine gw_region ?_
        refine wl_ov (ov_move rfl) rfl ?_
        refine wl_ov (ov_assign rfl) rfl ?_
        refine wl_nil ?_
        refine nx_then ?_
        refine gw_ret ?_
        refine nx_then_ret ?_
        refine nx_blk_ret ?_
        refine nx_then_ret ?_
        refine nx_then_ret ?_
        refine nx_blk_ret ?_
        refine nx_then_ret ?_
        have hF : hsE (prevOf hs k) ⟨key, driver, fr, to_, Ah, nh, ch, lh⟩ = E := by unfold hsE; rw [if_neg (show ¬ hireE (Hs.hr ⟨key, driver, fr, to_, Ah, nh, ch, lh⟩) = 0 from fun h => h2 (hE.trans h))]; exact hE.symm
        refine nx_ret1 rfl rfl fun wx hm => ?_
        exact ⟨ret_int (by rw [hinv.2, hat, if_neg (by rw [hF]; exact h2), hF]), hm.g⟩
      · have h2 : E = 0 := by simpa using hh
        clear hh
        refine gw_skip ?_
        refine nx_then ?_
        refine gw_seq ?_
        refine gw_seq ?_
        refine gw_region ?_
        refine wl_ov (ov_field fo95_0 rfl rfl) rfl ?_
        refine wl_ov (ov_load sc9 rfl (fun _ hm => hm.blkI 0 rfl) rfl) rfl ?_
        refine wl_ov (ov_move rfl) rfl ?_
        refine wl_ov (ov_sleq rfl rfl) rfl ?_
        refine wl_nil ?_
        refine nx_then ?_
        refine gw_cond rfl (fun hh => ?_) (fun hh => ?_)
        · have h9 : (Op.bytesLess key.toList (prevH hs k).toList || key.toList == (prevH hs k).toList) = true := by simpa using hh
          clear hh
          refine gw_seq ?_
          refine gw_region ?_
          have hO : leH (prevOf hs k) ⟨key, driver, fr, to_, Ah, nh, ch, lh⟩ = true := (prevH_le (b := ⟨key, driver, fr, to_, Ah, nh, ch, lh⟩) (hireE_key (hE.symm.trans h2))).symm.trans h9
          refine wl_ov (ov_assign rfl) rfl ?_
          refine wl_nil ?_
          refine nx_then ?_
          refine gw_ret ?_
          refine nx_then_ret ?_
          refine nx_blk_ret ?_
          refine nx_then_ret ?_
          refine nx_then_ret ?_
          refine nx_blk_ret ?_
          refine nx_then_ret ?_
          have hF : hsE (prevOf hs k) ⟨key, driver, fr, to_, Ah, nh, ch, lh⟩ = 7 := by unfold hsE; rw [if_pos (show hireE (Hs.hr ⟨key, driver, fr, to_, Ah, nh, ch, lh⟩) = 0 from hE.symm.trans h2), hO]; rfl
          refine nx_ret1 rfl rfl fun wx hm => ?_
          exact ⟨ret_int (by rw [hinv.2, hat, if_neg (by rw [hF]; decide), hF]), hm.g⟩
        · have h9 : (Op.bytesLess key.toList (prevH hs k).toList || key.toList == (prevH hs k).toList) = false := by simpa using hh
          clear hh
          refine gw_skip ?_
          refine nx_then ?_
          refine gw_region ?_
          have hO : leH (prevOf hs k) ⟨key, driver, fr, to_, Ah, nh, ch, lh⟩ = false := (prevH_le (b := ⟨key, driver, fr, to_, Ah, nh, ch, lh⟩) (hireE_key (hE.symm.trans h2))).symm.trans h9
          refine wl_ov (ov_field fo95_0 rfl rfl) rfl ?_
          refine wl_ov (ov_load sc9 rfl (fun _ hm => hm.blkI 0 rfl) rfl) rfl ?_
          refine wl_ov (ov_assign rfl) rfl ?_
          refine wl_nil ?_
          refine nx_blk_nrm ?_
          refine nx_then ?_
          refine gw_region ?_
          refine wl_ov (ov_add rfl rfl (by omega) (by omega)) rfl ?_
          refine wl_ov (ov_move rfl) rfl ?_
          refine wl_nil ?_
          have hF : hsE (prevOf hs k) ⟨key, driver, fr, to_, Ah, nh, ch, lh⟩ = 0 := by unfold hsE; rw [if_pos (show hireE (Hs.hr ⟨key, driver, fr, to_, Ah, nh, ch, lh⟩) = 0 from hE.symm.trans h2), hO]; rfl
          exact nx_round (k + 1) ⟨by omega, by rw [hinv.2, hat, if_pos hF]⟩ (by omega) ⟨(congrArg (fun z => some (Value.string z)) (prevH_succ hx).symm), rfl, rfl, (some_int (by omega)), trivial⟩ (fun _ hm => hm.pick [] [] [0, 1] rfl rfl)
    · have hk : ¬ (((k : Nat) : Int) < ((n : Nat) : Int)) := by simpa using hh
      clear hh
      refine gw_exit ?_
      refine nx_then_exit ?_
      refine nx_then_exit ?_
      refine nx_blk_here ?_
      refine nx_then ?_
      refine gw_seq ?_
      refine gw_region ?_
      refine wl_ov (ov_assign rfl) rfl ?_
      refine wl_nil ?_
      refine nx_then ?_
      refine gw_ret ?_
      refine nx_ret1 rfl rfl fun wx hm => ?_
      exact ⟨ret_int (by rw [hinv.2, scanE_end _ _ _ _ (by omega)]), hm.g⟩

end Go.Proofs.YtmpomocahgcebaaDoor
/- With and Overdue over hires. -/
namespace Go.Proofs.YtmpomocahgcebaaDoor
open Go.RowKit

theorem leg_times {h : Hr} (h0 : hireE h = 0) : ∀ g ∈ h.legs, (0 ≤ g.out.at_ ∧ g.out.at_ ≤ 5761439) ∧ (g.inn.at_ = -1 ∨ (g.out.at_ < g.inn.at_ ∧ g.inn.at_ ≤ 5761439)) := by
  obtain ⟨key, driver, fr, to_, l⟩ := h
  have hk := hireE_ok h0
  have hall := legs_all hk.2.2.2
  intro g hg
  obtain ⟨k, hkl, hk2⟩ := List.getElem_of_mem hg
  have hgk : l[k]? = some g := by rw [List.getElem?_eq_getElem hkl, hk2]
  have hle := firstE_all (hall k g hgk)
  have h2 := readingE_ok (hle _ (List.mem_cons_of_mem _ (List.mem_cons_self ..)))
  have h4 := hle _ (List.mem_cons_of_mem _ (List.mem_cons_of_mem _ (List.mem_cons_of_mem _ (List.mem_singleton.2 rfl))))
  refine ⟨h2.1, ?_⟩
  unfold legInE at h4
  by_cases hin : g.inn.at_ = -1
  · exact .inl hin
  · rw [if_neg hin] at h4
    have h6 := readingE_ok (firstE_all h4 _ (List.mem_cons_self ..))
    have h7 := of_decide_eq_false (whenE_ok (by decide) (firstE_all h4 _ (List.mem_cons_of_mem _ (List.mem_singleton.2 rfl))))
    exact .inr ⟨by omega, h6.1.2⟩
theorem last_times {h : Hr} (h0 : hireE h = 0) : ∀ g ∈ h.legs, (0 ≤ lastA g ∧ lastA g ≤ 5761439) ∧ lastA g < lastB g ∧ lastB g ≤ 5761440 := fun g hg => by
  have ht := leg_times h0 g hg
  unfold lastA lastB
  by_cases hi : g.inn.at_ = -1
  · rw [if_pos hi]; omega
  · rw [if_neg hi]; rcases ht.2 with h | h
    · exact absurd h hi
    · omega
theorem hiresE_ok {l : List Hs} (h : hiresE l = 0) : l.length ≤ 500 ∧ ∀ x ∈ l, hireE x.hr = 0 := by
  unfold hiresE at h
  split at h
  · cases h
  · refine ⟨by omega, fun x hx => ?_⟩
    obtain ⟨q, hq⟩ := scanE_all h x hx
    unfold hsE at hq
    by_cases h0 : hireE x.hr = 0
    · exact h0
    · rw [if_neg h0] at hq; exact absurd hq h0
def legAt (v : ByteArray) (mo : Int) (g : Lg) : Bool := (g.veh.toList == v.toList) && decide (lastA g ≤ mo) && decide (mo < lastB g)
def withV (v : ByteArray) (mo : Int) : List Hs → ByteArray × Bool
  | [] => (⟨#[]⟩, false)
  | h :: r => if h.legs.any (legAt v mo) then (h.key, true) else withV v mo r
theorem withV_at {l : List Hs} {v : ByteArray} {mo : Int} {k : Nat} {x : Hs} (h : l[k]? = some x) : withV v mo (l.drop k) = if x.legs.any (legAt v mo) then (x.key, true) else withV v mo (l.drop (k + 1)) := by
  obtain ⟨hk, rfl⟩ := List.getElem?_eq_some_iff.1 h
  rw [List.drop_eq_getElem_cons hk]; rfl
theorem any_at {α : Type} {p : α → Bool} {l : List α} {k : Nat} {x : α} (h : l[k]? = some x) : (l.drop k).any p = (p x || (l.drop (k + 1)).any p) := by
  obtain ⟨hk, rfl⟩ := List.getElem?_eq_some_iff.1 h
  rw [List.drop_eq_getElem_cons hk]; rfl
theorem legAt_in {v : ByteArray} {mo : Int} {g : Lg} (h : (g.veh.toList == v.toList) = true) : legAt v mo g = inB mo (lastA g) (lastB g - 1) := by
  unfold legAt inB
  rw [h, Bool.true_and]
  congr 1
  exact decide_eq_decide.2 (by omega)
def isOver (mo : Int) (h : Hs) : Bool := openB h.legs && decide (h.to_ ≤ mo)
def overL (mo : Int) (l : List Hs) : List ByteArray := (l.filter (isOver mo)).map Hs.key
theorem overL_take {l : List Hs} {mo : Int} {k : Nat} {x : Hs} (h : l[k]? = some x) : overL mo (l.take (k + 1)) = overL mo (l.take k) ++ (if isOver mo x then [x.key] else []) := by
  obtain ⟨hk, rfl⟩ := List.getElem?_eq_some_iff.1 h
  unfold overL
  rw [List.take_add_one, List.getElem?_eq_getElem hk, List.filter_append, List.map_append]
  congr 1
  simp only [Option.toList]
  cases hb : isOver mo l[k] <;> simp [List.filter, hb]
theorem overL_len (mo : Int) (l : List Hs) : (overL mo l).length ≤ l.length := by unfold overL; rw [List.length_map]; exact List.length_filter_le _ _
theorem some_b {a b : Bool} (h : a = b) : some (Value.bool a) = some (Value.bool b) := by rw [h]

def withE (hs : List Hs) (veh : ByteArray) (mo : Int) : Int := firstE [hiresE hs, whenE (!keyB veh) 5, momentE mo]
set_option maxRecDepth 100000 in
set_option maxHeartbeats 1000000 in
theorem with_any (hs : List Hs) (A : Option Addr) (n c : Nat) (veh : ByteArray) (mo : Int) (w : World) (hl : SlT hsEnc 5 95 w A n hs) (hg : Legs hs w) (hok : ∀ h ∈ hs, HsOk h) (hn : n ≤ 1000000) (hvz : veh.size ≤ 1000000) :
    Calls Tryd.prog 57 #[.slice A n c, .string veh, .int .i64 mo] w (fun e w' => e = .returned (.tuple #[.string (if withE hs veh mo = 0 then withV veh mo hs else (⟨#[]⟩, false)).1, .bool (if withE hs veh mo = 0 then withV veh mo hs else (⟨#[]⟩, false)).2, .int .i64 (withE hs veh mo)]) ∧ w.grownBy w' none) := by
  refine gw_enter ⟨63, w, none, []⟩ Tryd.func57 rfl Tryd.ntmps57 rfl (mem0 (X := [SlOld hsEnc 5 95 w.heap.size none A n hs, LegsOld w.heap.size none hs]) (allF_cons hl.old (allF_cons hg.old allF_nil)) (allL_cons SlOld.lasts (allL_cons LegsOld.lasts allL_nil))) ?_
  refine gw_seq ?_
  refine gw_region ?_
  have hlen := hl.len
  refine wl_ov (ov_assign rfl) rfl ?_
  refine wl_ov (ov_assign rfl) rfl ?_
  refine wl_ov (ov_assign rfl) rfl ?_
  refine wl_nil ?_
  refine nx_then ?_
  refine gw_seq ?_
  refine gw_seq ?_
  refine gw_region ?_
  refine wl_ov (ov_move rfl) rfl ?_
  refine wl_callv rfl cb52 rfl rfl (fun wx hm => (checkAll_any hs A n c wx (hm.fact 0 rfl).1 (fun h hh => ((hm.fact 1 rfl) h hh).1) hok (by omega))) ?_
  refine wl_ov (ov_move rfl) rfl ?_
  refine wl_callw rfl cb106 rfl rfl (fun wx hm => (isKey_any _ wx (by omega))) ?_
  refine wl_ov (ov_un_not rfl) rfl ?_
  refine wl_callw rfl cb98 rfl rfl (fun wx hm => (when_any _ _ wx)) ?_
  refine wl_ov (ov_move rfl) rfl ?_
  refine wl_callw rfl cb125 rfl rfl (fun wx hm => (moment_any _ wx)) ?_
  refine wl_buildSlice (e := 29) (cs := [.int .i64 (hiresE hs), .int .i64 (whenE (!(keyB veh)) 5), .int .i64 (momentE mo)]) rfl (by kernel_rfl) rfl fun g1 => ?_
  refine wl_callw rfl cb97 rfl rfl (fun wx hm => (first_any [hiresE hs, whenE (!(keyB veh)) 5, momentE mo] _ _ _ wx (hm.blkI 0 rfl) (by simp))) ?_
  refine wl_ov (ov_assign rfl) rfl ?_
  refine wl_nil ?_
  refine nx_then ?_
  refine gw_seq ?_
  refine gw_region ?_
  refine wl_ov (ov_move rfl) rfl ?_
  refine wl_ov (ov_neq rfl rfl) rfl ?_
  refine wl_nil ?_
  refine nx_then ?_
  refine gw_cond rfl (fun hh => ?_) (fun hh => ?_)
  · have hE : ¬ (firstE [hiresE hs, whenE (!(keyB veh)) 5, momentE mo] = 0) := by simpa using hh
    clear hh
    refine gw_seq ?_
    refine gw_region ?_
    refine wl_ov (ov_move rfl) rfl ?_
    refine wl_ov (ov_assign rfl) rfl ?_
    refine wl_ov (ov_assign rfl) rfl ?_
    refine wl_ov (ov_assign rfl) rfl ?_
    refine wl_nil ?_
    refine nx_then ?_
    refine gw_ret ?_
    refine nx_then_ret ?_
    refine nx_ret3 rfl rfl rfl rfl fun wx hm => ?_
    exact ⟨by rw [if_neg (show ¬ withE hs veh mo = 0 from hE)]; rfl, hm.g⟩
  · have hE : firstE [hiresE hs, whenE (!(keyB veh)) 5, momentE mo] = 0 := by simpa using hh
    clear hh
    refine gw_skip ?_
    refine nx_then ?_
    refine gw_seq ?_
    refine gw_seq ?_
    refine gw_region ?_
    have hz := firstE_all hE
    have hhr := hiresE_ok (hz (hiresE hs) (by simp))
    obtain ⟨WV, hWV⟩ : ∃ W, W = withV veh mo hs := ⟨_, rfl⟩
    refine wl_ov (ov_move rfl) rfl ?_
    refine wl_ov (ov_len es84 rfl) rfl ?_
    refine wl_ov (ov_move rfl) rfl ?_
    refine wl_nil ?_
    refine nx_then ?_
    refine gw_block ?_
    refine gw_loop (γ := Nat) (fun (k : Nat) => k ≤ n ∧ WV = withV veh mo (hs.drop k)) (fun (k : Nat) => [(1, .string veh), (2, .int .i64 mo), (28, .slice A n c), (29, .int .i64 ((n : Nat) : Int)), (30, .int .i64 ((k : Nat) : Int))]) (fun (k : Nat) => fun _ => True) (fun (k : Nat) => [(g1, 29, [.int .i64 (hiresE hs), .int .i64 (whenE (!(keyB veh)) 5), .int .i64 (momentE mo)])]) (fun (k : Nat) => []) (fun (k : Nat) => [SlOld hsEnc 5 95 w.heap.size none A n hs, LegsOld w.heap.size none hs]) (fun (k : Nat) => n - k) 0 ⟨Nat.zero_le _, hWV⟩ ⟨rfl, rfl, rfl, rfl, rfl, trivial⟩ (fun _ hm => hm.pick [0] [] [0, 1] rfl rfl) ?_
    intro k hinv
    replace hinv : k ≤ n ∧ WV = withV veh mo (hs.drop k) := hinv
    refine gw_seq ?_
    refine gw_region ?_
    refine wl_ov (ov_lss rfl rfl) rfl ?_
    refine wl_nil ?_
    refine nx_then ?_
    refine gw_seq ?_
    refine gw_cond rfl (fun hh => ?_) (fun hh => ?_)
    · have hk : ((k : Nat) : Int) < ((n : Nat) : Int) := by simpa using hh
      clear hh
      refine gw_skip ?_
      refine nx_then ?_
      refine gw_seq ?_
      refine gw_block ?_
      refine gw_seq ?_
      refine gw_region ?_
      obtain ⟨b, off, hA, _, _⟩ := hl.get (by omega)
      subst hA
      obtain ⟨x, hx⟩ : ∃ x, hs[k]? = some x := ⟨_, List.getElem?_eq_getElem (by omega)⟩
      obtain ⟨key, driver, fr, to_, Ah, nh, ch, lh⟩ := x
      have hat := withV_at (v := veh) (mo := mo) hx
      obtain ⟨hho, hhn⟩ := hok _ (List.mem_of_getElem? hx)
      have hho : HrOk key driver lh := hho
      have hhn : nh ≤ 1000 := hhn
      have hlt := last_times (hhr.2 _ (List.mem_of_getElem? hx))
      have hlt : ∀ g ∈ lh, (0 ≤ lastA g ∧ lastA g ≤ 5761439) ∧ lastA g < lastB g ∧ lastB g ≤ 5761440 := hlt
      have hout := hinv
      refine wl_also (Y := SlOld lgEnc 9 100 w.heap.size none Ah nh lh) (SlOld.lasts) (fun wx hm => (hm.fact 1 rfl) _ (List.mem_of_getElem? hx)) ?_
      refine wl_look (R := lh.length = nh) (fun wx hm => ((hm.fact 0 rfl)).1.len) ?_
      intro hlh
      refine wl_ov (ov_index (j := k) es84 rfl rfl (by omega)) rfl ?_
      refine wl_ov (ov_elem (vs := [.string key, .string driver, .int .i64 fr, .int .i64 to_, .slice Ah nh ch]) rz95 rfl (fun _ hm => (hm.fact 1 rfl).1) hx rfl rfl) rfl ?_
      refine wl_alloc zc95 rfl fun g2 => ?_
      refine wl_stores (cs' := [.string key, .string driver, .int .i64 fr, .int .i64 to_, .slice Ah nh ch]) 0 rz95 rfl rfl rfl rfl rfl rfl rfl rfl ?_
      refine wl_nil ?_
      refine nx_then ?_
      refine gw_seq ?_
      refine gw_region ?_
      refine wl_ov (ov_field fo95_3 rfl rfl) rfl ?_
      refine wl_ov (ov_load sc93 rfl (fun _ hm => hm.blkI 0 rfl) rfl) rfl ?_
      refine wl_ov (ov_len es93 rfl) rfl ?_
      refine wl_ov (ov_move rfl) rfl ?_
      refine wl_nil ?_
      refine nx_then ?_
      refine gw_block ?_
      refine gw_loop (γ := Nat) (fun (j : Nat) => j ≤ nh ∧ lh.any (legAt veh mo) = (lh.drop j).any (legAt veh mo)) (fun (j : Nat) => [(1, .string veh), (2, .int .i64 mo), (11, .pointer (some ⟨g2, 0, none⟩)), (28, .slice (some ⟨b, off, none⟩) n c), (29, .int .i64 ((n : Nat) : Int)), (30, .int .i64 ((k : Nat) : Int)), (35, .slice Ah nh ch), (36, .int .i64 ((nh : Nat) : Int)), (37, .int .i64 ((j : Nat) : Int))]) (fun (j : Nat) => fun _ => True) (fun (j : Nat) => [(g2, 95, [.string key, .string driver, .int .i64 fr, .int .i64 to_, .slice Ah nh ch]), (g1, 29, [.int .i64 (hiresE hs), .int .i64 (whenE (!(keyB veh)) 5), .int .i64 (momentE mo)])]) (fun (j : Nat) => []) (fun (j : Nat) => [SlOld lgEnc 9 100 w.heap.size none Ah nh lh, SlOld hsEnc 5 95 w.heap.size none (some ⟨b, off, none⟩) n hs, LegsOld w.heap.size none hs]) (fun (j : Nat) => nh - j) 0 ⟨Nat.zero_le _, rfl⟩ ⟨rfl, rfl, rfl, rfl, rfl, rfl, rfl, rfl, rfl, trivial⟩ (fun _ hm => hm.pick [0, 1] [] [0, 1, 2] rfl rfl) ?_
      intro j hinv
      replace hinv : j ≤ nh ∧ lh.any (legAt veh mo) = (lh.drop j).any (legAt veh mo) := hinv
      refine gw_seq ?_
      refine gw_region ?_
      have hin := hinv
      refine wl_ov (ov_lss rfl rfl) rfl ?_
      refine wl_nil ?_
      refine nx_then ?_
      refine gw_seq ?_
      refine gw_cond rfl (fun hh => ?_) (fun hh => ?_)
      · have hj : ((j : Nat) : Int) < ((nh : Nat) : Int) := by simpa using hh
        clear hh
        refine gw_skip ?_
        refine nx_then ?_
        refine gw_seq ?_
        refine gw_block ?_
        refine gw_seq ?_
        refine gw_region ?_
        refine wl_look (R := ∃ b off, Ah = some ⟨b, off, none⟩) (fun wx hm => by obtain ⟨b, off, h, _, _⟩ := SlT.get ((hm.fact 0 rfl)).1 (by omega : 0 < nh); exact ⟨b, off, h⟩) ?_
        rintro ⟨b2, o2, rfl⟩
        obtain ⟨y, hy⟩ : ∃ x, lh[j]? = some x := ⟨_, List.getElem?_eq_getElem (by omega)⟩
        obtain ⟨gv, ⟨oa, os, om, of⟩, ⟨ia, is_, im, if_⟩⟩ := y
        have han := any_at (p := legAt veh mo) hy
        have hlg := hlt _ (List.mem_of_getElem? hy)
        refine wl_ov (ov_index (j := j) es93 rfl rfl (by omega)) rfl ?_
        refine wl_ov (ov_elem (vs := [.string gv, .int .i64 oa, .string os, .int .i64 om, .int .i64 of, .int .i64 ia, .string is_, .int .i64 im, .int .i64 if_]) rz100 rfl (fun _ hm => (hm.fact 0 rfl).1) hy rfl rfl) rfl ?_
        refine wl_alloc zc100 rfl fun g3 => ?_
        refine wl_stores (cs' := [.string gv, .int .i64 oa, .string os, .int .i64 om, .int .i64 of, .int .i64 ia, .string is_, .int .i64 im, .int .i64 if_]) 0 rz100 rfl rfl rfl rfl rfl rfl rfl rfl ?_
        refine wl_nil ?_
        refine nx_then ?_
        refine gw_seq ?_
        refine gw_region ?_
        refine wl_ov (ov_loads rz100 rfl (fun _ hm => hm.blkI 0 rfl) rfl rfl) rfl ?_
        refine wl_callv rfl cb126 rfl rfl (fun wx hm => (lasts_any gv oa os om of ia is_ im if_ wx)) ?_
        obtain ⟨P, hP⟩ : ∃ P, P = legAt veh mo ⟨gv, ⟨oa, os, om, of⟩, ⟨ia, is_, im, if_⟩⟩ := ⟨_, rfl⟩
        rw [← hP] at han
        refine wl_alloc zc56 rfl fun g4 => ?_
        refine wl_stores (cs' := [.int .i64 (lastA ⟨gv, ⟨oa, os, om, of⟩, ⟨ia, is_, im, if_⟩⟩), .int .i64 (lastB ⟨gv, ⟨oa, os, om, of⟩, ⟨ia, is_, im, if_⟩⟩)]) 0 rz56 rfl rfl rfl rfl rfl rfl rfl rfl ?_
        refine wl_nil ?_
        refine nx_then ?_
        refine gw_seq ?_
        refine gw_region ?_
        refine wl_ov (ov_field fo100_0 rfl rfl) rfl ?_
        refine wl_ov (ov_load sc9 rfl (fun _ hm => hm.blkI 1 rfl) rfl) rfl ?_
        refine wl_ov (ov_move rfl) rfl ?_
        refine wl_ov (ov_seql rfl rfl) rfl ?_
        refine wl_ov (ov_move rfl) rfl ?_
        rcases Bool.eq_false_or_eq_true (gv.toList == veh.toList) with h1 | h1
        · refine wl_set 47 rfl (congrArg Value.bool h1) ?_
          refine wl_guard_on rfl rfl rfl ?_
          refine wl_ov (ov_field fo56_0 rfl rfl) rfl ?_
          refine wl_guard_on rfl rfl rfl ?_
          refine wl_ov (ov_load sc3 rfl (fun _ hm => hm.blkI 0 rfl) rfl) rfl ?_
          refine wl_guard_on rfl rfl rfl ?_
          refine wl_ov (ov_move rfl) rfl ?_
          refine wl_guard_on rfl rfl rfl ?_
          refine wl_ov (ov_leq rfl rfl) rfl ?_
          refine wl_ov (ov_pick_t rfl rfl) rfl ?_
          refine wl_ov (ov_move rfl) rfl ?_
          rcases Bool.eq_false_or_eq_true (decide (lastA ⟨gv, ⟨oa, os, om, of⟩, ⟨ia, is_, im, if_⟩⟩ ≤ mo)) with h2 | h2
          · refine wl_set 53 rfl (congrArg Value.bool h2) ?_
            refine wl_guard_on rfl rfl rfl ?_
            refine wl_ov (ov_move rfl) rfl ?_
            refine wl_guard_on rfl rfl rfl ?_
            refine wl_ov (ov_field fo56_1 rfl rfl) rfl ?_
            refine wl_guard_on rfl rfl rfl ?_
            refine wl_ov (ov_load sc3 rfl (fun _ hm => hm.blkI 0 rfl) rfl) rfl ?_
            refine wl_guard_on rfl rfl rfl ?_
            refine wl_ov (ov_lss rfl rfl) rfl ?_
            refine wl_ov (ov_pick_t rfl rfl) rfl ?_
            refine wl_nil ?_
            refine nx_then ?_
            refine gw_cond rfl (fun hh => ?_) (fun hh => ?_)
            · have h3 : mo < lastB ⟨gv, ⟨oa, os, om, of⟩, ⟨ia, is_, im, if_⟩⟩ := by simpa using hh
              clear hh
              refine gw_seq ?_
              refine gw_region ?_
              refine wl_ov (ov_field fo95_0 rfl rfl) rfl ?_
              refine wl_ov (ov_load sc9 rfl (fun _ hm => hm.blkI 2 rfl) rfl) rfl ?_
              refine wl_ov (ov_assign rfl) rfl ?_
              refine wl_ov (ov_assign rfl) rfl ?_
              refine wl_ov (ov_assign rfl) rfl ?_
              refine wl_nil ?_
              refine nx_then ?_
              refine gw_ret ?_
              refine nx_blk_ret ?_
              refine nx_then_ret ?_
              refine nx_then_ret ?_
              refine nx_blk_ret ?_
              refine nx_blk_ret ?_
              refine nx_then_ret ?_
              refine nx_then_ret ?_
              refine nx_blk_ret ?_
              refine nx_then_ret ?_
              have hPt : P = true := by rw [hP]; unfold legAt; simp only [h1, h2]; simpa using h3
              have hW : WV = (key, true) := by rw [hout.2, hat, if_pos (show lh.any (legAt veh mo) = true by rw [hin.2, han, hPt]; rfl)]
              refine nx_ret3 rfl rfl rfl rfl fun wx hm => ?_
              exact ⟨by rw [if_pos (show withE hs veh mo = 0 from hE), ← hWV, hW]; rw [show withE hs veh mo = 0 from hE], hm.g⟩
            · have h3 : ¬ (mo < lastB ⟨gv, ⟨oa, os, om, of⟩, ⟨ia, is_, im, if_⟩⟩) := by simpa using hh
              clear hh
              refine gw_skip ?_
              refine nx_blk_nrm ?_
              refine nx_then ?_
              refine gw_region ?_
              refine wl_ov (ov_add rfl rfl (by omega) (by omega)) rfl ?_
              refine wl_ov (ov_move rfl) rfl ?_
              refine wl_nil ?_
              have hPf : P = false := by rw [hP]; unfold legAt; simp only [h1, h2]; simpa using h3
              exact nx_round (j + 1) ⟨by omega, by rw [hin.2, han, hPf]; rfl⟩ (by omega) ⟨rfl, rfl, rfl, rfl, rfl, rfl, rfl, rfl, (some_int (by omega)), trivial⟩ (fun _ hm => hm.pick [2, 3] [] [0, 1, 2] rfl rfl)
          · refine wl_set 53 rfl (congrArg Value.bool h2) ?_
            refine wl_guard_off rfl rfl rfl (by decide) rfl ?_
            refine wl_guard_off rfl rfl rfl (by decide) rfl ?_
            refine wl_guard_off rfl rfl rfl (by decide) rfl ?_
            refine wl_guard_off rfl rfl rfl (by decide) rfl ?_
            refine wl_ov (ov_pick_f rfl rfl) rfl ?_
            refine wl_nil ?_
            refine nx_then ?_
            refine gw_cond rfl (fun hh => by cases hh) (fun _ => ?_)
            refine gw_skip ?_
            refine nx_blk_nrm ?_
            refine nx_then ?_
            refine gw_region ?_
            refine wl_ov (ov_add rfl rfl (by omega) (by omega)) rfl ?_
            refine wl_ov (ov_move rfl) rfl ?_
            refine wl_nil ?_
            have hPf : P = false := by rw [hP]; unfold legAt; simp only [h1, h2]; rfl
            exact nx_round (j + 1) ⟨by omega, by rw [hin.2, han, hPf]; rfl⟩ (by omega) ⟨rfl, rfl, rfl, rfl, rfl, rfl, rfl, rfl, (some_int (by omega)), trivial⟩ (fun _ hm => hm.pick [2, 3] [] [0, 1, 2] rfl rfl)
        · refine wl_set 47 rfl (congrArg Value.bool h1) ?_
          refine wl_guard_off rfl rfl rfl (by decide) rfl ?_
          refine wl_guard_off rfl rfl rfl (by decide) rfl ?_
          refine wl_guard_off rfl rfl rfl (by decide) rfl ?_
          refine wl_guard_off rfl rfl rfl (by decide) rfl ?_
          refine wl_ov (ov_pick_f rfl rfl) rfl ?_
          refine wl_ov (ov_move rfl) rfl ?_
          refine wl_guard_off rfl rfl rfl (by decide) rfl ?_
          refine wl_guard_off rfl rfl rfl (by decide) rfl ?_
          refine wl_guard_off rfl rfl rfl (by decide) rfl ?_
          refine wl_guard_off rfl rfl rfl (by decide) rfl ?_
          refine wl_ov (ov_pick_f rfl rfl) rfl ?_
          refine wl_nil ?_
          refine nx_then ?_
          refine gw_cond rfl (fun hh => by cases hh) (fun _ => ?_)
          refine gw_skip ?_
          refine nx_blk_nrm ?_
          refine nx_then ?_
          refine gw_region ?_
          refine wl_ov (ov_add rfl rfl (by omega) (by omega)) rfl ?_
          refine wl_ov (ov_move rfl) rfl ?_
          refine wl_nil ?_
          have hPf : P = false := by rw [hP]; unfold legAt; simp only [h1]; rfl
          exact nx_round (j + 1) ⟨by omega, by rw [hin.2, han, hPf]; rfl⟩ (by omega) ⟨rfl, rfl, rfl, rfl, rfl, rfl, rfl, rfl, (some_int (by omega)), trivial⟩ (fun _ hm => hm.pick [2, 3] [] [0, 1, 2] rfl rfl)
      · have hj : ¬ (((j : Nat) : Int) < ((nh : Nat) : Int)) := by simpa using hh
        clear hh
        refine gw_exit ?_
        refine nx_then_exit ?_
        refine nx_then_exit ?_
        refine nx_blk_here ?_
        refine nx_blk_nrm ?_
        refine nx_then ?_
        refine gw_region ?_
        have hNo : lh.any (legAt veh mo) = false := by rw [hin.2, List.drop_eq_nil_of_le (by omega)]; rfl
        refine wl_ov (ov_add rfl rfl (by omega) (by omega)) rfl ?_
        refine wl_ov (ov_move rfl) rfl ?_
        refine wl_nil ?_
        exact nx_round (k + 1) ⟨by omega, by rw [hout.2, hat, if_neg (show ¬ lh.any (legAt veh mo) = true by rw [hNo]; decide)]⟩ (by omega) ⟨rfl, rfl, rfl, rfl, (some_int (by omega)), trivial⟩ (fun _ hm => hm.pick [1] [] [1, 2] rfl rfl)
    · have hk : ¬ (((k : Nat) : Int) < ((n : Nat) : Int)) := by simpa using hh
      clear hh
      refine gw_exit ?_
      refine nx_then_exit ?_
      refine nx_then_exit ?_
      refine nx_blk_here ?_
      refine nx_then ?_
      refine gw_seq ?_
      refine gw_region ?_
      refine wl_ov (ov_assign rfl) rfl ?_
      refine wl_ov (ov_assign rfl) rfl ?_
      refine wl_ov (ov_assign rfl) rfl ?_
      refine wl_nil ?_
      refine nx_then ?_
      refine gw_ret ?_
      have hW : WV = (⟨#[]⟩, false) := by rw [hinv.2, List.drop_eq_nil_of_le (by omega)]; rfl
      refine nx_ret3 rfl rfl rfl rfl fun wx hm => ?_
      exact ⟨by rw [if_pos (show withE hs veh mo = 0 from hE), ← hWV, hW]; rw [show withE hs veh mo = 0 from hE], hm.g⟩

end Go.Proofs.YtmpomocahgcebaaDoor
/- When two hires are under way at once: together, meet. -/
namespace Go.Proofs.YtmpomocahgcebaaDoor
open Go.RowKit

theorem SlOld.dropS {α : Type} {enc : α → List Value} {k : Nat} {T : TypeId} {N : Nat} {row : Option Nat} {A : Option Addr} {n c : Nat} {l : List α} {w : World} (h : SlOld enc k T N row A n l w) (lo : Nat) (hlo : lo ≤ n) (hc : n ≤ c) : SlOld enc k T N row (if c = lo then A else A.map (·.add (lo * k))) (n - lo) (l.drop lo) w :=
  ⟨h.1.dropS lo hlo hc, fun b off e hn => by
    rw [if_neg (show ¬ c = lo by omega)] at e
    obtain ⟨b', off', eA, _, _⟩ := h.1.get (by omega)
    have h2 := h.2 b' off' eA (by omega)
    rw [eA] at e
    simp only [Option.map_some, Option.some.injEq] at e
    have hb : b' = b := by
      have h3 := congrArg Addr.block e
      have h4 : ((⟨b', off', none⟩ : Addr).add (lo * k)).block = b' := by unfold Addr.add; split <;> rfl
      rw [h4] at h3; exact h3
    subst hb; exact h2⟩
def startP (g h : Lg) : Int := max (lastA g) (lastA h)
def okP (fl : Bool) (g h : Lg) : Bool := (!fl || (g.veh.toList == h.veh.toList)) && decide (startP g h < min (lastB g) (lastB h))
def stp (fl : Bool) (g h : Lg) (a : Int) : Int := if okP fl g h then min a (startP g h) else a
def inF (fl : Bool) (g : Lg) (l : List Lg) (a : Int) : Int := l.foldl (fun a h => stp fl g h a) a
def outF (fl : Bool) (la lb : List Lg) : Int := la.foldl (fun a g => inF fl g lb a) 5761440
/-- The first moment at which both have a car, or -1. -/
def repr (a : Int) : Int := if a < 5761440 then a else -1
theorem foldl_take {α β : Type} {f : β → α → β} {a : β} {l : List α} {k : Nat} {x : α} (h : l[k]? = some x) : (l.take (k + 1)).foldl f a = f ((l.take k).foldl f a) x := by
  obtain ⟨hk, rfl⟩ := List.getElem?_eq_some_iff.1 h
  rw [List.take_add_one, List.getElem?_eq_getElem hk, List.foldl_append]; rfl
def Tm (l : List Lg) : Prop := ∀ g ∈ l, (0 ≤ lastA g ∧ lastA g ≤ 5761439) ∧ lastA g < lastB g ∧ lastB g ≤ 5761440
theorem stp_bound {fl : Bool} {g h : Lg} {a : Int} (hg : 0 ≤ lastA g ∧ lastA g ≤ 5761439) (hh : 0 ≤ lastA h ∧ lastA h ≤ 5761439) (ha : 0 ≤ a ∧ a ≤ 5761440) : 0 ≤ stp fl g h a ∧ stp fl g h a ≤ 5761440 := by
  unfold stp startP; split <;> omega
theorem inF_bound {fl : Bool} {g : Lg} (hg : 0 ≤ lastA g ∧ lastA g ≤ 5761439) : ∀ {l : List Lg} {a : Int}, Tm l → (0 ≤ a ∧ a ≤ 5761440) → 0 ≤ inF fl g l a ∧ inF fl g l a ≤ 5761440
  | [], _, _, ha => ha
  | h :: t, a, hl, ha => by
    have h1 := stp_bound (fl := fl) (g := g) (h := h) hg (hl h (List.mem_cons_self ..)).1 ha
    exact inF_bound hg (l := t) (a := stp fl g h a) (fun x hx => hl x (List.mem_cons_of_mem _ hx)) h1
theorem outF_bound {fl : Bool} {lb : List Lg} (hb : Tm lb) {la : List Lg} (hl : Tm la) : 0 ≤ outF fl la lb ∧ outF fl la lb ≤ 5761440 := by
  have key : ∀ (la : List Lg) (a : Int), Tm la → (0 ≤ a ∧ a ≤ 5761440) → 0 ≤ la.foldl (fun a g => inF fl g lb a) a ∧ la.foldl (fun a g => inF fl g lb a) a ≤ 5761440 := by
    intro la
    induction la with
    | nil => exact fun a _ h => h
    | cons y t ih =>
      intro a h ha
      rw [List.foldl_cons]
      exact ih _ (fun x hx => h x (List.mem_cons_of_mem _ hx)) (inF_bound (h y (List.mem_cons_self ..)).1 hb ha)
  exact key la 5761440 hl (by omega)
theorem tm_take {l : List Lg} {k : Nat} (h : Tm l) : Tm (l.take k) := fun g hg => h g (List.mem_of_mem_take hg)
/-- A step of together. -/
theorem repr_stp {fl : Bool} {g h : Lg} {a : Int} (hg : 0 ≤ lastA g ∧ lastA g ≤ 5761439) (hh : 0 ≤ lastA h ∧ lastA h ≤ 5761439) (ha : 0 ≤ a ∧ a ≤ 5761440) :
    repr (stp fl g h a) = if okP fl g h = true ∧ (repr a < 0 ∨ startP g h < repr a) then startP g h else repr a := by
  unfold repr stp
  have hs : 0 ≤ startP g h ∧ startP g h ≤ 5761439 := by unfold startP; omega
  by_cases ho : okP fl g h = true
  · simp only [ho, if_true, true_and]
    by_cases h1 : a < 5761440
    · rw [if_pos h1]; split <;> split <;> omega
    · rw [if_neg h1]; split <;> split <;> omega
  · simp only [ho, if_false, false_and, Bool.false_eq_true]

set_option maxRecDepth 100000 in
set_option maxHeartbeats 2000000 in
theorem together_true (k1 d1 : ByteArray) (f1 t1 : Int) (l1 : List Lg) (A1 : Option Addr) (n1 c1 : Nat) (k2 d2 : ByteArray) (f2 t2 : Int) (l2 : List Lg) (A2 : Option Addr) (n2 c2 : Nat) (w : World) (h1 : SlT lgEnc 9 100 w A1 n1 l1) (h2 : SlT lgEnc 9 100 w A2 n2 l2) (hn1 : n1 ≤ 1000000) (hn2 : n2 ≤ 1000000) (ht1 : Tm l1) (ht2 : Tm l2) :
    Calls Tryd.prog 124 #[.agg #[.string k1, .string d1, .int .i64 f1, .int .i64 t1, .slice A1 n1 c1], .agg #[.string k2, .string d2, .int .i64 f2, .int .i64 t2, .slice A2 n2 c2], .bool true] w (GotE w (repr (outF true l1 l2))) := by
  refine gw_enter ⟨69, w, none, []⟩ Tryd.func124 rfl Tryd.ntmps124 rfl (mem0 (X := [SlOld lgEnc 9 100 w.heap.size none A1 n1 l1, SlOld lgEnc 9 100 w.heap.size none A2 n2 l2]) (allF_cons h1.old (allF_cons h2.old allF_nil)) (allL_cons SlOld.lasts (allL_cons SlOld.lasts allL_nil))) ?_
  refine gw_seq ?_
  refine gw_region ?_
  have hlen1 := h1.len
  have hlen2 := h2.len
  refine wl_box rfl rfl rfl fun g1 => ?_
  refine wl_box rfl rfl rfl fun g2 => ?_
  refine wl_ov (ov_assign rfl) rfl ?_
  refine wl_nil ?_
  refine nx_then ?_
  refine gw_seq ?_
  refine gw_region ?_
  refine wl_ov (ov_assign rfl) rfl ?_
  refine wl_set 7 (v' := .int .i64 (-1)) rfl rfl ?_
  refine wl_nil ?_
  refine nx_then ?_
  refine gw_seq ?_
  refine gw_seq ?_
  refine gw_region ?_
  refine wl_ov (ov_field fo95_3 rfl rfl) rfl ?_
  refine wl_ov (ov_load sc93 rfl (fun _ hm => hm.blkI 1 rfl) rfl) rfl ?_
  refine wl_ov (ov_len es93 rfl) rfl ?_
  refine wl_ov (ov_move rfl) rfl ?_
  refine wl_nil ?_
  refine nx_then ?_
  refine gw_block ?_
  refine gw_loop (γ := Nat) (fun (k : Nat) => k ≤ n1) (fun (k : Nat) => [(2, .bool true), (4, .pointer (some ⟨g2, 0, none⟩)), (6, .int .i64 0), (7, .int .i64 (repr (outF true (l1.take k) l2))), (16, .slice A1 n1 c1), (17, .int .i64 ((n1 : Nat) : Int)), (18, .int .i64 ((k : Nat) : Int))]) (fun (k : Nat) => fun _ => True) (fun (k : Nat) => [(g2, 95, [.string k2, .string d2, .int .i64 f2, .int .i64 t2, .slice A2 n2 c2]), (g1, 95, [.string k1, .string d1, .int .i64 f1, .int .i64 t1, .slice A1 n1 c1])]) (fun (k : Nat) => []) (fun (k : Nat) => [SlOld lgEnc 9 100 w.heap.size none A1 n1 l1, SlOld lgEnc 9 100 w.heap.size none A2 n2 l2]) (fun (k : Nat) => n1 - k) 0 (Nat.zero_le _) ⟨rfl, rfl, rfl, rfl, rfl, rfl, rfl, trivial⟩ (fun _ hm => hm.pick [0, 1] [] [0, 1] rfl rfl) ?_
  intro k hinv
  replace hinv : k ≤ n1 := hinv
  refine gw_seq ?_
  refine gw_region ?_
  refine wl_ov (ov_lss rfl rfl) rfl ?_
  refine wl_nil ?_
  refine nx_then ?_
  refine gw_seq ?_
  refine gw_cond rfl (fun hh => ?_) (fun hh => ?_)
  · have hk : ((k : Nat) : Int) < ((n1 : Nat) : Int) := by simpa using hh
    clear hh
    refine gw_skip ?_
    refine nx_then ?_
    refine gw_seq ?_
    refine gw_block ?_
    refine gw_seq ?_
    refine gw_region ?_
    obtain ⟨b1, o1, hA, _, _⟩ := h1.get (by omega)
    subst hA
    obtain ⟨x, hx⟩ : ∃ x, l1[k]? = some x := ⟨_, List.getElem?_eq_getElem (by omega)⟩
    obtain ⟨gv, ⟨oa, os, om, of⟩, ⟨ia, is_, im, if_⟩⟩ := x
    have hga := ht1 _ (List.mem_of_getElem? hx)
    obtain ⟨Y, hY⟩ : ∃ Y, Y = outF true (l1.take k) l2 := ⟨_, rfl⟩
    have hYb : 0 ≤ Y ∧ Y ≤ 5761440 := by rw [hY]; exact outF_bound ht2 (tm_take ht1)
    have hYn : outF true (l1.take (k + 1)) l2 = inF true ⟨gv, ⟨oa, os, om, of⟩, ⟨ia, is_, im, if_⟩⟩ l2 Y := by rw [hY]; exact foldl_take hx
    refine wl_set 7 (v' := .int .i64 (repr Y)) rfl (congrArg (fun z => Value.int .i64 (repr z)) hY.symm) ?_
    refine wl_ov (ov_index (j := k) es93 rfl rfl (by omega)) rfl ?_
    refine wl_ov (ov_elem (vs := [.string gv, .int .i64 oa, .string os, .int .i64 om, .int .i64 of, .int .i64 ia, .string is_, .int .i64 im, .int .i64 if_]) rz100 rfl (fun _ hm => (hm.fact 0 rfl).1) hx rfl rfl) rfl ?_
    refine wl_alloc zc100 rfl fun g3 => ?_
    refine wl_stores (cs' := [.string gv, .int .i64 oa, .string os, .int .i64 om, .int .i64 of, .int .i64 ia, .string is_, .int .i64 im, .int .i64 if_]) 0 rz100 rfl rfl rfl rfl rfl rfl rfl rfl ?_
    refine wl_nil ?_
    refine nx_then ?_
    refine gw_seq ?_
    refine gw_region ?_
    refine wl_ov (ov_field fo95_3 rfl rfl) rfl ?_
    refine wl_ov (ov_load sc93 rfl (fun _ hm => hm.blkI 1 rfl) rfl) rfl ?_
    refine wl_ov (ov_len es93 rfl) rfl ?_
    refine wl_ov (ov_move rfl) rfl ?_
    refine wl_nil ?_
    refine nx_then ?_
    refine gw_block ?_
    refine gw_loop (γ := Nat) (fun (j : Nat) => j ≤ n2) (fun (j : Nat) => [(2, .bool true), (4, .pointer (some ⟨g2, 0, none⟩)), (6, .int .i64 0), (7, .int .i64 (repr (inF true ⟨gv, ⟨oa, os, om, of⟩, ⟨ia, is_, im, if_⟩⟩ (l2.take j) Y))), (9, .pointer (some ⟨g3, 0, none⟩)), (16, .slice (some ⟨b1, o1, none⟩) n1 c1), (17, .int .i64 ((n1 : Nat) : Int)), (18, .int .i64 ((k : Nat) : Int)), (23, .slice A2 n2 c2), (24, .int .i64 ((n2 : Nat) : Int)), (25, .int .i64 ((j : Nat) : Int))]) (fun (j : Nat) => fun _ => True) (fun (j : Nat) => [(g3, 100, [.string gv, .int .i64 oa, .string os, .int .i64 om, .int .i64 of, .int .i64 ia, .string is_, .int .i64 im, .int .i64 if_]), (g2, 95, [.string k2, .string d2, .int .i64 f2, .int .i64 t2, .slice A2 n2 c2]), (g1, 95, [.string k1, .string d1, .int .i64 f1, .int .i64 t1, .slice (some ⟨b1, o1, none⟩) n1 c1])]) (fun (j : Nat) => []) (fun (j : Nat) => [SlOld lgEnc 9 100 w.heap.size none (some ⟨b1, o1, none⟩) n1 l1, SlOld lgEnc 9 100 w.heap.size none A2 n2 l2]) (fun (j : Nat) => n2 - j) 0 (Nat.zero_le _) ⟨rfl, rfl, rfl, rfl, rfl, rfl, rfl, rfl, rfl, rfl, rfl, trivial⟩ (fun _ hm => hm.pick [0, 1, 2] [] [0, 1] rfl rfl) ?_
    intro j hinv
    replace hinv : j ≤ n2 := hinv
    refine gw_seq ?_
    refine gw_region ?_
    refine wl_ov (ov_lss rfl rfl) rfl ?_
    refine wl_nil ?_
    refine nx_then ?_
    refine gw_seq ?_
    refine gw_cond rfl (fun hh => ?_) (fun hh => ?_)
    · have hj : ((j : Nat) : Int) < ((n2 : Nat) : Int) := by simpa using hh
      clear hh
      refine gw_skip ?_
      refine nx_then ?_
      refine gw_seq ?_
      refine gw_block ?_
      refine gw_seq ?_
      refine gw_region ?_
      refine wl_look (R := ∃ b off, A2 = some ⟨b, off, none⟩) (fun wx hm => by obtain ⟨b, off, h, _, _⟩ := SlT.get ((hm.fact 1 rfl)).1 (by omega : 0 < n2); exact ⟨b, off, h⟩) ?_
      rintro ⟨b2, o2, rfl⟩
      obtain ⟨y, hy⟩ : ∃ x, l2[j]? = some x := ⟨_, List.getElem?_eq_getElem (by omega)⟩
      obtain ⟨hv, ⟨pa, ps, pm, pf⟩, ⟨ja, js, jm, jf⟩⟩ := y
      have hgb := ht2 _ (List.mem_of_getElem? hy)
      obtain ⟨Q, hQ⟩ : ∃ Q, Q = inF true ⟨gv, ⟨oa, os, om, of⟩, ⟨ia, is_, im, if_⟩⟩ (l2.take j) Y := ⟨_, rfl⟩
      have hQb : 0 ≤ Q ∧ Q ≤ 5761440 := by rw [hQ]; exact inF_bound hga.1 (tm_take ht2) hYb
      have hQn : inF true ⟨gv, ⟨oa, os, om, of⟩, ⟨ia, is_, im, if_⟩⟩ (l2.take (j + 1)) Y = stp true ⟨gv, ⟨oa, os, om, of⟩, ⟨ia, is_, im, if_⟩⟩ ⟨hv, ⟨pa, ps, pm, pf⟩, ⟨ja, js, jm, jf⟩⟩ Q := by rw [hQ]; exact foldl_take hy
      have hrs := repr_stp (fl := true) (g := ⟨gv, ⟨oa, os, om, of⟩, ⟨ia, is_, im, if_⟩⟩) (h := ⟨hv, ⟨pa, ps, pm, pf⟩, ⟨ja, js, jm, jf⟩⟩) hga.1 hgb.1 hQb
      obtain ⟨RQ, hRQ⟩ : ∃ R, R = repr Q := ⟨_, rfl⟩
      rw [← hRQ] at hrs
      refine wl_set 7 (v' := .int .i64 RQ) rfl (congrArg (Value.int .i64) (by rw [hRQ, hQ])) ?_
      refine wl_ov (ov_index (j := j) es93 rfl rfl (by omega)) rfl ?_
      refine wl_ov (ov_elem (vs := [.string hv, .int .i64 pa, .string ps, .int .i64 pm, .int .i64 pf, .int .i64 ja, .string js, .int .i64 jm, .int .i64 jf]) rz100 rfl (fun _ hm => (hm.fact 1 rfl).1) hy rfl rfl) rfl ?_
      refine wl_alloc zc100 rfl fun g4 => ?_
      refine wl_stores (cs' := [.string hv, .int .i64 pa, .string ps, .int .i64 pm, .int .i64 pf, .int .i64 ja, .string js, .int .i64 jm, .int .i64 jf]) 0 rz100 rfl rfl rfl rfl rfl rfl rfl rfl ?_
      refine wl_nil ?_
      refine nx_then ?_
      refine gw_cut (γ := Nat × Nat) (I := (fun (g : Nat × Nat) => True)) (S' := (fun (g : Nat × Nat) => [(2, .bool true), (4, .pointer (some ⟨g2, 0, none⟩)), (6, .int .i64 0), (7, .int .i64 RQ), (9, .pointer (some ⟨g3, 0, none⟩)), (11, .pointer (some ⟨g4, 0, none⟩)), (12, .pointer (some ⟨g.1, 0, none⟩)), (13, .pointer (some ⟨g.2, 0, none⟩)), (16, .slice (some ⟨b1, o1, none⟩) n1 c1), (17, .int .i64 ((n1 : Nat) : Int)), (18, .int .i64 ((k : Nat) : Int)), (23, .slice (some ⟨b2, o2, none⟩) n2 c2), (24, .int .i64 ((n2 : Nat) : Int)), (25, .int .i64 ((j : Nat) : Int))])) (K' := (fun (g : Nat × Nat) => fun _ => True)) (L' := (fun (g : Nat × Nat) => [(g4, 100, [.string hv, .int .i64 pa, .string ps, .int .i64 pm, .int .i64 pf, .int .i64 ja, .string js, .int .i64 jm, .int .i64 jf]), (g3, 100, [.string gv, .int .i64 oa, .string os, .int .i64 om, .int .i64 of, .int .i64 ia, .string is_, .int .i64 im, .int .i64 if_]), (g2, 95, [.string k2, .string d2, .int .i64 f2, .int .i64 t2, .slice (some ⟨b2, o2, none⟩) n2 c2]), (g1, 95, [.string k1, .string d1, .int .i64 f1, .int .i64 t1, .slice (some ⟨b1, o1, none⟩) n1 c1]), (g.1, 56, [.int .i64 (lastA ⟨gv, ⟨oa, os, om, of⟩, ⟨ia, is_, im, if_⟩⟩), .int .i64 (lastB ⟨gv, ⟨oa, os, om, of⟩, ⟨ia, is_, im, if_⟩⟩)]), (g.2, 56, [.int .i64 (lastA ⟨hv, ⟨pa, ps, pm, pf⟩, ⟨ja, js, jm, jf⟩⟩), .int .i64 (lastB ⟨hv, ⟨pa, ps, pm, pf⟩, ⟨ja, js, jm, jf⟩⟩)])])) (O' := (fun (g : Nat × Nat) => [])) (X' := (fun (g : Nat × Nat) => [SlOld lgEnc 9 100 w.heap.size none (some ⟨b1, o1, none⟩) n1 l1, SlOld lgEnc 9 100 w.heap.size none (some ⟨b2, o2, none⟩) n2 l2])) ?_ ?_
      · refine gw_draw (fun wz => Blk wz g4 100 [.string hv, .int .i64 pa, .string ps, .int .i64 pm, .int .i64 pf, .int .i64 ja, .string js, .int .i64 jm, .int .i64 jf] ∧ Blk wz g3 100 [.string gv, .int .i64 oa, .string os, .int .i64 om, .int .i64 of, .int .i64 ia, .string is_, .int .i64 im, .int .i64 if_] ∧ Blk wz g2 95 [.string k2, .string d2, .int .i64 f2, .int .i64 t2, .slice (some ⟨b2, o2, none⟩) n2 c2] ∧ Blk wz g1 95 [.string k1, .string d1, .int .i64 f1, .int .i64 t1, .slice (some ⟨b1, o1, none⟩) n1 c1] ∧ (SlOld lgEnc 9 100 w.heap.size none (some ⟨b1, o1, none⟩) n1 l1) wz ∧ (SlOld lgEnc 9 100 w.heap.size none (some ⟨b2, o2, none⟩) n2 l2) wz ∧ True) mixed ?_
        refine wa_take 0 rfl (by kernel_rfl) (by kernel_rfl) (by kernel_rfl) (listed' := #[true, false, false, false, false, false, false, false]) rfl (fun _ _ _ h => h) (fun _ hm => ⟨hm.blkI 0 rfl, hm.blkI 1 rfl, hm.blkI 2 rfl, hm.blkI 3 rfl, hm.fact 0 rfl, hm.fact 1 rfl, trivial⟩) (ov_loads rz100 rfl (fun _ hm => hm.2.1) rfl rfl) rfl ?_
        refine wa_take 2 rfl (by kernel_rfl) (by kernel_rfl) (by kernel_rfl) (listed' := #[true, false, true, false, false, false, false, false]) rfl (fun _ _ _ h => h) (fun _ hm => ⟨hm.blkI 0 rfl, hm.blkI 1 rfl, hm.blkI 2 rfl, hm.blkI 3 rfl, hm.fact 0 rfl, hm.fact 1 rfl, trivial⟩) (ov_loads rz100 rfl (fun _ hm => hm.1) rfl rfl) rfl ?_
        refine wa_all [1, 4, 5] (by kernel_rfl) rfl ⟨⟨_, rfl, ?_⟩, ⟨_, rfl, ?_⟩, ⟨_, rfl, ?_⟩, trivial⟩
        · refine wl_callv rfl cb126 rfl rfl (fun wx hm => (lasts_any gv oa os om of ia is_ im if_ wx)) ?_
          refine wl_nil ?_
          refine nx_wa0 (listed' := #[true, true, true, false, false, false, false, false]) rfl (fun _ hm => ⟨hm.blkI 0 rfl, hm.blkI 1 rfl, hm.blkI 2 rfl, hm.blkI 3 rfl, hm.fact 0 rfl, hm.fact 1 rfl, trivial⟩) ?_
          refine wa_all [3, 4, 5] (by kernel_rfl) rfl ⟨⟨_, rfl, ?_⟩, ⟨_, rfl, ?_⟩, ⟨_, rfl, ?_⟩, trivial⟩
          · refine wl_callv rfl cb126 rfl rfl (fun wx hm => (lasts_any hv pa ps pm pf ja js jm jf wx)) ?_
            refine wl_nil ?_
            refine nx_wa0 (listed' := #[true, true, true, true, false, false, false, false]) rfl (fun _ hm => ⟨hm.blkI 0 rfl, hm.blkI 1 rfl, hm.blkI 2 rfl, hm.blkI 3 rfl, hm.fact 0 rfl, hm.fact 1 rfl, trivial⟩) ?_
            refine wa_all [4, 5] (by kernel_rfl) rfl ⟨⟨_, rfl, ?_⟩, ⟨_, rfl, ?_⟩, trivial⟩
            · refine wl_alloc zc56 rfl fun g5 => ?_
              refine wl_nil ?_
              refine nx_wa0 (listed' := #[true, true, true, true, true, false, false, false]) rfl (fun _ hm => ⟨hm.blkI 1 rfl, hm.blkI 2 rfl, hm.blkI 3 rfl, hm.blkI 4 rfl, hm.fact 0 rfl, hm.fact 1 rfl, trivial⟩) ?_
              refine wa_all [5] (by kernel_rfl) rfl ⟨⟨_, rfl, ?_⟩, trivial⟩
              refine wl_alloc zc56 rfl fun g6 => ?_
              refine wl_nil ?_
              refine nx_wa0 (listed' := #[true, true, true, true, true, true, false, false]) rfl (fun _ hm => ⟨hm.blkI 2 rfl, hm.blkI 3 rfl, hm.blkI 4 rfl, hm.blkI 5 rfl, hm.fact 0 rfl, hm.fact 1 rfl, trivial⟩) ?_
              refine wa_all [6] (by kernel_rfl) rfl ⟨⟨_, rfl, ?_⟩, trivial⟩
              refine wl_stores (cs' := [.int .i64 (lastA ⟨gv, ⟨oa, os, om, of⟩, ⟨ia, is_, im, if_⟩⟩), .int .i64 (lastB ⟨gv, ⟨oa, os, om, of⟩, ⟨ia, is_, im, if_⟩⟩)]) 1 rz56 rfl rfl rfl rfl rfl rfl rfl rfl ?_
              refine wl_nil ?_
              refine nx_wa0 (listed' := #[true, true, true, true, true, true, true, false]) rfl (fun _ hm => ⟨hm.blkI 2 rfl, hm.blkI 3 rfl, hm.blkI 4 rfl, hm.blkI 5 rfl, hm.fact 0 rfl, hm.fact 1 rfl, trivial⟩) ?_
              refine wa_all [7] (by kernel_rfl) rfl ⟨⟨_, rfl, ?_⟩, trivial⟩
              refine wl_stores (cs' := [.int .i64 (lastA ⟨hv, ⟨pa, ps, pm, pf⟩, ⟨ja, js, jm, jf⟩⟩), .int .i64 (lastB ⟨hv, ⟨pa, ps, pm, pf⟩, ⟨ja, js, jm, jf⟩⟩)]) 0 rz56 rfl rfl rfl rfl rfl rfl rfl rfl ?_
              refine wl_nil ?_
              refine nx_wa0 (listed' := #[true, true, true, true, true, true, true, true]) rfl (fun _ hm => ⟨hm.blkI 2 rfl, hm.blkI 3 rfl, hm.blkI 4 rfl, hm.blkI 5 rfl, hm.fact 0 rfl, hm.fact 1 rfl, trivial⟩) ?_
              refine wa_done (by kernel_rfl) ?_
              exact nx_meet (g5, g6) trivial ⟨rfl, rfl, rfl, rfl, rfl, rfl, rfl, rfl, rfl, rfl, rfl, rfl, rfl, rfl, trivial⟩ (fun _ hm => hm.pick [2, 3, 4, 5, 1, 0] [] [0, 1] rfl rfl)
            · refine wl_alloc zc56 rfl fun g7 => ?_
              refine wl_nil ?_
              refine nx_wa0 (listed' := #[true, true, true, true, false, true, false, false]) rfl (fun _ hm => ⟨hm.blkI 1 rfl, hm.blkI 2 rfl, hm.blkI 3 rfl, hm.blkI 4 rfl, hm.fact 0 rfl, hm.fact 1 rfl, trivial⟩) ?_
              refine wa_all [4] (by kernel_rfl) rfl ⟨⟨_, rfl, ?_⟩, trivial⟩
              refine wl_alloc zc56 rfl fun g8 => ?_
              refine wl_nil ?_
              refine nx_wa0 (listed' := #[true, true, true, true, true, true, false, false]) rfl (fun _ hm => ⟨hm.blkI 2 rfl, hm.blkI 3 rfl, hm.blkI 4 rfl, hm.blkI 5 rfl, hm.fact 0 rfl, hm.fact 1 rfl, trivial⟩) ?_
              refine wa_all [6] (by kernel_rfl) rfl ⟨⟨_, rfl, ?_⟩, trivial⟩
              refine wl_stores (cs' := [.int .i64 (lastA ⟨gv, ⟨oa, os, om, of⟩, ⟨ia, is_, im, if_⟩⟩), .int .i64 (lastB ⟨gv, ⟨oa, os, om, of⟩, ⟨ia, is_, im, if_⟩⟩)]) 0 rz56 rfl rfl rfl rfl rfl rfl rfl rfl ?_
              refine wl_nil ?_
              refine nx_wa0 (listed' := #[true, true, true, true, true, true, true, false]) rfl (fun _ hm => ⟨hm.blkI 2 rfl, hm.blkI 3 rfl, hm.blkI 4 rfl, hm.blkI 5 rfl, hm.fact 0 rfl, hm.fact 1 rfl, trivial⟩) ?_
              refine wa_all [7] (by kernel_rfl) rfl ⟨⟨_, rfl, ?_⟩, trivial⟩
              refine wl_stores (cs' := [.int .i64 (lastA ⟨hv, ⟨pa, ps, pm, pf⟩, ⟨ja, js, jm, jf⟩⟩), .int .i64 (lastB ⟨hv, ⟨pa, ps, pm, pf⟩, ⟨ja, js, jm, jf⟩⟩)]) 1 rz56 rfl rfl rfl rfl rfl rfl rfl rfl ?_
              refine wl_nil ?_
              refine nx_wa0 (listed' := #[true, true, true, true, true, true, true, true]) rfl (fun _ hm => ⟨hm.blkI 2 rfl, hm.blkI 3 rfl, hm.blkI 4 rfl, hm.blkI 5 rfl, hm.fact 0 rfl, hm.fact 1 rfl, trivial⟩) ?_
              refine wa_done (by kernel_rfl) ?_
              exact nx_meet (g8, g7) trivial ⟨rfl, rfl, rfl, rfl, rfl, rfl, rfl, rfl, rfl, rfl, rfl, rfl, rfl, rfl, trivial⟩ (fun _ hm => hm.pick [2, 3, 4, 5, 0, 1] [] [0, 1] rfl rfl)
          · refine wl_alloc zc56 rfl fun g9 => ?_
            refine wl_nil ?_
            refine nx_wa0 (listed' := #[true, true, true, false, true, false, false, false]) rfl (fun _ hm => ⟨hm.blkI 1 rfl, hm.blkI 2 rfl, hm.blkI 3 rfl, hm.blkI 4 rfl, hm.fact 0 rfl, hm.fact 1 rfl, trivial⟩) ?_
            refine wa_all [3, 5] (by kernel_rfl) rfl ⟨⟨_, rfl, ?_⟩, ⟨_, rfl, ?_⟩, trivial⟩
            · refine wl_callv rfl cb126 rfl rfl (fun wx hm => (lasts_any hv pa ps pm pf ja js jm jf wx)) ?_
              refine wl_nil ?_
              refine nx_wa0 (listed' := #[true, true, true, true, true, false, false, false]) rfl (fun _ hm => ⟨hm.blkI 1 rfl, hm.blkI 2 rfl, hm.blkI 3 rfl, hm.blkI 4 rfl, hm.fact 0 rfl, hm.fact 1 rfl, trivial⟩) ?_
              refine wa_all [5] (by kernel_rfl) rfl ⟨⟨_, rfl, ?_⟩, trivial⟩
              refine wl_alloc zc56 rfl fun g10 => ?_
              refine wl_nil ?_
              refine nx_wa0 (listed' := #[true, true, true, true, true, true, false, false]) rfl (fun _ hm => ⟨hm.blkI 2 rfl, hm.blkI 3 rfl, hm.blkI 4 rfl, hm.blkI 5 rfl, hm.fact 0 rfl, hm.fact 1 rfl, trivial⟩) ?_
              refine wa_all [6] (by kernel_rfl) rfl ⟨⟨_, rfl, ?_⟩, trivial⟩
              refine wl_stores (cs' := [.int .i64 (lastA ⟨gv, ⟨oa, os, om, of⟩, ⟨ia, is_, im, if_⟩⟩), .int .i64 (lastB ⟨gv, ⟨oa, os, om, of⟩, ⟨ia, is_, im, if_⟩⟩)]) 1 rz56 rfl rfl rfl rfl rfl rfl rfl rfl ?_
              refine wl_nil ?_
              refine nx_wa0 (listed' := #[true, true, true, true, true, true, true, false]) rfl (fun _ hm => ⟨hm.blkI 2 rfl, hm.blkI 3 rfl, hm.blkI 4 rfl, hm.blkI 5 rfl, hm.fact 0 rfl, hm.fact 1 rfl, trivial⟩) ?_
              refine wa_all [7] (by kernel_rfl) rfl ⟨⟨_, rfl, ?_⟩, trivial⟩
              refine wl_stores (cs' := [.int .i64 (lastA ⟨hv, ⟨pa, ps, pm, pf⟩, ⟨ja, js, jm, jf⟩⟩), .int .i64 (lastB ⟨hv, ⟨pa, ps, pm, pf⟩, ⟨ja, js, jm, jf⟩⟩)]) 0 rz56 rfl rfl rfl rfl rfl rfl rfl rfl ?_
              refine wl_nil ?_
              refine nx_wa0 (listed' := #[true, true, true, true, true, true, true, true]) rfl (fun _ hm => ⟨hm.blkI 2 rfl, hm.blkI 3 rfl, hm.blkI 4 rfl, hm.blkI 5 rfl, hm.fact 0 rfl, hm.fact 1 rfl, trivial⟩) ?_
              refine wa_done (by kernel_rfl) ?_
              exact nx_meet (g9, g10) trivial ⟨rfl, rfl, rfl, rfl, rfl, rfl, rfl, rfl, rfl, rfl, rfl, rfl, rfl, rfl, trivial⟩ (fun _ hm => hm.pick [2, 3, 4, 5, 1, 0] [] [0, 1] rfl rfl)
            · refine wl_alloc zc56 rfl fun g11 => ?_
              refine wl_nil ?_
              refine nx_wa0 (listed' := #[true, true, true, false, true, true, false, false]) rfl (fun _ hm => ⟨hm.blkI 2 rfl, hm.blkI 3 rfl, hm.blkI 4 rfl, hm.blkI 5 rfl, hm.fact 0 rfl, hm.fact 1 rfl, trivial⟩) ?_
              refine wa_all [3] (by kernel_rfl) rfl ⟨⟨_, rfl, ?_⟩, trivial⟩
              refine wl_callv rfl cb126 rfl rfl (fun wx hm => (lasts_any hv pa ps pm pf ja js jm jf wx)) ?_
              refine wl_nil ?_
              refine nx_wa0 (listed' := #[true, true, true, true, true, true, false, false]) rfl (fun _ hm => ⟨hm.blkI 2 rfl, hm.blkI 3 rfl, hm.blkI 4 rfl, hm.blkI 5 rfl, hm.fact 0 rfl, hm.fact 1 rfl, trivial⟩) ?_
              refine wa_all [6] (by kernel_rfl) rfl ⟨⟨_, rfl, ?_⟩, trivial⟩
              refine wl_stores (cs' := [.int .i64 (lastA ⟨gv, ⟨oa, os, om, of⟩, ⟨ia, is_, im, if_⟩⟩), .int .i64 (lastB ⟨gv, ⟨oa, os, om, of⟩, ⟨ia, is_, im, if_⟩⟩)]) 1 rz56 rfl rfl rfl rfl rfl rfl rfl rfl ?_
              refine wl_nil ?_
              refine nx_wa0 (listed' := #[true, true, true, true, true, true, true, false]) rfl (fun _ hm => ⟨hm.blkI 2 rfl, hm.blkI 3 rfl, hm.blkI 4 rfl, hm.blkI 5 rfl, hm.fact 0 rfl, hm.fact 1 rfl, trivial⟩) ?_
              refine wa_all [7] (by kernel_rfl) rfl ⟨⟨_, rfl, ?_⟩, trivial⟩
              refine wl_stores (cs' := [.int .i64 (lastA ⟨hv, ⟨pa, ps, pm, pf⟩, ⟨ja, js, jm, jf⟩⟩), .int .i64 (lastB ⟨hv, ⟨pa, ps, pm, pf⟩, ⟨ja, js, jm, jf⟩⟩)]) 0 rz56 rfl rfl rfl rfl rfl rfl rfl rfl ?_
              refine wl_nil ?_
              refine nx_wa0 (listed' := #[true, true, true, true, true, true, true, true]) rfl (fun _ hm => ⟨hm.blkI 2 rfl, hm.blkI 3 rfl, hm.blkI 4 rfl, hm.blkI 5 rfl, hm.fact 0 rfl, hm.fact 1 rfl, trivial⟩) ?_
              refine wa_done (by kernel_rfl) ?_
              exact nx_meet (g9, g11) trivial ⟨rfl, rfl, rfl, rfl, rfl, rfl, rfl, rfl, rfl, rfl, rfl, rfl, rfl, rfl, trivial⟩ (fun _ hm => hm.pick [2, 3, 4, 5, 1, 0] [] [0, 1] rfl rfl)
          · refine wl_alloc zc56 rfl fun g12 => ?_
            refine wl_nil ?_
            refine nx_wa0 (listed' := #[true, true, true, false, false, true, false, false]) rfl (fun _ hm => ⟨hm.blkI 1 rfl, hm.blkI 2 rfl, hm.blkI 3 rfl, hm.blkI 4 rfl, hm.fact 0 rfl, hm.fact 1 rfl, trivial⟩) ?_
            refine wa_all [3, 4] (by kernel_rfl) rfl ⟨⟨_, rfl, ?_⟩, ⟨_, rfl, ?_⟩, trivial⟩
            · refine wl_callv rfl cb126 rfl rfl (fun wx hm => (lasts_any hv pa ps pm pf ja js jm jf wx)) ?_
              refine wl_nil ?_
              refine nx_wa0 (listed' := #[true, true, true, true, false, true, false, false]) rfl (fun _ hm => ⟨hm.blkI 1 rfl, hm.blkI 2 rfl, hm.blkI 3 rfl, hm.blkI 4 rfl, hm.fact 0 rfl, hm.fact 1 rfl, trivial⟩) ?_
              refine wa_all [4] (by kernel_rfl) rfl ⟨⟨_, rfl, ?_⟩, trivial⟩
              refine wl_alloc zc56 rfl fun g13 => ?_
              refine wl_nil ?_
              refine nx_wa0 (listed' := #[true, true, true, true, true, true, false, false]) rfl (fun _ hm => ⟨hm.blkI 2 rfl, hm.blkI 3 rfl, hm.blkI 4 rfl, hm.blkI 5 rfl, hm.fact 0 rfl, hm.fact 1 rfl, trivial⟩) ?_
              refine wa_all [6] (by kernel_rfl) rfl ⟨⟨_, rfl, ?_⟩, trivial⟩
              refine wl_stores (cs' := [.int .i64 (lastA ⟨gv, ⟨oa, os, om, of⟩, ⟨ia, is_, im, if_⟩⟩), .int .i64 (lastB ⟨gv, ⟨oa, os, om, of⟩, ⟨ia, is_, im, if_⟩⟩)]) 0 rz56 rfl rfl rfl rfl rfl rfl rfl rfl ?_
              refine wl_nil ?_
              refine nx_wa0 (listed' := #[true, true, true, true, true, true, true, false]) rfl (fun _ hm => ⟨hm.blkI 2 rfl, hm.blkI 3 rfl, hm.blkI 4 rfl, hm.blkI 5 rfl, hm.fact 0 rfl, hm.fact 1 rfl, trivial⟩) ?_
              refine wa_all [7] (by kernel_rfl) rfl ⟨⟨_, rfl, ?_⟩, trivial⟩
              refine wl_stores (cs' := [.int .i64 (lastA ⟨hv, ⟨pa, ps, pm, pf⟩, ⟨ja, js, jm, jf⟩⟩), .int .i64 (lastB ⟨hv, ⟨pa, ps, pm, pf⟩, ⟨ja, js, jm, jf⟩⟩)]) 1 rz56 rfl rfl rfl rfl rfl rfl rfl rfl ?_
              refine wl_nil ?_
              refine nx_wa0 (listed' := #[true, true, true, true, true, true, true, true]) rfl (fun _ hm => ⟨hm.blkI 2 rfl, hm.blkI 3 rfl, hm.blkI 4 rfl, hm.blkI 5 rfl, hm.fact 0 rfl, hm.fact 1 rfl, trivial⟩) ?_
              refine wa_done (by kernel_rfl) ?_
              exact nx_meet (g13, g12) trivial ⟨rfl, rfl, rfl, rfl, rfl, rfl, rfl, rfl, rfl, rfl, rfl, rfl, rfl, rfl, trivial⟩ (fun _ hm => hm.pick [2, 3, 4, 5, 0, 1] [] [0, 1] rfl rfl)
            · refine wl_alloc zc56 rfl fun g14 => ?_
              refine wl_nil ?_
              refine nx_wa0 (listed' := #[true, true, true, false, true, true, false, false]) rfl (fun _ hm => ⟨hm.blkI 2 rfl, hm.blkI 3 rfl, hm.blkI 4 rfl, hm.blkI 5 rfl, hm.fact 0 rfl, hm.fact 1 rfl, trivial⟩) ?_
              refine wa_all [3] (by kernel_rfl) rfl ⟨⟨_, rfl, ?_⟩, trivial⟩
              refine wl_callv rfl cb126 rfl rfl (fun wx hm => (lasts_any hv pa ps pm pf ja js jm jf wx)) ?_
              refine wl_nil ?_
              refine nx_wa0 (listed' := #[true, true, true, true, true, true, false, false]) rfl (fun _ hm => ⟨hm.blkI 2 rfl, hm.blkI 3 rfl, hm.blkI 4 rfl, hm.blkI 5 rfl, hm.fact 0 rfl, hm.fact 1 rfl, trivial⟩) ?_
              refine wa_all [6] (by kernel_rfl) rfl ⟨⟨_, rfl, ?_⟩, trivial⟩
              refine wl_stores (cs' := [.int .i64 (lastA ⟨gv, ⟨oa, os, om, of⟩, ⟨ia, is_, im, if_⟩⟩), .int .i64 (lastB ⟨gv, ⟨oa, os, om, of⟩, ⟨ia, is_, im, if_⟩⟩)]) 0 rz56 rfl rfl rfl rfl rfl rfl rfl rfl ?_
              refine wl_nil ?_
              refine nx_wa0 (listed' := #[true, true, true, true, true, true, true, false]) rfl (fun _ hm => ⟨hm.blkI 2 rfl, hm.blkI 3 rfl, hm.blkI 4 rfl, hm.blkI 5 rfl, hm.fact 0 rfl, hm.fact 1 rfl, trivial⟩) ?_
              refine wa_all [7] (by kernel_rfl) rfl ⟨⟨_, rfl, ?_⟩, trivial⟩
              refine wl_stores (cs' := [.int .i64 (lastA ⟨hv, ⟨pa, ps, pm, pf⟩, ⟨ja, js, jm, jf⟩⟩), .int .i64 (lastB ⟨hv, ⟨pa, ps, pm, pf⟩, ⟨ja, js, jm, jf⟩⟩)]) 1 rz56 rfl rfl rfl rfl rfl rfl rfl rfl ?_
              refine wl_nil ?_
              refine nx_wa0 (listed' := #[true, true, true, true, true, true, true, true]) rfl (fun _ hm => ⟨hm.blkI 2 rfl, hm.blkI 3 rfl, hm.blkI 4 rfl, hm.blkI 5 rfl, hm.fact 0 rfl, hm.fact 1 rfl, trivial⟩) ?_
              refine wa_done (by kernel_rfl) ?_
              exact nx_meet (g14, g12) trivial ⟨rfl, rfl, rfl, rfl, rfl, rfl, rfl, rfl, rfl, rfl, rfl, rfl, rfl, rfl, trivial⟩ (fun _ hm => hm.pick [2, 3, 4, 5, 0, 1] [] [0, 1] rfl rfl)
        · refine wl_alloc zc56 rfl fun g15 => ?_
          refine wl_nil ?_
          refine nx_wa0 (listed' := #[true, false, true, false, true, false, false, false]) rfl (fun _ hm => ⟨hm.blkI 1 rfl, hm.blkI 2 rfl, hm.blkI 3 rfl, hm.blkI 4 rfl, hm.fact 0 rfl, hm.fact 1 rfl, trivial⟩) ?_
          refine wa_all [1, 5] (by kernel_rfl) rfl ⟨⟨_, rfl, ?_⟩, ⟨_, rfl, ?_⟩, trivial⟩
          · refine wl_callv rfl cb126 rfl rfl (fun wx hm => (lasts_any gv oa os om of ia is_ im if_ wx)) ?_
            refine wl_nil ?_
            refine nx_wa0 (listed' := #[true, true, true, false, true, false, false, false]) rfl (fun _ hm => ⟨hm.blkI 1 rfl, hm.blkI 2 rfl, hm.blkI 3 rfl, hm.blkI 4 rfl, hm.fact 0 rfl, hm.fact 1 rfl, trivial⟩) ?_
            refine wa_all [3, 5] (by kernel_rfl) rfl ⟨⟨_, rfl, ?_⟩, ⟨_, rfl, ?_⟩, trivial⟩
            · refine wl_callv rfl cb126 rfl rfl (fun wx hm => (lasts_any hv pa ps pm pf ja js jm jf wx)) ?_
              refine wl_nil ?_
              refine nx_wa0 (listed' := #[true, true, true, true, true, false, false, false]) rfl (fun _ hm => ⟨hm.blkI 1 rfl, hm.blkI 2 rfl, hm.blkI 3 rfl, hm.blkI 4 rfl, hm.fact 0 rfl, hm.fact 1 rfl, trivial⟩) ?_
              refine wa_all [5] (by kernel_rfl) rfl ⟨⟨_, rfl, ?_⟩, trivial⟩
              refine wl_alloc zc56 rfl fun g16 => ?_
              refine wl_nil ?_
              refine nx_wa0 (listed' := #[true, true, true, true, true, true, false, false]) rfl (fun _ hm => ⟨hm.blkI 2 rfl, hm.blkI 3 rfl, hm.blkI 4 rfl, hm.blkI 5 rfl, hm.fact 0 rfl, hm.fact 1 rfl, trivial⟩) ?_
              refine wa_all [6] (by kernel_rfl) rfl ⟨⟨_, rfl, ?_⟩, trivial⟩
              refine wl_stores (cs' := [.int .i64 (lastA ⟨gv, ⟨oa, os, om, of⟩, ⟨ia, is_, im, if_⟩⟩), .int .i64 (lastB ⟨gv, ⟨oa, os, om, of⟩, ⟨ia, is_, im, if_⟩⟩)]) 1 rz56 rfl rfl rfl rfl rfl rfl rfl rfl ?_
              refine wl_nil ?_
              refine nx_wa0 (listed' := #[true, true, true, true, true, true, true, false]) rfl (fun _ hm => ⟨hm.blkI 2 rfl, hm.blkI 3 rfl, hm.blkI 4 rfl, hm.blkI 5 rfl, hm.fact 0 rfl, hm.fact 1 rfl, trivial⟩) ?_
              refine wa_all [7] (by kernel_rfl) rfl ⟨⟨_, rfl, ?_⟩, trivial⟩
              refine wl_stores (cs' := [.int .i64 (lastA ⟨hv, ⟨pa, ps, pm, pf⟩, ⟨ja, js, jm, jf⟩⟩), .int .i64 (lastB ⟨hv, ⟨pa, ps, pm, pf⟩, ⟨ja, js, jm, jf⟩⟩)]) 0 rz56 rfl rfl rfl rfl rfl rfl rfl rfl ?_
              refine wl_nil ?_
              refine nx_wa0 (listed' := #[true, true, true, true, true, true, true, true]) rfl (fun _ hm => ⟨hm.blkI 2 rfl, hm.blkI 3 rfl, hm.blkI 4 rfl, hm.blkI 5 rfl, hm.fact 0 rfl, hm.fact 1 rfl, trivial⟩) ?_
              refine wa_done (by kernel_rfl) ?_
              exact nx_meet (g15, g16) trivial ⟨rfl, rfl, rfl, rfl, rfl, rfl, rfl, rfl, rfl, rfl, rfl, rfl, rfl, rfl, trivial⟩ (fun _ hm => hm.pick [2, 3, 4, 5, 1, 0] [] [0, 1] rfl rfl)
            · refine wl_alloc zc56 rfl fun g17 => ?_
              refine wl_nil ?_
              refine nx_wa0 (listed' := #[true, true, true, false, true, true, false, false]) rfl (fun _ hm => ⟨hm.blkI 2 rfl, hm.blkI 3 rfl, hm.blkI 4 rfl, hm.blkI 5 rfl, hm.fact 0 rfl, hm.fact 1 rfl, trivial⟩) ?_
              refine wa_all [3] (by kernel_rfl) rfl ⟨⟨_, rfl, ?_⟩, trivial⟩
              refine wl_callv rfl cb126 rfl rfl (fun wx hm => (lasts_any hv pa ps pm pf ja js jm jf wx)) ?_
              refine wl_nil ?_
              refine nx_wa0 (listed' := #[true, true, true, true, true, true, false, false]) rfl (fun _ hm => ⟨hm.blkI 2 rfl, hm.blkI 3 rfl, hm.blkI 4 rfl, hm.blkI 5 rfl, hm.fact 0 rfl, hm.fact 1 rfl, trivial⟩) ?_
              refine wa_all [6] (by kernel_rfl) rfl ⟨⟨_, rfl, ?_⟩, trivial⟩
              refine wl_stores (cs' := [.int .i64 (lastA ⟨gv, ⟨oa, os, om, of⟩, ⟨ia, is_, im, if_⟩⟩), .int .i64 (lastB ⟨gv, ⟨oa, os, om, of⟩, ⟨ia, is_, im, if_⟩⟩)]) 1 rz56 rfl rfl rfl rfl rfl rfl rfl rfl ?_
              refine wl_nil ?_
              refine nx_wa0 (listed' := #[true, true, true, true, true, true, true, false]) rfl (fun _ hm => ⟨hm.blkI 2 rfl, hm.blkI 3 rfl, hm.blkI 4 rfl, hm.blkI 5 rfl, hm.fact 0 rfl, hm.fact 1 rfl, trivial⟩) ?_
              refine wa_all [7] (by kernel_rfl) rfl ⟨⟨_, rfl, ?_⟩, trivial⟩
              refine wl_stores (cs' := [.int .i64 (lastA ⟨hv, ⟨pa, ps, pm, pf⟩, ⟨ja, js, jm, jf⟩⟩), .int .i64 (lastB ⟨hv, ⟨pa, ps, pm, pf⟩, ⟨ja, js, jm, jf⟩⟩)]) 0 rz56 rfl rfl rfl rfl rfl rfl rfl rfl ?_
              refine wl_nil ?_
              refine nx_wa0 (listed' := #[true, true, true, true, true, true, true, true]) rfl (fun _ hm => ⟨hm.blkI 2 rfl, hm.blkI 3 rfl, hm.blkI 4 rfl, hm.blkI 5 rfl, hm.fact 0 rfl, hm.fact 1 rfl, trivial⟩) ?_
              refine wa_done (by kernel_rfl) ?_
              exact nx_meet (g15, g17) trivial ⟨rfl, rfl, rfl, rfl, rfl, rfl, rfl, rfl, rfl, rfl, rfl, rfl, rfl, rfl, trivial⟩ (fun _ hm => hm.pick [2, 3, 4, 5, 1, 0] [] [0, 1] rfl rfl)
          · refine wl_alloc zc56 rfl fun g18 => ?_
            refine wl_nil ?_
            refine nx_wa0 (listed' := #[true, false, true, false, true, true, false, false]) rfl (fun _ hm => ⟨hm.blkI 2 rfl, hm.blkI 3 rfl, hm.blkI 4 rfl, hm.blkI 5 rfl, hm.fact 0 rfl, hm.fact 1 rfl, trivial⟩) ?_
            refine wa_all [1] (by kernel_rfl) rfl ⟨⟨_, rfl, ?_⟩, trivial⟩
            refine wl_callv rfl cb126 rfl rfl (fun wx hm => (lasts_any gv oa os om of ia is_ im if_ wx)) ?_
            refine wl_nil ?_
            refine nx_wa0 (listed' := #[true, true, true, false, true, true, false, false]) rfl (fun _ hm => ⟨hm.blkI 2 rfl, hm.blkI 3 rfl, hm.blkI 4 rfl, hm.blkI 5 rfl, hm.fact 0 rfl, hm.fact 1 rfl, trivial⟩) ?_
            refine wa_all [3] (by kernel_rfl) rfl ⟨⟨_, rfl, ?_⟩, trivial⟩
            refine wl_callv rfl cb126 rfl rfl (fun wx hm => (lasts_any hv pa ps pm pf ja js jm jf wx)) ?_
            refine wl_nil ?_
            refine nx_wa0 (listed' := #[true, true, true, true, true, true, false, false]) rfl (fun _ hm => ⟨hm.blkI 2 rfl, hm.blkI 3 rfl, hm.blkI 4 rfl, hm.blkI 5 rfl, hm.fact 0 rfl, hm.fact 1 rfl, trivial⟩) ?_
            refine wa_all [6] (by kernel_rfl) rfl ⟨⟨_, rfl, ?_⟩, trivial⟩
            refine wl_stores (cs' := [.int .i64 (lastA ⟨gv, ⟨oa, os, om, of⟩, ⟨ia, is_, im, if_⟩⟩), .int .i64 (lastB ⟨gv, ⟨oa, os, om, of⟩, ⟨ia, is_, im, if_⟩⟩)]) 1 rz56 rfl rfl rfl rfl rfl rfl rfl rfl ?_
            refine wl_nil ?_
            refine nx_wa0 (listed' := #[true, true, true, true, true, true, true, false]) rfl (fun _ hm => ⟨hm.blkI 2 rfl, hm.blkI 3 rfl, hm.blkI 4 rfl, hm.blkI 5 rfl, hm.fact 0 rfl, hm.fact 1 rfl, trivial⟩) ?_
            refine wa_all [7] (by kernel_rfl) rfl ⟨⟨_, rfl, ?_⟩, trivial⟩
            refine wl_stores (cs' := [.int .i64 (lastA ⟨hv, ⟨pa, ps, pm, pf⟩, ⟨ja, js, jm, jf⟩⟩), .int .i64 (lastB ⟨hv, ⟨pa, ps, pm, pf⟩, ⟨ja, js, jm, jf⟩⟩)]) 0 rz56 rfl rfl rfl rfl rfl rfl rfl rfl ?_
            refine wl_nil ?_
            refine nx_wa0 (listed' := #[true, true, true, true, true, true, true, true]) rfl (fun _ hm => ⟨hm.blkI 2 rfl, hm.blkI 3 rfl, hm.blkI 4 rfl, hm.blkI 5 rfl, hm.fact 0 rfl, hm.fact 1 rfl, trivial⟩) ?_
            refine wa_done (by kernel_rfl) ?_
            exact nx_meet (g15, g18) trivial ⟨rfl, rfl, rfl, rfl, rfl, rfl, rfl, rfl, rfl, rfl, rfl, rfl, rfl, rfl, trivial⟩ (fun _ hm => hm.pick [2, 3, 4, 5, 1, 0] [] [0, 1] rfl rfl)
        · refine wl_alloc zc56 rfl fun g19 => ?_
          refine wl_nil ?_
          refine nx_wa0 (listed' := #[true, false, true, false, false, true, false, false]) rfl (fun _ hm => ⟨hm.blkI 1 rfl, hm.blkI 2 rfl, hm.blkI 3 rfl, hm.blkI 4 rfl, hm.fact 0 rfl, hm.fact 1 rfl, trivial⟩) ?_
          refine wa_all [1, 4] (by kernel_rfl) rfl ⟨⟨_, rfl, ?_⟩, ⟨_, rfl, ?_⟩, trivial⟩
          · refine wl_callv rfl cb126 rfl rfl (fun wx hm => (lasts_any gv oa os om of ia is_ im if_ wx)) ?_
            refine wl_nil ?_
            refine nx_wa0 (listed' := #[true, true, true, false, false, true, false, false]) rfl (fun _ hm => ⟨hm.blkI 1 rfl, hm.blkI 2 rfl, hm.blkI 3 rfl, hm.blkI 4 rfl, hm.fact 0 rfl, hm.fact 1 rfl, trivial⟩) ?_
            refine wa_all [3, 4] (by kernel_rfl) rfl ⟨⟨_, rfl, ?_⟩, ⟨_, rfl, ?_⟩, trivial⟩
            · refine wl_callv rfl cb126 rfl rfl (fun wx hm => (lasts_any hv pa ps pm pf ja js jm jf wx)) ?_
              refine wl_nil ?_
              refine nx_wa0 (listed' := #[true, true, true, true, false, true, false, false]) rfl (fun _ hm => ⟨hm.blkI 1 rfl, hm.blkI 2 rfl, hm.blkI 3 rfl, hm.blkI 4 rfl, hm.fact 0 rfl, hm.fact 1 rfl, trivial⟩) ?_
              refine wa_all [4] (by kernel_rfl) rfl ⟨⟨_, rfl, ?_⟩, trivial⟩
              refine wl_alloc zc56 rfl fun g20 => ?_
              refine wl_nil ?_
              refine nx_wa0 (listed' := #[true, true, true, true, true, true, false, false]) rfl (fun _ hm => ⟨hm.blkI 2 rfl, hm.blkI 3 rfl, hm.blkI 4 rfl, hm.blkI 5 rfl, hm.fact 0 rfl, hm.fact 1 rfl, trivial⟩) ?_
              refine wa_all [6] (by kernel_rfl) rfl ⟨⟨_, rfl, ?_⟩, trivial⟩
              refine wl_stores (cs' := [.int .i64 (lastA ⟨gv, ⟨oa, os, om, of⟩, ⟨ia, is_, im, if_⟩⟩), .int .i64 (lastB ⟨gv, ⟨oa, os, om, of⟩, ⟨ia, is_, im, if_⟩⟩)]) 0 rz56 rfl rfl rfl rfl rfl rfl rfl rfl ?_
              refine wl_nil ?_
              refine nx_wa0 (listed' := #[true, true, true, true, true, true, true, false]) rfl (fun _ hm => ⟨hm.blkI 2 rfl, hm.blkI 3 rfl, hm.blkI 4 rfl, hm.blkI 5 rfl, hm.fact 0 rfl, hm.fact 1 rfl, trivial⟩) ?_
              refine wa_all [7] (by kernel_rfl) rfl ⟨⟨_, rfl, ?_⟩, trivial⟩
              refine wl_stores (cs' := [.int .i64 (lastA ⟨hv, ⟨pa, ps, pm, pf⟩, ⟨ja, js, jm, jf⟩⟩), .int .i64 (lastB ⟨hv, ⟨pa, ps, pm, pf⟩, ⟨ja, js, jm, jf⟩⟩)]) 1 rz56 rfl rfl rfl rfl rfl rfl rfl rfl ?_
              refine wl_nil ?_
              refine nx_wa0 (listed' := #[true, true, true, true, true, true, true, true]) rfl (fun _ hm => ⟨hm.blkI 2 rfl, hm.blkI 3 rfl, hm.blkI 4 rfl, hm.blkI 5 rfl, hm.fact 0 rfl, hm.fact 1 rfl, trivial⟩) ?_
              refine wa_done (by kernel_rfl) ?_
              exact nx_meet (g20, g19) trivial ⟨rfl, rfl, rfl, rfl, rfl, rfl, rfl, rfl, rfl, rfl, rfl, rfl, rfl, rfl, trivial⟩ (fun _ hm => hm.pick [2, 3, 4, 5, 0, 1] [] [0, 1] rfl rfl)
            · refine wl_alloc zc56 rfl fun g21 => ?_
              refine wl_nil ?_
              refine nx_wa0 (listed' := #[true, true, true, false, true, true, false, false]) rfl (fun _ hm => ⟨hm.blkI 2 rfl, hm.blkI 3 rfl, hm.blkI 4 rfl, hm.blkI 5 rfl, hm.fact 0 rfl, hm.fact 1 rfl, trivial⟩) ?_
              refine wa_all [3] (by kernel_rfl) rfl ⟨⟨_, rfl, ?_⟩, trivial⟩
              refine wl_callv rfl cb126 rfl rfl (fun wx hm => (lasts_any hv pa ps pm pf ja js jm jf wx)) ?_
              refine wl_nil ?_
              refine nx_wa0 (listed' := #[true, true, true, true, true, true, false, false]) rfl (fun _ hm => ⟨hm.blkI 2 rfl, hm.blkI 3 rfl, hm.blkI 4 rfl, hm.blkI 5 rfl, hm.fact 0 rfl, hm.fact 1 rfl, trivial⟩) ?_
              refine wa_all [6] (by kernel_rfl) rfl ⟨⟨_, rfl, ?_⟩, trivial⟩
              refine wl_stores (cs' := [.int .i64 (lastA ⟨gv, ⟨oa, os, om, of⟩, ⟨ia, is_, im, if_⟩⟩), .int .i64 (lastB ⟨gv, ⟨oa, os, om, of⟩, ⟨ia, is_, im, if_⟩⟩)]) 0 rz56 rfl rfl rfl rfl rfl rfl rfl rfl ?_
              refine wl_nil ?_
              refine nx_wa0 (listed' := #[true, true, true, true, true, true, true, false]) rfl (fun _ hm => ⟨hm.blkI 2 rfl, hm.blkI 3 rfl, hm.blkI 4 rfl, hm.blkI 5 rfl, hm.fact 0 rfl, hm.fact 1 rfl, trivial⟩) ?_
              refine wa_all [7] (by kernel_rfl) rfl ⟨⟨_, rfl, ?_⟩, trivial⟩
              refine wl_stores (cs' := [.int .i64 (lastA ⟨hv, ⟨pa, ps, pm, pf⟩, ⟨ja, js, jm, jf⟩⟩), .int .i64 (lastB ⟨hv, ⟨pa, ps, pm, pf⟩, ⟨ja, js, jm, jf⟩⟩)]) 1 rz56 rfl rfl rfl rfl rfl rfl rfl rfl ?_
              refine wl_nil ?_
              refine nx_wa0 (listed' := #[true, true, true, true, true, true, true, true]) rfl (fun _ hm => ⟨hm.blkI 2 rfl, hm.blkI 3 rfl, hm.blkI 4 rfl, hm.blkI 5 rfl, hm.fact 0 rfl, hm.fact 1 rfl, trivial⟩) ?_
              refine wa_done (by kernel_rfl) ?_
              exact nx_meet (g21, g19) trivial ⟨rfl, rfl, rfl, rfl, rfl, rfl, rfl, rfl, rfl, rfl, rfl, rfl, rfl, rfl, trivial⟩ (fun _ hm => hm.pick [2, 3, 4, 5, 0, 1] [] [0, 1] rfl rfl)
          · refine wl_alloc zc56 rfl fun g22 => ?_
            refine wl_nil ?_
            refine nx_wa0 (listed' := #[true, false, true, false, true, true, false, false]) rfl (fun _ hm => ⟨hm.blkI 2 rfl, hm.blkI 3 rfl, hm.blkI 4 rfl, hm.blkI 5 rfl, hm.fact 0 rfl, hm.fact 1 rfl, trivial⟩) ?_
            refine wa_all [1] (by kernel_rfl) rfl ⟨⟨_, rfl, ?_⟩, trivial⟩
            refine wl_callv rfl cb126 rfl rfl (fun wx hm => (lasts_any gv oa os om of ia is_ im if_ wx)) ?_
            refine wl_nil ?_
            refine nx_wa0 (listed' := #[true, true, true, false, true, true, false, false]) rfl (fun _ hm => ⟨hm.blkI 2 rfl, hm.blkI 3 rfl, hm.blkI 4 rfl, hm.blkI 5 rfl, hm.fact 0 rfl, hm.fact 1 rfl, trivial⟩) ?_
            refine wa_all [3] (by kernel_rfl) rfl ⟨⟨_, rfl, ?_⟩, trivial⟩
            refine wl_callv rfl cb126 rfl rfl (fun wx hm => (lasts_any hv pa ps pm pf ja js jm jf wx)) ?_
            refine wl_nil ?_
            refine nx_wa0 (listed' := #[true, true, true, true, true, true, false, false]) rfl (fun _ hm => ⟨hm.blkI 2 rfl, hm.blkI 3 rfl, hm.blkI 4 rfl, hm.blkI 5 rfl, hm.fact 0 rfl, hm.fact 1 rfl, trivial⟩) ?_
            refine wa_all [6] (by kernel_rfl) rfl ⟨⟨_, rfl, ?_⟩, trivial⟩
            refine wl_stores (cs' := [.int .i64 (lastA ⟨gv, ⟨oa, os, om, of⟩, ⟨ia, is_, im, if_⟩⟩), .int .i64 (lastB ⟨gv, ⟨oa, os, om, of⟩, ⟨ia, is_, im, if_⟩⟩)]) 0 rz56 rfl rfl rfl rfl rfl rfl rfl rfl ?_
            refine wl_nil ?_
            refine nx_wa0 (listed' := #[true, true, true, true, true, true, true, false]) rfl (fun _ hm => ⟨hm.blkI 2 rfl, hm.blkI 3 rfl, hm.blkI 4 rfl, hm.blkI 5 rfl, hm.fact 0 rfl, hm.fact 1 rfl, trivial⟩) ?_
            refine wa_all [7] (by kernel_rfl) rfl ⟨⟨_, rfl, ?_⟩, trivial⟩
            refine wl_stores (cs' := [.int .i64 (lastA ⟨hv, ⟨pa, ps, pm, pf⟩, ⟨ja, js, jm, jf⟩⟩), .int .i64 (lastB ⟨hv, ⟨pa, ps, pm, pf⟩, ⟨ja, js, jm, jf⟩⟩)]) 1 rz56 rfl rfl rfl rfl rfl rfl rfl rfl ?_
            refine wl_nil ?_
            refine nx_wa0 (listed' := #[true, true, true, true, true, true, true, true]) rfl (fun _ hm => ⟨hm.blkI 2 rfl, hm.blkI 3 rfl, hm.blkI 4 rfl, hm.blkI 5 rfl, hm.fact 0 rfl, hm.fact 1 rfl, trivial⟩) ?_
            refine wa_done (by kernel_rfl) ?_
            exact nx_meet (g22, g19) trivial ⟨rfl, rfl, rfl, rfl, rfl, rfl, rfl, rfl, rfl, rfl, rfl, rfl, rfl, rfl, trivial⟩ (fun _ hm => hm.pick [2, 3, 4, 5, 0, 1] [] [0, 1] rfl rfl)
      · rintro ⟨gwa, gwb⟩ hinv
        replace hinv : True := hinv
        dsimp only
        refine gw_seq ?_
        refine gw_region ?_
        clear hinv
        obtain ⟨SP, hSP⟩ : ∃ S, S = startP ⟨gv, ⟨oa, os, om, of⟩, ⟨ia, is_, im, if_⟩⟩ ⟨hv, ⟨pa, ps, pm, pf⟩, ⟨ja, js, jm, jf⟩⟩ := ⟨_, rfl⟩
        rw [← hSP] at hrs
        refine wl_ov (ov_field fo56_0 rfl rfl) rfl ?_
        refine wl_ov (ov_load sc3 rfl (fun _ hm => hm.blkI 4 rfl) rfl) rfl ?_
        refine wl_ov (ov_field fo56_0 rfl rfl) rfl ?_
        refine wl_ov (ov_load sc3 rfl (fun _ hm => hm.blkI 5 rfl) rfl) rfl ?_
        refine wl_ov (ov_max rfl rfl) rfl ?_
        refine wl_set 37 (v' := .int .i64 SP) rfl (congrArg (Value.int .i64) hSP.symm) ?_
        refine wl_ov (ov_assign rfl) rfl ?_
        refine wl_nil ?_
        refine nx_then ?_
        refine gw_seq ?_
        refine gw_region ?_
        refine wl_ov (ov_move rfl) rfl ?_
        refine wl_ov (ov_un_not rfl) rfl ?_
        refine wl_set 39 (v' := .bool false) rfl (congrArg Value.bool (by decide)) ?_
        refine wl_ov (ov_move rfl) rfl ?_
        refine wl_guard_on rfl rfl rfl ?_
        refine wl_ov (ov_field fo100_0 rfl rfl) rfl ?_
        refine wl_guard_on rfl rfl rfl ?_
        refine wl_ov (ov_load sc9 rfl (fun _ hm => hm.blkI 1 rfl) rfl) rfl ?_
        refine wl_guard_on rfl rfl rfl ?_
        refine wl_ov (ov_field fo100_0 rfl rfl) rfl ?_
        refine wl_guard_on rfl rfl rfl ?_
        refine wl_ov (ov_load sc9 rfl (fun _ hm => hm.blkI 0 rfl) rfl) rfl ?_
        refine wl_guard_on rfl rfl rfl ?_
        refine wl_ov (ov_seql rfl rfl) rfl ?_
        refine wl_ov (ov_pick_f rfl rfl) rfl ?_
        refine wl_ov (ov_move rfl) rfl ?_
        rcases Bool.eq_false_or_eq_true (gv.toList == hv.toList) with hq | hq
        · refine wl_set 47 rfl (congrArg Value.bool hq) ?_
          refine wl_guard_on rfl rfl rfl ?_
          refine wl_ov (ov_move rfl) rfl ?_
          refine wl_guard_on rfl rfl rfl ?_
          refine wl_ov (ov_field fo56_1 rfl rfl) rfl ?_
          refine wl_guard_on rfl rfl rfl ?_
          refine wl_ov (ov_load sc3 rfl (fun _ hm => hm.blkI 4 rfl) rfl) rfl ?_
          refine wl_guard_on rfl rfl rfl ?_
          refine wl_ov (ov_field fo56_1 rfl rfl) rfl ?_
          refine wl_guard_on rfl rfl rfl ?_
          refine wl_ov (ov_load sc3 rfl (fun _ hm => hm.blkI 5 rfl) rfl) rfl ?_
          refine wl_guard_on rfl rfl rfl ?_
          refine wl_ov (ov_min rfl rfl) rfl ?_
          refine wl_guard_on rfl rfl rfl ?_
          refine wl_ov (ov_lss rfl rfl) rfl ?_
          refine wl_ov (ov_pick_t rfl rfl) rfl ?_
          refine wl_ov (ov_move rfl) rfl ?_
          rcases Bool.eq_false_or_eq_true (decide (SP < min (lastB ⟨gv, ⟨oa, os, om, of⟩, ⟨ia, is_, im, if_⟩⟩) (lastB ⟨hv, ⟨pa, ps, pm, pf⟩, ⟨ja, js, jm, jf⟩⟩))) with h2 | h2
          · refine wl_set 56 rfl (congrArg Value.bool h2) ?_
            replace h2 := of_decide_eq_true h2
            refine wl_guard_on rfl rfl rfl ?_
            refine wl_ov (ov_move rfl) rfl ?_
            refine wl_guard_on rfl rfl rfl ?_
            refine wl_ov (ov_lss rfl rfl) rfl ?_
            refine wl_guard_on rfl rfl rfl ?_
            refine wl_ov (ov_move rfl) rfl ?_
            rcases Bool.eq_false_or_eq_true (decide (RQ < 0)) with h3 | h3
            · refine wl_set 59 rfl (congrArg Value.bool h3) ?_
              replace h3 := of_decide_eq_true h3
              refine wl_guard_off rfl rfl rfl (by decide) rfl ?_
              refine wl_guard_off rfl rfl rfl (by decide) rfl ?_
              refine wl_guard_off rfl rfl rfl (by decide) rfl ?_
              refine wl_guard_on rfl rfl rfl ?_
              refine wl_ov (ov_pick_t rfl rfl) rfl ?_
              refine wl_ov (ov_pick_t rfl rfl) rfl ?_
              refine wl_nil ?_
              refine nx_then ?_
              refine gw_cond rfl (fun _ => ?_) (fun hh => by cases hh)
              refine gw_region ?_
              refine wl_ov (ov_move rfl) rfl ?_
              refine wl_ov (ov_assign rfl) rfl ?_
              refine wl_nil ?_
              refine nx_blk_nrm ?_
              refine nx_then ?_
              refine gw_region ?_
              refine wl_ov (ov_add rfl rfl (by omega) (by omega)) rfl ?_
              refine wl_ov (ov_move rfl) rfl ?_
              refine wl_nil ?_
              have hok : okP true ⟨gv, ⟨oa, os, om, of⟩, ⟨ia, is_, im, if_⟩⟩ ⟨hv, ⟨pa, ps, pm, pf⟩, ⟨ja, js, jm, jf⟩⟩ = true := by unfold okP; rw [← hSP]; rw [decide_eq_true (show SP < min (lastB ⟨gv, ⟨oa, os, om, of⟩, ⟨ia, is_, im, if_⟩⟩) (lastB ⟨hv, ⟨pa, ps, pm, pf⟩, ⟨ja, js, jm, jf⟩⟩) from h2)]; simp only [hq]; rfl
              rw [hok] at hrs
              have hv : repr (inF true ⟨gv, ⟨oa, os, om, of⟩, ⟨ia, is_, im, if_⟩⟩ (l2.take (j + 1)) Y) = SP := by rw [hQn, hrs]; rw [if_pos ⟨rfl, .inl h3⟩]
              exact nx_round (j + 1) (by omega) (by omega) ⟨rfl, rfl, rfl, (some_int hv.symm), rfl, rfl, rfl, rfl, rfl, rfl, (some_int (by omega)), trivial⟩ (fun _ hm => hm.pick [1, 2, 3] [] [0, 1] rfl rfl)
            · refine wl_set 59 rfl (congrArg Value.bool h3) ?_
              replace h3 := of_decide_eq_false h3
              refine wl_guard_on rfl rfl rfl ?_
              refine wl_ov (ov_move rfl) rfl ?_
              refine wl_guard_on rfl rfl rfl ?_
              refine wl_ov (ov_move rfl) rfl ?_
              refine wl_guard_on rfl rfl rfl ?_
              refine wl_ov (ov_lss rfl rfl) rfl ?_
              refine wl_guard_on rfl rfl rfl ?_
              refine wl_ov (ov_pick_f rfl rfl) rfl ?_
              refine wl_ov (ov_pick_t rfl rfl) rfl ?_
              refine wl_nil ?_
              refine nx_then ?_
              refine gw_cond rfl (fun hh => ?_) (fun hh => ?_)
              · have h4 : SP < RQ := by simpa using hh
                clear hh
                refine gw_region ?_
                refine wl_ov (ov_move rfl) rfl ?_
                refine wl_ov (ov_assign rfl) rfl ?_
                refine wl_nil ?_
                refine nx_blk_nrm ?_
                refine nx_then ?_
                refine gw_region ?_
                refine wl_ov (ov_add rfl rfl (by omega) (by omega)) rfl ?_
                refine wl_ov (ov_move rfl) rfl ?_
                refine wl_nil ?_
                have hok : okP true ⟨gv, ⟨oa, os, om, of⟩, ⟨ia, is_, im, if_⟩⟩ ⟨hv, ⟨pa, ps, pm, pf⟩, ⟨ja, js, jm, jf⟩⟩ = true := by unfold okP; rw [← hSP]; rw [decide_eq_true (show SP < min (lastB ⟨gv, ⟨oa, os, om, of⟩, ⟨ia, is_, im, if_⟩⟩) (lastB ⟨hv, ⟨pa, ps, pm, pf⟩, ⟨ja, js, jm, jf⟩⟩) from h2)]; simp only [hq]; rfl
                rw [hok] at hrs
                have hv : repr (inF true ⟨gv, ⟨oa, os, om, of⟩, ⟨ia, is_, im, if_⟩⟩ (l2.take (j + 1)) Y) = SP := by rw [hQn, hrs]; rw [if_pos ⟨rfl, .inr h4⟩]
                exact nx_round (j + 1) (by omega) (by omega) ⟨rfl, rfl, rfl, (some_int hv.symm), rfl, rfl, rfl, rfl, rfl, rfl, (some_int (by omega)), trivial⟩ (fun _ hm => hm.pick [1, 2, 3] [] [0, 1] rfl rfl)
              · have h4 : ¬ (SP < RQ) := by simpa using hh
                clear hh
                refine gw_skip ?_
                refine nx_blk_nrm ?_
                refine nx_then ?_
                refine gw_region ?_
                refine wl_ov (ov_add rfl rfl (by omega) (by omega)) rfl ?_
                refine wl_ov (ov_move rfl) rfl ?_
                refine wl_nil ?_
                have hok : okP true ⟨gv, ⟨oa, os, om, of⟩, ⟨ia, is_, im, if_⟩⟩ ⟨hv, ⟨pa, ps, pm, pf⟩, ⟨ja, js, jm, jf⟩⟩ = true := by unfold okP; rw [← hSP]; rw [decide_eq_true (show SP < min (lastB ⟨gv, ⟨oa, os, om, of⟩, ⟨ia, is_, im, if_⟩⟩) (lastB ⟨hv, ⟨pa, ps, pm, pf⟩, ⟨ja, js, jm, jf⟩⟩) from h2)]; simp only [hq]; rfl
                rw [hok] at hrs
                have hv : repr (inF true ⟨gv, ⟨oa, os, om, of⟩, ⟨ia, is_, im, if_⟩⟩ (l2.take (j + 1)) Y) = RQ := by rw [hQn, hrs]; rw [if_neg (fun h => h.2.elim h3 h4)]
                exact nx_round (j + 1) (by omega) (by omega) ⟨rfl, rfl, rfl, (some_int hv.symm), rfl, rfl, rfl, rfl, rfl, rfl, (some_int (by omega)), trivial⟩ (fun _ hm => hm.pick [1, 2, 3] [] [0, 1] rfl rfl)
          · refine wl_set 56 rfl (congrArg Value.bool h2) ?_
            replace h2 := of_decide_eq_false h2
            refine wl_guard_off rfl rfl rfl (by decide) rfl ?_
            refine wl_guard_off rfl rfl rfl (by decide) rfl ?_
            refine wl_guard_off rfl rfl rfl (by decide) rfl ?_
            refine wl_guard_undef rfl rfl rfl rfl ?_
            refine wl_guard_undef rfl rfl rfl rfl ?_
            refine wl_guard_undef rfl rfl rfl rfl ?_
            refine wl_guard_off rfl rfl rfl (by decide) rfl ?_
            refine wl_ov (ov_pick_f rfl rfl) rfl ?_
            refine wl_nil ?_
            refine nx_then ?_
            refine gw_cond rfl (fun hh => by cases hh) (fun _ => ?_)
            refine gw_skip ?_
            refine nx_blk_nrm ?_
            refine nx_then ?_
            refine gw_region ?_
            refine wl_ov (ov_add rfl rfl (by omega) (by omega)) rfl ?_
            refine wl_ov (ov_move rfl) rfl ?_
            refine wl_nil ?_
            have hok : okP true ⟨gv, ⟨oa, os, om, of⟩, ⟨ia, is_, im, if_⟩⟩ ⟨hv, ⟨pa, ps, pm, pf⟩, ⟨ja, js, jm, jf⟩⟩ = false := by unfold okP; rw [← hSP]; rw [decide_eq_false (show ¬ SP < min (lastB ⟨gv, ⟨oa, os, om, of⟩, ⟨ia, is_, im, if_⟩⟩) (lastB ⟨hv, ⟨pa, ps, pm, pf⟩, ⟨ja, js, jm, jf⟩⟩) from h2)]; simp
            rw [hok] at hrs
            have hv : repr (inF true ⟨gv, ⟨oa, os, om, of⟩, ⟨ia, is_, im, if_⟩⟩ (l2.take (j + 1)) Y) = RQ := by rw [hQn, hrs]; simp
            exact nx_round (j + 1) (by omega) (by omega) ⟨rfl, rfl, rfl, (some_int hv.symm), rfl, rfl, rfl, rfl, rfl, rfl, (some_int (by omega)), trivial⟩ (fun _ hm => hm.pick [1, 2, 3] [] [0, 1] rfl rfl)
        · refine wl_set 47 rfl (congrArg Value.bool hq) ?_
          refine wl_guard_off rfl rfl rfl (by decide) rfl ?_
          refine wl_guard_off rfl rfl rfl (by decide) rfl ?_
          refine wl_guard_off rfl rfl rfl (by decide) rfl ?_
          refine wl_guard_off rfl rfl rfl (by decide) rfl ?_
          refine wl_guard_off rfl rfl rfl (by decide) rfl ?_
          refine wl_guard_off rfl rfl rfl (by decide) rfl ?_
          refine wl_guard_off rfl rfl rfl (by decide) rfl ?_
          refine wl_ov (ov_pick_f rfl rfl) rfl ?_
          refine wl_ov (ov_move rfl) rfl ?_
          refine wl_guard_off rfl rfl rfl (by decide) rfl ?_
          refine wl_guard_off rfl rfl rfl (by decide) rfl ?_
          refine wl_guard_off rfl rfl rfl (by decide) rfl ?_
          refine wl_guard_undef rfl rfl rfl rfl ?_
          refine wl_guard_undef rfl rfl rfl rfl ?_
          refine wl_guard_undef rfl rfl rfl rfl ?_
          refine wl_guard_off rfl rfl rfl (by decide) rfl ?_
          refine wl_ov (ov_pick_f rfl rfl) rfl ?_
          refine wl_nil ?_
          refine nx_then ?_
          refine gw_cond rfl (fun hh => by cases hh) (fun _ => ?_)
          refine gw_skip ?_
          refine nx_blk_nrm ?_
          refine nx_then ?_
          refine gw_region ?_
          refine wl_ov (ov_add rfl rfl (by omega) (by omega)) rfl ?_
          refine wl_ov (ov_move rfl) rfl ?_
          refine wl_nil ?_
          have hok : okP true ⟨gv, ⟨oa, os, om, of⟩, ⟨ia, is_, im, if_⟩⟩ ⟨hv, ⟨pa, ps, pm, pf⟩, ⟨ja, js, jm, jf⟩⟩ = false := by unfold okP; rw [← hSP]; simp only [hq]; rfl
          rw [hok] at hrs
          have hv : repr (inF true ⟨gv, ⟨oa, os, om, of⟩, ⟨ia, is_, im, if_⟩⟩ (l2.take (j + 1)) Y) = RQ := by rw [hQn, hrs]; simp
          exact nx_round (j + 1) (by omega) (by omega) ⟨rfl, rfl, rfl, (some_int hv.symm), rfl, rfl, rfl, rfl, rfl, rfl, (some_int (by omega)), trivial⟩ (fun _ hm => hm.pick [1, 2, 3] [] [0, 1] rfl rfl)
    · have hj : ¬ (((j : Nat) : Int) < ((n2 : Nat) : Int)) := by simpa using hh
      clear hh
      refine gw_exit ?_
      refine nx_then_exit ?_
      refine nx_then_exit ?_
      refine nx_blk_here ?_
      refine nx_blk_nrm ?_
      refine nx_then ?_
      refine gw_region ?_
      have hjn : l2.take j = l2 := List.take_of_length_le (by omega)
      refine wl_ov (ov_add rfl rfl (by omega) (by omega)) rfl ?_
      refine wl_ov (ov_move rfl) rfl ?_
      refine wl_nil ?_
      exact nx_round (k + 1) (by omega) (by omega) ⟨rfl, rfl, rfl, (some_int (by rw [hYn, hjn])), rfl, rfl, (some_int (by omega)), trivial⟩ (fun _ hm => hm.pick [1, 2] [] [0, 1] rfl rfl)
  · have hk : ¬ (((k : Nat) : Int) < ((n1 : Nat) : Int)) := by simpa using hh
    clear hh
    refine gw_exit ?_
    refine nx_then_exit ?_
    refine nx_then_exit ?_
    refine nx_blk_here ?_
    refine nx_then ?_
    refine gw_seq ?_
    refine gw_region ?_
    have hkn : l1.take k = l1 := List.take_of_length_le (by omega)
    refine wl_ov (ov_move rfl) rfl ?_
    refine wl_ov (ov_assign rfl) rfl ?_
    refine wl_nil ?_
    refine nx_then ?_
    refine gw_ret ?_
    refine nx_ret1 rfl rfl fun wx hm => ?_
    exact ⟨ret_int (by rw [hkn]), hm.g⟩

set_option maxRecDepth 100000 in
set_option maxHeartbeats 2000000 in
theorem together_false (k1 d1 : ByteArray) (f1 t1 : Int) (l1 : List Lg) (A1 : Option Addr) (n1 c1 : Nat) (k2 d2 : ByteArray) (f2 t2 : Int) (l2 : List Lg) (A2 : Option Addr) (n2 c2 : Nat) (w : World) (h1 : SlT lgEnc 9 100 w A1 n1 l1) (h2 : SlT lgEnc 9 100 w A2 n2 l2) (hn1 : n1 ≤ 1000000) (hn2 : n2 ≤ 1000000) (ht1 : Tm l1) (ht2 : Tm l2) :
    Calls Tryd.prog 124 #[.agg #[.string k1, .string d1, .int .i64 f1, .int .i64 t1, .slice A1 n1 c1], .agg #[.string k2, .string d2, .int .i64 f2, .int .i64 t2, .slice A2 n2 c2], .bool false] w (GotE w (repr (outF false l1 l2))) := by
  refine gw_enter ⟨69, w, none, []⟩ Tryd.func124 rfl Tryd.ntmps124 rfl (mem0 (X := [SlOld lgEnc 9 100 w.heap.size none A1 n1 l1, SlOld lgEnc 9 100 w.heap.size none A2 n2 l2]) (allF_cons h1.old (allF_cons h2.old allF_nil)) (allL_cons SlOld.lasts (allL_cons SlOld.lasts allL_nil))) ?_
  refine gw_seq ?_
  refine gw_region ?_
  have hlen1 := h1.len
  have hlen2 := h2.len
  refine wl_box rfl rfl rfl fun g1 => ?_
  refine wl_box rfl rfl rfl fun g2 => ?_
  refine wl_ov (ov_assign rfl) rfl ?_
  refine wl_nil ?_
  refine nx_then ?_
  refine gw_seq ?_
  refine gw_region ?_
  refine wl_ov (ov_assign rfl) rfl ?_
  refine wl_set 7 (v' := .int .i64 (-1)) rfl rfl ?_
  refine wl_nil ?_
  refine nx_then ?_
  refine gw_seq ?_
  refine gw_seq ?_
  refine gw_region ?_
  refine wl_ov (ov_field fo95_3 rfl rfl) rfl ?_
  refine wl_ov (ov_load sc93 rfl (fun _ hm => hm.blkI 1 rfl) rfl) rfl ?_
  refine wl_ov (ov_len es93 rfl) rfl ?_
  refine wl_ov (ov_move rfl) rfl ?_
  refine wl_nil ?_
  refine nx_then ?_
  refine gw_block ?_
  refine gw_loop (γ := Nat) (fun (k : Nat) => k ≤ n1) (fun (k : Nat) => [(2, .bool false), (4, .pointer (some ⟨g2, 0, none⟩)), (6, .int .i64 0), (7, .int .i64 (repr (outF false (l1.take k) l2))), (16, .slice A1 n1 c1), (17, .int .i64 ((n1 : Nat) : Int)), (18, .int .i64 ((k : Nat) : Int))]) (fun (k : Nat) => fun _ => True) (fun (k : Nat) => [(g2, 95, [.string k2, .string d2, .int .i64 f2, .int .i64 t2, .slice A2 n2 c2]), (g1, 95, [.string k1, .string d1, .int .i64 f1, .int .i64 t1, .slice A1 n1 c1])]) (fun (k : Nat) => []) (fun (k : Nat) => [SlOld lgEnc 9 100 w.heap.size none A1 n1 l1, SlOld lgEnc 9 100 w.heap.size none A2 n2 l2]) (fun (k : Nat) => n1 - k) 0 (Nat.zero_le _) ⟨rfl, rfl, rfl, rfl, rfl, rfl, rfl, trivial⟩ (fun _ hm => hm.pick [0, 1] [] [0, 1] rfl rfl) ?_
  intro k hinv
  replace hinv : k ≤ n1 := hinv
  refine gw_seq ?_
  refine gw_region ?_
  refine wl_ov (ov_lss rfl rfl) rfl ?_
  refine wl_nil ?_
  refine nx_then ?_
  refine gw_seq ?_
  refine gw_cond rfl (fun hh => ?_) (fun hh => ?_)
  · have hk : ((k : Nat) : Int) < ((n1 : Nat) : Int) := by simpa using hh
    clear hh
    refine gw_skip ?_
    refine nx_then ?_
    refine gw_seq ?_
    refine gw_block ?_
    refine gw_seq ?_
    refine gw_region ?_
    obtain ⟨b1, o1, hA, _, _⟩ := h1.get (by omega)
    subst hA
    obtain ⟨x, hx⟩ : ∃ x, l1[k]? = some x := ⟨_, List.getElem?_eq_getElem (by omega)⟩
    obtain ⟨gv, ⟨oa, os, om, of⟩, ⟨ia, is_, im, if_⟩⟩ := x
    have hga := ht1 _ (List.mem_of_getElem? hx)
    obtain ⟨Y, hY⟩ : ∃ Y, Y = outF false (l1.take k) l2 := ⟨_, rfl⟩
    have hYb : 0 ≤ Y ∧ Y ≤ 5761440 := by rw [hY]; exact outF_bound ht2 (tm_take ht1)
    have hYn : outF false (l1.take (k + 1)) l2 = inF false ⟨gv, ⟨oa, os, om, of⟩, ⟨ia, is_, im, if_⟩⟩ l2 Y := by rw [hY]; exact foldl_take hx
    refine wl_set 7 (v' := .int .i64 (repr Y)) rfl (congrArg (fun z => Value.int .i64 (repr z)) hY.symm) ?_
    refine wl_ov (ov_index (j := k) es93 rfl rfl (by omega)) rfl ?_
    refine wl_ov (ov_elem (vs := [.string gv, .int .i64 oa, .string os, .int .i64 om, .int .i64 of, .int .i64 ia, .string is_, .int .i64 im, .int .i64 if_]) rz100 rfl (fun _ hm => (hm.fact 0 rfl).1) hx rfl rfl) rfl ?_
    refine wl_alloc zc100 rfl fun g3 => ?_
    refine wl_stores (cs' := [.string gv, .int .i64 oa, .string os, .int .i64 om, .int .i64 of, .int .i64 ia, .string is_, .int .i64 im, .int .i64 if_]) 0 rz100 rfl rfl rfl rfl rfl rfl rfl rfl ?_
    refine wl_nil ?_
    refine nx_then ?_
    refine gw_seq ?_
    refine gw_region ?_
    refine wl_ov (ov_field fo95_3 rfl rfl) rfl ?_
    refine wl_ov (ov_load sc93 rfl (fun _ hm => hm.blkI 1 rfl) rfl) rfl ?_
    refine wl_ov (ov_len es93 rfl) rfl ?_
    refine wl_ov (ov_move rfl) rfl ?_
    refine wl_nil ?_
    refine nx_then ?_
    refine gw_block ?_
    refine gw_loop (γ := Nat) (fun (j : Nat) => j ≤ n2) (fun (j : Nat) => [(2, .bool false), (4, .pointer (some ⟨g2, 0, none⟩)), (6, .int .i64 0), (7, .int .i64 (repr (inF false ⟨gv, ⟨oa, os, om, of⟩, ⟨ia, is_, im, if_⟩⟩ (l2.take j) Y))), (9, .pointer (some ⟨g3, 0, none⟩)), (16, .slice (some ⟨b1, o1, none⟩) n1 c1), (17, .int .i64 ((n1 : Nat) : Int)), (18, .int .i64 ((k : Nat) : Int)), (23, .slice A2 n2 c2), (24, .int .i64 ((n2 : Nat) : Int)), (25, .int .i64 ((j : Nat) : Int))]) (fun (j : Nat) => fun _ => True) (fun (j : Nat) => [(g3, 100, [.string gv, .int .i64 oa, .string os, .int .i64 om, .int .i64 of, .int .i64 ia, .string is_, .int .i64 im, .int .i64 if_]), (g2, 95, [.string k2, .string d2, .int .i64 f2, .int .i64 t2, .slice A2 n2 c2]), (g1, 95, [.string k1, .string d1, .int .i64 f1, .int .i64 t1, .slice (some ⟨b1, o1, none⟩) n1 c1])]) (fun (j : Nat) => []) (fun (j : Nat) => [SlOld lgEnc 9 100 w.heap.size none (some ⟨b1, o1, none⟩) n1 l1, SlOld lgEnc 9 100 w.heap.size none A2 n2 l2]) (fun (j : Nat) => n2 - j) 0 (Nat.zero_le _) ⟨rfl, rfl, rfl, rfl, rfl, rfl, rfl, rfl, rfl, rfl, rfl, trivial⟩ (fun _ hm => hm.pick [0, 1, 2] [] [0, 1] rfl rfl) ?_
    intro j hinv
    replace hinv : j ≤ n2 := hinv
    refine gw_seq ?_
    refine gw_region ?_
    refine wl_ov (ov_lss rfl rfl) rfl ?_
    refine wl_nil ?_
    refine nx_then ?_
    refine gw_seq ?_
    refine gw_cond rfl (fun hh => ?_) (fun hh => ?_)
    · have hj : ((j : Nat) : Int) < ((n2 : Nat) : Int) := by simpa using hh
      clear hh
      refine gw_skip ?_
      refine nx_then ?_
      refine gw_seq ?_
      refine gw_block ?_
      refine gw_seq ?_
      refine gw_region ?_
      refine wl_look (R := ∃ b off, A2 = some ⟨b, off, none⟩) (fun wx hm => by obtain ⟨b, off, h, _, _⟩ := SlT.get ((hm.fact 1 rfl)).1 (by omega : 0 < n2); exact ⟨b, off, h⟩) ?_
      rintro ⟨b2, o2, rfl⟩
      obtain ⟨y, hy⟩ : ∃ x, l2[j]? = some x := ⟨_, List.getElem?_eq_getElem (by omega)⟩
      obtain ⟨hv, ⟨pa, ps, pm, pf⟩, ⟨ja, js, jm, jf⟩⟩ := y
      have hgb := ht2 _ (List.mem_of_getElem? hy)
      obtain ⟨Q, hQ⟩ : ∃ Q, Q = inF false ⟨gv, ⟨oa, os, om, of⟩, ⟨ia, is_, im, if_⟩⟩ (l2.take j) Y := ⟨_, rfl⟩
      have hQb : 0 ≤ Q ∧ Q ≤ 5761440 := by rw [hQ]; exact inF_bound hga.1 (tm_take ht2) hYb
      have hQn : inF false ⟨gv, ⟨oa, os, om, of⟩, ⟨ia, is_, im, if_⟩⟩ (l2.take (j + 1)) Y = stp false ⟨gv, ⟨oa, os, om, of⟩, ⟨ia, is_, im, if_⟩⟩ ⟨hv, ⟨pa, ps, pm, pf⟩, ⟨ja, js, jm, jf⟩⟩ Q := by rw [hQ]; exact foldl_take hy
      have hrs := repr_stp (fl := false) (g := ⟨gv, ⟨oa, os, om, of⟩, ⟨ia, is_, im, if_⟩⟩) (h := ⟨hv, ⟨pa, ps, pm, pf⟩, ⟨ja, js, jm, jf⟩⟩) hga.1 hgb.1 hQb
      obtain ⟨RQ, hRQ⟩ : ∃ R, R = repr Q := ⟨_, rfl⟩
      rw [← hRQ] at hrs
      refine wl_set 7 (v' := .int .i64 RQ) rfl (congrArg (Value.int .i64) (by rw [hRQ, hQ])) ?_
      refine wl_ov (ov_index (j := j) es93 rfl rfl (by omega)) rfl ?_
      refine wl_ov (ov_elem (vs := [.string hv, .int .i64 pa, .string ps, .int .i64 pm, .int .i64 pf, .int .i64 ja, .string js, .int .i64 jm, .int .i64 jf]) rz100 rfl (fun _ hm => (hm.fact 1 rfl).1) hy rfl rfl) rfl ?_
      refine wl_alloc zc100 rfl fun g4 => ?_
      refine wl_stores (cs' := [.string hv, .int .i64 pa, .string ps, .int .i64 pm, .int .i64 pf, .int .i64 ja, .string js, .int .i64 jm, .int .i64 jf]) 0 rz100 rfl rfl rfl rfl rfl rfl rfl rfl ?_
      refine wl_nil ?_
      refine nx_then ?_
      refine gw_cut (γ := Nat × Nat) (I := (fun (g : Nat × Nat) => True)) (S' := (fun (g : Nat × Nat) => [(2, .bool false), (4, .pointer (some ⟨g2, 0, none⟩)), (6, .int .i64 0), (7, .int .i64 RQ), (9, .pointer (some ⟨g3, 0, none⟩)), (11, .pointer (some ⟨g4, 0, none⟩)), (12, .pointer (some ⟨g.1, 0, none⟩)), (13, .pointer (some ⟨g.2, 0, none⟩)), (16, .slice (some ⟨b1, o1, none⟩) n1 c1), (17, .int .i64 ((n1 : Nat) : Int)), (18, .int .i64 ((k : Nat) : Int)), (23, .slice (some ⟨b2, o2, none⟩) n2 c2), (24, .int .i64 ((n2 : Nat) : Int)), (25, .int .i64 ((j : Nat) : Int))])) (K' := (fun (g : Nat × Nat) => fun _ => True)) (L' := (fun (g : Nat × Nat) => [(g4, 100, [.string hv, .int .i64 pa, .string ps, .int .i64 pm, .int .i64 pf, .int .i64 ja, .string js, .int .i64 jm, .int .i64 jf]), (g3, 100, [.string gv, .int .i64 oa, .string os, .int .i64 om, .int .i64 of, .int .i64 ia, .string is_, .int .i64 im, .int .i64 if_]), (g2, 95, [.string k2, .string d2, .int .i64 f2, .int .i64 t2, .slice (some ⟨b2, o2, none⟩) n2 c2]), (g1, 95, [.string k1, .string d1, .int .i64 f1, .int .i64 t1, .slice (some ⟨b1, o1, none⟩) n1 c1]), (g.1, 56, [.int .i64 (lastA ⟨gv, ⟨oa, os, om, of⟩, ⟨ia, is_, im, if_⟩⟩), .int .i64 (lastB ⟨gv, ⟨oa, os, om, of⟩, ⟨ia, is_, im, if_⟩⟩)]), (g.2, 56, [.int .i64 (lastA ⟨hv, ⟨pa, ps, pm, pf⟩, ⟨ja, js, jm, jf⟩⟩), .int .i64 (lastB ⟨hv, ⟨pa, ps, pm, pf⟩, ⟨ja, js, jm, jf⟩⟩)])])) (O' := (fun (g : Nat × Nat) => [])) (X' := (fun (g : Nat × Nat) => [SlOld lgEnc 9 100 w.heap.size none (some ⟨b1, o1, none⟩) n1 l1, SlOld lgEnc 9 100 w.heap.size none (some ⟨b2, o2, none⟩) n2 l2])) ?_ ?_
      · refine gw_draw (fun wz => Blk wz g4 100 [.string hv, .int .i64 pa, .string ps, .int .i64 pm, .int .i64 pf, .int .i64 ja, .string js, .int .i64 jm, .int .i64 jf] ∧ Blk wz g3 100 [.string gv, .int .i64 oa, .string os, .int .i64 om, .int .i64 of, .int .i64 ia, .string is_, .int .i64 im, .int .i64 if_] ∧ Blk wz g2 95 [.string k2, .string d2, .int .i64 f2, .int .i64 t2, .slice (some ⟨b2, o2, none⟩) n2 c2] ∧ Blk wz g1 95 [.string k1, .string d1, .int .i64 f1, .int .i64 t1, .slice (some ⟨b1, o1, none⟩) n1 c1] ∧ (SlOld lgEnc 9 100 w.heap.size none (some ⟨b1, o1, none⟩) n1 l1) wz ∧ (SlOld lgEnc 9 100 w.heap.size none (some ⟨b2, o2, none⟩) n2 l2) wz ∧ True) mixed ?_
        refine wa_take 0 rfl (by kernel_rfl) (by kernel_rfl) (by kernel_rfl) (listed' := #[true, false, false, false, false, false, false, false]) rfl (fun _ _ _ h => h) (fun _ hm => ⟨hm.blkI 0 rfl, hm.blkI 1 rfl, hm.blkI 2 rfl, hm.blkI 3 rfl, hm.fact 0 rfl, hm.fact 1 rfl, trivial⟩) (ov_loads rz100 rfl (fun _ hm => hm.2.1) rfl rfl) rfl ?_
        refine wa_take 2 rfl (by kernel_rfl) (by kernel_rfl) (by kernel_rfl) (listed' := #[true, false, true, false, false, false, false, false]) rfl (fun _ _ _ h => h) (fun _ hm => ⟨hm.blkI 0 rfl, hm.blkI 1 rfl, hm.blkI 2 rfl, hm.blkI 3 rfl, hm.fact 0 rfl, hm.fact 1 rfl, trivial⟩) (ov_loads rz100 rfl (fun _ hm => hm.1) rfl rfl) rfl ?_
        refine wa_all [1, 4, 5] (by kernel_rfl) rfl ⟨⟨_, rfl, ?_⟩, ⟨_, rfl, ?_⟩, ⟨_, rfl, ?_⟩, trivial⟩
        · refine wl_callv rfl cb126 rfl rfl (fun wx hm => (lasts_any gv oa os om of ia is_ im if_ wx)) ?_
          refine wl_nil ?_
          refine nx_wa0 (listed' := #[true, true, true, false, false, false, false, false]) rfl (fun _ hm => ⟨hm.blkI 0 rfl, hm.blkI 1 rfl, hm.blkI 2 rfl, hm.blkI 3 rfl, hm.fact 0 rfl, hm.fact 1 rfl, trivial⟩) ?_
          refine wa_all [3, 4, 5] (by kernel_rfl) rfl ⟨⟨_, rfl, ?_⟩, ⟨_, rfl, ?_⟩, ⟨_, rfl, ?_⟩, trivial⟩
          · refine wl_callv rfl cb126 rfl rfl (fun wx hm => (lasts_any hv pa ps pm pf ja js jm jf wx)) ?_
            refine wl_nil ?_
            refine nx_wa0 (listed' := #[true, true, true, true, false, false, false, false]) rfl (fun _ hm => ⟨hm.blkI 0 rfl, hm.blkI 1 rfl, hm.blkI 2 rfl, hm.blkI 3 rfl, hm.fact 0 rfl, hm.fact 1 rfl, trivial⟩) ?_
            refine wa_all [4, 5] (by kernel_rfl) rfl ⟨⟨_, rfl, ?_⟩, ⟨_, rfl, ?_⟩, trivial⟩
            · refine wl_alloc zc56 rfl fun g5 => ?_
              refine wl_nil ?_
              refine nx_wa0 (listed' := #[true, true, true, true, true, false, false, false]) rfl (fun _ hm => ⟨hm.blkI 1 rfl, hm.blkI 2 rfl, hm.blkI 3 rfl, hm.blkI 4 rfl, hm.fact 0 rfl, hm.fact 1 rfl, trivial⟩) ?_
              refine wa_all [5] (by kernel_rfl) rfl ⟨⟨_, rfl, ?_⟩, trivial⟩
              refine wl_alloc zc56 rfl fun g6 => ?_
              refine wl_nil ?_
              refine nx_wa0 (listed' := #[true, true, true, true, true, true, false, false]) rfl (fun _ hm => ⟨hm.blkI 2 rfl, hm.blkI 3 rfl, hm.blkI 4 rfl, hm.blkI 5 rfl, hm.fact 0 rfl, hm.fact 1 rfl, trivial⟩) ?_
              refine wa_all [6] (by kernel_rfl) rfl ⟨⟨_, rfl, ?_⟩, trivial⟩
              refine wl_stores (cs' := [.int .i64 (lastA ⟨gv, ⟨oa, os, om, of⟩, ⟨ia, is_, im, if_⟩⟩), .int .i64 (lastB ⟨gv, ⟨oa, os, om, of⟩, ⟨ia, is_, im, if_⟩⟩)]) 1 rz56 rfl rfl rfl rfl rfl rfl rfl rfl ?_
              refine wl_nil ?_
              refine nx_wa0 (listed' := #[true, true, true, true, true, true, true, false]) rfl (fun _ hm => ⟨hm.blkI 2 rfl, hm.blkI 3 rfl, hm.blkI 4 rfl, hm.blkI 5 rfl, hm.fact 0 rfl, hm.fact 1 rfl, trivial⟩) ?_
              refine wa_all [7] (by kernel_rfl) rfl ⟨⟨_, rfl, ?_⟩, trivial⟩
              refine wl_stores (cs' := [.int .i64 (lastA ⟨hv, ⟨pa, ps, pm, pf⟩, ⟨ja, js, jm, jf⟩⟩), .int .i64 (lastB ⟨hv, ⟨pa, ps, pm, pf⟩, ⟨ja, js, jm, jf⟩⟩)]) 0 rz56 rfl rfl rfl rfl rfl rfl rfl rfl ?_
              refine wl_nil ?_
              refine nx_wa0 (listed' := #[true, true, true, true, true, true, true, true]) rfl (fun _ hm => ⟨hm.blkI 2 rfl, hm.blkI 3 rfl, hm.blkI 4 rfl, hm.blkI 5 rfl, hm.fact 0 rfl, hm.fact 1 rfl, trivial⟩) ?_
              refine wa_done (by kernel_rfl) ?_
              exact nx_meet (g5, g6) trivial ⟨rfl, rfl, rfl, rfl, rfl, rfl, rfl, rfl, rfl, rfl, rfl, rfl, rfl, rfl, trivial⟩ (fun _ hm => hm.pick [2, 3, 4, 5, 1, 0] [] [0, 1] rfl rfl)
            · refine wl_alloc zc56 rfl fun g7 => ?_
              refine wl_nil ?_
              refine nx_wa0 (listed' := #[true, true, true, true, false, true, false, false]) rfl (fun _ hm => ⟨hm.blkI 1 rfl, hm.blkI 2 rfl, hm.blkI 3 rfl, hm.blkI 4 rfl, hm.fact 0 rfl, hm.fact 1 rfl, trivial⟩) ?_
              refine wa_all [4] (by kernel_rfl) rfl ⟨⟨_, rfl, ?_⟩, trivial⟩
              refine wl_alloc zc56 rfl fun g8 => ?_
              refine wl_nil ?_
              refine nx_wa0 (listed' := #[true, true, true, true, true, true, false, false]) rfl (fun _ hm => ⟨hm.blkI 2 rfl, hm.blkI 3 rfl, hm.blkI 4 rfl, hm.blkI 5 rfl, hm.fact 0 rfl, hm.fact 1 rfl, trivial⟩) ?_
              refine wa_all [6] (by kernel_rfl) rfl ⟨⟨_, rfl, ?_⟩, trivial⟩
              refine wl_stores (cs' := [.int .i64 (lastA ⟨gv, ⟨oa, os, om, of⟩, ⟨ia, is_, im, if_⟩⟩), .int .i64 (lastB ⟨gv, ⟨oa, os, om, of⟩, ⟨ia, is_, im, if_⟩⟩)]) 0 rz56 rfl rfl rfl rfl rfl rfl rfl rfl ?_
              refine wl_nil ?_
              refine nx_wa0 (listed' := #[true, true, true, true, true, true, true, false]) rfl (fun _ hm => ⟨hm.blkI 2 rfl, hm.blkI 3 rfl, hm.blkI 4 rfl, hm.blkI 5 rfl, hm.fact 0 rfl, hm.fact 1 rfl, trivial⟩) ?_
              refine wa_all [7] (by kernel_rfl) rfl ⟨⟨_, rfl, ?_⟩, trivial⟩
              refine wl_stores (cs' := [.int .i64 (lastA ⟨hv, ⟨pa, ps, pm, pf⟩, ⟨ja, js, jm, jf⟩⟩), .int .i64 (lastB ⟨hv, ⟨pa, ps, pm, pf⟩, ⟨ja, js, jm, jf⟩⟩)]) 1 rz56 rfl rfl rfl rfl rfl rfl rfl rfl ?_
              refine wl_nil ?_
              refine nx_wa0 (listed' := #[true, true, true, true, true, true, true, true]) rfl (fun _ hm => ⟨hm.blkI 2 rfl, hm.blkI 3 rfl, hm.blkI 4 rfl, hm.blkI 5 rfl, hm.fact 0 rfl, hm.fact 1 rfl, trivial⟩) ?_
              refine wa_done (by kernel_rfl) ?_
              exact nx_meet (g8, g7) trivial ⟨rfl, rfl, rfl, rfl, rfl, rfl, rfl, rfl, rfl, rfl, rfl, rfl, rfl, rfl, trivial⟩ (fun _ hm => hm.pick [2, 3, 4, 5, 0, 1] [] [0, 1] rfl rfl)
          · refine wl_alloc zc56 rfl fun g9 => ?_
            refine wl_nil ?_
            refine nx_wa0 (listed' := #[true, true, true, false, true, false, false, false]) rfl (fun _ hm => ⟨hm.blkI 1 rfl, hm.blkI 2 rfl, hm.blkI 3 rfl, hm.blkI 4 rfl, hm.fact 0 rfl, hm.fact 1 rfl, trivial⟩) ?_
            refine wa_all [3, 5] (by kernel_rfl) rfl ⟨⟨_, rfl, ?_⟩, ⟨_, rfl, ?_⟩, trivial⟩
            · refine wl_callv rfl cb126 rfl rfl (fun wx hm => (lasts_any hv pa ps pm pf ja js jm jf wx)) ?_
              refine wl_nil ?_
              refine nx_wa0 (listed' := #[true, true, true, true, true, false, false, false]) rfl (fun _ hm => ⟨hm.blkI 1 rfl, hm.blkI 2 rfl, hm.blkI 3 rfl, hm.blkI 4 rfl, hm.fact 0 rfl, hm.fact 1 rfl, trivial⟩) ?_
              refine wa_all [5] (by kernel_rfl) rfl ⟨⟨_, rfl, ?_⟩, trivial⟩
              refine wl_alloc zc56 rfl fun g10 => ?_
              refine wl_nil ?_
              refine nx_wa0 (listed' := #[true, true, true, true, true, true, false, false]) rfl (fun _ hm => ⟨hm.blkI 2 rfl, hm.blkI 3 rfl, hm.blkI 4 rfl, hm.blkI 5 rfl, hm.fact 0 rfl, hm.fact 1 rfl, trivial⟩) ?_
              refine wa_all [6] (by kernel_rfl) rfl ⟨⟨_, rfl, ?_⟩, trivial⟩
              refine wl_stores (cs' := [.int .i64 (lastA ⟨gv, ⟨oa, os, om, of⟩, ⟨ia, is_, im, if_⟩⟩), .int .i64 (lastB ⟨gv, ⟨oa, os, om, of⟩, ⟨ia, is_, im, if_⟩⟩)]) 1 rz56 rfl rfl rfl rfl rfl rfl rfl rfl ?_
              refine wl_nil ?_
              refine nx_wa0 (listed' := #[true, true, true, true, true, true, true, false]) rfl (fun _ hm => ⟨hm.blkI 2 rfl, hm.blkI 3 rfl, hm.blkI 4 rfl, hm.blkI 5 rfl, hm.fact 0 rfl, hm.fact 1 rfl, trivial⟩) ?_
              refine wa_all [7] (by kernel_rfl) rfl ⟨⟨_, rfl, ?_⟩, trivial⟩
              refine wl_stores (cs' := [.int .i64 (lastA ⟨hv, ⟨pa, ps, pm, pf⟩, ⟨ja, js, jm, jf⟩⟩), .int .i64 (lastB ⟨hv, ⟨pa, ps, pm, pf⟩, ⟨ja, js, jm, jf⟩⟩)]) 0 rz56 rfl rfl rfl rfl rfl rfl rfl rfl ?_
              refine wl_nil ?_
              refine nx_wa0 (listed' := #[true, true, true, true, true, true, true, true]) rfl (fun _ hm => ⟨hm.blkI 2 rfl, hm.blkI 3 rfl, hm.blkI 4 rfl, hm.blkI 5 rfl, hm.fact 0 rfl, hm.fact 1 rfl, trivial⟩) ?_
              refine wa_done (by kernel_rfl) ?_
              exact nx_meet (g9, g10) trivial ⟨rfl, rfl, rfl, rfl, rfl, rfl, rfl, rfl, rfl, rfl, rfl, rfl, rfl, rfl, trivial⟩ (fun _ hm => hm.pick [2, 3, 4, 5, 1, 0] [] [0, 1] rfl rfl)
            · refine wl_alloc zc56 rfl fun g11 => ?_
              refine wl_nil ?_
              refine nx_wa0 (listed' := #[true, true, true, false, true, true, false, false]) rfl (fun _ hm => ⟨hm.blkI 2 rfl, hm.blkI 3 rfl, hm.blkI 4 rfl, hm.blkI 5 rfl, hm.fact 0 rfl, hm.fact 1 rfl, trivial⟩) ?_
              refine wa_all [3] (by kernel_rfl) rfl ⟨⟨_, rfl, ?_⟩, trivial⟩
              refine wl_callv rfl cb126 rfl rfl (fun wx hm => (lasts_any hv pa ps pm pf ja js jm jf wx)) ?_
              refine wl_nil ?_
              refine nx_wa0 (listed' := #[true, true, true, true, true, true, false, false]) rfl (fun _ hm => ⟨hm.blkI 2 rfl, hm.blkI 3 rfl, hm.blkI 4 rfl, hm.blkI 5 rfl, hm.fact 0 rfl, hm.fact 1 rfl, trivial⟩) ?_
              refine wa_all [6] (by kernel_rfl) rfl ⟨⟨_, rfl, ?_⟩, trivial⟩
              refine wl_stores (cs' := [.int .i64 (lastA ⟨gv, ⟨oa, os, om, of⟩, ⟨ia, is_, im, if_⟩⟩), .int .i64 (lastB ⟨gv, ⟨oa, os, om, of⟩, ⟨ia, is_, im, if_⟩⟩)]) 1 rz56 rfl rfl rfl rfl rfl rfl rfl rfl ?_
              refine wl_nil ?_
              refine nx_wa0 (listed' := #[true, true, true, true, true, true, true, false]) rfl (fun _ hm => ⟨hm.blkI 2 rfl, hm.blkI 3 rfl, hm.blkI 4 rfl, hm.blkI 5 rfl, hm.fact 0 rfl, hm.fact 1 rfl, trivial⟩) ?_
              refine wa_all [7] (by kernel_rfl) rfl ⟨⟨_, rfl, ?_⟩, trivial⟩
              refine wl_stores (cs' := [.int .i64 (lastA ⟨hv, ⟨pa, ps, pm, pf⟩, ⟨ja, js, jm, jf⟩⟩), .int .i64 (lastB ⟨hv, ⟨pa, ps, pm, pf⟩, ⟨ja, js, jm, jf⟩⟩)]) 0 rz56 rfl rfl rfl rfl rfl rfl rfl rfl ?_
              refine wl_nil ?_
              refine nx_wa0 (listed' := #[true, true, true, true, true, true, true, true]) rfl (fun _ hm => ⟨hm.blkI 2 rfl, hm.blkI 3 rfl, hm.blkI 4 rfl, hm.blkI 5 rfl, hm.fact 0 rfl, hm.fact 1 rfl, trivial⟩) ?_
              refine wa_done (by kernel_rfl) ?_
              exact nx_meet (g9, g11) trivial ⟨rfl, rfl, rfl, rfl, rfl, rfl, rfl, rfl, rfl, rfl, rfl, rfl, rfl, rfl, trivial⟩ (fun _ hm => hm.pick [2, 3, 4, 5, 1, 0] [] [0, 1] rfl rfl)
          · refine wl_alloc zc56 rfl fun g12 => ?_
            refine wl_nil ?_
            refine nx_wa0 (listed' := #[true, true, true, false, false, true, false, false]) rfl (fun _ hm => ⟨hm.blkI 1 rfl, hm.blkI 2 rfl, hm.blkI 3 rfl, hm.blkI 4 rfl, hm.fact 0 rfl, hm.fact 1 rfl, trivial⟩) ?_
            refine wa_all [3, 4] (by kernel_rfl) rfl ⟨⟨_, rfl, ?_⟩, ⟨_, rfl, ?_⟩, trivial⟩
            · refine wl_callv rfl cb126 rfl rfl (fun wx hm => (lasts_any hv pa ps pm pf ja js jm jf wx)) ?_
              refine wl_nil ?_
              refine nx_wa0 (listed' := #[true, true, true, true, false, true, false, false]) rfl (fun _ hm => ⟨hm.blkI 1 rfl, hm.blkI 2 rfl, hm.blkI 3 rfl, hm.blkI 4 rfl, hm.fact 0 rfl, hm.fact 1 rfl, trivial⟩) ?_
              refine wa_all [4] (by kernel_rfl) rfl ⟨⟨_, rfl, ?_⟩, trivial⟩
              refine wl_alloc zc56 rfl fun g13 => ?_
              refine wl_nil ?_
              refine nx_wa0 (listed' := #[true, true, true, true, true, true, false, false]) rfl (fun _ hm => ⟨hm.blkI 2 rfl, hm.blkI 3 rfl, hm.blkI 4 rfl, hm.blkI 5 rfl, hm.fact 0 rfl, hm.fact 1 rfl, trivial⟩) ?_
              refine wa_all [6] (by kernel_rfl) rfl ⟨⟨_, rfl, ?_⟩, trivial⟩
              refine wl_stores (cs' := [.int .i64 (lastA ⟨gv, ⟨oa, os, om, of⟩, ⟨ia, is_, im, if_⟩⟩), .int .i64 (lastB ⟨gv, ⟨oa, os, om, of⟩, ⟨ia, is_, im, if_⟩⟩)]) 0 rz56 rfl rfl rfl rfl rfl rfl rfl rfl ?_
              refine wl_nil ?_
              refine nx_wa0 (listed' := #[true, true, true, true, true, true, true, false]) rfl (fun _ hm => ⟨hm.blkI 2 rfl, hm.blkI 3 rfl, hm.blkI 4 rfl, hm.blkI 5 rfl, hm.fact 0 rfl, hm.fact 1 rfl, trivial⟩) ?_
              refine wa_all [7] (by kernel_rfl) rfl ⟨⟨_, rfl, ?_⟩, trivial⟩
              refine wl_stores (cs' := [.int .i64 (lastA ⟨hv, ⟨pa, ps, pm, pf⟩, ⟨ja, js, jm, jf⟩⟩), .int .i64 (lastB ⟨hv, ⟨pa, ps, pm, pf⟩, ⟨ja, js, jm, jf⟩⟩)]) 1 rz56 rfl rfl rfl rfl rfl rfl rfl rfl ?_
              refine wl_nil ?_
              refine nx_wa0 (listed' := #[true, true, true, true, true, true, true, true]) rfl (fun _ hm => ⟨hm.blkI 2 rfl, hm.blkI 3 rfl, hm.blkI 4 rfl, hm.blkI 5 rfl, hm.fact 0 rfl, hm.fact 1 rfl, trivial⟩) ?_
              refine wa_done (by kernel_rfl) ?_
              exact nx_meet (g13, g12) trivial ⟨rfl, rfl, rfl, rfl, rfl, rfl, rfl, rfl, rfl, rfl, rfl, rfl, rfl, rfl, trivial⟩ (fun _ hm => hm.pick [2, 3, 4, 5, 0, 1] [] [0, 1] rfl rfl)
            · refine wl_alloc zc56 rfl fun g14 => ?_
              refine wl_nil ?_
              refine nx_wa0 (listed' := #[true, true, true, false, true, true, false, false]) rfl (fun _ hm => ⟨hm.blkI 2 rfl, hm.blkI 3 rfl, hm.blkI 4 rfl, hm.blkI 5 rfl, hm.fact 0 rfl, hm.fact 1 rfl, trivial⟩) ?_
              refine wa_all [3] (by kernel_rfl) rfl ⟨⟨_, rfl, ?_⟩, trivial⟩
              refine wl_callv rfl cb126 rfl rfl (fun wx hm => (lasts_any hv pa ps pm pf ja js jm jf wx)) ?_
              refine wl_nil ?_
              refine nx_wa0 (listed' := #[true, true, true, true, true, true, false, false]) rfl (fun _ hm => ⟨hm.blkI 2 rfl, hm.blkI 3 rfl, hm.blkI 4 rfl, hm.blkI 5 rfl, hm.fact 0 rfl, hm.fact 1 rfl, trivial⟩) ?_
              refine wa_all [6] (by kernel_rfl) rfl ⟨⟨_, rfl, ?_⟩, trivial⟩
              refine wl_stores (cs' := [.int .i64 (lastA ⟨gv, ⟨oa, os, om, of⟩, ⟨ia, is_, im, if_⟩⟩), .int .i64 (lastB ⟨gv, ⟨oa, os, om, of⟩, ⟨ia, is_, im, if_⟩⟩)]) 0 rz56 rfl rfl rfl rfl rfl rfl rfl rfl ?_
              refine wl_nil ?_
              refine nx_wa0 (listed' := #[true, true, true, true, true, true, true, false]) rfl (fun _ hm => ⟨hm.blkI 2 rfl, hm.blkI 3 rfl, hm.blkI 4 rfl, hm.blkI 5 rfl, hm.fact 0 rfl, hm.fact 1 rfl, trivial⟩) ?_
              refine wa_all [7] (by kernel_rfl) rfl ⟨⟨_, rfl, ?_⟩, trivial⟩
              refine wl_stores (cs' := [.int .i64 (lastA ⟨hv, ⟨pa, ps, pm, pf⟩, ⟨ja, js, jm, jf⟩⟩), .int .i64 (lastB ⟨hv, ⟨pa, ps, pm, pf⟩, ⟨ja, js, jm, jf⟩⟩)]) 1 rz56 rfl rfl rfl rfl rfl rfl rfl rfl ?_
              refine wl_nil ?_
              refine nx_wa0 (listed' := #[true, true, true, true, true, true, true, true]) rfl (fun _ hm => ⟨hm.blkI 2 rfl, hm.blkI 3 rfl, hm.blkI 4 rfl, hm.blkI 5 rfl, hm.fact 0 rfl, hm.fact 1 rfl, trivial⟩) ?_
              refine wa_done (by kernel_rfl) ?_
              exact nx_meet (g14, g12) trivial ⟨rfl, rfl, rfl, rfl, rfl, rfl, rfl, rfl, rfl, rfl, rfl, rfl, rfl, rfl, trivial⟩ (fun _ hm => hm.pick [2, 3, 4, 5, 0, 1] [] [0, 1] rfl rfl)
        · refine wl_alloc zc56 rfl fun g15 => ?_
          refine wl_nil ?_
          refine nx_wa0 (listed' := #[true, false, true, false, true, false, false, false]) rfl (fun _ hm => ⟨hm.blkI 1 rfl, hm.blkI 2 rfl, hm.blkI 3 rfl, hm.blkI 4 rfl, hm.fact 0 rfl, hm.fact 1 rfl, trivial⟩) ?_
          refine wa_all [1, 5] (by kernel_rfl) rfl ⟨⟨_, rfl, ?_⟩, ⟨_, rfl, ?_⟩, trivial⟩
          · refine wl_callv rfl cb126 rfl rfl (fun wx hm => (lasts_any gv oa os om of ia is_ im if_ wx)) ?_
            refine wl_nil ?_
            refine nx_wa0 (listed' := #[true, true, true, false, true, false, false, false]) rfl (fun _ hm => ⟨hm.blkI 1 rfl, hm.blkI 2 rfl, hm.blkI 3 rfl, hm.blkI 4 rfl, hm.fact 0 rfl, hm.fact 1 rfl, trivial⟩) ?_
            refine wa_all [3, 5] (by kernel_rfl) rfl ⟨⟨_, rfl, ?_⟩, ⟨_, rfl, ?_⟩, trivial⟩
            · refine wl_callv rfl cb126 rfl rfl (fun wx hm => (lasts_any hv pa ps pm pf ja js jm jf wx)) ?_
              refine wl_nil ?_
              refine nx_wa0 (listed' := #[true, true, true, true, true, false, false, false]) rfl (fun _ hm => ⟨hm.blkI 1 rfl, hm.blkI 2 rfl, hm.blkI 3 rfl, hm.blkI 4 rfl, hm.fact 0 rfl, hm.fact 1 rfl, trivial⟩) ?_
              refine wa_all [5] (by kernel_rfl) rfl ⟨⟨_, rfl, ?_⟩, trivial⟩
              refine wl_alloc zc56 rfl fun g16 => ?_
              refine wl_nil ?_
              refine nx_wa0 (listed' := #[true, true, true, true, true, true, false, false]) rfl (fun _ hm => ⟨hm.blkI 2 rfl, hm.blkI 3 rfl, hm.blkI 4 rfl, hm.blkI 5 rfl, hm.fact 0 rfl, hm.fact 1 rfl, trivial⟩) ?_
              refine wa_all [6] (by kernel_rfl) rfl ⟨⟨_, rfl, ?_⟩, trivial⟩
              refine wl_stores (cs' := [.int .i64 (lastA ⟨gv, ⟨oa, os, om, of⟩, ⟨ia, is_, im, if_⟩⟩), .int .i64 (lastB ⟨gv, ⟨oa, os, om, of⟩, ⟨ia, is_, im, if_⟩⟩)]) 1 rz56 rfl rfl rfl rfl rfl rfl rfl rfl ?_
              refine wl_nil ?_
              refine nx_wa0 (listed' := #[true, true, true, true, true, true, true, false]) rfl (fun _ hm => ⟨hm.blkI 2 rfl, hm.blkI 3 rfl, hm.blkI 4 rfl, hm.blkI 5 rfl, hm.fact 0 rfl, hm.fact 1 rfl, trivial⟩) ?_
              refine wa_all [7] (by kernel_rfl) rfl ⟨⟨_, rfl, ?_⟩, trivial⟩
              refine wl_stores (cs' := [.int .i64 (lastA ⟨hv, ⟨pa, ps, pm, pf⟩, ⟨ja, js, jm, jf⟩⟩), .int .i64 (lastB ⟨hv, ⟨pa, ps, pm, pf⟩, ⟨ja, js, jm, jf⟩⟩)]) 0 rz56 rfl rfl rfl rfl rfl rfl rfl rfl ?_
              refine wl_nil ?_
              refine nx_wa0 (listed' := #[true, true, true, true, true, true, true, true]) rfl (fun _ hm => ⟨hm.blkI 2 rfl, hm.blkI 3 rfl, hm.blkI 4 rfl, hm.blkI 5 rfl, hm.fact 0 rfl, hm.fact 1 rfl, trivial⟩) ?_
              refine wa_done (by kernel_rfl) ?_
              exact nx_meet (g15, g16) trivial ⟨rfl, rfl, rfl, rfl, rfl, rfl, rfl, rfl, rfl, rfl, rfl, rfl, rfl, rfl, trivial⟩ (fun _ hm => hm.pick [2, 3, 4, 5, 1, 0] [] [0, 1] rfl rfl)
            · refine wl_alloc zc56 rfl fun g17 => ?_
              refine wl_nil ?_
              refine nx_wa0 (listed' := #[true, true, true, false, true, true, false, false]) rfl (fun _ hm => ⟨hm.blkI 2 rfl, hm.blkI 3 rfl, hm.blkI 4 rfl, hm.blkI 5 rfl, hm.fact 0 rfl, hm.fact 1 rfl, trivial⟩) ?_
              refine wa_all [3] (by kernel_rfl) rfl ⟨⟨_, rfl, ?_⟩, trivial⟩
              refine wl_callv rfl cb126 rfl rfl (fun wx hm => (lasts_any hv pa ps pm pf ja js jm jf wx)) ?_
              refine wl_nil ?_
              refine nx_wa0 (listed' := #[true, true, true, true, true, true, false, false]) rfl (fun _ hm => ⟨hm.blkI 2 rfl, hm.blkI 3 rfl, hm.blkI 4 rfl, hm.blkI 5 rfl, hm.fact 0 rfl, hm.fact 1 rfl, trivial⟩) ?_
              refine wa_all [6] (by kernel_rfl) rfl ⟨⟨_, rfl, ?_⟩, trivial⟩
              refine wl_stores (cs' := [.int .i64 (lastA ⟨gv, ⟨oa, os, om, of⟩, ⟨ia, is_, im, if_⟩⟩), .int .i64 (lastB ⟨gv, ⟨oa, os, om, of⟩, ⟨ia, is_, im, if_⟩⟩)]) 1 rz56 rfl rfl rfl rfl rfl rfl rfl rfl ?_
              refine wl_nil ?_
              refine nx_wa0 (listed' := #[true, true, true, true, true, true, true, false]) rfl (fun _ hm => ⟨hm.blkI 2 rfl, hm.blkI 3 rfl, hm.blkI 4 rfl, hm.blkI 5 rfl, hm.fact 0 rfl, hm.fact 1 rfl, trivial⟩) ?_
              refine wa_all [7] (by kernel_rfl) rfl ⟨⟨_, rfl, ?_⟩, trivial⟩
              refine wl_stores (cs' := [.int .i64 (lastA ⟨hv, ⟨pa, ps, pm, pf⟩, ⟨ja, js, jm, jf⟩⟩), .int .i64 (lastB ⟨hv, ⟨pa, ps, pm, pf⟩, ⟨ja, js, jm, jf⟩⟩)]) 0 rz56 rfl rfl rfl rfl rfl rfl rfl rfl ?_
              refine wl_nil ?_
              refine nx_wa0 (listed' := #[true, true, true, true, true, true, true, true]) rfl (fun _ hm => ⟨hm.blkI 2 rfl, hm.blkI 3 rfl, hm.blkI 4 rfl, hm.blkI 5 rfl, hm.fact 0 rfl, hm.fact 1 rfl, trivial⟩) ?_
              refine wa_done (by kernel_rfl) ?_
              exact nx_meet (g15, g17) trivial ⟨rfl, rfl, rfl, rfl, rfl, rfl, rfl, rfl, rfl, rfl, rfl, rfl, rfl, rfl, trivial⟩ (fun _ hm => hm.pick [2, 3, 4, 5, 1, 0] [] [0, 1] rfl rfl)
          · refine wl_alloc zc56 rfl fun g18 => ?_
            refine wl_nil ?_
            refine nx_wa0 (listed' := #[true, false, true, false, true, true, false, false]) rfl (fun _ hm => ⟨hm.blkI 2 rfl, hm.blkI 3 rfl, hm.blkI 4 rfl, hm.blkI 5 rfl, hm.fact 0 rfl, hm.fact 1 rfl, trivial⟩) ?_
            refine wa_all [1] (by kernel_rfl) rfl ⟨⟨_, rfl, ?_⟩, trivial⟩
            refine wl_callv rfl cb126 rfl rfl (fun wx hm => (lasts_any gv oa os om of ia is_ im if_ wx)) ?_
            refine wl_nil ?_
            refine nx_wa0 (listed' := #[true, true, true, false, true, true, false, false]) rfl (fun _ hm => ⟨hm.blkI 2 rfl, hm.blkI 3 rfl, hm.blkI 4 rfl, hm.blkI 5 rfl, hm.fact 0 rfl, hm.fact 1 rfl, trivial⟩) ?_
            refine wa_all [3] (by kernel_rfl) rfl ⟨⟨_, rfl, ?_⟩, trivial⟩
            refine wl_callv rfl cb126 rfl rfl (fun wx hm => (lasts_any hv pa ps pm pf ja js jm jf wx)) ?_
            refine wl_nil ?_
            refine nx_wa0 (listed' := #[true, true, true, true, true, true, false, false]) rfl (fun _ hm => ⟨hm.blkI 2 rfl, hm.blkI 3 rfl, hm.blkI 4 rfl, hm.blkI 5 rfl, hm.fact 0 rfl, hm.fact 1 rfl, trivial⟩) ?_
            refine wa_all [6] (by kernel_rfl) rfl ⟨⟨_, rfl, ?_⟩, trivial⟩
            refine wl_stores (cs' := [.int .i64 (lastA ⟨gv, ⟨oa, os, om, of⟩, ⟨ia, is_, im, if_⟩⟩), .int .i64 (lastB ⟨gv, ⟨oa, os, om, of⟩, ⟨ia, is_, im, if_⟩⟩)]) 1 rz56 rfl rfl rfl rfl rfl rfl rfl rfl ?_
            refine wl_nil ?_
            refine nx_wa0 (listed' := #[true, true, true, true, true, true, true, false]) rfl (fun _ hm => ⟨hm.blkI 2 rfl, hm.blkI 3 rfl, hm.blkI 4 rfl, hm.blkI 5 rfl, hm.fact 0 rfl, hm.fact 1 rfl, trivial⟩) ?_
            refine wa_all [7] (by kernel_rfl) rfl ⟨⟨_, rfl, ?_⟩, trivial⟩
            refine wl_stores (cs' := [.int .i64 (lastA ⟨hv, ⟨pa, ps, pm, pf⟩, ⟨ja, js, jm, jf⟩⟩), .int .i64 (lastB ⟨hv, ⟨pa, ps, pm, pf⟩, ⟨ja, js, jm, jf⟩⟩)]) 0 rz56 rfl rfl rfl rfl rfl rfl rfl rfl ?_
            refine wl_nil ?_
            refine nx_wa0 (listed' := #[true, true, true, true, true, true, true, true]) rfl (fun _ hm => ⟨hm.blkI 2 rfl, hm.blkI 3 rfl, hm.blkI 4 rfl, hm.blkI 5 rfl, hm.fact 0 rfl, hm.fact 1 rfl, trivial⟩) ?_
            refine wa_done (by kernel_rfl) ?_
            exact nx_meet (g15, g18) trivial ⟨rfl, rfl, rfl, rfl, rfl, rfl, rfl, rfl, rfl, rfl, rfl, rfl, rfl, rfl, trivial⟩ (fun _ hm => hm.pick [2, 3, 4, 5, 1, 0] [] [0, 1] rfl rfl)
        · refine wl_alloc zc56 rfl fun g19 => ?_
          refine wl_nil ?_
          refine nx_wa0 (listed' := #[true, false, true, false, false, true, false, false]) rfl (fun _ hm => ⟨hm.blkI 1 rfl, hm.blkI 2 rfl, hm.blkI 3 rfl, hm.blkI 4 rfl, hm.fact 0 rfl, hm.fact 1 rfl, trivial⟩) ?_
          refine wa_all [1, 4] (by kernel_rfl) rfl ⟨⟨_, rfl, ?_⟩, ⟨_, rfl, ?_⟩, trivial⟩
          · refine wl_callv rfl cb126 rfl rfl (fun wx hm => (lasts_any gv oa os om of ia is_ im if_ wx)) ?_
            refine wl_nil ?_
            refine nx_wa0 (listed' := #[true, true, true, false, false, true, false, false]) rfl (fun _ hm => ⟨hm.blkI 1 rfl, hm.blkI 2 rfl, hm.blkI 3 rfl, hm.blkI 4 rfl, hm.fact 0 rfl, hm.fact 1 rfl, trivial⟩) ?_
            refine wa_all [3, 4] (by kernel_rfl) rfl ⟨⟨_, rfl, ?_⟩, ⟨_, rfl, ?_⟩, trivial⟩
            · refine wl_callv rfl cb126 rfl rfl (fun wx hm => (lasts_any hv pa ps pm pf ja js jm jf wx)) ?_
              refine wl_nil ?_
              refine nx_wa0 (listed' := #[true, true, true, true, false, true, false, false]) rfl (fun _ hm => ⟨hm.blkI 1 rfl, hm.blkI 2 rfl, hm.blkI 3 rfl, hm.blkI 4 rfl, hm.fact 0 rfl, hm.fact 1 rfl, trivial⟩) ?_
              refine wa_all [4] (by kernel_rfl) rfl ⟨⟨_, rfl, ?_⟩, trivial⟩
              refine wl_alloc zc56 rfl fun g20 => ?_
              refine wl_nil ?_
              refine nx_wa0 (listed' := #[true, true, true, true, true, true, false, false]) rfl (fun _ hm => ⟨hm.blkI 2 rfl, hm.blkI 3 rfl, hm.blkI 4 rfl, hm.blkI 5 rfl, hm.fact 0 rfl, hm.fact 1 rfl, trivial⟩) ?_
              refine wa_all [6] (by kernel_rfl) rfl ⟨⟨_, rfl, ?_⟩, trivial⟩
              refine wl_stores (cs' := [.int .i64 (lastA ⟨gv, ⟨oa, os, om, of⟩, ⟨ia, is_, im, if_⟩⟩), .int .i64 (lastB ⟨gv, ⟨oa, os, om, of⟩, ⟨ia, is_, im, if_⟩⟩)]) 0 rz56 rfl rfl rfl rfl rfl rfl rfl rfl ?_
              refine wl_nil ?_
              refine nx_wa0 (listed' := #[true, true, true, true, true, true, true, false]) rfl (fun _ hm => ⟨hm.blkI 2 rfl, hm.blkI 3 rfl, hm.blkI 4 rfl, hm.blkI 5 rfl, hm.fact 0 rfl, hm.fact 1 rfl, trivial⟩) ?_
              refine wa_all [7] (by kernel_rfl) rfl ⟨⟨_, rfl, ?_⟩, trivial⟩
              refine wl_stores (cs' := [.int .i64 (lastA ⟨hv, ⟨pa, ps, pm, pf⟩, ⟨ja, js, jm, jf⟩⟩), .int .i64 (lastB ⟨hv, ⟨pa, ps, pm, pf⟩, ⟨ja, js, jm, jf⟩⟩)]) 1 rz56 rfl rfl rfl rfl rfl rfl rfl rfl ?_
              refine wl_nil ?_
              refine nx_wa0 (listed' := #[true, true, true, true, true, true, true, true]) rfl (fun _ hm => ⟨hm.blkI 2 rfl, hm.blkI 3 rfl, hm.blkI 4 rfl, hm.blkI 5 rfl, hm.fact 0 rfl, hm.fact 1 rfl, trivial⟩) ?_
              refine wa_done (by kernel_rfl) ?_
              exact nx_meet (g20, g19) trivial ⟨rfl, rfl, rfl, rfl, rfl, rfl, rfl, rfl, rfl, rfl, rfl, rfl, rfl, rfl, trivial⟩ (fun _ hm => hm.pick [2, 3, 4, 5, 0, 1] [] [0, 1] rfl rfl)
            · refine wl_alloc zc56 rfl fun g21 => ?_
              refine wl_nil ?_
              refine nx_wa0 (listed' := #[true, true, true, false, true, true, false, false]) rfl (fun _ hm => ⟨hm.blkI 2 rfl, hm.blkI 3 rfl, hm.blkI 4 rfl, hm.blkI 5 rfl, hm.fact 0 rfl, hm.fact 1 rfl, trivial⟩) ?_
              refine wa_all [3] (by kernel_rfl) rfl ⟨⟨_, rfl, ?_⟩, trivial⟩
              refine wl_callv rfl cb126 rfl rfl (fun wx hm => (lasts_any hv pa ps pm pf ja js jm jf wx)) ?_
              refine wl_nil ?_
              refine nx_wa0 (listed' := #[true, true, true, true, true, true, false, false]) rfl (fun _ hm => ⟨hm.blkI 2 rfl, hm.blkI 3 rfl, hm.blkI 4 rfl, hm.blkI 5 rfl, hm.fact 0 rfl, hm.fact 1 rfl, trivial⟩) ?_
              refine wa_all [6] (by kernel_rfl) rfl ⟨⟨_, rfl, ?_⟩, trivial⟩
              refine wl_stores (cs' := [.int .i64 (lastA ⟨gv, ⟨oa, os, om, of⟩, ⟨ia, is_, im, if_⟩⟩), .int .i64 (lastB ⟨gv, ⟨oa, os, om, of⟩, ⟨ia, is_, im, if_⟩⟩)]) 0 rz56 rfl rfl rfl rfl rfl rfl rfl rfl ?_
              refine wl_nil ?_
              refine nx_wa0 (listed' := #[true, true, true, true, true, true, true, false]) rfl (fun _ hm => ⟨hm.blkI 2 rfl, hm.blkI 3 rfl, hm.blkI 4 rfl, hm.blkI 5 rfl, hm.fact 0 rfl, hm.fact 1 rfl, trivial⟩) ?_
              refine wa_all [7] (by kernel_rfl) rfl ⟨⟨_, rfl, ?_⟩, trivial⟩
              refine wl_stores (cs' := [.int .i64 (lastA ⟨hv, ⟨pa, ps, pm, pf⟩, ⟨ja, js, jm, jf⟩⟩), .int .i64 (lastB ⟨hv, ⟨pa, ps, pm, pf⟩, ⟨ja, js, jm, jf⟩⟩)]) 1 rz56 rfl rfl rfl rfl rfl rfl rfl rfl ?_
              refine wl_nil ?_
              refine nx_wa0 (listed' := #[true, true, true, true, true, true, true, true]) rfl (fun _ hm => ⟨hm.blkI 2 rfl, hm.blkI 3 rfl, hm.blkI 4 rfl, hm.blkI 5 rfl, hm.fact 0 rfl, hm.fact 1 rfl, trivial⟩) ?_
              refine wa_done (by kernel_rfl) ?_
              exact nx_meet (g21, g19) trivial ⟨rfl, rfl, rfl, rfl, rfl, rfl, rfl, rfl, rfl, rfl, rfl, rfl, rfl, rfl, trivial⟩ (fun _ hm => hm.pick [2, 3, 4, 5, 0, 1] [] [0, 1] rfl rfl)
          · refine wl_alloc zc56 rfl fun g22 => ?_
            refine wl_nil ?_
            refine nx_wa0 (listed' := #[true, false, true, false, true, true, false, false]) rfl (fun _ hm => ⟨hm.blkI 2 rfl, hm.blkI 3 rfl, hm.blkI 4 rfl, hm.blkI 5 rfl, hm.fact 0 rfl, hm.fact 1 rfl, trivial⟩) ?_
            refine wa_all [1] (by kernel_rfl) rfl ⟨⟨_, rfl, ?_⟩, trivial⟩
            refine wl_callv rfl cb126 rfl rfl (fun wx hm => (lasts_any gv oa os om of ia is_ im if_ wx)) ?_
            refine wl_nil ?_
            refine nx_wa0 (listed' := #[true, true, true, false, true, true, false, false]) rfl (fun _ hm => ⟨hm.blkI 2 rfl, hm.blkI 3 rfl, hm.blkI 4 rfl, hm.blkI 5 rfl, hm.fact 0 rfl, hm.fact 1 rfl, trivial⟩) ?_
            refine wa_all [3] (by kernel_rfl) rfl ⟨⟨_, rfl, ?_⟩, trivial⟩
            refine wl_callv rfl cb126 rfl rfl (fun wx hm => (lasts_any hv pa ps pm pf ja js jm jf wx)) ?_
            refine wl_nil ?_
            refine nx_wa0 (listed' := #[true, true, true, true, true, true, false, false]) rfl (fun _ hm => ⟨hm.blkI 2 rfl, hm.blkI 3 rfl, hm.blkI 4 rfl, hm.blkI 5 rfl, hm.fact 0 rfl, hm.fact 1 rfl, trivial⟩) ?_
            refine wa_all [6] (by kernel_rfl) rfl ⟨⟨_, rfl, ?_⟩, trivial⟩
            refine wl_stores (cs' := [.int .i64 (lastA ⟨gv, ⟨oa, os, om, of⟩, ⟨ia, is_, im, if_⟩⟩), .int .i64 (lastB ⟨gv, ⟨oa, os, om, of⟩, ⟨ia, is_, im, if_⟩⟩)]) 0 rz56 rfl rfl rfl rfl rfl rfl rfl rfl ?_
            refine wl_nil ?_
            refine nx_wa0 (listed' := #[true, true, true, true, true, true, true, false]) rfl (fun _ hm => ⟨hm.blkI 2 rfl, hm.blkI 3 rfl, hm.blkI 4 rfl, hm.blkI 5 rfl, hm.fact 0 rfl, hm.fact 1 rfl, trivial⟩) ?_
            refine wa_all [7] (by kernel_rfl) rfl ⟨⟨_, rfl, ?_⟩, trivial⟩
            refine wl_stores (cs' := [.int .i64 (lastA ⟨hv, ⟨pa, ps, pm, pf⟩, ⟨ja, js, jm, jf⟩⟩), .int .i64 (lastB ⟨hv, ⟨pa, ps, pm, pf⟩, ⟨ja, js, jm, jf⟩⟩)]) 1 rz56 rfl rfl rfl rfl rfl rfl rfl rfl ?_
            refine wl_nil ?_
            refine nx_wa0 (listed' := #[true, true, true, true, true, true, true, true]) rfl (fun _ hm => ⟨hm.blkI 2 rfl, hm.blkI 3 rfl, hm.blkI 4 rfl, hm.blkI 5 rfl, hm.fact 0 rfl, hm.fact 1 rfl, trivial⟩) ?_
            refine wa_done (by kernel_rfl) ?_
            exact nx_meet (g22, g19) trivial ⟨rfl, rfl, rfl, rfl, rfl, rfl, rfl, rfl, rfl, rfl, rfl, rfl, rfl, rfl, trivial⟩ (fun _ hm => hm.pick [2, 3, 4, 5, 0, 1] [] [0, 1] rfl rfl)
      · rintro ⟨gwa, gwb⟩ hinv
        replace hinv : True := hinv
        dsimp only
        refine gw_seq ?_
        refine gw_region ?_
        clear hinv
        obtain ⟨SP, hSP⟩ : ∃ S, S = startP ⟨gv, ⟨oa, os, om, of⟩, ⟨ia, is_, im, if_⟩⟩ ⟨hv, ⟨pa, ps, pm, pf⟩, ⟨ja, js, jm, jf⟩⟩ := ⟨_, rfl⟩
        rw [← hSP] at hrs
        refine wl_ov (ov_field fo56_0 rfl rfl) rfl ?_
        refine wl_ov (ov_load sc3 rfl (fun _ hm => hm.blkI 4 rfl) rfl) rfl ?_
        refine wl_ov (ov_field fo56_0 rfl rfl) rfl ?_
        refine wl_ov (ov_load sc3 rfl (fun _ hm => hm.blkI 5 rfl) rfl) rfl ?_
        refine wl_ov (ov_max rfl rfl) rfl ?_
        refine wl_set 37 (v' := .int .i64 SP) rfl (congrArg (Value.int .i64) hSP.symm) ?_
        refine wl_ov (ov_assign rfl) rfl ?_
        refine wl_nil ?_
        refine nx_then ?_
        refine gw_seq ?_
        refine gw_region ?_
        refine wl_ov (ov_move rfl) rfl ?_
        refine wl_ov (ov_un_not rfl) rfl ?_
        refine wl_set 39 (v' := .bool true) rfl (congrArg Value.bool (by decide)) ?_
        refine wl_ov (ov_move rfl) rfl ?_
        refine wl_guard_off rfl rfl rfl (by decide) rfl ?_
        refine wl_guard_off rfl rfl rfl (by decide) rfl ?_
        refine wl_guard_off rfl rfl rfl (by decide) rfl ?_
        refine wl_guard_off rfl rfl rfl (by decide) rfl ?_
        refine wl_guard_off rfl rfl rfl (by decide) rfl ?_
        refine wl_ov (ov_pick_t rfl rfl) rfl ?_
        refine wl_ov (ov_move rfl) rfl ?_
        refine wl_guard_on rfl rfl rfl ?_
        refine wl_ov (ov_move rfl) rfl ?_
        refine wl_guard_on rfl rfl rfl ?_
        refine wl_ov (ov_field fo56_1 rfl rfl) rfl ?_
        refine wl_guard_on rfl rfl rfl ?_
        refine wl_ov (ov_load sc3 rfl (fun _ hm => hm.blkI 4 rfl) rfl) rfl ?_
        refine wl_guard_on rfl rfl rfl ?_
        refine wl_ov (ov_field fo56_1 rfl rfl) rfl ?_
        refine wl_guard_on rfl rfl rfl ?_
        refine wl_ov (ov_load sc3 rfl (fun _ hm => hm.blkI 5 rfl) rfl) rfl ?_
        refine wl_guard_on rfl rfl rfl ?_
        refine wl_ov (ov_min rfl rfl) rfl ?_
        refine wl_guard_on rfl rfl rfl ?_
        refine wl_ov (ov_lss rfl rfl) rfl ?_
        refine wl_ov (ov_pick_t rfl rfl) rfl ?_
        refine wl_ov (ov_move rfl) rfl ?_
        rcases Bool.eq_false_or_eq_true (decide (SP < min (lastB ⟨gv, ⟨oa, os, om, of⟩, ⟨ia, is_, im, if_⟩⟩) (lastB ⟨hv, ⟨pa, ps, pm, pf⟩, ⟨ja, js, jm, jf⟩⟩))) with h2 | h2
        · refine wl_set 56 rfl (congrArg Value.bool h2) ?_
          replace h2 := of_decide_eq_true h2
          refine wl_guard_on rfl rfl rfl ?_
          refine wl_ov (ov_move rfl) rfl ?_
          refine wl_guard_on rfl rfl rfl ?_
          refine wl_ov (ov_lss rfl rfl) rfl ?_
          refine wl_guard_on rfl rfl rfl ?_
          refine wl_ov (ov_move rfl) rfl ?_
          rcases Bool.eq_false_or_eq_true (decide (RQ < 0)) with h3 | h3
          · refine wl_set 59 rfl (congrArg Value.bool h3) ?_
            replace h3 := of_decide_eq_true h3
            refine wl_guard_off rfl rfl rfl (by decide) rfl ?_
            refine wl_guard_off rfl rfl rfl (by decide) rfl ?_
            refine wl_guard_off rfl rfl rfl (by decide) rfl ?_
            refine wl_guard_on rfl rfl rfl ?_
            refine wl_ov (ov_pick_t rfl rfl) rfl ?_
            refine wl_ov (ov_pick_t rfl rfl) rfl ?_
            refine wl_nil ?_
            refine nx_then ?_
            refine gw_cond rfl (fun _ => ?_) (fun hh => by cases hh)
            refine gw_region ?_
            refine wl_ov (ov_move rfl) rfl ?_
            refine wl_ov (ov_assign rfl) rfl ?_
            refine wl_nil ?_
            refine nx_blk_nrm ?_
            refine nx_then ?_
            refine gw_region ?_
            refine wl_ov (ov_add rfl rfl (by omega) (by omega)) rfl ?_
            refine wl_ov (ov_move rfl) rfl ?_
            refine wl_nil ?_
            have hok : okP false ⟨gv, ⟨oa, os, om, of⟩, ⟨ia, is_, im, if_⟩⟩ ⟨hv, ⟨pa, ps, pm, pf⟩, ⟨ja, js, jm, jf⟩⟩ = true := by unfold okP; rw [← hSP]; rw [decide_eq_true (show SP < min (lastB ⟨gv, ⟨oa, os, om, of⟩, ⟨ia, is_, im, if_⟩⟩) (lastB ⟨hv, ⟨pa, ps, pm, pf⟩, ⟨ja, js, jm, jf⟩⟩) from h2)]; rfl
            rw [hok] at hrs
            have hv : repr (inF false ⟨gv, ⟨oa, os, om, of⟩, ⟨ia, is_, im, if_⟩⟩ (l2.take (j + 1)) Y) = SP := by rw [hQn, hrs]; rw [if_pos ⟨rfl, .inl h3⟩]
            exact nx_round (j + 1) (by omega) (by omega) ⟨rfl, rfl, rfl, (some_int hv.symm), rfl, rfl, rfl, rfl, rfl, rfl, (some_int (by omega)), trivial⟩ (fun _ hm => hm.pick [1, 2, 3] [] [0, 1] rfl rfl)
          · refine wl_set 59 rfl (congrArg Value.bool h3) ?_
            replace h3 := of_decide_eq_false h3
            refine wl_guard_on rfl rfl rfl ?_
            refine wl_ov (ov_move rfl) rfl ?_
            refine wl_guard_on rfl rfl rfl ?_
            refine wl_ov (ov_move rfl) rfl ?_
            refine wl_guard_on rfl rfl rfl ?_
            refine wl_ov (ov_lss rfl rfl) rfl ?_
            refine wl_guard_on rfl rfl rfl ?_
            refine wl_ov (ov_pick_f rfl rfl) rfl ?_
            refine wl_ov (ov_pick_t rfl rfl) rfl ?_
            refine wl_nil ?_
            refine nx_then ?_
            refine gw_cond rfl (fun hh => ?_) (fun hh => ?_)
            · have h4 : SP < RQ := by simpa using hh
              clear hh
              refine gw_region ?_
              refine wl_ov (ov_move rfl) rfl ?_
              refine wl_ov (ov_assign rfl) rfl ?_
              refine wl_nil ?_
              refine nx_blk_nrm ?_
              refine nx_then ?_
              refine gw_region ?_
              refine wl_ov (ov_add rfl rfl (by omega) (by omega)) rfl ?_
              refine wl_ov (ov_move rfl) rfl ?_
              refine wl_nil ?_
              have hok : okP false ⟨gv, ⟨oa, os, om, of⟩, ⟨ia, is_, im, if_⟩⟩ ⟨hv, ⟨pa, ps, pm, pf⟩, ⟨ja, js, jm, jf⟩⟩ = true := by unfold okP; rw [← hSP]; rw [decide_eq_true (show SP < min (lastB ⟨gv, ⟨oa, os, om, of⟩, ⟨ia, is_, im, if_⟩⟩) (lastB ⟨hv, ⟨pa, ps, pm, pf⟩, ⟨ja, js, jm, jf⟩⟩) from h2)]; rfl
              rw [hok] at hrs
              have hv : repr (inF false ⟨gv, ⟨oa, os, om, of⟩, ⟨ia, is_, im, if_⟩⟩ (l2.take (j + 1)) Y) = SP := by rw [hQn, hrs]; rw [if_pos ⟨rfl, .inr h4⟩]
              exact nx_round (j + 1) (by omega) (by omega) ⟨rfl, rfl, rfl, (some_int hv.symm), rfl, rfl, rfl, rfl, rfl, rfl, (some_int (by omega)), trivial⟩ (fun _ hm => hm.pick [1, 2, 3] [] [0, 1] rfl rfl)
            · have h4 : ¬ (SP < RQ) := by simpa using hh
              clear hh
              refine gw_skip ?_
              refine nx_blk_nrm ?_
              refine nx_then ?_
              refine gw_region ?_
              refine wl_ov (ov_add rfl rfl (by omega) (by omega)) rfl ?_
              refine wl_ov (ov_move rfl) rfl ?_
              refine wl_nil ?_
              have hok : okP false ⟨gv, ⟨oa, os, om, of⟩, ⟨ia, is_, im, if_⟩⟩ ⟨hv, ⟨pa, ps, pm, pf⟩, ⟨ja, js, jm, jf⟩⟩ = true := by unfold okP; rw [← hSP]; rw [decide_eq_true (show SP < min (lastB ⟨gv, ⟨oa, os, om, of⟩, ⟨ia, is_, im, if_⟩⟩) (lastB ⟨hv, ⟨pa, ps, pm, pf⟩, ⟨ja, js, jm, jf⟩⟩) from h2)]; rfl
              rw [hok] at hrs
              have hv : repr (inF false ⟨gv, ⟨oa, os, om, of⟩, ⟨ia, is_, im, if_⟩⟩ (l2.take (j + 1)) Y) = RQ := by rw [hQn, hrs]; rw [if_neg (fun h => h.2.elim h3 h4)]
              exact nx_round (j + 1) (by omega) (by omega) ⟨rfl, rfl, rfl, (some_int hv.symm), rfl, rfl, rfl, rfl, rfl, rfl, (some_int (by omega)), trivial⟩ (fun _ hm => hm.pick [1, 2, 3] [] [0, 1] rfl rfl)
        · refine wl_set 56 rfl (congrArg Value.bool h2) ?_
          replace h2 := of_decide_eq_false h2
          refine wl_guard_off rfl rfl rfl (by decide) rfl ?_
          refine wl_guard_off rfl rfl rfl (by decide) rfl ?_
          refine wl_guard_off rfl rfl rfl (by decide) rfl ?_
          refine wl_guard_undef rfl rfl rfl rfl ?_
          refine wl_guard_undef rfl rfl rfl rfl ?_
          refine wl_guard_undef rfl rfl rfl rfl ?_
          refine wl_guard_off rfl rfl rfl (by decide) rfl ?_
          refine wl_ov (ov_pick_f rfl rfl) rfl ?_
          refine wl_nil ?_
          refine nx_then ?_
          refine gw_cond rfl (fun hh => by cases hh) (fun _ => ?_)
          refine gw_skip ?_
          refine nx_blk_nrm ?_
          refine nx_then ?_
          refine gw_region ?_
          refine wl_ov (ov_add rfl rfl (by omega) (by omega)) rfl ?_
          refine wl_ov (ov_move rfl) rfl ?_
          refine wl_nil ?_
          have hok : okP false ⟨gv, ⟨oa, os, om, of⟩, ⟨ia, is_, im, if_⟩⟩ ⟨hv, ⟨pa, ps, pm, pf⟩, ⟨ja, js, jm, jf⟩⟩ = false := by unfold okP; rw [← hSP]; rw [decide_eq_false (show ¬ SP < min (lastB ⟨gv, ⟨oa, os, om, of⟩, ⟨ia, is_, im, if_⟩⟩) (lastB ⟨hv, ⟨pa, ps, pm, pf⟩, ⟨ja, js, jm, jf⟩⟩) from h2)]; simp
          rw [hok] at hrs
          have hv : repr (inF false ⟨gv, ⟨oa, os, om, of⟩, ⟨ia, is_, im, if_⟩⟩ (l2.take (j + 1)) Y) = RQ := by rw [hQn, hrs]; simp
          exact nx_round (j + 1) (by omega) (by omega) ⟨rfl, rfl, rfl, (some_int hv.symm), rfl, rfl, rfl, rfl, rfl, rfl, (some_int (by omega)), trivial⟩ (fun _ hm => hm.pick [1, 2, 3] [] [0, 1] rfl rfl)
    · have hj : ¬ (((j : Nat) : Int) < ((n2 : Nat) : Int)) := by simpa using hh
      clear hh
      refine gw_exit ?_
      refine nx_then_exit ?_
      refine nx_then_exit ?_
      refine nx_blk_here ?_
      refine nx_blk_nrm ?_
      refine nx_then ?_
      refine gw_region ?_
      have hjn : l2.take j = l2 := List.take_of_length_le (by omega)
      refine wl_ov (ov_add rfl rfl (by omega) (by omega)) rfl ?_
      refine wl_ov (ov_move rfl) rfl ?_
      refine wl_nil ?_
      exact nx_round (k + 1) (by omega) (by omega) ⟨rfl, rfl, rfl, (some_int (by rw [hYn, hjn])), rfl, rfl, (some_int (by omega)), trivial⟩ (fun _ hm => hm.pick [1, 2] [] [0, 1] rfl rfl)
  · have hk : ¬ (((k : Nat) : Int) < ((n1 : Nat) : Int)) := by simpa using hh
    clear hh
    refine gw_exit ?_
    refine nx_then_exit ?_
    refine nx_then_exit ?_
    refine nx_blk_here ?_
    refine nx_then ?_
    refine gw_seq ?_
    refine gw_region ?_
    have hkn : l1.take k = l1 := List.take_of_length_le (by omega)
    refine wl_ov (ov_move rfl) rfl ?_
    refine wl_ov (ov_assign rfl) rfl ?_
    refine wl_nil ?_
    refine nx_then ?_
    refine gw_ret ?_
    refine nx_ret1 rfl rfl fun wx hm => ?_
    exact ⟨ret_int (by rw [hkn]), hm.g⟩

end Go.Proofs.YtmpomocahgcebaaDoor
