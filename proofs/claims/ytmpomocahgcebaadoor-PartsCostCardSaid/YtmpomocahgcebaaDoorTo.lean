/- Extras: the checks, the costs, the generator. -/
import Derived.Test.YtmpomocahgcebaaDoorTd
import Derived.Test.YtmpomocahgcebaaDoorPv
import Derived.Test.YtmpomocahgcebaaDoorGb
import Derived.Test.YtmpomocahgcebaaDoorSe
namespace Go.Proofs.YtmpomocahgcebaaDoor
open Go.RowKit

structure Ex where
  key : ByteArray
  once : Int
  day : Int
  most : Int
def exEnc (x : Ex) : List Value := [.string x.key, .int .i64 x.once, .int .i64 x.day, .int .i64 x.most]
theorem exEnc_len (x : Ex) : (exEnc x).length = 4 := rfl
def ExOk (x : Ex) : Prop := x.key.size ≤ 1000000
def leEx (p : Option Ex) (b : Ex) : Bool := match p with
  | none => false
  | some q => leB b.key q.key
def exE (p : Option Ex) (b : Ex) : Int := if !keyB b.key then 5 else if leEx p b then 7 else if !inB b.once 0 1000000 then 1 else if !inB b.day 0 1000000 then 1 else if !inB b.most (-1) 1000000 then 1 else 0
def extrasE (l : List Ex) : Int := if 30 < l.length then 2 else scanE exE none l
def prevEx (l : List Ex) (k : Nat) : ByteArray := match prevOf l k with
  | none => ⟨#[]⟩
  | some q => q.key
theorem prevEx_succ {l : List Ex} {k : Nat} {x : Ex} (h : l[k]? = some x) : prevEx l (k + 1) = x.key := by
  unfold prevEx prevOf; rw [if_neg (by omega), Nat.add_sub_cancel, h]
theorem prevEx_le {l : List Ex} {k : Nat} {b : Ex} (h : keyB b.key = true) : leB b.key (prevEx l k) = leEx (prevOf l k) b := by
  unfold prevEx leEx
  cases prevOf l k with
  | none => exact key_low h
  | some q => rfl

set_option maxRecDepth 100000 in
set_option maxHeartbeats 1000000 in
theorem checkExtras_any (l : List Ex) (A : Option Addr) (n c : Nat) (w : World) (hl : SlT exEnc 4 197 w A n l) (hok : ∀ b ∈ l, ExOk b) (hn : n ≤ 1000000) :
    Calls Tryd.prog 72 #[.slice A n c] w (GotE w (extrasE l)) := by
  refine gw_enter ⟨52, w, none, []⟩ Tryd.func72 rfl Tryd.ntmps72 rfl (mem0 (X := [SlOld exEnc 4 197 w.heap.size none A n l]) (allF_cons hl.old allF_nil) (allL_cons SlOld.lasts allL_nil)) ?_
  refine gw_seq ?_
  refine gw_region ?_
  have hlen := hl.len
  refine wl_ov (ov_assign rfl) rfl ?_
  refine wl_nil ?_
  refine nx_then ?_
  refine gw_seq ?_
  refine gw_seq ?_
  refine gw_region ?_
  refine wl_ov (ov_move rfl) rfl ?_
  refine wl_ov (ov_len es113 rfl) rfl ?_
  refine wl_ov (ov_gtr rfl rfl) rfl ?_
  refine wl_nil ?_
  refine nx_then ?_
  refine gw_cond rfl (fun hh => ?_) (fun hh => ?_)
  · have h1 : 30 < ((n : Nat) : Int) := by simpa using hh
    clear hh
    refine gw_seq ?_
    refine gw_region ?_
    refine wl_ov (ov_assign rfl) rfl ?_
    refine wl_nil ?_
    refine nx_then ?_
    refine gw_ret ?_
    refine nx_then_ret ?_
    refine nx_ret1 rfl rfl fun wx hm => ?_
    exact ⟨ret_int (by unfold extrasE; rw [if_pos (by omega)]), hm.g⟩
  · have h1 : ¬ (30 < ((n : Nat) : Int)) := by simpa using hh
    clear hh
    refine gw_skip ?_
    refine nx_then ?_
    refine gw_seq ?_
    refine gw_seq ?_
    refine gw_region ?_
    refine wl_ov (ov_move rfl) rfl ?_
    refine wl_ov (ov_len es113 rfl) rfl ?_
    refine wl_ov (ov_move rfl) rfl ?_
    refine wl_nil ?_
    refine nx_then ?_
    refine gw_block ?_
    refine gw_loop (γ := Nat) (fun (k : Nat) => k ≤ n ∧ extrasE l = scanE exE (prevOf l k) (l.drop k)) (fun (k : Nat) => [(0, .slice A n c), (8, .slice A n c), (9, .int .i64 ((n : Nat) : Int)), (10, .int .i64 ((k : Nat) : Int))]) (fun (k : Nat) => fun _ => True) (fun (k : Nat) => []) (fun (k : Nat) => []) (fun (k : Nat) => [SlOld exEnc 4 197 w.heap.size none A n l]) (fun (k : Nat) => n - k) 0 ⟨Nat.zero_le _, by unfold extrasE; rw [if_neg (by omega)]; rfl⟩ ⟨rfl, rfl, rfl, rfl, trivial⟩ (fun _ hm => hm.pick [] [] [0] rfl rfl) ?_
    intro k hinv
    replace hinv : k ≤ n ∧ extrasE l = scanE exE (prevOf l k) (l.drop k) := hinv
    refine gw_seq ?_
    refine gw_region ?_
    refine wl_ov (ov_lss rfl rfl) rfl ?_
    refine wl_nil ?_
    refine nx_then ?_
    refine gw_seq ?_
    refine gw_cond rfl (fun hh => ?_) (fun hh => ?_)
    · have hk : ((k : Nat) : Int) < ((n : Nat) : Int) := by simpa using hh
      clear hh
      refine gw_skip ?_
      refine nx_then ?_
      refine gw_seq ?_
      refine gw_block ?_
      refine gw_seq ?_
      refine gw_region ?_
      obtain ⟨b, off, hA, _, _⟩ := hl.get (by omega)
      subst hA
      obtain ⟨x, hx⟩ : ∃ x, l[k]? = some x := ⟨_, List.getElem?_eq_getElem (by omega)⟩
      obtain ⟨ke, on, dy, mo⟩ := x
      have hat := scanE_at exE l k _ hx
      have hk1 : ke.size ≤ 1000000 := hok _ (List.mem_of_getElem? hx)
      refine wl_ov (ov_move rfl) rfl ?_
      refine wl_ov (ov_index (j := k) es113 rfl rfl (by omega)) rfl ?_
      refine wl_ov (ov_elem (vs := [.string ke, .int .i64 on, .int .i64 dy, .int .i64 mo]) rz197 rfl (fun _ hm => (hm.fact 0 rfl).1) hx rfl rfl) rfl ?_
      refine wl_alloc zc197 rfl fun g1 => ?_
      refine wl_ov (ov_assign rfl) rfl ?_
      refine wl_stores (cs' := [.string ke, .int .i64 on, .int .i64 dy, .int .i64 mo]) 0 rz197 rfl rfl rfl rfl rfl rfl rfl rfl ?_
      refine wl_nil ?_
      refine nx_then ?_
      refine gw_block ?_
      refine gw_seq ?_
      refine gw_region ?_
      refine wl_ov (ov_field fo197_0 rfl rfl) rfl ?_
      refine wl_ov (ov_load sc9 rfl (fun _ hm => hm.blkI 0 rfl) rfl) rfl ?_
      refine wl_callw rfl cb106 rfl rfl (fun wx hm => (isKey_any _ wx (by omega))) ?_
      refine wl_ov (ov_un_not rfl) rfl ?_
      refine wl_ov (ov_assign rfl) rfl ?_
      refine wl_nil ?_
      refine nx_then ?_
      refine gw_cond rfl (fun hh => ?_) (fun hh => ?_)
      · have h2 : (keyB ke) = false := by simpa using hh
        clear hh
        refine gw_seq ?_
        refine gw_region ?_
        refine wl_ov (ov_assign rfl) rfl ?_
        refine wl_nil ?_
        refine nx_then ?_
        refine gw_ret ?_
        refine nx_blk_ret ?_
        refine nx_blk_ret ?_
        refine nx_then_ret ?_
        refine nx_then_ret ?_
        refine nx_blk_ret ?_
        refine nx_then_ret ?_
        have hE : exE (prevOf l k) ⟨ke, on, dy, mo⟩ = 5 := by unfold exE; simp [h2]
        refine nx_ret1 rfl rfl fun wx hm => ?_
        exact ⟨ret_int (by rw [hinv.2, hat, if_neg (by rw [hE]; decide), hE]), hm.g⟩
      · have h2 : (keyB ke) = true := by simpa using hh
        clear hh
        refine gw_seq ?_
        by_cases hk0 : k = 0
        · have hO : leEx (prevOf l k) ⟨ke, on, dy, mo⟩ = false := by rw [prevOf_zero hk0]; rfl
          refine gw_draw (fun wz => Blk wz g1 197 [.string ke, .int .i64 on, .int .i64 dy, .int .i64 mo] ∧ (SlOld exEnc 4 197 w.heap.size none (some ⟨b, off, none⟩) n l) wz ∧ True) mixed ?_
          refine wa_take 0 rfl (by kernel_rfl) (by kernel_rfl) (by kernel_rfl) (listed' := #[true, false, false, false, false, false, false, false, false, false, false, false, false, false]) rfl (fun _ _ _ h => h) (fun _ hm => ⟨hm.blkI 0 rfl, hm.fact 0 rfl, trivial⟩) (ov_move rfl) rfl ?_
          refine wa_take 1 rfl (by kernel_rfl) (by kernel_rfl) (by kernel_rfl) (listed' := #[true, true, false, false, false, false, false, false, false, false, false, false, false, false]) rfl (fun _ _ _ h => h) (fun _ hm => ⟨hm.blkI 0 rfl, hm.fact 0 rfl, trivial⟩) (ov_gtr rfl rfl) rfl ?_
          refine wa_set 22 (v' := .bool false) rfl (congrArg Value.bool (decide_eq_false (by omega))) ?_
          refine wa_take 2 rfl (by kernel_rfl) (by kernel_rfl) (by kernel_rfl) (listed' := #[true, true, true, false, false, false, false, false, false, false, false, false, false, false]) rfl (fun _ _ _ h => h) (fun _ hm => ⟨hm.blkI 0 rfl, hm.fact 0 rfl, trivial⟩) (ov_move rfl) rfl ?_
          refine wa_take_off 3 rfl rfl rfl (by decide) (by kernel_rfl) (by kernel_rfl) (by kernel_rfl) (listed' := #[true, true, true, true, false, false, false, false, false, false, false, false, false, false]) rfl (fun _ _ _ h => h) (fun _ hm => ⟨hm.blkI 0 rfl, hm.fact 0 rfl, trivial⟩) rfl ?_
          refine wa_take_off 4 rfl rfl rfl (by decide) (by kernel_rfl) (by kernel_rfl) (by kernel_rfl) (listed' := #[true, true, true, true, true, false, false, false, false, false, false, false, false, false]) rfl (fun _ _ _ h => h) (fun _ hm => ⟨hm.blkI 0 rfl, hm.fact 0 rfl, trivial⟩) rfl ?_
          refine wa_take_off 5 rfl rfl rfl (by decide) (by kernel_rfl) (by kernel_rfl) (by kernel_rfl) (listed' := #[true, true, true, true, true, true, false, false, false, false, false, false, false, false]) rfl (fun _ _ _ h => h) (fun _ hm => ⟨hm.blkI 0 rfl, hm.fact 0 rfl, trivial⟩) rfl ?_
          refine wa_take_off 6 rfl rfl rfl (by decide) (by kernel_rfl) (by kernel_rfl) (by kernel_rfl) (listed' := #[true, true, true, true, true, true, true, false, false, false, false, false, false, false]) rfl (fun _ _ _ h => h) (fun _ hm => ⟨hm.blkI 0 rfl, hm.fact 0 rfl, trivial⟩) rfl ?_
          refine wa_take_off 7 rfl rfl rfl (by decide) (by kernel_rfl) (by kernel_rfl) (by kernel_rfl) (listed' := #[true, true, true, true, true, true, true, true, false, false, false, false, false, false]) rfl (fun _ _ _ h => h) (fun _ hm => ⟨hm.blkI 0 rfl, hm.fact 0 rfl, trivial⟩) rfl ?_
          refine wa_take_off 8 rfl rfl rfl (by decide) (by kernel_rfl) (by kernel_rfl) (by kernel_rfl) (listed' := #[true, true, true, true, true, true, true, true, true, false, false, false, false, false]) rfl (fun _ _ _ h => h) (fun _ hm => ⟨hm.blkI 0 rfl, hm.fact 0 rfl, trivial⟩) rfl ?_
          refine wa_take_off 9 rfl rfl rfl (by decide) (by kernel_rfl) (by kernel_rfl) (by kernel_rfl) (listed' := #[true, true, true, true, true, true, true, true, true, true, false, false, false, false]) rfl (fun _ _ _ h => h) (fun _ hm => ⟨hm.blkI 0 rfl, hm.fact 0 rfl, trivial⟩) rfl ?_
          refine wa_take_off 10 rfl rfl rfl (by decide) (by kernel_rfl) (by kernel_rfl) (by kernel_rfl) (listed' := #[true, true, true, true, true, true, true, true, true, true, true, false, false, false]) rfl (fun _ _ _ h => h) (fun _ hm => ⟨hm.blkI 0 rfl, hm.fact 0 rfl, trivial⟩) rfl ?_
          refine wa_take_off 11 rfl rfl rfl (by decide) (by kernel_rfl) (by kernel_rfl) (by kernel_rfl) (listed' := #[true, true, true, true, true, true, true, true, true, true, true, true, false, false]) rfl (fun _ _ _ h => h) (fun _ hm => ⟨hm.blkI 0 rfl, hm.fact 0 rfl, trivial⟩) rfl ?_
          refine wa_take 12 rfl (by kernel_rfl) (by kernel_rfl) (by kernel_rfl) (listed' := #[true, true, true, true, true, true, true, true, true, true, true, true, true, false]) rfl (fun _ _ _ h => h) (fun _ hm => ⟨hm.blkI 0 rfl, hm.fact 0 rfl, trivial⟩) (ov_pick_f rfl rfl) rfl ?_
          refine wa_take 13 rfl (by kernel_rfl) (by kernel_rfl) (by kernel_rfl) (listed' := #[true, true, true, true, true, true, true, true, true, true, true, true, true, true]) rfl (fun _ _ _ h => h) (fun _ hm => ⟨hm.blkI 0 rfl, hm.fact 0 rfl, trivial⟩) (ov_assign rfl) rfl ?_
          refine wa_done (by kernel_rfl) ?_
          refine nx_then ?_
          refine gw_cond rfl (fun hh => by cases hh) (fun _ => ?_)
          refine gw_seq ?_
          refine gw_region ?_
          refine wl_ov (ov_field fo197_1 rfl rfl) rfl ?_
          refine wl_ov (ov_load sc3 rfl (fun _ hm => hm.blkI 0 rfl) rfl) rfl ?_
          refine wl_callw rfl cb99 rfl rfl (fun wx hm => (in_any _ _ _ wx)) ?_
          refine wl_ov (ov_un_not rfl) rfl ?_
          refine wl_ov (ov_move rfl) rfl ?_
          rcases Bool.eq_false_or_eq_true (!(inB on 0 1000000)) with h4 | h4
          · refine wl_set 39 rfl (congrArg Value.bool h4) ?_
            refine wl_guard_off rfl rfl rfl (by decide) rfl ?_
            refine wl_guard_off rfl rfl rfl (by decide) rfl ?_
            refine wl_guard_off rfl rfl rfl (by decide) rfl ?_
            refine wl_guard_off rfl rfl rfl (by decide) rfl ?_
            refine wl_ov (ov_pick_t rfl rfl) rfl ?_
            refine wl_ov (ov_move rfl) rfl ?_
            refine wl_guard_off rfl rfl rfl (by decide) rfl ?_
            refine wl_guard_off rfl rfl rfl (by decide) rfl ?_
            refine wl_guard_off rfl rfl rfl (by decide) rfl ?_
            refine wl_guard_off rfl rfl rfl (by decide) rfl ?_
            refine wl_ov (ov_pick_t rfl rfl) rfl ?_
            refine wl_ov (ov_assign rfl) rfl ?_
            refine wl_nil ?_
            refine nx_then ?_
            refine gw_cond rfl (fun _ => ?_) (fun hh => by cases hh)
            refine gw_seq ?_
            refine gw_region ?_
            refine wl_ov (ov_assign rfl) rfl ?_
            refine wl_nil ?_
            refine nx_then ?_
            refine gw_ret ?_
            refine nx_blk_ret ?_
            refine nx_blk_ret ?_
            refine nx_then_ret ?_
            refine nx_then_ret ?_
            refine nx_blk_ret ?_
            refine nx_then_ret ?_
            have hE : exE (prevOf l k) ⟨ke, on, dy, mo⟩ = 1 := by unfold exE; simp [h2, hO, h4]
            refine nx_ret1 rfl rfl fun wx hm => ?_
            exact ⟨ret_int (by rw [hinv.2, hat, if_neg (by rw [hE]; decide), hE]), hm.g⟩
          · refine wl_set 39 rfl (congrArg Value.bool h4) ?_
            refine wl_guard_on rfl rfl rfl ?_
            refine wl_ov (ov_field fo197_2 rfl rfl) rfl ?_
            refine wl_guard_on rfl rfl rfl ?_
            refine wl_ov (ov_load sc3 rfl (fun _ hm => hm.blkI 0 rfl) rfl) rfl ?_
            refine wl_guard_on rfl rfl rfl ?_
            refine wl_callw rfl cb99 rfl rfl (fun wx hm => (in_any _ _ _ wx)) ?_
            refine wl_guard_on rfl rfl rfl ?_
            refine wl_ov (ov_un_not rfl) rfl ?_
            refine wl_ov (ov_pick_f rfl rfl) rfl ?_
            refine wl_ov (ov_move rfl) rfl ?_
            rcases Bool.eq_false_or_eq_true (!(inB dy 0 1000000)) with h5 | h5
            · refine wl_set 45 rfl (congrArg Value.bool h5) ?_
              refine wl_guard_off rfl rfl rfl (by decide) rfl ?_
              refine wl_guard_off rfl rfl rfl (by decide) rfl ?_
              refine wl_guard_off rfl rfl rfl (by decide) rfl ?_
              refine wl_guard_off rfl rfl rfl (by decide) rfl ?_
              refine wl_ov (ov_pick_t rfl rfl) rfl ?_
              refine wl_ov (ov_assign rfl) rfl ?_
              refine wl_nil ?_
              refine nx_then ?_
              refine gw_cond rfl (fun _ => ?_) (fun hh => by cases hh)
              refine gw_seq ?_
              refine gw_region ?_
              refine wl_ov (ov_assign rfl) rfl ?_
              refine wl_nil ?_
              refine nx_then ?_
              refine gw_ret ?_
              refine nx_blk_ret ?_
              refine nx_blk_ret ?_
              refine nx_then_ret ?_
              refine nx_then_ret ?_
              refine nx_blk_ret ?_
              refine nx_then_ret ?_
              have hE : exE (prevOf l k) ⟨ke, on, dy, mo⟩ = 1 := by unfold exE; simp [h2, hO, h4, h5]
              refine nx_ret1 rfl rfl fun wx hm => ?_
              exact ⟨ret_int (by rw [hinv.2, hat, if_neg (by rw [hE]; decide), hE]), hm.g⟩
            · refine wl_set 45 rfl (congrArg Value.bool h5) ?_
              refine wl_guard_on rfl rfl rfl ?_
              refine wl_ov (ov_field fo197_3 rfl rfl) rfl ?_
              refine wl_guard_on rfl rfl rfl ?_
              refine wl_ov (ov_load sc3 rfl (fun _ hm => hm.blkI 0 rfl) rfl) rfl ?_
              refine wl_guard_on rfl rfl rfl ?_
              refine wl_callw rfl cb99 rfl rfl (fun wx hm => (in_any _ _ _ wx)) ?_
              refine wl_guard_on rfl rfl rfl ?_
              refine wl_ov (ov_un_not rfl) rfl ?_
              refine wl_ov (ov_pick_f rfl rfl) rfl ?_
              refine wl_ov (ov_assign rfl) rfl ?_
              refine wl_nil ?_
              refine nx_then ?_
              refine gw_cond rfl (fun hh => ?_) (fun hh => ?_)
              · have h6 : (inB mo (-1) 1000000) = false := by simpa using hh
                clear hh
                refine gw_seq ?_
                refine gw_region ?_
                refine wl_ov (ov_assign rfl) rfl ?_
                refine wl_nil ?_
                refine nx_then ?_
                refine gw_ret ?_
                refine nx_blk_ret ?_
                refine nx_blk_ret ?_
                refine nx_then_ret ?_
                refine nx_then_ret ?_
                refine nx_blk_ret ?_
                refine nx_then_ret ?_
                have hE : exE (prevOf l k) ⟨ke, on, dy, mo⟩ = 1 := by unfold exE; simp [h2, hO, h4, h5, h6]
                refine nx_ret1 rfl rfl fun wx hm => ?_
                exact ⟨ret_int (by rw [hinv.2, hat, if_neg (by rw [hE]; decide), hE]), hm.g⟩
              · have h6 : (inB mo (-1) 1000000) = true := by simpa using hh
                clear hh
                refine gw_skip ?_
                refine nx_blk_nrm ?_
                refine nx_blk_nrm ?_
                refine nx_then ?_
                refine gw_region ?_
                have hE : exE (prevOf l k) ⟨ke, on, dy, mo⟩ = 0 := by unfold exE; simp [h2, hO, h4, h5, h6]
                refine wl_ov (ov_add rfl rfl (by omega) (by omega)) rfl ?_
                refine wl_ov (ov_move rfl) rfl ?_
                refine wl_nil ?_
                exact nx_round (k + 1) ⟨by omega, by rw [hinv.2, hat, if_pos hE]⟩ (by omega) ⟨rfl, rfl, rfl, (some_int (by omega)), trivial⟩ (fun _ hm => hm.pick [] [] [0] rfl rfl)
        · obtain ⟨y, hy⟩ : ∃ x, l[k - 1]? = some x := ⟨_, List.getElem?_eq_getElem (by omega)⟩
          obtain ⟨p0, p1, p2, p3⟩ := y
          refine gw_draw (fun wz => Blk wz g1 197 [.string ke, .int .i64 on, .int .i64 dy, .int .i64 mo] ∧ (SlOld exEnc 4 197 w.heap.size none (some ⟨b, off, none⟩) n l) wz ∧ True) mixed ?_
          refine wa_take 0 rfl (by kernel_rfl) (by kernel_rfl) (by kernel_rfl) (listed' := #[true, false, false, false, false, false, false, false, false, false, false, false, false, false]) rfl (fun _ _ _ h => h) (fun _ hm => ⟨hm.blkI 0 rfl, hm.fact 0 rfl, trivial⟩) (ov_move rfl) rfl ?_
          refine wa_take 1 rfl (by kernel_rfl) (by kernel_rfl) (by kernel_rfl) (listed' := #[true, true, false, false, false, false, false, false, false, false, false, false, false, false]) rfl (fun _ _ _ h => h) (fun _ hm => ⟨hm.blkI 0 rfl, hm.fact 0 rfl, trivial⟩) (ov_gtr rfl rfl) rfl ?_
          refine wa_set 22 (v' := .bool true) rfl (congrArg Value.bool (decide_eq_true (by omega))) ?_
          refine wa_take 2 rfl (by kernel_rfl) (by kernel_rfl) (by kernel_rfl) (listed' := #[true, true, true, false, false, false, false, false, false, false, false, false, false, false]) rfl (fun _ _ _ h => h) (fun _ hm => ⟨hm.blkI 0 rfl, hm.fact 0 rfl, trivial⟩) (ov_move rfl) rfl ?_
          refine wa_take_on 3 rfl rfl rfl (by kernel_rfl) (by kernel_rfl) (by kernel_rfl) (listed' := #[true, true, true, true, false, false, false, false, false, false, false, false, false, false]) rfl (fun _ _ _ h => h) (fun _ hm => ⟨hm.blkI 0 rfl, hm.fact 0 rfl, trivial⟩) (ov_field fo197_0 rfl rfl) rfl ?_
          refine wa_take_on 4 rfl rfl rfl (by kernel_rfl) (by kernel_rfl) (by kernel_rfl) (listed' := #[true, true, true, true, true, false, false, false, false, false, false, false, false, false]) rfl (fun _ _ _ h => h) (fun _ hm => ⟨hm.blkI 0 rfl, hm.fact 0 rfl, trivial⟩) (ov_load sc9 rfl (fun _ hm => hm.1) rfl) rfl ?_
          refine wa_take_on 5 rfl rfl rfl (by kernel_rfl) (by kernel_rfl) (by kernel_rfl) (listed' := #[true, true, true, true, true, true, false, false, false, false, false, false, false, false]) rfl (fun _ _ _ h => h) (fun _ hm => ⟨hm.blkI 0 rfl, hm.fact 0 rfl, trivial⟩) (ov_move rfl) rfl ?_
          refine wa_take_on 6 rfl rfl rfl (by kernel_rfl) (by kernel_rfl) (by kernel_rfl) (listed' := #[true, true, true, true, true, true, true, false, false, false, false, false, false, false]) rfl (fun _ _ _ h => h) (fun _ hm => ⟨hm.blkI 0 rfl, hm.fact 0 rfl, trivial⟩) (ov_move rfl) rfl ?_
          refine wa_take_on 7 rfl rfl rfl (by kernel_rfl) (by kernel_rfl) (by kernel_rfl) (listed' := #[true, true, true, true, true, true, true, true, false, false, false, false, false, false]) rfl (fun _ _ _ h => h) (fun _ hm => ⟨hm.blkI 0 rfl, hm.fact 0 rfl, trivial⟩) (ov_sub rfl rfl (by omega) (by omega)) rfl ?_
          refine wa_set 28 (v' := .int .i64 ((k - 1 : Nat) : Int)) rfl (congrArg (Value.int .i64) (by omega)) ?_
          refine wa_take_on 8 rfl rfl rfl (by kernel_rfl) (by kernel_rfl) (by kernel_rfl) (listed' := #[true, true, true, true, true, true, true, true, true, false, false, false, false, false]) rfl (fun _ _ _ h => h) (fun _ hm => ⟨hm.blkI 0 rfl, hm.fact 0 rfl, trivial⟩) (ov_index (j := k - 1) es113 rfl rfl (by omega)) rfl ?_
          refine wa_take_on 9 rfl rfl rfl (by kernel_rfl) (by kernel_rfl) (by kernel_rfl) (listed' := #[true, true, true, true, true, true, true, true, true, true, false, false, false, false]) rfl (fun _ _ _ h => h) (fun _ hm => ⟨hm.blkI 0 rfl, hm.fact 0 rfl, trivial⟩) (ov_field fo197_0 rfl rfl) rfl ?_
          refine wa_take_on 10 rfl rfl rfl (by kernel_rfl) (by kernel_rfl) (by kernel_rfl) (listed' := #[true, true, true, true, true, true, true, true, true, true, true, false, false, false]) rfl (fun _ _ _ h => h) (fun _ hm => ⟨hm.blkI 0 rfl, hm.fact 0 rfl, trivial⟩) (ov_elem1 (k := 0) (v := .string p0) sc9 rfl (fun _ hm => (hm.2.1).1) hy rfl rfl) rfl ?_
          refine wa_take_on 11 rfl rfl rfl (by kernel_rfl) (by kernel_rfl) (by kernel_rfl) (listed' := #[true, true, true, true, true, true, true, true, true, true, true, true, false, false]) rfl (fun _ _ _ h => h) (fun _ hm => ⟨hm.blkI 0 rfl, hm.fact 0 rfl, trivial⟩) (ov_sleq rfl rfl) rfl ?_
          refine wa_take 12 rfl (by kernel_rfl) (by kernel_rfl) (by kernel_rfl) (listed' := #[true, true, true, true, true, true, true, true, true, true, true, true, true, false]) rfl (fun _ _ _ h => h) (fun _ hm => ⟨hm.blkI 0 rfl, hm.fact 0 rfl, trivial⟩) (ov_pick_t rfl rfl) rfl ?_
          refine wa_take 13 rfl (by kernel_rfl) (by kernel_rfl) (by kernel_rfl) (listed' := #[true, true, true, true, true, true, true, true, true, true, true, true, true, true]) rfl (fun _ _ _ h => h) (fun _ hm => ⟨hm.blkI 0 rfl, hm.fact 0 rfl, trivial⟩) (ov_assign rfl) rfl ?_
          refine wa_done (by kernel_rfl) ?_
          refine nx_then ?_
          refine gw_cond rfl (fun hh => ?_) (fun hh => ?_)
          · have h9 : (Op.bytesLess ke.toList p0.toList || ke.toList == p0.toList) = true := by simpa using hh
            clear hh
            refine gw_seq ?_
            refine gw_region ?_
            have hO : leEx (prevOf l k) ⟨ke, on, dy, mo⟩ = true := by rw [prevOf_pos hk0 hy]; exact h9
            refine wl_ov (ov_assign rfl) rfl ?_
            refine wl_nil ?_
            refine nx_then ?_
            refine gw_ret ?_
            refine nx_blk_ret ?_
            refine nx_blk_ret ?_
            refine nx_then_ret ?_
            refine nx_then_ret ?_
            refine nx_blk_ret ?_
            refine nx_then_ret ?_
            have hE : exE (prevOf l k) ⟨ke, on, dy, mo⟩ = 7 := by unfold exE; simp [h2, hO]
            refine nx_ret1 rfl rfl fun wx hm => ?_
            exact ⟨ret_int (by rw [hinv.2, hat, if_neg (by rw [hE]; decide), hE]), hm.g⟩
          · have h9 : (Op.bytesLess ke.toList p0.toList || ke.toList == p0.toList) = false := by simpa using hh
            clear hh
            refine gw_seq ?_
            refine gw_region ?_
            have hO : leEx (prevOf l k) ⟨ke, on, dy, mo⟩ = false := by rw [prevOf_pos hk0 hy]; exact h9
            refine wl_ov (ov_field fo197_1 rfl rfl) rfl ?_
            refine wl_ov (ov_load sc3 rfl (fun _ hm => hm.blkI 0 rfl) rfl) rfl ?_
            refine wl_callw rfl cb99 rfl rfl (fun wx hm => (in_any _ _ _ wx)) ?_
            refine wl_ov (ov_un_not rfl) rfl ?_
            refine wl_ov (ov_move rfl) rfl ?_
            rcases Bool.eq_false_or_eq_true (!(inB on 0 1000000)) with h4 | h4
            · refine wl_set 39 rfl (congrArg Value.bool h4) ?_
              refine wl_guard_off rfl rfl rfl (by decide) rfl ?_
              refine wl_guard_off rfl rfl rfl (by decide) rfl ?_
              refine wl_guard_off rfl rfl rfl (by decide) rfl ?_
              refine wl_guard_off rfl rfl rfl (by decide) rfl ?_
              refine wl_ov (ov_pick_t rfl rfl) rfl ?_
              refine wl_ov (ov_move rfl) rfl ?_
              refine wl_guard_off rfl rfl rfl (by decide) rfl ?_
              refine wl_guard_off rfl rfl rfl (by decide) rfl ?_
              refine wl_guard_off rfl rfl rfl (by decide) rfl ?_
              refine wl_guard_off rfl rfl rfl (by decide) rfl ?_
              refine wl_ov (ov_pick_t rfl rfl) rfl ?_
              refine wl_ov (ov_assign rfl) rfl ?_
              refine wl_nil ?_
              refine nx_then ?_
              refine gw_cond rfl (fun _ => ?_) (fun hh => by cases hh)
              refine gw_seq ?_
              refine gw_region ?_
              refine wl_ov (ov_assign rfl) rfl ?_
              refine wl_nil ?_
              refine nx_then ?_
              refine gw_ret ?_
              refine nx_blk_ret ?_
              refine nx_blk_ret ?_
              refine nx_then_ret ?_
              refine nx_then_ret ?_
              refine nx_blk_ret ?_
              refine nx_then_ret ?_
              have hE : exE (prevOf l k) ⟨ke, on, dy, mo⟩ = 1 := by unfold exE; simp [h2, hO, h4]
              refine nx_ret1 rfl rfl fun wx hm => ?_
              exact ⟨ret_int (by rw [hinv.2, hat, if_neg (by rw [hE]; decide), hE]), hm.g⟩
            · refine wl_set 39 rfl (congrArg Value.bool h4) ?_
              refine wl_guard_on rfl rfl rfl ?_
              refine wl_ov (ov_field fo197_2 rfl rfl) rfl ?_
              refine wl_guard_on rfl rfl rfl ?_
              refine wl_ov (ov_load sc3 rfl (fun _ hm => hm.blkI 0 rfl) rfl) rfl ?_
              refine wl_guard_on rfl rfl rfl ?_
              refine wl_callw rfl cb99 rfl rfl (fun wx hm => (in_any _ _ _ wx)) ?_
              refine wl_guard_on rfl rfl rfl ?_
              refine wl_ov (ov_un_not rfl) rfl ?_
              refine wl_ov (ov_pick_f rfl rfl) rfl ?_
              refine wl_ov (ov_move rfl) rfl ?_
              rcases Bool.eq_false_or_eq_true (!(inB dy 0 1000000)) with h5 | h5
              · refine wl_set 45 rfl (congrArg Value.bool h5) ?_
                refine wl_guard_off rfl rfl rfl (by decide) rfl ?_
                refine wl_guard_off rfl rfl rfl (by decide) rfl ?_
                refine wl_guard_off rfl rfl rfl (by decide) rfl ?_
                refine wl_guard_off rfl rfl rfl (by decide) rfl ?_
                refine wl_ov (ov_pick_t rfl rfl) rfl ?_
                refine wl_ov (ov_assign rfl) rfl ?_
                refine wl_nil ?_
                refine nx_then ?_
                refine gw_cond rfl (fun _ => ?_) (fun hh => by cases hh)
                refine gw_seq ?_
                refine gw_region ?_
                refine wl_ov (ov_assign rfl) rfl ?_
                refine wl_nil ?_
                refine nx_then ?_
                refine gw_ret ?_
                refine nx_blk_ret ?_
                refine nx_blk_ret ?_
                refine nx_then_ret ?_
                refine nx_then_ret ?_
                refine nx_blk_ret ?_
                refine nx_then_ret ?_
                have hE : exE (prevOf l k) ⟨ke, on, dy, mo⟩ = 1 := by unfold exE; simp [h2, hO, h4, h5]
                refine nx_ret1 rfl rfl fun wx hm => ?_
                exact ⟨ret_int (by rw [hinv.2, hat, if_neg (by rw [hE]; decide), hE]), hm.g⟩
              · refine wl_set 45 rfl (congrArg Value.bool h5) ?_
                refine wl_guard_on rfl rfl rfl ?_
                refine wl_ov (ov_field fo197_3 rfl rfl) rfl ?_
                refine wl_guard_on rfl rfl rfl ?_
                refine wl_ov (ov_load sc3 rfl (fun _ hm => hm.blkI 0 rfl) rfl) rfl ?_
                refine wl_guard_on rfl rfl rfl ?_
                refine wl_callw rfl cb99 rfl rfl (fun wx hm => (in_any _ _ _ wx)) ?_
                refine wl_guard_on rfl rfl rfl ?_
                refine wl_ov (ov_un_not rfl) rfl ?_
                refine wl_ov (ov_pick_f rfl rfl) rfl ?_
                refine wl_ov (ov_assign rfl) rfl ?_
                refine wl_nil ?_
                refine nx_then ?_
                refine gw_cond rfl (fun hh => ?_) (fun hh => ?_)
                · have h6 : (inB mo (-1) 1000000) = false := by simpa using hh
                  clear hh
                  refine gw_seq ?_
                  refine gw_region ?_
                  refine wl_ov (ov_assign rfl) rfl ?_
                  refine wl_nil ?_
                  refine nx_then ?_
                  refine gw_ret ?_
                  refine nx_blk_ret ?_
                  refine nx_blk_ret ?_
                  refine nx_then_ret ?_
                  refine nx_then_ret ?_
                  refine nx_blk_ret ?_
                  refine nx_then_ret ?_
                  have hE : exE (prevOf l k) ⟨ke, on, dy, mo⟩ = 1 := by unfold exE; simp [h2, hO, h4, h5, h6]
                  refine nx_ret1 rfl rfl fun wx hm => ?_
                  exact ⟨ret_int (by rw [hinv.2, hat, if_neg (by rw [hE]; decide), hE]), hm.g⟩
                · have h6 : (inB mo (-1) 1000000) = true := by simpa using hh
                  clear hh
                  refine gw_skip ?_
                  refine nx_blk_nrm ?_
                  refine nx_blk_nrm ?_
                  refine nx_then ?_
                  refine gw_region ?_
                  have hE : exE (prevOf l k) ⟨ke, on, dy, mo⟩ = 0 := by unfold exE; simp [h2, hO, h4, h5, h6]
                  refine wl_ov (ov_add rfl rfl (by omega) (by omega)) rfl ?_
                  refine wl_ov (ov_move rfl) rfl ?_
                  refine wl_nil ?_
                  exact nx_round (k + 1) ⟨by omega, by rw [hinv.2, hat, if_pos hE]⟩ (by omega) ⟨rfl, rfl, rfl, (some_int (by omega)), trivial⟩ (fun _ hm => hm.pick [] [] [0] rfl rfl)
    · have hk : ¬ (((k : Nat) : Int) < ((n : Nat) : Int)) := by simpa using hh
      clear hh
      refine gw_exit ?_
      refine nx_then_exit ?_
      refine nx_then_exit ?_
      refine nx_blk_here ?_
      refine nx_then ?_
      refine gw_seq ?_
      refine gw_region ?_
      refine wl_ov (ov_assign rfl) rfl ?_
      refine wl_nil ?_
      refine nx_then ?_
      refine gw_ret ?_
      refine nx_ret1 rfl rfl fun wx hm => ?_
      exact ⟨ret_int (by rw [hinv.2, scanE_end _ _ _ _ (by omega)]), hm.g⟩

set_option maxRecDepth 100000 in
set_option maxHeartbeats 1000000 in
theorem extrasFault_any (l : List Ex) (A : Option Addr) (n c : Nat) (w : World) (hl : SlT exEnc 4 197 w A n l) (hok : ∀ b ∈ l, ExOk b) (hn : n ≤ 1000000) :
    Calls Tryd.prog 70 #[.slice A n c] w (GotE w (extrasE l)) := by
  refine gw_enter ⟨45, w, none, []⟩ Tryd.func70 rfl Tryd.ntmps70 rfl (mem0 (X := [SlOld exEnc 4 197 w.heap.size none A n l]) (allF_cons hl.old allF_nil) (allL_cons SlOld.lasts allL_nil)) ?_
  refine gw_seq ?_
  refine gw_region ?_
  have hlen := hl.len
  refine wl_ov (ov_assign rfl) rfl ?_
  refine wl_nil ?_
  refine nx_then ?_
  refine gw_seq ?_
  refine gw_seq ?_
  refine gw_region ?_
  refine wl_ov (ov_move rfl) rfl ?_
  refine wl_ov (ov_len es113 rfl) rfl ?_
  refine wl_ov (ov_gtr rfl rfl) rfl ?_
  refine wl_nil ?_
  refine nx_then ?_
  refine gw_cond rfl (fun hh => ?_) (fun hh => ?_)
  · have h1 : 30 < ((n : Nat) : Int) := by simpa using hh
    clear hh
    refine gw_seq ?_
    refine gw_region ?_
    refine wl_ov (ov_assign rfl) rfl ?_
    refine wl_nil ?_
    refine nx_then ?_
    refine gw_ret ?_
    refine nx_then_ret ?_
    refine nx_ret1 rfl rfl fun wx hm => ?_
    exact ⟨ret_int (by unfold extrasE; rw [if_pos (by omega)]), hm.g⟩
  · have h1 : ¬ (30 < ((n : Nat) : Int)) := by simpa using hh
    clear hh
    refine gw_skip ?_
    refine nx_then ?_
    refine gw_seq ?_
    refine gw_region ?_
    refine wl_ov (ov_assign rfl) rfl ?_
    refine wl_nil ?_
    refine nx_then ?_
    refine gw_seq ?_
    refine gw_seq ?_
    refine gw_region ?_
    refine wl_ov (ov_move rfl) rfl ?_
    refine wl_ov (ov_len es113 rfl) rfl ?_
    refine wl_ov (ov_move rfl) rfl ?_
    refine wl_nil ?_
    refine nx_then ?_
    refine gw_block ?_
    refine gw_loop (γ := Nat) (fun (k : Nat) => k ≤ n ∧ extrasE l = scanE exE (prevOf l k) (l.drop k)) (fun (k : Nat) => [(3, .string (prevEx l k)), (9, .slice A n c), (10, .int .i64 ((n : Nat) : Int)), (11, .int .i64 ((k : Nat) : Int))]) (fun (k : Nat) => fun _ => True) (fun (k : Nat) => []) (fun (k : Nat) => []) (fun (k : Nat) => [SlOld exEnc 4 197 w.heap.size none A n l]) (fun (k : Nat) => n - k) 0 ⟨Nat.zero_le _, by unfold extrasE; rw [if_neg (by omega)]; rfl⟩ ⟨rfl, rfl, rfl, rfl, trivial⟩ (fun _ hm => hm.pick [] [] [0] rfl rfl) ?_
    intro k hinv
    replace hinv : k ≤ n ∧ extrasE l = scanE exE (prevOf l k) (l.drop k) := hinv
    refine gw_seq ?_
    refine gw_region ?_
    refine wl_ov (ov_lss rfl rfl) rfl ?_
    refine wl_nil ?_
    refine nx_then ?_
    refine gw_seq ?_
    refine gw_cond rfl (fun hh => ?_) (fun hh => ?_)
    · have hk : ((k : Nat) : Int) < ((n : Nat) : Int) := by simpa using hh
      clear hh
      refine gw_skip ?_
      refine nx_then ?_
      refine gw_seq ?_
      refine gw_block ?_
      refine gw_seq ?_
      refine gw_region ?_
      obtain ⟨b, off, hA, _, _⟩ := hl.get (by omega)
      subst hA
      obtain ⟨x, hx⟩ : ∃ x, l[k]? = some x := ⟨_, List.getElem?_eq_getElem (by omega)⟩
      obtain ⟨ke, on, dy, mo⟩ := x
      have hat := scanE_at exE l k _ hx
      have hk1 : ke.size ≤ 1000000 := hok _ (List.mem_of_getElem? hx)
      refine wl_ov (ov_index (j := k) es113 rfl rfl (by omega)) rfl ?_
      refine wl_ov (ov_elem (vs := [.string ke, .int .i64 on, .int .i64 dy, .int .i64 mo]) rz197 rfl (fun _ hm => (hm.fact 0 rfl).1) hx rfl rfl) rfl ?_
      refine wl_alloc zc197 rfl fun g1 => ?_
      refine wl_stores (cs' := [.string ke, .int .i64 on, .int .i64 dy, .int .i64 mo]) 0 rz197 rfl rfl rfl rfl rfl rfl rfl rfl ?_
      refine wl_nil ?_
      refine nx_then ?_
      refine gw_seq ?_
      refine gw_block ?_
      refine gw_seq ?_
      refine gw_region ?_
      refine wl_ov (ov_field fo197_0 rfl rfl) rfl ?_
      refine wl_ov (ov_load sc9 rfl (fun _ hm => hm.blkI 0 rfl) rfl) rfl ?_
      refine wl_callv rfl cb90 rfl rfl (fun wx hm => (key_any _ wx (by omega))) ?_
      refine wl_ov (ov_un_not rfl) rfl ?_
      refine wl_ov (ov_assign rfl) rfl ?_
      refine wl_nil ?_
      refine nx_then ?_
      refine gw_cond rfl (fun hh => ?_) (fun hh => ?_)
      · have h2 : (keyB ke) = false := by simpa using hh
        clear hh
        refine gw_seq ?_
        refine gw_region ?_
        refine wl_ov (ov_assign rfl) rfl ?_
        refine wl_nil ?_
        refine nx_then ?_
        refine gw_ret ?_
        refine nx_blk_ret ?_
        refine nx_then_ret ?_
        refine nx_blk_ret ?_
        refine nx_then_ret ?_
        refine nx_then_ret ?_
        refine nx_blk_ret ?_
        refine nx_then_ret ?_
        have hE : exE (prevOf l k) ⟨ke, on, dy, mo⟩ = 5 := by unfold exE; simp [h2]
        refine nx_ret1 rfl rfl fun wx hm => ?_
        exact ⟨ret_int (by rw [hinv.2, hat, if_neg (by rw [hE]; decide), hE]), hm.g⟩
      · have h2 : (keyB ke) = true := by simpa using hh
        clear hh
        refine gw_seq ?_
        refine gw_region ?_
        refine wl_ov (ov_field fo197_0 rfl rfl) rfl ?_
        refine wl_ov (ov_load sc9 rfl (fun _ hm => hm.blkI 0 rfl) rfl) rfl ?_
        refine wl_ov (ov_move rfl) rfl ?_
        refine wl_ov (ov_sleq rfl rfl) rfl ?_
        refine wl_ov (ov_assign rfl) rfl ?_
        refine wl_nil ?_
        refine nx_then ?_
        refine gw_cond rfl (fun hh => ?_) (fun hh => ?_)
        · have h9 : (Op.bytesLess ke.toList (prevEx l k).toList || ke.toList == (prevEx l k).toList) = true := by simpa using hh
          clear hh
          refine gw_seq ?_
          refine gw_region ?_
          have hO : leEx (prevOf l k) ⟨ke, on, dy, mo⟩ = true := (prevEx_le (b := ⟨ke, on, dy, mo⟩) (by simpa using h2)).symm.trans h9
          refine wl_ov (ov_assign rfl) rfl ?_
          refine wl_nil ?_
          refine nx_then ?_
          refine gw_ret ?_
          refine nx_blk_ret ?_
          refine nx_then_ret ?_
          refine nx_blk_ret ?_
          refine nx_then_ret ?_
          refine nx_then_ret ?_
          refine nx_blk_ret ?_
          refine nx_then_ret ?_
          have hE : exE (prevOf l k) ⟨ke, on, dy, mo⟩ = 7 := by unfold exE; simp [h2, hO]
          refine nx_ret1 rfl rfl fun wx hm => ?_
          exact ⟨ret_int (by rw [hinv.2, hat, if_neg (by rw [hE]; decide), hE]), hm.g⟩
        · have h9 : (Op.bytesLess ke.toList (prevEx l k).toList || ke.toList == (prevEx l k).toList) = false := by simpa using hh
          clear hh
          refine gw_seq ?_
          refine gw_region ?_
          have hO : leEx (prevOf l k) ⟨ke, on, dy, mo⟩ = false := (prevEx_le (b := ⟨ke, on, dy, mo⟩) (by simpa using h2)).symm.trans h9
          refine wl_ov (ov_field fo197_1 rfl rfl) rfl ?_
          refine wl_ov (ov_load sc3 rfl (fun _ hm => hm.blkI 0 rfl) rfl) rfl ?_
          refine wl_callw rfl cb91 rfl rfl (fun wx hm => (rin_any _ _ _ wx)) ?_
          refine wl_ov (ov_un_not rfl) rfl ?_
          refine wl_ov (ov_move rfl) rfl ?_
          rcases Bool.eq_false_or_eq_true (!(inB on 0 1000000)) with h4 | h4
          · refine wl_set 30 rfl (congrArg Value.bool h4) ?_
            refine wl_guard_off rfl rfl rfl (by decide) rfl ?_
            refine wl_guard_off rfl rfl rfl (by decide) rfl ?_
            refine wl_guard_off rfl rfl rfl (by decide) rfl ?_
            refine wl_guard_off rfl rfl rfl (by decide) rfl ?_
            refine wl_ov (ov_pick_t rfl rfl) rfl ?_
            refine wl_ov (ov_move rfl) rfl ?_
            refine wl_guard_off rfl rfl rfl (by decide) rfl ?_
            refine wl_guard_off rfl rfl rfl (by decide) rfl ?_
            refine wl_guard_off rfl rfl rfl (by decide) rfl ?_
            refine wl_guard_off rfl rfl rfl (by decide) rfl ?_
            refine wl_ov (ov_pick_t rfl rfl) rfl ?_
            refine wl_ov (ov_assign rfl) rfl ?_
            refine wl_nil ?_
            refine nx_then ?_
            refine gw_cond rfl (fun _ => ?_) (fun hh => by cases hh)
            refine gw_seq ?_
            refine gw_region ?_
            refine wl_ov (ov_assign rfl) rfl ?_
            refine wl_nil ?_
            refine nx_then ?_
            refine gw_ret ?_
            refine nx_blk_ret ?_
            refine nx_then_ret ?_
            refine nx_blk_ret ?_
            refine nx_then_ret ?_
            refine nx_then_ret ?_
            refine nx_blk_ret ?_
            refine nx_then_ret ?_
            have hE : exE (prevOf l k) ⟨ke, on, dy, mo⟩ = 1 := by unfold exE; simp [h2, hO, h4]
            refine nx_ret1 rfl rfl fun wx hm => ?_
            exact ⟨ret_int (by rw [hinv.2, hat, if_neg (by rw [hE]; decide), hE]), hm.g⟩
          · refine wl_set 30 rfl (congrArg Value.bool h4) ?_
            refine wl_guard_on rfl rfl rfl ?_
            refine wl_ov (ov_field fo197_2 rfl rfl) rfl ?_
            refine wl_guard_on rfl rfl rfl ?_
            refine wl_ov (ov_load sc3 rfl (fun _ hm => hm.blkI 0 rfl) rfl) rfl ?_
            refine wl_guard_on rfl rfl rfl ?_
            refine wl_callw rfl cb91 rfl rfl (fun wx hm => (rin_any _ _ _ wx)) ?_
            refine wl_guard_on rfl rfl rfl ?_
            refine wl_ov (ov_un_not rfl) rfl ?_
            refine wl_ov (ov_pick_f rfl rfl) rfl ?_
            refine wl_ov (ov_move rfl) rfl ?_
            rcases Bool.eq_false_or_eq_true (!(inB dy 0 1000000)) with h5 | h5
            · refine wl_set 36 rfl (congrArg Value.bool h5) ?_
              refine wl_guard_off rfl rfl rfl (by decide) rfl ?_
              refine wl_guard_off rfl rfl rfl (by decide) rfl ?_
              refine wl_guard_off rfl rfl rfl (by decide) rfl ?_
              refine wl_guard_off rfl rfl rfl (by decide) rfl ?_
              refine wl_ov (ov_pick_t rfl rfl) rfl ?_
              refine wl_ov (ov_assign rfl) rfl ?_
              refine wl_nil ?_
              refine nx_then ?_
              refine gw_cond rfl (fun _ => ?_) (fun hh => by cases hh)
              refine gw_seq ?_
              refine gw_region ?_
              refine wl_ov (ov_assign rfl) rfl ?_
              refine wl_nil ?_
              refine nx_then ?_
              refine gw_ret ?_
              refine nx_blk_ret ?_
              refine nx_then_ret ?_
              refine nx_blk_ret ?_
              refine nx_then_ret ?_
              refine nx_then_ret ?_
              refine nx_blk_ret ?_
              refine nx_then_ret ?_
              have hE : exE (prevOf l k) ⟨ke, on, dy, mo⟩ = 1 := by unfold exE; simp [h2, hO, h4, h5]
              refine nx_ret1 rfl rfl fun wx hm => ?_
              exact ⟨ret_int (by rw [hinv.2, hat, if_neg (by rw [hE]; decide), hE]), hm.g⟩
            · refine wl_set 36 rfl (congrArg Value.bool h5) ?_
              refine wl_guard_on rfl rfl rfl ?_
              refine wl_ov (ov_field fo197_3 rfl rfl) rfl ?_
              refine wl_guard_on rfl rfl rfl ?_
              refine wl_ov (ov_load sc3 rfl (fun _ hm => hm.blkI 0 rfl) rfl) rfl ?_
              refine wl_guard_on rfl rfl rfl ?_
              refine wl_callw rfl cb91 rfl rfl (fun wx hm => (rin_any _ _ _ wx)) ?_
              refine wl_guard_on rfl rfl rfl ?_
              refine wl_ov (ov_un_not rfl) rfl ?_
              refine wl_ov (ov_pick_f rfl rfl) rfl ?_
              refine wl_ov (ov_assign rfl) rfl ?_
              refine wl_nil ?_
              refine nx_then ?_
              refine gw_cond rfl (fun hh => ?_) (fun hh => ?_)
              · have h6 : (inB mo (-1) 1000000) = false := by simpa using hh
                clear hh
                refine gw_seq ?_
                refine gw_region ?_
                refine wl_ov (ov_assign rfl) rfl ?_
                refine wl_nil ?_
                refine nx_then ?_
                refine gw_ret ?_
                refine nx_blk_ret ?_
                refine nx_then_ret ?_
                refine nx_blk_ret ?_
                refine nx_then_ret ?_
                refine nx_then_ret ?_
                refine nx_blk_ret ?_
                refine nx_then_ret ?_
                have hE : exE (prevOf l k) ⟨ke, on, dy, mo⟩ = 1 := by unfold exE; simp [h2, hO, h4, h5, h6]
                refine nx_ret1 rfl rfl fun wx hm => ?_
                exact ⟨ret_int (by rw [hinv.2, hat, if_neg (by rw [hE]; decide), hE]), hm.g⟩
              · have h6 : (inB mo (-1) 1000000) = true := by simpa using hh
                clear hh
                refine gw_skip ?_
                refine nx_blk_nrm ?_
                refine nx_then ?_
                refine gw_region ?_
                have hE : exE (prevOf l k) ⟨ke, on, dy, mo⟩ = 0 := by unfold exE; simp [h2, hO, h4, h5, h6]
                refine wl_ov (ov_field fo197_0 rfl rfl) rfl ?_
                refine wl_ov (ov_load sc9 rfl (fun _ hm => hm.blkI 0 rfl) rfl) rfl ?_
                refine wl_ov (ov_assign rfl) rfl ?_
                refine wl_nil ?_
                refine nx_blk_nrm ?_
                refine nx_then ?_
                refine gw_region ?_
                refine wl_ov (ov_add rfl rfl (by omega) (by omega)) rfl ?_
                refine wl_ov (ov_move rfl) rfl ?_
                refine wl_nil ?_
                exact nx_round (k + 1) ⟨by omega, by rw [hinv.2, hat, if_pos hE]⟩ (by omega) ⟨(congrArg (fun z => some (Value.string z)) (prevEx_succ hx).symm), rfl, rfl, (some_int (by omega)), trivial⟩ (fun _ hm => hm.pick [] [] [0] rfl rfl)
    · have hk : ¬ (((k : Nat) : Int) < ((n : Nat) : Int)) := by simpa using hh
      clear hh
      refine gw_exit ?_
      refine nx_then_exit ?_
      refine nx_then_exit ?_
      refine nx_blk_here ?_
      refine nx_then ?_
      refine gw_seq ?_
      refine gw_region ?_
      refine wl_ov (ov_assign rfl) rfl ?_
      refine wl_nil ?_
      refine nx_then ?_
      refine gw_ret ?_
      refine nx_ret1 rfl rfl fun wx hm => ?_
      exact ⟨ret_int (by rw [hinv.2, scanE_end _ _ _ _ (by omega)]), hm.g⟩

theorem ex_len (x : Ex) : (exEnc x).length = 4 := rfl
theorem extrasE_ok {l : List Ex} (h : extrasE l = 0) : l.length ≤ 30 ∧ ∀ x ∈ l, keyB x.key = true ∧ (0 ≤ x.once ∧ x.once ≤ 1000000) ∧ (0 ≤ x.day ∧ x.day ≤ 1000000) ∧ (-1 ≤ x.most ∧ x.most ≤ 1000000) := by
  unfold extrasE at h
  split at h
  · cases h
  · refine ⟨by omega, fun x hx => ?_⟩
    obtain ⟨q, hq⟩ := scan_each h x hx
    unfold exE at hq
    repeat (split at hq; · cases hq)
    rename_i h1 h2 h3 h4 h5
    simp [inB] at h1 h3 h4 h5
    exact ⟨h1, h3, h4, h5⟩
def exP (k : ByteArray) (x : Ex) : Bool := x.key.toList == k.toList
/-- What an extra costs. -/
def exV (x : Ex) (n : Int) : Int := x.once + (if 0 ≤ x.most then min (x.day * n) x.most else x.day * n)
def exAt (l : List Ex) (k : ByteArray) (n : Int) : Int := match l[(ixP (exP k) l 0).toNat]? with
  | some x => exV x n
  | none => 0
theorem exV_step {x : Ex} (h1 : 0 ≤ x.day) (j : Nat) : (if 0 ≤ x.most then min ((exV x j - x.once) + x.day) x.most else (exV x j - x.once) + x.day) = exV x (j + 1 : Nat) - x.once := by
  unfold exV
  have e : x.day * ((j + 1 : Nat) : Int) = x.day * (j : Int) + x.day := by rw [Int.natCast_add, Int.mul_add]; simp
  rw [e]
  by_cases hm : 0 ≤ x.most
  · simp only [hm, if_true]; omega
  · simp only [hm, if_false]; omega
theorem exV_bound {x : Ex} {n : Int} (h1 : 0 ≤ x.once ∧ x.once ≤ 1000000) (h2 : 0 ≤ x.day ∧ x.day ≤ 1000000) (h3 : -1 ≤ x.most ∧ x.most ≤ 1000000) (hn : 0 ≤ n ∧ n ≤ 120) : (0 ≤ x.day * n ∧ x.day * n ≤ 120000000) ∧ 0 ≤ exV x n ∧ exV x n ≤ 121000000 := by
  have a : 0 ≤ x.day * n := Int.mul_nonneg h2.1 hn.1
  have b := Int.mul_le_mul h2.2 hn.2 hn.1 (by omega)
  unfold exV
  refine ⟨⟨a, by omega⟩, ?_⟩
  split <;> omega

set_option maxRecDepth 100000 in
set_option maxHeartbeats 400000 in
theorem pred_extraAt_1_tariff (ke : ByteArray) (on : Int) (dy : Int) (mo : Int) (gk : Nat) (k : ByteArray) (w : World) (hk : Blk w gk 9 [.string k]) :
    Calls Tryd.prog 175 #[.agg #[.string ke, .int .i64 on, .int .i64 dy, .int .i64 mo], .pointer (some ⟨gk, 0, none⟩)] w (fun e w' => e = .returned (.bool (exP k ⟨ke, on, dy, mo⟩)) ∧ w.grownBy w' none) := by
  refine gw_enter ⟨8, w, none, []⟩ Tryd.func175 rfl Tryd.ntmps175 rfl (mem0 (X := [BlkOld w.heap.size none gk 9 [.string k]]) (allF_cons hk.old allF_nil) (allL_cons BlkOld.lasts allL_nil)) ?_
  refine gw_seq ?_
  refine gw_region ?_
  refine wl_box rfl rfl rfl fun g1 => ?_
  refine wl_ov (ov_assign rfl) rfl ?_
  refine wl_nil ?_
  refine nx_then ?_
  refine gw_seq ?_
  refine gw_region ?_
  refine wl_ov (ov_field fo197_0 rfl rfl) rfl ?_
  refine wl_ov (ov_load sc9 rfl (fun _ hm => hm.blkI 0 rfl) rfl) rfl ?_
  refine wl_ov (ov_load sc9 rfl (fun _ hm => (hm.fact 0 rfl).2) rfl) rfl ?_
  refine wl_ov (ov_seql rfl rfl) rfl ?_
  refine wl_ov (ov_assign rfl) rfl ?_
  refine wl_nil ?_
  refine nx_then ?_
  refine gw_ret ?_
  refine nx_ret1 rfl rfl fun wx hm => ?_
  exact ⟨rfl, hm.g⟩

set_option maxRecDepth 100000 in
set_option maxHeartbeats 400000 in
theorem index_extraAt_1_tariff (l : List Ex) (A : Option Addr) (n c0 : Nat) (gk : Nat) (k : ByteArray) (w : World) (hl : SlT exEnc 4 197 w A n l) (hn : n ≤ 1000000) (hk : Blk w gk 9 [.string k]) :
    Calls Tryd.prog 174 #[.slice A n c0, .func (.func 175) #[] #[.pointer (some ⟨gk, 0, none⟩)]] w (GotE w (ixP (exP k) l 0)) := by
  refine gw_enter ⟨19, w, none, []⟩ Tryd.func174 rfl Tryd.ntmps174 rfl (mem0 (X := [SlOld exEnc 4 197 w.heap.size none A n l, BlkOld w.heap.size none gk 9 [.string k]]) (allF_cons hl.old (allF_cons hk.old allF_nil)) (allL_cons SlOld.lasts (allL_cons BlkOld.lasts allL_nil))) ?_
  refine gw_seq ?_
  refine gw_region ?_
  have hlen := hl.len
  refine wl_ov (ov_assign rfl) rfl ?_
  refine wl_nil ?_
  refine nx_then ?_
  refine gw_seq ?_
  refine gw_seq ?_
  refine gw_region ?_
  refine wl_ov (ov_move rfl) rfl ?_
  refine wl_ov (ov_len es113 rfl) rfl ?_
  refine wl_ov (ov_move rfl) rfl ?_
  refine wl_nil ?_
  refine nx_then ?_
  refine gw_block ?_
  refine gw_loop (γ := Nat) (fun (i : Nat) => i ≤ n ∧ ixP (exP k) l 0 = ixP (exP k) (l.drop i) i) (fun (i : Nat) => [(0, .slice A n c0), (1, .func (.func 175) #[] #[.pointer (some ⟨gk, 0, none⟩)]), (7, .int .i64 ((n : Nat) : Int)), (8, .int .i64 ((i : Nat) : Int))]) (fun (i : Nat) => fun _ => True) (fun (i : Nat) => []) (fun (i : Nat) => []) (fun (i : Nat) => [SlOld exEnc 4 197 w.heap.size none A n l, BlkOld w.heap.size none gk 9 [.string k]]) (fun (i : Nat) => n - i) 0 ⟨Nat.zero_le _, rfl⟩ ⟨rfl, rfl, rfl, rfl, trivial⟩ (fun _ hm => hm.pick [] [] [0, 1] rfl rfl) ?_
  intro i hinv
  replace hinv : i ≤ n ∧ ixP (exP k) l 0 = ixP (exP k) (l.drop i) i := hinv
  refine gw_seq ?_
  refine gw_region ?_
  refine wl_ov (ov_lss rfl rfl) rfl ?_
  refine wl_nil ?_
  refine nx_then ?_
  refine gw_seq ?_
  refine gw_cond rfl (fun hh => ?_) (fun hh => ?_)
  · have hi : ((i : Nat) : Int) < ((n : Nat) : Int) := by simpa using hh
    clear hh
    refine gw_skip ?_
    refine nx_then ?_
    refine gw_seq ?_
    refine gw_block ?_
    refine gw_seq ?_
    refine gw_region ?_
    obtain ⟨b, off, hA, _, _⟩ := hl.get (by omega)
    subst hA
    obtain ⟨x, hx⟩ : ∃ x, l[i]? = some x := ⟨_, List.getElem?_eq_getElem (by omega)⟩
    obtain ⟨ke, on, dy, mo⟩ := x
    have hat := ixP_at (p := exP k) hx
    refine wl_ov (ov_move rfl) rfl ?_
    refine wl_ov (ov_assign rfl) rfl ?_
    refine wl_nil ?_
    refine nx_then ?_
    refine gw_seq ?_
    refine gw_region ?_
    refine wl_ov (ov_move rfl) rfl ?_
    refine wl_ov (ov_move rfl) rfl ?_
    refine wl_ov (ov_move rfl) rfl ?_
    refine wl_ov (ov_index (j := i) es113 rfl rfl (by omega)) rfl ?_
    refine wl_ov (ov_elem (vs := [.string ke, .int .i64 on, .int .i64 dy, .int .i64 mo]) rz197 rfl (fun _ hm => (hm.fact 0 rfl).1) hx rfl rfl) rfl ?_
    refine wl_callv rfl cb175 rfl rfl (fun wx hm => (pred_extraAt_1_tariff ke on dy mo gk k wx (hm.fact 1 rfl).2)) ?_
    refine wl_nil ?_
    refine nx_then ?_
    refine gw_cond rfl (fun hh => ?_) (fun hh => ?_)
    · have hq : (exP k ⟨ke, on, dy, mo⟩) = true := by simpa using hh
      clear hh
      refine gw_seq ?_
      refine gw_region ?_
      refine wl_ov (ov_move rfl) rfl ?_
      refine wl_ov (ov_assign rfl) rfl ?_
      refine wl_nil ?_
      refine nx_then ?_
      refine gw_ret ?_
      refine nx_blk_ret ?_
      refine nx_then_ret ?_
      refine nx_then_ret ?_
      refine nx_blk_ret ?_
      refine nx_then_ret ?_
      refine nx_ret1 rfl rfl fun wx hm => ?_
      exact ⟨ret_int (by rw [hinv.2, hat, if_pos hq]), hm.g⟩
    · have hq : (exP k ⟨ke, on, dy, mo⟩) = false := by simpa using hh
      clear hh
      refine gw_skip ?_
      refine nx_blk_nrm ?_
      refine nx_then ?_
      refine gw_region ?_
      refine wl_ov (ov_add rfl rfl (by omega) (by omega)) rfl ?_
      refine wl_ov (ov_move rfl) rfl ?_
      refine wl_nil ?_
      exact nx_round (i + 1) ⟨by omega, by rw [hinv.2, hat, if_neg (by rw [hq]; decide)]⟩ (by omega) ⟨rfl, rfl, rfl, (some_int (by omega)), trivial⟩ (fun _ hm => hm.pick [] [] [0, 1] rfl rfl)
  · have hi : ¬ (((i : Nat) : Int) < ((n : Nat) : Int)) := by simpa using hh
    clear hh
    refine gw_exit ?_
    refine nx_then_exit ?_
    refine nx_then_exit ?_
    refine nx_blk_here ?_
    refine nx_then ?_
    refine gw_seq ?_
    refine gw_region ?_
    refine wl_ov (ov_assign rfl) rfl ?_
    refine wl_set 4 (v' := .int .i64 (-1)) rfl rfl ?_
    refine wl_nil ?_
    refine nx_then ?_
    refine gw_ret ?_
    refine nx_ret1 rfl rfl fun wx hm => ?_
    exact ⟨ret_int (by rw [hinv.2, List.drop_eq_nil_of_le (by omega)]; rfl), hm.g⟩

set_option maxRecDepth 100000 in
set_option maxHeartbeats 400000 in
theorem extraAt_any (l : List Ex) (A : Option Addr) (n c0 : Nat) (k : ByteArray) (w : World) (hl : SlT exEnc 4 197 w A n l) (hn : n ≤ 1000000) :
    Calls Tryd.prog 133 #[.slice A n c0, .string k] w (GotE w (ixP (exP k) l 0)) := by
  refine gw_enter ⟨8, w, none, []⟩ Tryd.func133 rfl Tryd.ntmps133 rfl (mem0 (X := [SlOld exEnc 4 197 w.heap.size none A n l]) (allF_cons hl.old allF_nil) (allL_cons SlOld.lasts allL_nil)) ?_
  refine gw_seq ?_
  refine gw_region ?_
  refine wl_box rfl rfl rfl fun g1 => ?_
  refine wl_ov (ov_assign rfl) rfl ?_
  refine wl_nil ?_
  refine nx_then ?_
  refine gw_seq ?_
  refine gw_region ?_
  refine wl_ov (ov_move rfl) rfl ?_
  refine wl_ov (ov_makeFunc rfl rfl) rfl ?_
  refine wl_callv rfl cb174 rfl rfl (fun wx hm => (index_extraAt_1_tariff l A n c0 _ k wx (hm.fact 0 rfl).1 hn (hm.blkI 0 rfl))) ?_
  refine wl_ov (ov_assign rfl) rfl ?_
  refine wl_nil ?_
  refine nx_then ?_
  refine gw_ret ?_
  refine nx_ret1 rfl rfl fun wx hm => ?_
  exact ⟨rfl, hm.g⟩

set_option maxRecDepth 100000 in
set_option maxHeartbeats 400000 in
theorem extraCost_any (ke : ByteArray) (on dy mo nn : Int) (w : World) (h1 : 0 ≤ (⟨ke, on, dy, mo⟩ : Ex).once ∧ (⟨ke, on, dy, mo⟩ : Ex).once ≤ 1000000) (h2 : 0 ≤ (⟨ke, on, dy, mo⟩ : Ex).day ∧ (⟨ke, on, dy, mo⟩ : Ex).day ≤ 1000000) (h3 : -1 ≤ (⟨ke, on, dy, mo⟩ : Ex).most ∧ (⟨ke, on, dy, mo⟩ : Ex).most ≤ 1000000) (h4 : 0 ≤ nn ∧ nn ≤ 120) :
    Calls Tryd.prog 134 #[.agg #[.string ke, .int .i64 on, .int .i64 dy, .int .i64 mo], .int .i64 nn] w (GotE w (exV ⟨ke, on, dy, mo⟩ nn)) := by
  refine gw_enter ⟨21, w, none, []⟩ Tryd.func134 rfl Tryd.ntmps134 rfl (mem0 (X := []) allF_nil allL_nil) ?_
  refine gw_seq ?_
  refine gw_region ?_
  obtain ⟨⟨a1, a2⟩, a3, a4⟩ := exV_bound (x := ⟨ke, on, dy, mo⟩) h1 h2 h3 h4
  dsimp only at a1 a2
  obtain ⟨h10, h11⟩ := h1
  obtain ⟨h20, h21⟩ := h2
  obtain ⟨h30, h31⟩ := h3
  unfold exV at a3 a4
  dsimp only at a3 a4 h10 h11 h20 h21 h30 h31
  refine wl_box rfl rfl rfl fun g1 => ?_
  refine wl_ov (ov_assign rfl) rfl ?_
  refine wl_nil ?_
  refine nx_then ?_
  refine gw_seq ?_
  refine gw_region ?_
  refine wl_ov (ov_field fo197_2 rfl rfl) rfl ?_
  refine wl_ov (ov_load sc3 rfl (fun _ hm => hm.blkI 0 rfl) rfl) rfl ?_
  refine wl_ov (ov_move rfl) rfl ?_
  refine wl_ov (ov_mul rfl rfl (by omega) (by omega)) rfl ?_
  refine wl_ov (ov_assign rfl) rfl ?_
  refine wl_nil ?_
  refine nx_then ?_
  refine gw_seq ?_
  refine gw_seq ?_
  refine gw_region ?_
  refine wl_ov (ov_field fo197_3 rfl rfl) rfl ?_
  refine wl_ov (ov_load sc3 rfl (fun _ hm => hm.blkI 0 rfl) rfl) rfl ?_
  refine wl_ov (ov_geq rfl rfl) rfl ?_
  refine wl_nil ?_
  refine nx_then ?_
  refine gw_cond rfl (fun hh => ?_) (fun hh => ?_)
  · have hm0 : 0 ≤ mo := by simpa using hh
    clear hh
    refine gw_region ?_
    rw [if_pos hm0] at a3 a4
    refine wl_ov (ov_move rfl) rfl ?_
    refine wl_ov (ov_field fo197_3 rfl rfl) rfl ?_
    refine wl_ov (ov_load sc3 rfl (fun _ hm => hm.blkI 0 rfl) rfl) rfl ?_
    refine wl_ov (ov_min rfl rfl) rfl ?_
    refine wl_ov (ov_assign rfl) rfl ?_
    refine wl_nil ?_
    refine nx_then ?_
    refine gw_seq ?_
    refine gw_region ?_
    refine wl_ov (ov_field fo197_1 rfl rfl) rfl ?_
    refine wl_ov (ov_load sc3 rfl (fun _ hm => hm.blkI 0 rfl) rfl) rfl ?_
    refine wl_ov (ov_move rfl) rfl ?_
    refine wl_ov (ov_add rfl rfl (by omega) (by omega)) rfl ?_
    refine wl_ov (ov_assign rfl) rfl ?_
    refine wl_nil ?_
    refine nx_then ?_
    refine gw_ret ?_
    refine nx_ret1 rfl rfl fun wx hm => ?_
    exact ⟨ret_int (by unfold exV; rw [if_pos (show 0 ≤ mo from hm0)]), hm.g⟩
  · have hm0 : ¬ (0 ≤ mo) := by simpa using hh
    clear hh
    refine gw_skip ?_
    refine nx_then ?_
    refine gw_seq ?_
    refine gw_region ?_
    rw [if_neg hm0] at a3 a4
    refine wl_ov (ov_field fo197_1 rfl rfl) rfl ?_
    refine wl_ov (ov_load sc3 rfl (fun _ hm => hm.blkI 0 rfl) rfl) rfl ?_
    refine wl_ov (ov_move rfl) rfl ?_
    refine wl_ov (ov_add rfl rfl (by omega) (by omega)) rfl ?_
    refine wl_ov (ov_assign rfl) rfl ?_
    refine wl_nil ?_
    refine nx_then ?_
    refine gw_ret ?_
    refine nx_ret1 rfl rfl fun wx hm => ?_
    exact ⟨ret_int (by unfold exV; rw [if_neg (show ¬ 0 ≤ mo from hm0)]), hm.g⟩

def exCostE (l : List Ex) (k : ByteArray) (n : Int) : Int := firstE [extrasE l, whenE (decide (ixP (exP k) l 0 < 0)) 8, whenE (!inB n 1 120) 1]
def exCostV (l : List Ex) (k : ByteArray) (n : Int) : Int := if exCostE l k n = 0 then exAt l k n else 0
set_option maxRecDepth 100000 in
set_option maxHeartbeats 400000 in
theorem tExtraCost_any (l : List Ex) (A : Option Addr) (n c0 : Nat) (k : ByteArray) (nn : Int) (w : World) (hl : SlT exEnc 4 197 w A n l) (hok : ∀ b ∈ l, ExOk b) (hn : n ≤ 1000000) :
    Calls Tryd.prog 68 #[.slice A n c0, .string k, .int .i64 nn] w (fun e w' => e = .returned (.tuple #[.int .i64 (exCostV l k nn), .int .i64 (exCostE l k nn)]) ∧ w.grownBy w' none) := by
  refine gw_enter ⟨33, w, none, []⟩ Tryd.func68 rfl Tryd.ntmps68 rfl (mem0 (X := [SlOld exEnc 4 197 w.heap.size none A n l]) (allF_cons hl.old allF_nil) (allL_cons SlOld.lasts allL_nil)) ?_
  refine gw_seq ?_
  refine gw_region ?_
  have hlen := hl.len
  obtain ⟨IX, hIX⟩ : ∃ E, E = ixP (exP k) l 0 := ⟨_, rfl⟩
  obtain ⟨XE, hXE⟩ : ∃ E, E = extrasE l := ⟨_, rfl⟩
  refine wl_ov (ov_assign rfl) rfl ?_
  refine wl_ov (ov_assign rfl) rfl ?_
  refine wl_nil ?_
  refine nx_then ?_
  refine gw_seq ?_
  refine gw_region ?_
  refine wl_ov (ov_move rfl) rfl ?_
  refine wl_ov (ov_move rfl) rfl ?_
  refine wl_callv (v := .int .i64 IX) rfl cb133 rfl rfl (fun wx hm => (by rw [hIX]; exact extraAt_any l A n c0 k wx (hm.fact 0 rfl).1 hn)) ?_
  refine wl_ov (ov_assign rfl) rfl ?_
  refine wl_nil ?_
  refine nx_then ?_
  refine gw_seq ?_
  refine gw_seq ?_
  refine gw_region ?_
  refine wl_ov (ov_move rfl) rfl ?_
  refine wl_callv (v := .int .i64 XE) rfl cb72 rfl rfl (fun wx hm => (by rw [hXE]; exact checkExtras_any l A n c0 wx (hm.fact 0 rfl).1 hok hn)) ?_
  refine wl_ov (ov_move rfl) rfl ?_
  refine wl_ov (ov_lss rfl rfl) rfl ?_
  refine wl_callw rfl cb98 rfl rfl (fun wx hm => (when_any _ _ wx)) ?_
  refine wl_ov (ov_move rfl) rfl ?_
  refine wl_callw rfl cb99 rfl rfl (fun wx hm => (in_any _ _ _ wx)) ?_
  refine wl_ov (ov_un_not rfl) rfl ?_
  refine wl_callw rfl cb98 rfl rfl (fun wx hm => (when_any _ _ wx)) ?_
  refine wl_buildSlice (e := 29) (cs := [.int .i64 XE, .int .i64 (whenE (decide (IX < 0)) 8), .int .i64 (whenE (!(inB nn 1 120)) 1)]) rfl (by kernel_rfl) rfl fun g1 => ?_
  refine wl_callw rfl cb97 rfl rfl (fun wx hm => (first_any [XE, whenE (decide (IX < 0)) 8, whenE (!(inB nn 1 120)) 1] _ _ _ wx (hm.blkI 0 rfl) (by simp))) ?_
  refine wl_ov (ov_assign rfl) rfl ?_
  refine wl_nil ?_
  refine nx_then ?_
  refine gw_seq ?_
  refine gw_region ?_
  refine wl_ov (ov_move rfl) rfl ?_
  refine wl_ov (ov_neq rfl rfl) rfl ?_
  refine wl_nil ?_
  refine nx_then ?_
  refine gw_cond rfl (fun hh => ?_) (fun hh => ?_)
  · have hz : ¬ (firstE [XE, whenE (decide (IX < 0)) 8, whenE (!(inB nn 1 120)) 1] = 0) := by simpa using hh
    clear hh
    refine gw_seq ?_
    refine gw_region ?_
    refine wl_ov (ov_move rfl) rfl ?_
    refine wl_ov (ov_assign rfl) rfl ?_
    refine wl_ov (ov_assign rfl) rfl ?_
    refine wl_nil ?_
    refine nx_then ?_
    refine gw_ret ?_
    refine nx_then_ret ?_
    refine nx_ret2 rfl rfl rfl fun wx hm => ?_
    have he : exCostE l k nn = firstE [XE, whenE (decide (IX < 0)) 8, whenE (!inB nn 1 120) 1] := by unfold exCostE; rw [hXE, hIX]
    refine ⟨?_, hm.g⟩
    unfold exCostV
    rw [he, if_neg hz]
  · have hz : firstE [XE, whenE (decide (IX < 0)) 8, whenE (!(inB nn 1 120)) 1] = 0 := by simpa using hh
    clear hh
    refine gw_skip ?_
    refine nx_then ?_
    refine gw_seq ?_
    refine gw_region ?_
    have hzz := fe_all hz
    have hx0 : extrasE l = 0 := hXE.symm.trans (hzz XE (by simp))
    have hi0 : ¬ IX < 0 := by simpa using we_ok (by decide) (hzz (whenE (decide (IX < 0)) 8) (by simp))
    have hn0 : inB nn 1 120 = true := by simpa using we_ok (by decide) (hzz (whenE (!inB nn 1 120) 1) (by simp))
    have hn1 := inB_iff.1 hn0
    obtain ⟨i, hi⟩ := Int.eq_ofNat_of_zero_le (show 0 ≤ IX by omega)
    subst hi
    obtain ⟨y, hy, _⟩ := ixP_get (p := exP k) (l := l) (by rw [← hIX]; omega)
    rw [← hIX, Int.toNat_natCast] at hy
    have hin : i < n := by have := (List.getElem?_eq_some_iff.1 hy).1; omega
    obtain ⟨_, e1, e2, e3⟩ := (extrasE_ok hx0).2 y (List.mem_of_getElem? hy)
    obtain ⟨ke, on, dy, mo⟩ := y
    have he : exCostE l k nn = 0 := by unfold exCostE; rw [← hXE, ← hIX]; exact hz
    have hv : exCostV l k nn = exV ⟨ke, on, dy, mo⟩ nn := by unfold exCostV exAt; rw [if_pos he, ← hIX, Int.toNat_natCast, hy]
    obtain ⟨b, off, hA, _, _⟩ := hl.get (by omega)
    subst hA
    refine wl_ov (ov_move rfl) rfl ?_
    refine wl_ov (ov_move rfl) rfl ?_
    refine wl_ov (ov_index (j := i) es113 rfl rfl (by omega)) rfl ?_
    refine wl_ov (ov_elem (vs := [.string ke, .int .i64 on, .int .i64 dy, .int .i64 mo]) rz197 rfl (fun _ hm => (hm.fact 0 rfl).1) hy rfl rfl) rfl ?_
    refine wl_ov (ov_move rfl) rfl ?_
    refine wl_callv rfl cb134 rfl rfl (fun wx hm => (extraCost_any ke on dy mo nn wx e1 e2 e3 (by omega))) ?_
    refine wl_ov (ov_assign rfl) rfl ?_
    refine wl_ov (ov_assign rfl) rfl ?_
    refine wl_nil ?_
    refine nx_then ?_
    refine gw_ret ?_
    refine nx_ret2 rfl rfl rfl fun wx hm => ?_
    exact ⟨by rw [he, hv], hm.g⟩

set_option maxRecDepth 100000 in
set_option maxHeartbeats 400000 in
theorem extraOf_any (l : List Ex) (A : Option Addr) (n c0 : Nat) (k : ByteArray) (nn : Nat) (w : World) (hl : SlT exEnc 4 197 w A n l) (hn : n ≤ 1000000) (hx0 : extrasE l = 0) (hnn : nn ≤ 120) :
    Calls Tryd.prog 74 #[.slice A n c0, .string k, .int .i64 ((nn : Nat) : Int)] w (fun e w' => e = .returned (.tuple #[.int .i64 (if 0 ≤ ixP (exP k) l 0 then exAt l k ((nn : Nat) : Int) else 0), .bool (decide (0 ≤ ixP (exP k) l 0))]) ∧ w.grownBy w' none) := by
  refine gw_enter ⟨41, w, none, []⟩ Tryd.func74 rfl Tryd.ntmps74 rfl (mem0 (X := [SlOld exEnc 4 197 w.heap.size none A n l]) (allF_cons hl.old allF_nil) (allL_cons SlOld.lasts allL_nil)) ?_
  refine gw_seq ?_
  refine gw_region ?_
  have hlen := hl.len
  refine wl_ov (ov_assign rfl) rfl ?_
  refine wl_ov (ov_assign rfl) rfl ?_
  refine wl_nil ?_
  refine nx_then ?_
  refine gw_seq ?_
  refine gw_seq ?_
  refine gw_region ?_
  refine wl_ov (ov_move rfl) rfl ?_
  refine wl_ov (ov_len es113 rfl) rfl ?_
  refine wl_ov (ov_move rfl) rfl ?_
  refine wl_nil ?_
  refine nx_then ?_
  refine gw_block ?_
  refine gw_loop (γ := Nat) (fun (i : Nat) => i ≤ n ∧ ixP (exP k) l 0 = ixP (exP k) (l.drop i) i) (fun (i : Nat) => [(1, .string k), (2, .int .i64 ((nn : Nat) : Int)), (11, .slice A n c0), (12, .int .i64 ((n : Nat) : Int)), (13, .int .i64 ((i : Nat) : Int))]) (fun (i : Nat) => fun _ => True) (fun (i : Nat) => []) (fun (i : Nat) => []) (fun (i : Nat) => [SlOld exEnc 4 197 w.heap.size none A n l]) (fun (i : Nat) => n - i) 0 ⟨Nat.zero_le _, rfl⟩ ⟨rfl, rfl, rfl, rfl, rfl, trivial⟩ (fun _ hm => hm.pick [] [] [0] rfl rfl) ?_
  intro i hinv
  replace hinv : i ≤ n ∧ ixP (exP k) l 0 = ixP (exP k) (l.drop i) i := hinv
  refine gw_seq ?_
  refine gw_region ?_
  refine wl_ov (ov_lss rfl rfl) rfl ?_
  refine wl_nil ?_
  refine nx_then ?_
  refine gw_seq ?_
  refine gw_cond rfl (fun hh => ?_) (fun hh => ?_)
  · have hi : ((i : Nat) : Int) < ((n : Nat) : Int) := by simpa using hh
    clear hh
    refine gw_skip ?_
    refine nx_then ?_
    refine gw_seq ?_
    refine gw_block ?_
    refine gw_seq ?_
    refine gw_region ?_
    obtain ⟨b, off, hA, _, _⟩ := hl.get (by omega)
    subst hA
    obtain ⟨x, hx⟩ : ∃ x, l[i]? = some x := ⟨_, List.getElem?_eq_getElem (by omega)⟩
    obtain ⟨ke, on, dy, mo⟩ := x
    have hat := ixP_at (p := exP k) hx
    obtain ⟨_, ⟨e1, e2⟩, ⟨e3, e4⟩, e5, e6⟩ := (extrasE_ok hx0).2 _ (List.mem_of_getElem? hx)
    dsimp only at e1 e2 e3 e4 e5 e6
    refine wl_ov (ov_index (j := i) es113 rfl rfl (by omega)) rfl ?_
    refine wl_ov (ov_elem (vs := [.string ke, .int .i64 on, .int .i64 dy, .int .i64 mo]) rz197 rfl (fun _ hm => (hm.fact 0 rfl).1) hx rfl rfl) rfl ?_
    refine wl_alloc zc197 rfl fun g1 => ?_
    refine wl_stores (cs' := [.string ke, .int .i64 on, .int .i64 dy, .int .i64 mo]) 0 rz197 rfl rfl rfl rfl rfl rfl rfl rfl ?_
    refine wl_nil ?_
    refine nx_then ?_
    refine gw_seq ?_
    refine gw_seq ?_
    refine gw_region ?_
    refine wl_ov (ov_field fo197_0 rfl rfl) rfl ?_
    refine wl_ov (ov_load sc9 rfl (fun _ hm => hm.blkI 0 rfl) rfl) rfl ?_
    refine wl_ov (ov_move rfl) rfl ?_
    refine wl_ov (ov_sneq rfl rfl) rfl ?_
    refine wl_nil ?_
    refine nx_then ?_
    refine gw_cond rfl (fun hh => ?_) (fun hh => ?_)
    · have hq : (ke.toList == k.toList) = false := by simpa using hh
      clear hh
      refine gw_exit ?_
      refine nx_then_exit ?_
      refine nx_blk_here ?_
      refine nx_then ?_
      refine gw_region ?_
      have hq : exP k ⟨ke, on, dy, mo⟩ = false := by unfold exP; simpa using hq
      refine wl_ov (ov_add rfl rfl (by omega) (by omega)) rfl ?_
      refine wl_ov (ov_move rfl) rfl ?_
      refine wl_nil ?_
      exact nx_round (i + 1) ⟨by omega, by rw [hinv.2, hat, if_neg (by rw [hq]; decide)]⟩ (by omega) ⟨rfl, rfl, rfl, rfl, (some_int (by omega)), trivial⟩ (fun _ hm => hm.pick [] [] [0] rfl rfl)
    · have hq : (ke.toList == k.toList) = true := by simpa using hh
      clear hh
      refine gw_skip ?_
      refine nx_then ?_
      refine gw_seq ?_
      refine gw_region ?_
      have hq : exP k ⟨ke, on, dy, mo⟩ = true := by unfold exP; simpa using hq
      have hix : ixP (exP k) l 0 = ((i : Nat) : Int) := by rw [hinv.2, hat, if_pos hq]
      refine wl_ov (ov_assign rfl) rfl ?_
      refine wl_nil ?_
      refine nx_then ?_
      refine gw_seq ?_
      refine gw_seq ?_
      refine gw_region ?_
      refine wl_ov (ov_move rfl) rfl ?_
      refine wl_ov (ov_move rfl) rfl ?_
      refine wl_nil ?_
      refine nx_then ?_
      refine gw_block ?_
      refine gw_loop (γ := Nat × Int) (fun (g : Nat × Int) => g.1 ≤ nn ∧ g.2 = exV ⟨ke, on, dy, mo⟩ ((g.1 : Nat) : Int) - on) (fun (g : Nat × Int) => [(1, .string k), (2, .int .i64 ((nn : Nat) : Int)), (9, .pointer (some ⟨g1, 0, none⟩)), (10, .int .i64 g.2), (11, .slice (some ⟨b, off, none⟩) n c0), (12, .int .i64 ((n : Nat) : Int)), (13, .int .i64 ((i : Nat) : Int)), (21, .int .i64 ((nn : Nat) : Int)), (22, .int .i64 ((g.1 : Nat) : Int))]) (fun (g : Nat × Int) => fun _ => True) (fun (g : Nat × Int) => [(g1, 197, [.string ke, .int .i64 on, .int .i64 dy, .int .i64 mo])]) (fun (g : Nat × Int) => []) (fun (g : Nat × Int) => [SlOld exEnc 4 197 w.heap.size none (some ⟨b, off, none⟩) n l]) (fun (g : Nat × Int) => nn - g.1) (0, 0) ⟨Nat.zero_le _, by unfold exV; dsimp only; split <;> simp <;> omega⟩ ⟨rfl, rfl, rfl, rfl, rfl, rfl, rfl, rfl, rfl, trivial⟩ (fun _ hm => hm.pick [0] [] [0] rfl rfl) ?_
      rintro ⟨j, v⟩ hinv
      replace hinv : j ≤ nn ∧ v = exV ⟨ke, on, dy, mo⟩ ((j : Nat) : Int) - on := hinv
      dsimp only
      refine gw_seq ?_
      refine gw_region ?_
      obtain ⟨hj0, hj1⟩ := hinv
      have hvb := (exV_bound (x := ⟨ke, on, dy, mo⟩) (n := ((j : Nat) : Int)) ⟨e1, e2⟩ ⟨e3, e4⟩ ⟨e5, e6⟩ (by omega)).2
      have hvb0 := hvb.1
      have hvb1 := hvb.2
      refine wl_ov (ov_lss rfl rfl) rfl ?_
      refine wl_nil ?_
      refine nx_then ?_
      refine gw_seq ?_
      refine gw_cond rfl (fun hh => ?_) (fun hh => ?_)
      · have hj : ((j : Nat) : Int) < ((nn : Nat) : Int) := by simpa using hh
        clear hh
        refine gw_skip ?_
        refine nx_then ?_
        refine gw_seq ?_
        refine gw_block ?_
        refine gw_seq ?_
        refine gw_region ?_
        refine wl_ov (ov_move rfl) rfl ?_
        refine wl_ov (ov_field fo197_2 rfl rfl) rfl ?_
        refine wl_ov (ov_load sc3 rfl (fun _ hm => hm.blkI 0 rfl) rfl) rfl ?_
        refine wl_ov (ov_add rfl rfl (by omega) (by omega)) rfl ?_
        refine wl_ov (ov_assign rfl) rfl ?_
        refine wl_nil ?_
        refine nx_then ?_
        refine gw_seq ?_
        refine gw_region ?_
        refine wl_ov (ov_field fo197_3 rfl rfl) rfl ?_
        refine wl_ov (ov_load sc3 rfl (fun _ hm => hm.blkI 0 rfl) rfl) rfl ?_
        refine wl_ov (ov_geq rfl rfl) rfl ?_
        refine wl_nil ?_
        refine nx_then ?_
        refine gw_cond rfl (fun hh => ?_) (fun hh => ?_)
        · have hm0 : 0 ≤ mo := by simpa using hh
          clear hh
          refine gw_region ?_
          refine wl_ov (ov_move rfl) rfl ?_
          refine wl_ov (ov_field fo197_3 rfl rfl) rfl ?_
          refine wl_ov (ov_load sc3 rfl (fun _ hm => hm.blkI 0 rfl) rfl) rfl ?_
          refine wl_ov (ov_min rfl rfl) rfl ?_
          refine wl_ov (ov_assign rfl) rfl ?_
          refine wl_nil ?_
          refine nx_blk_nrm ?_
          refine nx_then ?_
          refine gw_region ?_
          refine wl_ov (ov_add rfl rfl (by omega) (by omega)) rfl ?_
          refine wl_ov (ov_move rfl) rfl ?_
          refine wl_nil ?_
          exact nx_round (j + 1, min (v + dy) mo) ⟨by dsimp only; omega, by dsimp only; rw [hj1, ← exV_step (x := ⟨ke, on, dy, mo⟩) e3 j, if_pos (show 0 ≤ mo from hm0)]⟩ (by dsimp only; omega) ⟨rfl, rfl, rfl, rfl, rfl, rfl, rfl, rfl, (some_int (by omega)), trivial⟩ (fun _ hm => hm.pick [0] [] [0] rfl rfl)
        · have hm0 : ¬ (0 ≤ mo) := by simpa using hh
          clear hh
          refine gw_skip ?_
          refine nx_blk_nrm ?_
          refine nx_then ?_
          refine gw_region ?_
          refine wl_ov (ov_add rfl rfl (by omega) (by omega)) rfl ?_
          refine wl_ov (ov_move rfl) rfl ?_
          refine wl_nil ?_
          exact nx_round (j + 1, v + dy) ⟨by dsimp only; omega, by dsimp only; rw [hj1, ← exV_step (x := ⟨ke, on, dy, mo⟩) e3 j, if_neg (show ¬ 0 ≤ mo from hm0)]⟩ (by dsimp only; omega) ⟨rfl, rfl, rfl, rfl, rfl, rfl, rfl, rfl, (some_int (by omega)), trivial⟩ (fun _ hm => hm.pick [0] [] [0] rfl rfl)
      · have hj : ¬ (((j : Nat) : Int) < ((nn : Nat) : Int)) := by simpa using hh
        clear hh
        refine gw_exit ?_
        refine nx_then_exit ?_
        refine nx_then_exit ?_
        refine nx_blk_here ?_
        refine nx_then ?_
        refine gw_seq ?_
        refine gw_region ?_
        refine wl_ov (ov_field fo197_1 rfl rfl) rfl ?_
        refine wl_ov (ov_load sc3 rfl (fun _ hm => hm.blkI 0 rfl) rfl) rfl ?_
        refine wl_ov (ov_move rfl) rfl ?_
        refine wl_ov (ov_add rfl rfl (by omega) (by omega)) rfl ?_
        refine wl_ov (ov_assign rfl) rfl ?_
        refine wl_ov (ov_assign rfl) rfl ?_
        refine wl_nil ?_
        refine nx_then ?_
        refine gw_ret ?_
        refine nx_blk_ret ?_
        refine nx_then_ret ?_
        refine nx_then_ret ?_
        refine nx_blk_ret ?_
        refine nx_then_ret ?_
        refine nx_ret2 rfl rfl rfl fun wx hm => ?_
        have hjn : j = nn := by omega
        subst hjn
        have hv : exAt l k ((j : Nat) : Int) = exV ⟨ke, on, dy, mo⟩ ((j : Nat) : Int) := by unfold exAt; rw [hix, Int.toNat_natCast, hx]
        refine ⟨?_, hm.g⟩
        rw [hix, decide_eq_true (show 0 ≤ ((i : Nat) : Int) by omega), if_pos (show 0 ≤ ((i : Nat) : Int) by omega), hv, hj1, show on + (exV ⟨ke, on, dy, mo⟩ ((j : Nat) : Int) - on) = exV ⟨ke, on, dy, mo⟩ ((j : Nat) : Int) by omega]
  · have hi : ¬ (((i : Nat) : Int) < ((n : Nat) : Int)) := by simpa using hh
    clear hh
    refine gw_exit ?_
    refine nx_then_exit ?_
    refine nx_then_exit ?_
    refine nx_blk_here ?_
    refine nx_then ?_
    refine gw_seq ?_
    refine gw_region ?_
    refine wl_ov (ov_assign rfl) rfl ?_
    refine wl_ov (ov_assign rfl) rfl ?_
    refine wl_nil ?_
    refine nx_then ?_
    refine gw_ret ?_
    refine nx_ret2 rfl rfl rfl fun wx hm => ?_
    have hix : ixP (exP k) l 0 = -1 := by rw [hinv.2, List.drop_eq_nil_of_le (by omega)]; rfl
    exact ⟨by rw [hix]; rfl, hm.g⟩

theorem ex_two {a b : Ex} {q : Nat} (ha : a.key.size ≤ 1000000) (hb : b.key.size ≤ 1000000) : ∀ x ∈ [a, b].take q, ExOk x := fun x hx => by
  have h := List.mem_of_mem_take hx
  rcases List.mem_cons.1 h with rfl | h
  · exact ha
  · rw [List.mem_singleton.1 h]; exact hb
set_option maxRecDepth 100000 in
set_option maxHeartbeats 1000000 in
theorem gextras_any (w : World) (B sb m : Nat) (hS : Strm 25 w B sb m) (hm : m ≤ 100000000000) :
    Calls Tryd.prog 65 #[.pointer (some ⟨sb, 0, none⟩)] w (fun e w' => ∃ (A : Option Addr) (n c : Nat) (l : List Ex), e = .returned (.slice A n c) ∧ SlT exEnc 4 197 w' A n l ∧ (∀ x ∈ l, ExOk x) ∧ n ≤ 2 ∧ n ≤ c ∧ Strm 25 w' B sb (m + 30) ∧ w.grownBy w' (some sb)) := by
  refine gw_enter ⟨42, w, (some sb), []⟩ Tryd.func65 rfl Tryd.ntmps65 rfl (memS (X := []) hS allF_nil allL_nil) ?_
  refine gw_seq ?_
  refine gw_region ?_
  refine wl_ov (ov_assign rfl) rfl ?_
  refine wl_nil ?_
  refine nx_then ?_
  refine gw_seq ?_
  refine gw_region ?_
  refine wl_ov (ov_move rfl) rfl ?_
  refine wl_buildSlice (e := 3) (cs := [.int .i64 0, .int .i64 5, .int .i64 100]) rfl (by kernel_rfl) rfl fun g1 => ?_
  refine wl_got (γ := Int) (val := fun v => .int .i64 v) (φ := fun v => v ∈ ([0, 5, 100] : List Int)) rfl cb23 rfl rfl rfl rfl (fun wx hm => (pick_any [0, 5, 100] _ _ _ wx B sb _ hm.k (by omega) (by simp) (by simp) (hm.blkI 0 rfl) (hm.neRow 0 rfl rfl))) fun v2 hv2 => ?_
  have bv2 : 0 ≤ v2 ∧ v2 ≤ 100 := mem_rng hv2 (by decide)
  have bv20 := bv2.1
  have bv21 := bv2.2
  clear bv2
  refine wl_ov (ov_move rfl) rfl ?_
  refine wl_buildSlice (e := 3) (cs := [.int .i64 0, .int .i64 2]) rfl (by kernel_rfl) rfl fun g3 => ?_
  refine wl_got (γ := Int) (val := fun v => .int .i64 v) (φ := fun v => v ∈ ([0, 2] : List Int)) rfl cb23 rfl rfl rfl rfl (fun wx hm => (pick_any [0, 2] _ _ _ wx B sb _ hm.k (by omega) (by simp) (by simp) (hm.blkI 0 rfl) (hm.neRow 0 rfl rfl))) fun v4 hv4 => ?_
  have bv4 : 0 ≤ v4 ∧ v4 ≤ 2 := mem_rng hv4 (by decide)
  have bv40 := bv4.1
  have bv41 := bv4.2
  clear bv4
  refine wl_ov (ov_move rfl) rfl ?_
  refine wl_buildSlice (e := 3) (cs := [.int .i64 (-1), .int .i64 0, .int .i64 7]) rfl (by kernel_rfl) rfl fun g5 => ?_
  refine wl_got (γ := Int) (val := fun v => .int .i64 v) (φ := fun v => v ∈ ([-1, 0, 7] : List Int)) rfl cb23 rfl rfl rfl rfl (fun wx hm => (pick_any [-1, 0, 7] _ _ _ wx B sb _ hm.k (by omega) (by simp) (by simp) (hm.blkI 0 rfl) (hm.neRow 0 rfl rfl))) fun v6 hv6 => ?_
  have bv6 : -1 ≤ v6 ∧ v6 ≤ 7 := mem_rng hv6 (by decide)
  have bv60 := bv6.1
  have bv61 := bv6.2
  clear bv6
  refine wl_ov (ov_build (cs := [.string ⟨#[109, 97, 112]⟩, .int .i64 v2, .int .i64 v4, .int .i64 v6]) rfl (by kernel_rfl)) rfl ?_
  refine wl_ov (ov_move rfl) rfl ?_
  refine wl_buildSlice (e := 3) (cs := [.int .i64 0, .int .i64 10]) rfl (by kernel_rfl) rfl fun g7 => ?_
  refine wl_got (γ := Int) (val := fun v => .int .i64 v) (φ := fun v => v ∈ ([0, 10] : List Int)) rfl cb23 rfl rfl rfl rfl (fun wx hm => (pick_any [0, 10] _ _ _ wx B sb _ hm.k (by omega) (by simp) (by simp) (hm.blkI 0 rfl) (hm.neRow 0 rfl rfl))) fun v8 hv8 => ?_
  have bv8 : 0 ≤ v8 ∧ v8 ≤ 10 := mem_rng hv8 (by decide)
  have bv80 := bv8.1
  have bv81 := bv8.2
  clear bv8
  refine wl_ov (ov_move rfl) rfl ?_
  refine wl_buildSlice (e := 3) (cs := [.int .i64 0, .int .i64 3, .int .i64 50]) rfl (by kernel_rfl) rfl fun g9 => ?_
  refine wl_got (γ := Int) (val := fun v => .int .i64 v) (φ := fun v => v ∈ ([0, 3, 50] : List Int)) rfl cb23 rfl rfl rfl rfl (fun wx hm => (pick_any [0, 3, 50] _ _ _ wx B sb _ hm.k (by omega) (by simp) (by simp) (hm.blkI 0 rfl) (hm.neRow 0 rfl rfl))) fun v10 hv10 => ?_
  have bv10 : 0 ≤ v10 ∧ v10 ≤ 50 := mem_rng hv10 (by decide)
  have bv100 := bv10.1
  have bv101 := bv10.2
  clear bv10
  refine wl_ov (ov_move rfl) rfl ?_
  refine wl_buildSlice (e := 3) (cs := [.int .i64 (-1), .int .i64 (-1), .int .i64 20, .int .i64 1000]) rfl (by kernel_rfl) rfl fun g11 => ?_
  refine wl_got (γ := Int) (val := fun v => .int .i64 v) (φ := fun v => v ∈ ([-1, -1, 20, 1000] : List Int)) rfl cb23 rfl rfl rfl rfl (fun wx hm => (pick_any [-1, -1, 20, 1000] _ _ _ wx B sb _ hm.k (by omega) (by simp) (by simp) (hm.blkI 0 rfl) (hm.neRow 0 rfl rfl))) fun v12 hv12 => ?_
  have bv12 : -1 ≤ v12 ∧ v12 ≤ 1000 := mem_rng hv12 (by decide)
  have bv120 := bv12.1
  have bv121 := bv12.2
  clear bv12
  refine wl_ov (ov_build (cs := [.string ⟨#[115, 101, 97, 116]⟩, .int .i64 v8, .int .i64 v10, .int .i64 v12]) rfl (by kernel_rfl)) rfl ?_
  refine wl_buildSlice (e := 197) (cs := [.string ⟨#[109, 97, 112]⟩, .int .i64 v2, .int .i64 v4, .int .i64 v6, .string ⟨#[115, 101, 97, 116]⟩, .int .i64 v8, .int .i64 v10, .int .i64 v12]) rfl (by kernel_rfl) rfl fun g13 => ?_
  refine wl_ov (ov_assign rfl) rfl ?_
  refine wl_nil ?_
  refine nx_then ?_
  refine gw_seq ?_
  refine gw_seq ?_
  refine gw_region ?_
  refine wl_ov (ov_move rfl) rfl ?_
  refine wl_got (γ := Bool) (val := fun v => .bool v) (φ := fun v => True) rfl cb87 rfl rfl rfl rfl (fun wx hm => ((flip_any _ wx B sb _ hm.k (by omega) (by omega) (by omega)).mono fun _ _ ⟨v, he, hS, hg⟩ => ⟨v, trivial, he, hS, hg⟩)) fun f14 _ => ?_
  refine wl_nil ?_
  refine nx_then ?_
  refine gw_cond rfl (fun hh => ?_) (fun hh => ?_)
  · have hf : f14 = true := by simpa using hh
    clear hh
    refine gw_region ?_
    refine wl_ov (ov_move rfl) rfl ?_
    refine wl_ov (ov_move rfl) rfl ?_
    refine wl_buildSlice (e := 9) (cs := [.string ⟨#[]⟩, .string ⟨#[65]⟩, .string ⟨#[109, 97, 112]⟩, .string ⟨#[115, 101, 97, 116]⟩]) rfl (by kernel_rfl) rfl fun g15 => ?_
    refine wl_got (γ := ByteArray) (val := fun v => .string v) (φ := fun v => v ∈ ([⟨#[]⟩, ⟨#[65]⟩, ⟨#[109, 97, 112]⟩, ⟨#[115, 101, 97, 116]⟩] : List ByteArray)) rfl cb66 rfl rfl rfl rfl (fun wx hm => (some_any [⟨#[]⟩, ⟨#[65]⟩, ⟨#[109, 97, 112]⟩, ⟨#[115, 101, 97, 116]⟩] _ _ _ wx B sb _ hm.k (by omega) (by simp) (by simp) (hm.blkI 0 rfl) (hm.neRow 0 rfl rfl))) fun s16 hs16 => ?_
    have zs16 : s16.size ≤ 100 := mem_sz hs16 (by decide)
    refine wl_ov (ov_move rfl) rfl ?_
    refine wl_got (γ := Int) (val := fun v => .int .i64 v) (φ := fun v => -2000000000000000 ≤ v ∧ v ≤ 2000000000000000) rfl cb89 rfl rfl rfl rfl (fun wx hm => (odd_any _ _ wx B sb _ hm.k (by omega) (by omega) (by omega) (by omega))) fun v17 hv17 => ?_
    refine wl_ov (ov_move rfl) rfl ?_
    refine wl_got (γ := Int) (val := fun v => .int .i64 v) (φ := fun v => -2000000000000000 ≤ v ∧ v ≤ 2000000000000000) rfl cb89 rfl rfl rfl rfl (fun wx hm => (odd_any _ _ wx B sb _ hm.k (by omega) (by omega) (by omega) (by omega))) fun v18 hv18 => ?_
    refine wl_ov (ov_build (cs := [.string s16, .int .i64 v17, .int .i64 0, .int .i64 v18]) rfl (by kernel_rfl)) rfl ?_
    refine wl_ov (ov_index (j := 1) es113 rfl rfl (by decide)) rfl ?_
    refine wl_stores (cs' := [.string ⟨#[109, 97, 112]⟩, .int .i64 v2, .int .i64 v4, .int .i64 v6, .string s16, .int .i64 v17, .int .i64 0, .int .i64 v18]) 1 rz197 rfl rfl rfl rfl rfl rfl rfl rfl ?_
    refine wl_nil ?_
    refine nx_then ?_
    refine gw_seq ?_
    refine gw_region ?_
    refine wl_ov (ov_move rfl) rfl ?_
    refine wl_ov (ov_move rfl) rfl ?_
    refine wl_buildSlice (e := 3) (cs := [.int .i64 0, .int .i64 1, .int .i64 2, .int .i64 2]) rfl (by kernel_rfl) rfl fun g19 => ?_
    refine wl_got (γ := Int) (val := fun v => .int .i64 v) (φ := fun v => v ∈ ([0, 1, 2, 2] : List Int)) rfl cb23 rfl rfl rfl rfl (fun wx hm => (pick_any [0, 1, 2, 2] _ _ _ wx B sb _ hm.k (by omega) (by simp) (by simp) (hm.blkI 0 rfl) (hm.neRow 0 rfl rfl))) fun vp hvp => ?_
    have bvp : 0 ≤ vp ∧ vp ≤ 2 := mem_rng hvp (by decide)
    have bvp0 := bvp.1
    have bvp1 := bvp.2
    clear bvp
    obtain ⟨q, rfl⟩ := Int.eq_ofNat_of_zero_le bvp0
    have hq2 : q ≤ 2 := by omega
    refine wl_ov (ov_sliceHi (hi := q) es113 rfl rfl rfl (by omega)) rfl ?_
    refine wl_ov (ov_assign rfl) rfl ?_
    refine wl_nil ?_
    refine nx_then ?_
    refine gw_ret ?_
    refine nx_ret1 rfl rfl fun wx hm => ?_
    have hS := SlT.ofBlk (l := ([⟨⟨#[109, 97, 112]⟩, v2, v4, v6⟩, ⟨s16, v17, 0, v18⟩] : List Ex)) ex_len (hm.blkI 2 rfl)
    exact ⟨_, q, 2, ([⟨⟨#[109, 97, 112]⟩, v2, v4, v6⟩, ⟨s16, v17, 0, v18⟩] : List Ex).take q, rfl, hS.takeT hq2, ex_two (show (⟨#[109, 97, 112]⟩ : ByteArray).size ≤ 1000000 by decide) (show (s16 : ByteArray).size ≤ 1000000 by omega), hq2, hq2, hm.k.more (by omega), hm.g⟩
  · have hf : f14 = false := by simpa using hh
    clear hh
    refine gw_skip ?_
    refine nx_then ?_
    refine gw_seq ?_
    refine gw_region ?_
    refine wl_ov (ov_move rfl) rfl ?_
    refine wl_ov (ov_move rfl) rfl ?_
    refine wl_buildSlice (e := 3) (cs := [.int .i64 0, .int .i64 1, .int .i64 2, .int .i64 2]) rfl (by kernel_rfl) rfl fun g20 => ?_
    refine wl_got (γ := Int) (val := fun v => .int .i64 v) (φ := fun v => v ∈ ([0, 1, 2, 2] : List Int)) rfl cb23 rfl rfl rfl rfl (fun wx hm => (pick_any [0, 1, 2, 2] _ _ _ wx B sb _ hm.k (by omega) (by simp) (by simp) (hm.blkI 0 rfl) (hm.neRow 0 rfl rfl))) fun vp hvp => ?_
    have bvp : 0 ≤ vp ∧ vp ≤ 2 := mem_rng hvp (by decide)
    have bvp0 := bvp.1
    have bvp1 := bvp.2
    clear bvp
    obtain ⟨q, rfl⟩ := Int.eq_ofNat_of_zero_le bvp0
    have hq2 : q ≤ 2 := by omega
    refine wl_ov (ov_sliceHi (hi := q) es113 rfl rfl rfl (by omega)) rfl ?_
    refine wl_ov (ov_assign rfl) rfl ?_
    refine wl_nil ?_
    refine nx_then ?_
    refine gw_ret ?_
    refine nx_ret1 rfl rfl fun wx hm => ?_
    have hS := SlT.ofBlk (l := ([⟨⟨#[109, 97, 112]⟩, v2, v4, v6⟩, ⟨⟨#[115, 101, 97, 116]⟩, v8, v10, v12⟩] : List Ex)) ex_len (hm.blkI 1 rfl)
    exact ⟨_, q, 2, ([⟨⟨#[109, 97, 112]⟩, v2, v4, v6⟩, ⟨⟨#[115, 101, 97, 116]⟩, v8, v10, v12⟩] : List Ex).take q, rfl, hS.takeT hq2, ex_two (show (⟨#[109, 97, 112]⟩ : ByteArray).size ≤ 1000000 by decide) (show (⟨#[115, 101, 97, 116]⟩ : ByteArray).size ≤ 1000000 by decide), hq2, hq2, hm.k.more (by omega), hm.g⟩

end Go.Proofs.YtmpomocahgcebaaDoor
