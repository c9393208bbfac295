/- Codes: the checks, the keys, the generators. -/
import Derived.Test.YtmpomocahgcebaaDoorTl
import Derived.Test.YtmpomocahgcebaaDoorTd
import Derived.Test.YtmpomocahgcebaaDoorPv
import Derived.Test.YtmpomocahgcebaaDoorGb
import Derived.Test.YtmpomocahgcebaaDoorSe
import Derived.Test.YtmpomocahgcebaaDoorTw
namespace Go.Proofs.YtmpomocahgcebaaDoor
open Go.RowKit

def cdEnc (x : Cd) : List Value := [.string x.key, .string x.cls, .int .i64 x.fr, .int .i64 x.to_, .int .i64 x.days, .int .i64 x.mille]
theorem cd_len (x : Cd) : (cdEnc x).length = 6 := rfl
theorem prevCd_le {l : List Cd} {k : Nat} {b : Cd} (h : keyB b.key = true) : leB b.key (prevCd l k) = leCd (prevOf l k) b := by
  unfold prevCd leCd
  cases prevOf l k with
  | none => exact key_low h
  | some q => rfl
def sgEnc (x : ByteArray) : List Value := [.string x]
theorem sg_len (x : ByteArray) : (sgEnc x).length = 1 := rfl

set_option maxRecDepth 100000 in
set_option maxHeartbeats 1000000 in
theorem checkCodes_any (l : List Cd) (A : Option Addr) (n c : Nat) (w : World) (hl : SlT cdEnc 6 188 w A n l) (hok : ∀ b ∈ l, CdOk b) (hn : n ≤ 1000000) :
    Calls Tryd.prog 62 #[.slice A n c] w (GotE w (codesE l)) := by
  refine gw_enter ⟨68, w, none, []⟩ Tryd.func62 rfl Tryd.ntmps62 rfl (mem0 (X := [SlOld cdEnc 6 188 w.heap.size none A n l]) (allF_cons hl.old allF_nil) (allL_cons SlOld.lasts allL_nil)) ?_
  refine gw_seq ?_
  refine gw_region ?_
  have hlen := hl.len
  refine wl_ov (ov_assign rfl) rfl ?_
  refine wl_nil ?_
  refine nx_then ?_
  refine gw_seq ?_
  refine gw_seq ?_
  refine gw_region ?_
  refine wl_ov (ov_move rfl) rfl ?_
  refine wl_ov (ov_len es103 rfl) rfl ?_
  refine wl_ov (ov_gtr rfl rfl) rfl ?_
  refine wl_nil ?_
  refine nx_then ?_
  refine gw_cond rfl (fun hh => ?_) (fun hh => ?_)
  · have h1 : 50 < ((n : Nat) : Int) := by simpa using hh
    clear hh
    refine gw_seq ?_
    refine gw_region ?_
    refine wl_ov (ov_assign rfl) rfl ?_
    refine wl_nil ?_
    refine nx_then ?_
    refine gw_ret ?_
    refine nx_then_ret ?_
    refine nx_ret1 rfl rfl fun wx hm => ?_
    exact ⟨ret_int (by unfold codesE; rw [if_pos (by omega)]), hm.g⟩
  · have h1 : ¬ (50 < ((n : Nat) : Int)) := by simpa using hh
    clear hh
    refine gw_skip ?_
    refine nx_then ?_
    refine gw_seq ?_
    refine gw_seq ?_
    refine gw_region ?_
    refine wl_ov (ov_move rfl) rfl ?_
    refine wl_ov (ov_len es103 rfl) rfl ?_
    refine wl_ov (ov_move rfl) rfl ?_
    refine wl_nil ?_
    refine nx_then ?_
    refine gw_block ?_
    refine gw_loop (γ := Nat) (fun (k : Nat) => k ≤ n ∧ codesE l = scanE codeE (prevOf l k) (l.drop k)) (fun (k : Nat) => [(0, .slice A n c), (8, .slice A n c), (9, .int .i64 ((n : Nat) : Int)), (10, .int .i64 ((k : Nat) : Int))]) (fun (k : Nat) => fun _ => True) (fun (k : Nat) => []) (fun (k : Nat) => []) (fun (k : Nat) => [SlOld cdEnc 6 188 w.heap.size none A n l]) (fun (k : Nat) => n - k) 0 ⟨Nat.zero_le _, by unfold codesE; rw [if_neg (by omega)]; rfl⟩ ⟨rfl, rfl, rfl, rfl, trivial⟩ (fun _ hm => hm.pick [] [] [0] rfl rfl) ?_
    intro k hinv
    replace hinv : k ≤ n ∧ codesE l = scanE codeE (prevOf l k) (l.drop k) := hinv
    refine gw_seq ?_
    refine gw_region ?_
    refine wl_ov (ov_lss rfl rfl) rfl ?_
    refine wl_nil ?_
    refine nx_then ?_
    refine gw_seq ?_
    refine gw_cond rfl (fun hh => ?_) (fun hh => ?_)
    · have hk : ((k : Nat) : Int) < ((n : Nat) : Int) := by simpa using hh
      clear hh
      refine gw_skip ?_
      refine nx_then ?_
      refine gw_seq ?_
      refine gw_block ?_
      refine gw_seq ?_
      refine gw_region ?_
      obtain ⟨b, off, hA, _, _⟩ := hl.get (by omega)
      subst hA
      obtain ⟨x, hx⟩ : ∃ x, l[k]? = some x := ⟨_, List.getElem?_eq_getElem (by omega)⟩
      obtain ⟨ke, cl, fr, tt, dy, mi⟩ := x
      have hat := scanE_at codeE l k _ hx
      have hk1 : ke.size ≤ 1000000 := (hok _ (List.mem_of_getElem? hx)).1
      have hk2 : cl.size ≤ 1000000 := (hok _ (List.mem_of_getElem? hx)).2
      refine wl_ov (ov_move rfl) rfl ?_
      refine wl_ov (ov_index (j := k) es103 rfl rfl (by omega)) rfl ?_
      refine wl_ov (ov_elem (vs := [.string ke, .string cl, .int .i64 fr, .int .i64 tt, .int .i64 dy, .int .i64 mi]) rz188 rfl (fun _ hm => (hm.fact 0 rfl).1) hx rfl rfl) rfl ?_
      refine wl_alloc zc188 rfl fun g1 => ?_
      refine wl_ov (ov_assign rfl) rfl ?_
      refine wl_stores (cs' := [.string ke, .string cl, .int .i64 fr, .int .i64 tt, .int .i64 dy, .int .i64 mi]) 0 rz188 rfl rfl rfl rfl rfl rfl rfl rfl ?_
      refine wl_nil ?_
      refine nx_then ?_
      refine gw_block ?_
      refine gw_seq ?_
      refine gw_region ?_
      refine wl_ov (ov_field fo188_0 rfl rfl) rfl ?_
      refine wl_ov (ov_load sc9 rfl (fun _ hm => hm.blkI 0 rfl) rfl) rfl ?_
      refine wl_callw rfl cb106 rfl rfl (fun wx hm => (isKey_any _ wx (by omega))) ?_
      refine wl_ov (ov_un_not rfl) rfl ?_
      refine wl_ov (ov_assign rfl) rfl ?_
      refine wl_nil ?_
      refine nx_then ?_
      refine gw_cond rfl (fun hh => ?_) (fun hh => ?_)
      · have h2 : (keyB ke) = false := by simpa using hh
        clear hh
        refine gw_seq ?_
        refine gw_region ?_
        refine wl_ov (ov_assign rfl) rfl ?_
        refine wl_nil ?_
        refine nx_then ?_
        refine gw_ret ?_
        refine nx_blk_ret ?_
        refine nx_blk_ret ?_
        refine nx_then_ret ?_
        refine nx_then_ret ?_
        refine nx_blk_ret ?_
        refine nx_then_ret ?_
        have hE : codeE (prevOf l k) ⟨ke, cl, fr, tt, dy, mi⟩ = 5 := by unfold codeE; simp [h2]
        refine nx_ret1 rfl rfl fun wx hm => ?_
        exact ⟨ret_int (by rw [hinv.2, hat, if_neg (by rw [hE]; decide), hE]), hm.g⟩
      · have h2 : (keyB ke) = true := by simpa using hh
        clear hh
        refine gw_seq ?_
        by_cases hk0 : k = 0
        · have hO : leCd (prevOf l k) ⟨ke, cl, fr, tt, dy, mi⟩ = false := by rw [prevOf_zero hk0]; rfl
          refine gw_draw (fun wz => Blk wz g1 188 [.string ke, .string cl, .int .i64 fr, .int .i64 tt, .int .i64 dy, .int .i64 mi] ∧ (SlOld cdEnc 6 188 w.heap.size none (some ⟨b, off, none⟩) n l) wz ∧ True) mixed ?_
          refine wa_take 0 rfl (by kernel_rfl) (by kernel_rfl) (by kernel_rfl) (listed' := #[true, false, false, false, false, false, false, false, false, false, false, false, false, false]) rfl (fun _ _ _ h => h) (fun _ hm => ⟨hm.blkI 0 rfl, hm.fact 0 rfl, trivial⟩) (ov_move rfl) rfl ?_
          refine wa_take 1 rfl (by kernel_rfl) (by kernel_rfl) (by kernel_rfl) (listed' := #[true, true, false, false, false, false, false, false, false, false, false, false, false, false]) rfl (fun _ _ _ h => h) (fun _ hm => ⟨hm.blkI 0 rfl, hm.fact 0 rfl, trivial⟩) (ov_gtr rfl rfl) rfl ?_
          refine wa_set 22 (v' := .bool false) rfl (congrArg Value.bool (decide_eq_false (by omega))) ?_
          refine wa_take 2 rfl (by kernel_rfl) (by kernel_rfl) (by kernel_rfl) (listed' := #[true, true, true, false, false, false, false, false, false, false, false, false, false, false]) rfl (fun _ _ _ h => h) (fun _ hm => ⟨hm.blkI 0 rfl, hm.fact 0 rfl, trivial⟩) (ov_move rfl) rfl ?_
          refine wa_take_off 3 rfl rfl rfl (by decide) (by kernel_rfl) (by kernel_rfl) (by kernel_rfl) (listed' := #[true, true, true, true, false, false, false, false, false, false, false, false, false, false]) rfl (fun _ _ _ h => h) (fun _ hm => ⟨hm.blkI 0 rfl, hm.fact 0 rfl, trivial⟩) rfl ?_
          refine wa_take_off 4 rfl rfl rfl (by decide) (by kernel_rfl) (by kernel_rfl) (by kernel_rfl) (listed' := #[true, true, true, true, true, false, false, false, false, false, false, false, false, false]) rfl (fun _ _ _ h => h) (fun _ hm => ⟨hm.blkI 0 rfl, hm.fact 0 rfl, trivial⟩) rfl ?_
          refine wa_take_off 5 rfl rfl rfl (by decide) (by kernel_rfl) (by kernel_rfl) (by kernel_rfl) (listed' := #[true, true, true, true, true, true, false, false, false, false, false, false, false, false]) rfl (fun _ _ _ h => h) (fun _ hm => ⟨hm.blkI 0 rfl, hm.fact 0 rfl, trivial⟩) rfl ?_
          refine wa_take_off 6 rfl rfl rfl (by decide) (by kernel_rfl) (by kernel_rfl) (by kernel_rfl) (listed' := #[true, true, true, true, true, true, true, false, false, false, false, false, false, false]) rfl (fun _ _ _ h => h) (fun _ hm => ⟨hm.blkI 0 rfl, hm.fact 0 rfl, trivial⟩) rfl ?_
          refine wa_take_off 7 rfl rfl rfl (by decide) (by kernel_rfl) (by kernel_rfl) (by kernel_rfl) (listed' := #[true, true, true, true, true, true, true, true, false, false, false, false, false, false]) rfl (fun _ _ _ h => h) (fun _ hm => ⟨hm.blkI 0 rfl, hm.fact 0 rfl, trivial⟩) rfl ?_
          refine wa_take_off 8 rfl rfl rfl (by decide) (by kernel_rfl) (by kernel_rfl) (by kernel_rfl) (listed' := #[true, true, true, true, true, true, true, true, true, false, false, false, false, false]) rfl (fun _ _ _ h => h) (fun _ hm => ⟨hm.blkI 0 rfl, hm.fact 0 rfl, trivial⟩) rfl ?_
          refine wa_take_off 9 rfl rfl rfl (by decide) (by kernel_rfl) (by kernel_rfl) (by kernel_rfl) (listed' := #[true, true, true, true, true, true, true, true, true, true, false, false, false, false]) rfl (fun _ _ _ h => h) (fun _ hm => ⟨hm.blkI 0 rfl, hm.fact 0 rfl, trivial⟩) rfl ?_
          refine wa_take_off 10 rfl rfl rfl (by decide) (by kernel_rfl) (by kernel_rfl) (by kernel_rfl) (listed' := #[true, true, true, true, true, true, true, true, true, true, true, false, false, false]) rfl (fun _ _ _ h => h) (fun _ hm => ⟨hm.blkI 0 rfl, hm.fact 0 rfl, trivial⟩) rfl ?_
          refine wa_take_off 11 rfl rfl rfl (by decide) (by kernel_rfl) (by kernel_rfl) (by kernel_rfl) (listed' := #[true, true, true, true, true, true, true, true, true, true, true, true, false, false]) rfl (fun _ _ _ h => h) (fun _ hm => ⟨hm.blkI 0 rfl, hm.fact 0 rfl, trivial⟩) rfl ?_
          refine wa_take 12 rfl (by kernel_rfl) (by kernel_rfl) (by kernel_rfl) (listed' := #[true, true, true, true, true, true, true, true, true, true, true, true, true, false]) rfl (fun _ _ _ h => h) (fun _ hm => ⟨hm.blkI 0 rfl, hm.fact 0 rfl, trivial⟩) (ov_pick_f rfl rfl) rfl ?_
          refine wa_take 13 rfl (by kernel_rfl) (by kernel_rfl) (by kernel_rfl) (listed' := #[true, true, true, true, true, true, true, true, true, true, true, true, true, true]) rfl (fun _ _ _ h => h) (fun _ hm => ⟨hm.blkI 0 rfl, hm.fact 0 rfl, trivial⟩) (ov_assign rfl) rfl ?_
          refine wa_done (by kernel_rfl) ?_
          refine nx_then ?_
          refine gw_cond rfl (fun hh => by cases hh) (fun _ => ?_)
          refine gw_seq ?_
          refine gw_region ?_
          refine wl_ov (ov_field fo188_1 rfl rfl) rfl ?_
          refine wl_ov (ov_load sc9 rfl (fun _ hm => hm.blkI 0 rfl) rfl) rfl ?_
          refine wl_ov (ov_sneq rfl rfl) rfl ?_
          refine wl_ov (ov_move rfl) rfl ?_
          rcases Bool.eq_false_or_eq_true (!(cl.toList == (⟨#[]⟩ : ByteArray).toList)) with h31 | h31
          · refine wl_set 38 rfl (congrArg Value.bool h31) ?_
            have h31 : emptyS cl = false := by unfold emptyS; simpa only [Bool.not_eq_true'] using h31
            refine wl_guard_on rfl rfl rfl ?_
            refine wl_ov (ov_field fo188_1 rfl rfl) rfl ?_
            refine wl_guard_on rfl rfl rfl ?_
            refine wl_ov (ov_load sc9 rfl (fun _ hm => hm.blkI 0 rfl) rfl) rfl ?_
            refine wl_guard_on rfl rfl rfl ?_
            refine wl_callw rfl cb106 rfl rfl (fun wx hm => (isKey_any _ wx (by omega))) ?_
            refine wl_guard_on rfl rfl rfl ?_
            refine wl_ov (ov_un_not rfl) rfl ?_
            refine wl_ov (ov_pick_t rfl rfl) rfl ?_
            refine wl_ov (ov_assign rfl) rfl ?_
            refine wl_nil ?_
            refine nx_then ?_
            refine gw_cond rfl (fun hh => ?_) (fun hh => ?_)
            · have h32 : (keyB cl) = false := by simpa using hh
              clear hh
              refine gw_seq ?_
              refine gw_region ?_
              refine wl_ov (ov_assign rfl) rfl ?_
              refine wl_nil ?_
              refine nx_then ?_
              refine gw_ret ?_
              refine nx_blk_ret ?_
              refine nx_blk_ret ?_
              refine nx_then_ret ?_
              refine nx_then_ret ?_
              refine nx_blk_ret ?_
              refine nx_then_ret ?_
              have hE : codeE (prevOf l k) ⟨ke, cl, fr, tt, dy, mi⟩ = 5 := by unfold codeE; simp [h2, hO, h31, h32]
              refine nx_ret1 rfl rfl fun wx hm => ?_
              exact ⟨ret_int (by rw [hinv.2, hat, if_neg (by rw [hE]; decide), hE]), hm.g⟩
            · have h32 : (keyB cl) = true := by simpa using hh
              clear hh
              refine gw_seq ?_
              refine gw_region ?_
              refine wl_ov (ov_field fo188_2 rfl rfl) rfl ?_
              refine wl_ov (ov_load sc3 rfl (fun _ hm => hm.blkI 0 rfl) rfl) rfl ?_
              refine wl_ov (ov_field fo188_3 rfl rfl) rfl ?_
              refine wl_ov (ov_load sc3 rfl (fun _ hm => hm.blkI 0 rfl) rfl) rfl ?_
              refine wl_callw rfl cb99 rfl rfl (fun wx hm => (in_any _ _ _ wx)) ?_
              refine wl_ov (ov_un_not rfl) rfl ?_
              refine wl_ov (ov_move rfl) rfl ?_
              rcases Bool.eq_false_or_eq_true (!(inB fr 0 tt)) with h4 | h4
              · refine wl_set 51 rfl (congrArg Value.bool h4) ?_
                refine wl_guard_off rfl rfl rfl (by decide) rfl ?_
                refine wl_guard_off rfl rfl rfl (by decide) rfl ?_
                refine wl_guard_off rfl rfl rfl (by decide) rfl ?_
                refine wl_ov (ov_pick_t rfl rfl) rfl ?_
                refine wl_ov (ov_assign rfl) rfl ?_
                refine wl_nil ?_
                refine nx_then ?_
                refine gw_cond rfl (fun _ => ?_) (fun hh => by cases hh)
                refine gw_seq ?_
                refine gw_region ?_
                refine wl_ov (ov_assign rfl) rfl ?_
                refine wl_nil ?_
                refine nx_then ?_
                refine gw_ret ?_
                refine nx_blk_ret ?_
                refine nx_blk_ret ?_
                refine nx_then_ret ?_
                refine nx_then_ret ?_
                refine nx_blk_ret ?_
                refine nx_then_ret ?_
                have hE : codeE (prevOf l k) ⟨ke, cl, fr, tt, dy, mi⟩ = 1 := by unfold codeE; simp [h2, hO, h31, h32, h4]
                refine nx_ret1 rfl rfl fun wx hm => ?_
                exact ⟨ret_int (by rw [hinv.2, hat, if_neg (by rw [hE]; decide), hE]), hm.g⟩
              · refine wl_set 51 rfl (congrArg Value.bool h4) ?_
                refine wl_guard_on rfl rfl rfl ?_
                refine wl_ov (ov_field fo188_3 rfl rfl) rfl ?_
                refine wl_guard_on rfl rfl rfl ?_
                refine wl_ov (ov_load sc3 rfl (fun _ hm => hm.blkI 0 rfl) rfl) rfl ?_
                refine wl_guard_on rfl rfl rfl ?_
                refine wl_ov (ov_gtr rfl rfl) rfl ?_
                refine wl_ov (ov_pick_f rfl rfl) rfl ?_
                refine wl_ov (ov_assign rfl) rfl ?_
                refine wl_nil ?_
                refine nx_then ?_
                refine gw_cond rfl (fun hh => ?_) (fun hh => ?_)
                · have h5 : 4001 < tt := by simpa using hh
                  clear hh
                  refine gw_seq ?_
                  refine gw_region ?_
                  refine wl_ov (ov_assign rfl) rfl ?_
                  refine wl_nil ?_
                  refine nx_then ?_
                  refine gw_ret ?_
                  refine nx_blk_ret ?_
                  refine nx_blk_ret ?_
                  refine nx_then_ret ?_
                  refine nx_then_ret ?_
                  refine nx_blk_ret ?_
                  refine nx_then_ret ?_
                  have hE : codeE (prevOf l k) ⟨ke, cl, fr, tt, dy, mi⟩ = 1 := by unfold codeE; simp [h2, hO, h31, h32, h4, h5]
                  refine nx_ret1 rfl rfl fun wx hm => ?_
                  exact ⟨ret_int (by rw [hinv.2, hat, if_neg (by rw [hE]; decide), hE]), hm.g⟩
                · have h5 : ¬ (4001 < tt) := by simpa using hh
                  clear hh
                  refine gw_seq ?_
                  refine gw_region ?_
                  refine wl_ov (ov_field fo188_4 rfl rfl) rfl ?_
                  refine wl_ov (ov_load sc3 rfl (fun _ hm => hm.blkI 0 rfl) rfl) rfl ?_
                  refine wl_callw rfl cb99 rfl rfl (fun wx hm => (in_any _ _ _ wx)) ?_
                  refine wl_ov (ov_un_not rfl) rfl ?_
                  refine wl_ov (ov_move rfl) rfl ?_
                  rcases Bool.eq_false_or_eq_true (!(inB dy 1 120)) with h6 | h6
                  · refine wl_set 61 rfl (congrArg Value.bool h6) ?_
                    refine wl_guard_off rfl rfl rfl (by decide) rfl ?_
                    refine wl_guard_off rfl rfl rfl (by decide) rfl ?_
                    refine wl_guard_off rfl rfl rfl (by decide) rfl ?_
                    refine wl_guard_off rfl rfl rfl (by decide) rfl ?_
                    refine wl_ov (ov_pick_t rfl rfl) rfl ?_
                    refine wl_ov (ov_assign rfl) rfl ?_
                    refine wl_nil ?_
                    refine nx_then ?_
                    refine gw_cond rfl (fun _ => ?_) (fun hh => by cases hh)
                    refine gw_seq ?_
                    refine gw_region ?_
                    refine wl_ov (ov_assign rfl) rfl ?_
                    refine wl_nil ?_
                    refine nx_then ?_
                    refine gw_ret ?_
                    refine nx_blk_ret ?_
                    refine nx_blk_ret ?_
                    refine nx_then_ret ?_
                    refine nx_then_ret ?_
                    refine nx_blk_ret ?_
                    refine nx_then_ret ?_
                    have hE : codeE (prevOf l k) ⟨ke, cl, fr, tt, dy, mi⟩ = 1 := by unfold codeE; simp [h2, hO, h31, h32, h4, h5, h6]
                    refine nx_ret1 rfl rfl fun wx hm => ?_
                    exact ⟨ret_int (by rw [hinv.2, hat, if_neg (by rw [hE]; decide), hE]), hm.g⟩
                  · refine wl_set 61 rfl (congrArg Value.bool h6) ?_
                    refine wl_guard_on rfl rfl rfl ?_
                    refine wl_ov (ov_field fo188_5 rfl rfl) rfl ?_
                    refine wl_guard_on rfl rfl rfl ?_
                    refine wl_ov (ov_load sc3 rfl (fun _ hm => hm.blkI 0 rfl) rfl) rfl ?_
                    refine wl_guard_on rfl rfl rfl ?_
                    refine wl_callw rfl cb99 rfl rfl (fun wx hm => (in_any _ _ _ wx)) ?_
                    refine wl_guard_on rfl rfl rfl ?_
                    refine wl_ov (ov_un_not rfl) rfl ?_
                    refine wl_ov (ov_pick_f rfl rfl) rfl ?_
                    refine wl_ov (ov_assign rfl) rfl ?_
                    refine wl_nil ?_
                    refine nx_then ?_
                    refine gw_cond rfl (fun hh => ?_) (fun hh => ?_)
                    · have h7 : (inB mi 1 1000) = false := by simpa using hh
                      clear hh
                      refine gw_seq ?_
                      refine gw_region ?_
                      refine wl_ov (ov_assign rfl) rfl ?_
                      refine wl_nil ?_
                      refine nx_then ?_
                      refine gw_ret ?_
                      refine nx_blk_ret ?_
                      refine nx_blk_ret ?_
                      refine nx_then_ret ?_
                      refine nx_then_ret ?_
                      refine nx_blk_ret ?_
                      refine nx_then_ret ?_
                      have hE : codeE (prevOf l k) ⟨ke, cl, fr, tt, dy, mi⟩ = 1 := by unfold codeE; simp [h2, hO, h31, h32, h4, h5, h6, h7]
                      refine nx_ret1 rfl rfl fun wx hm => ?_
                      exact ⟨ret_int (by rw [hinv.2, hat, if_neg (by rw [hE]; decide), hE]), hm.g⟩
                    · have h7 : (inB mi 1 1000) = true := by simpa using hh
                      clear hh
                      refine gw_skip ?_
                      refine nx_blk_nrm ?_
                      refine nx_blk_nrm ?_
                      refine nx_then ?_
                      refine gw_region ?_
                      have hE : codeE (prevOf l k) ⟨ke, cl, fr, tt, dy, mi⟩ = 0 := by unfold codeE; simp [h2, hO, h31, h32, h4, h5, h6, h7]
                      refine wl_ov (ov_add rfl rfl (by omega) (by omega)) rfl ?_
                      refine wl_ov (ov_move rfl) rfl ?_
                      refine wl_nil ?_
                      exact nx_round (k + 1) ⟨by omega, by rw [hinv.2, hat, if_pos hE]⟩ (by omega) ⟨rfl, rfl, rfl, (some_int (by omega)), trivial⟩ (fun _ hm => hm.pick [] [] [0] rfl rfl)
          · refine wl_set 38 rfl (congrArg Value.bool h31) ?_
            have h31 : emptyS cl = true := by unfold emptyS; simpa only [Bool.not_eq_false'] using h31
            refine wl_guard_off rfl rfl rfl (by decide) rfl ?_
            refine wl_guard_off rfl rfl rfl (by decide) rfl ?_
            refine wl_guard_off rfl rfl rfl (by decide) rfl ?_
            refine wl_guard_off rfl rfl rfl (by decide) rfl ?_
            refine wl_ov (ov_pick_f rfl rfl) rfl ?_
            refine wl_ov (ov_assign rfl) rfl ?_
            refine wl_nil ?_
            refine nx_then ?_
            refine gw_cond rfl (fun hh => by cases hh) (fun _ => ?_)
            refine gw_seq ?_
            refine gw_region ?_
            refine wl_ov (ov_field fo188_2 rfl rfl) rfl ?_
            refine wl_ov (ov_load sc3 rfl (fun _ hm => hm.blkI 0 rfl) rfl) rfl ?_
            refine wl_ov (ov_field fo188_3 rfl rfl) rfl ?_
            refine wl_ov (ov_load sc3 rfl (fun _ hm => hm.blkI 0 rfl) rfl) rfl ?_
            refine wl_callw rfl cb99 rfl rfl (fun wx hm => (in_any _ _ _ wx)) ?_
            refine wl_ov (ov_un_not rfl) rfl ?_
            refine wl_ov (ov_move rfl) rfl ?_
            rcases Bool.eq_false_or_eq_true (!(inB fr 0 tt)) with h4 | h4
            · refine wl_set 51 rfl (congrArg Value.bool h4) ?_
              refine wl_guard_off rfl rfl rfl (by decide) rfl ?_
              refine wl_guard_off rfl rfl rfl (by decide) rfl ?_
              refine wl_guard_off rfl rfl rfl (by decide) rfl ?_
              refine wl_ov (ov_pick_t rfl rfl) rfl ?_
              refine wl_ov (ov_assign rfl) rfl ?_
              refine wl_nil ?_
              refine nx_then ?_
              refine gw_cond rfl (fun _ => ?_) (fun hh => by cases hh)
              refine gw_seq ?_
              refine gw_region ?_
              refine wl_ov (ov_assign rfl) rfl ?_
              refine wl_nil ?_
              refine nx_then ?_
              refine gw_ret ?_
              refine nx_blk_ret ?_
              refine nx_blk_ret ?_
              refine nx_then_ret ?_
              refine nx_then_ret ?_
              refine nx_blk_ret ?_
              refine nx_then_ret ?_
              have hE : codeE (prevOf l k) ⟨ke, cl, fr, tt, dy, mi⟩ = 1 := by unfold codeE; simp [h2, hO, h31, h4]
              refine nx_ret1 rfl rfl fun wx hm => ?_
              exact ⟨ret_int (by rw [hinv.2, hat, if_neg (by rw [hE]; decide), hE]), hm.g⟩
            · refine wl_set 51 rfl (congrArg Value.bool h4) ?_
              refine wl_guard_on rfl rfl rfl ?_
              refine wl_ov (ov_field fo188_3 rfl rfl) rfl ?_
              refine wl_guard_on rfl rfl rfl ?_
              refine wl_ov (ov_load sc3 rfl (fun _ hm => hm.blkI 0 rfl) rfl) rfl ?_
              refine wl_guard_on rfl rfl rfl ?_
              refine wl_ov (ov_gtr rfl rfl) rfl ?_
              refine wl_ov (ov_pick_f rfl rfl) rfl ?_
              refine wl_ov (ov_assign rfl) rfl ?_
              refine wl_nil ?_
              refine nx_then ?_
              refine gw_cond rfl (fun hh => ?_) (fun hh => ?_)
              · have h5 : 4001 < tt := by simpa using hh
                clear hh
                refine gw_seq ?_
                refine gw_region ?_
                refine wl_ov (ov_assign rfl) rfl ?_
                refine wl_nil ?_
                refine nx_then ?_
                refine gw_ret ?_
                refine nx_blk_ret ?_
                refine nx_blk_ret ?_
                refine nx_then_ret ?_
                refine nx_then_ret ?_
                refine nx_blk_ret ?_
                refine nx_then_ret ?_
                have hE : codeE (prevOf l k) ⟨ke, cl, fr, tt, dy, mi⟩ = 1 := by unfold codeE; simp [h2, hO, h31, h4, h5]
                refine nx_ret1 rfl rfl fun wx hm => ?_
                exact ⟨ret_int (by rw [hinv.2, hat, if_neg (by rw [hE]; decide), hE]), hm.g⟩
              · have h5 : ¬ (4001 < tt) := by simpa using hh
                clear hh
                refine gw_seq ?_
                refine gw_region ?_
                refine wl_ov (ov_field fo188_4 rfl rfl) rfl ?_
                refine wl_ov (ov_load sc3 rfl (fun _ hm => hm.blkI 0 rfl) rfl) rfl ?_
                refine wl_callw rfl cb99 rfl rfl (fun wx hm => (in_any _ _ _ wx)) ?_
                refine wl_ov (ov_un_not rfl) rfl ?_
                refine wl_ov (ov_move rfl) rfl ?_
                rcases Bool.eq_false_or_eq_true (!(inB dy 1 120)) with h6 | h6
                · refine wl_set 61 rfl (congrArg Value.bool h6) ?_
                  refine wl_guard_off rfl rfl rfl (by decide) rfl ?_
                  refine wl_guard_off rfl rfl rfl (by decide) rfl ?_
                  refine wl_guard_off rfl rfl rfl (by decide) rfl ?_
                  refine wl_guard_off rfl rfl rfl (by decide) rfl ?_
                  refine wl_ov (ov_pick_t rfl rfl) rfl ?_
                  refine wl_ov (ov_assign rfl) rfl ?_
                  refine wl_nil ?_
                  refine nx_then ?_
                  refine gw_cond rfl (fun _ => ?_) (fun hh => by cases hh)
                  refine gw_seq ?_
                  refine gw_region ?_
                  refine wl_ov (ov_assign rfl) rfl ?_
                  refine wl_nil ?_
                  refine nx_then ?_
                  refine gw_ret ?_
                  refine nx_blk_ret ?_
                  refine nx_blk_ret ?_
                  refine nx_then_ret ?_
                  refine nx_then_ret ?_
                  refine nx_blk_ret ?_
                  refine nx_then_ret ?_
                  have hE : codeE (prevOf l k) ⟨ke, cl, fr, tt, dy, mi⟩ = 1 := by unfold codeE; simp [h2, hO, h31, h4, h5, h6]
                  refine nx_ret1 rfl rfl fun wx hm => ?_
                  exact ⟨ret_int (by rw [hinv.2, hat, if_neg (by rw [hE]; decide), hE]), hm.g⟩
                · refine wl_set 61 rfl (congrArg Value.bool h6) ?_
                  refine wl_guard_on rfl rfl rfl ?_
                  refine wl_ov (ov_field fo188_5 rfl rfl) rfl ?_
                  refine wl_guard_on rfl rfl rfl ?_
                  refine wl_ov (ov_load sc3 rfl (fun _ hm => hm.blkI 0 rfl) rfl) rfl ?_
                  refine wl_guard_on rfl rfl rfl ?_
                  refine wl_callw rfl cb99 rfl rfl (fun wx hm => (in_any _ _ _ wx)) ?_
                  refine wl_guard_on rfl rfl rfl ?_
                  refine wl_ov (ov_un_not rfl) rfl ?_
                  refine wl_ov (ov_pick_f rfl rfl) rfl ?_
                  refine wl_ov (ov_assign rfl) rfl ?_
                  refine wl_nil ?_
                  refine nx_then ?_
                  refine gw_cond rfl (fun hh => ?_) (fun hh => ?_)
                  · have h7 : (inB mi 1 1000) = false := by simpa using hh
                    clear hh
                    refine gw_seq ?_
                    refine gw_region ?_
                    refine wl_ov (ov_assign rfl) rfl ?_
                    refine wl_nil ?_
                    refine nx_then ?_
                    refine gw_ret ?_
                    refine nx_blk_ret ?_
                    refine nx_blk_ret ?_
                    refine nx_then_ret ?_
                    refine nx_then_ret ?_
                    refine nx_blk_ret ?_
                    refine nx_then_ret ?_
                    have hE : codeE (prevOf l k) ⟨ke, cl, fr, tt, dy, mi⟩ = 1 := by unfold codeE; simp [h2, hO, h31, h4, h5, h6, h7]
                    refine nx_ret1 rfl rfl fun wx hm => ?_
                    exact ⟨ret_int (by rw [hinv.2, hat, if_neg (by rw [hE]; decide), hE]), hm.g⟩
                  · have h7 : (inB mi 1 1000) = true := by simpa using hh
                    clear hh
                    refine gw_skip ?_
                    refine nx_blk_nrm ?_
                    refine nx_blk_nrm ?_
                    refine nx_then ?_
                    refine gw_region ?_
                    have hE : codeE (prevOf l k) ⟨ke, cl, fr, tt, dy, mi⟩ = 0 := by unfold codeE; simp [h2, hO, h31, h4, h5, h6, h7]
                    refine wl_ov (ov_add rfl rfl (by omega) (by omega)) rfl ?_
                    refine wl_ov (ov_move rfl) rfl ?_
                    refine wl_nil ?_
                    exact nx_round (k + 1) ⟨by omega, by rw [hinv.2, hat, if_pos hE]⟩ (by omega) ⟨rfl, rfl, rfl, (some_int (by omega)), trivial⟩ (fun _ hm => hm.pick [] [] [0] rfl rfl)
        · obtain ⟨y, hy⟩ : ∃ x, l[k - 1]? = some x := ⟨_, List.getElem?_eq_getElem (by omega)⟩
          obtain ⟨p0, p1, p2, p3, p4, p5⟩ := y
          refine gw_draw (fun wz => Blk wz g1 188 [.string ke, .string cl, .int .i64 fr, .int .i64 tt, .int .i64 dy, .int .i64 mi] ∧ (SlOld cdEnc 6 188 w.heap.size none (some ⟨b, off, none⟩) n l) wz ∧ True) mixed ?_
          refine wa_take 0 rfl (by kernel_rfl) (by kernel_rfl) (by kernel_rfl) (listed' := #[true, false, false, false, false, false, false, false, false, false, false, false, false, false]) rfl (fun _ _ _ h => h) (fun _ hm => ⟨hm.blkI 0 rfl, hm.fact 0 rfl, trivial⟩) (ov_move rfl) rfl ?_
          refine wa_take 1 rfl (by kernel_rfl) (by kernel_rfl) (by kernel_rfl) (listed' := #[true, true, false, false, false, false, false, false, false, false, false, false, false, false]) rfl (fun _ _ _ h => h) (fun _ hm => ⟨hm.blkI 0 rfl, hm.fact 0 rfl, trivial⟩) (ov_gtr rfl rfl) rfl ?_
          refine wa_set 22 (v' := .bool true) rfl (congrArg Value.bool (decide_eq_true (by omega))) ?_
          refine wa_take 2 rfl (by kernel_rfl) (by kernel_rfl) (by kernel_rfl) (listed' := #[true, true, true, false, false, false, false, false, false, false, false, false, false, false]) rfl (fun _ _ _ h => h) (fun _ hm => ⟨hm.blkI 0 rfl, hm.fact 0 rfl, trivial⟩) (ov_move rfl) rfl ?_
          refine wa_take_on 3 rfl rfl rfl (by kernel_rfl) (by kernel_rfl) (by kernel_rfl) (listed' := #[true, true, true, true, false, false, false, false, false, false, false, false, false, false]) rfl (fun _ _ _ h => h) (fun _ hm => ⟨hm.blkI 0 rfl, hm.fact 0 rfl, trivial⟩) (ov_field fo188_0 rfl rfl) rfl ?_
          refine wa_take_on 4 rfl rfl rfl (by kernel_rfl) (by kernel_rfl) (by kernel_rfl) (listed' := #[true, true, true, true, true, false, false, false, false, false, false, false, false, false]) rfl (fun _ _ _ h => h) (fun _ hm => ⟨hm.blkI 0 rfl, hm.fact 0 rfl, trivial⟩) (ov_load sc9 rfl (fun _ hm => hm.1) rfl) rfl ?_
          refine wa_take_on 5 rfl rfl rfl (by kernel_rfl) (by kernel_rfl) (by kernel_rfl) (listed' := #[true, true, true, true, true, true, false, false, false, false, false, false, false, false]) rfl (fun _ _ _ h => h) (fun _ hm => ⟨hm.blkI 0 rfl, hm.fact 0 rfl, trivial⟩) (ov_move rfl) rfl ?_
          refine wa_take_on 6 rfl rfl rfl (by kernel_rfl) (by kernel_rfl) (by kernel_rfl) (listed' := #[true, true, true, true, true, true, true, false, false, false, false, false, false, false]) rfl (fun _ _ _ h => h) (fun _ hm => ⟨hm.blkI 0 rfl, hm.fact 0 rfl, trivial⟩) (ov_move rfl) rfl ?_
          refine wa_take_on 7 rfl rfl rfl (by kernel_rfl) (by kernel_rfl) (by kernel_rfl) (listed' := #[true, true, true, true, true, true, true, true, false, false, false, false, false, false]) rfl (fun _ _ _ h => h) (fun _ hm => ⟨hm.blkI 0 rfl, hm.fact 0 rfl, trivial⟩) (ov_sub rfl rfl (by omega) (by omega)) rfl ?_
          refine wa_set 28 (v' := .int .i64 ((k - 1 : Nat) : Int)) rfl (congrArg (Value.int .i64) (by omega)) ?_
          refine wa_take_on 8 rfl rfl rfl (by kernel_rfl) (by kernel_rfl) (by kernel_rfl) (listed' := #[true, true, true, true, true, true, true, true, true, false, false, false, false, false]) rfl (fun _ _ _ h => h) (fun _ hm => ⟨hm.blkI 0 rfl, hm.fact 0 rfl, trivial⟩) (ov_index (j := k - 1) es103 rfl rfl (by omega)) rfl ?_
          refine wa_take_on 9 rfl rfl rfl (by kernel_rfl) (by kernel_rfl) (by kernel_rfl) (listed' := #[true, true, true, true, true, true, true, true, true, true, false, false, false, false]) rfl (fun _ _ _ h => h) (fun _ hm => ⟨hm.blkI 0 rfl, hm.fact 0 rfl, trivial⟩) (ov_field fo188_0 rfl rfl) rfl ?_
          refine wa_take_on 10 rfl rfl rfl (by kernel_rfl) (by kernel_rfl) (by kernel_rfl) (listed' := #[true, true, true, true, true, true, true, true, true, true, true, false, false, false]) rfl (fun _ _ _ h => h) (fun _ hm => ⟨hm.blkI 0 rfl, hm.fact 0 rfl, trivial⟩) (ov_elem1 (k := 0) (v := .string p0) sc9 rfl (fun _ hm => (hm.2.1).1) hy rfl rfl) rfl ?_
          refine wa_take_on 11 rfl rfl rfl (by kernel_rfl) (by kernel_rfl) (by kernel_rfl) (listed' := #[true, true, true, true, true, true, true, true, true, true, true, true, false, false]) rfl (fun _ _ _ h => h) (fun _ hm => ⟨hm.blkI 0 rfl, hm.fact 0 rfl, trivial⟩) (ov_sleq rfl rfl) rfl ?_
          refine wa_take 12 rfl (by kernel_rfl) (by kernel_rfl) (by kernel_rfl) (listed' := #[true, true, true, true, true, true, true, true, true, true, true, true, true, false]) rfl (fun _ _ _ h => h) (fun _ hm => ⟨hm.blkI 0 rfl, hm.fact 0 rfl, trivial⟩) (ov_pick_t rfl rfl) rfl ?_
          refine wa_take 13 rfl (by kernel_rfl) (by kernel_rfl) (by kernel_rfl) (listed' := #[true, true, true, true, true, true, true, true, true, true, true, true, true, true]) rfl (fun _ _ _ h => h) (fun _ hm => ⟨hm.blkI 0 rfl, hm.fact 0 rfl, trivial⟩) (ov_assign rfl) rfl ?_
          refine wa_done (by kernel_rfl) ?_
          refine nx_then ?_
          refine gw_cond rfl (fun hh => ?_) (fun hh => ?_)
          · have h9 : (Op.bytesLess ke.toList p0.toList || ke.toList == p0.toList) = true := by simpa using hh
            clear hh
            refine gw_seq ?_
            refine gw_region ?_
            have hO : leCd (prevOf l k) ⟨ke, cl, fr, tt, dy, mi⟩ = true := by rw [prevOf_pos hk0 hy]; exact h9
            refine wl_ov (ov_assign rfl) rfl ?_
            refine wl_nil ?_
            refine nx_then ?_
            refine gw_ret ?_
            refine nx_blk_ret ?_
            refine nx_blk_ret ?_
            refine nx_then_ret ?_
            refine nx_then_ret ?_
            refine nx_blk_ret ?_
            refine nx_then_ret ?_
            have hE : codeE (prevOf l k) ⟨ke, cl, fr, tt, dy, mi⟩ = 7 := by unfold codeE; simp [h2, hO]
            refine nx_ret1 rfl rfl fun wx hm => ?_
            exact ⟨ret_int (by rw [hinv.2, hat, if_neg (by rw [hE]; decide), hE]), hm.g⟩
          · have h9 : (Op.bytesLess ke.toList p0.toList || ke.toList == p0.toList) = false := by simpa using hh
            clear hh
            refine gw_seq ?_
            refine gw_region ?_
            have hO : leCd (prevOf l k) ⟨ke, cl, fr, tt, dy, mi⟩ = false := by rw [prevOf_pos hk0 hy]; exact h9
            refine wl_ov (ov_field fo188_1 rfl rfl) rfl ?_
            refine wl_ov (ov_load sc9 rfl (fun _ hm => hm.blkI 0 rfl) rfl) rfl ?_
            refine wl_ov (ov_sneq rfl rfl) rfl ?_
            refine wl_ov (ov_move rfl) rfl ?_
            rcases Bool.eq_false_or_eq_true (!(cl.toList == (⟨#[]⟩ : ByteArray).toList)) with h31 | h31
            · refine wl_set 38 rfl (congrArg Value.bool h31) ?_
              have h31 : emptyS cl = false := by unfold emptyS; simpa only [Bool.not_eq_true'] using h31
              refine wl_guard_on rfl rfl rfl ?_
              refine wl_ov (ov_field fo188_1 rfl rfl) rfl ?_
              refine wl_guard_on rfl rfl rfl ?_
              refine wl_ov (ov_load sc9 rfl (fun _ hm => hm.blkI 0 rfl) rfl) rfl ?_
              refine wl_guard_on rfl rfl rfl ?_
              refine wl_callw rfl cb106 rfl rfl (fun wx hm => (isKey_any _ wx (by omega))) ?_
              refine wl_guard_on rfl rfl rfl ?_
              refine wl_ov (ov_un_not rfl) rfl ?_
              refine wl_ov (ov_pick_t rfl rfl) rfl ?_
              refine wl_ov (ov_assign rfl) rfl ?_
              refine wl_nil ?_
              refine nx_then ?_
              refine gw_cond rfl (fun hh => ?_) (fun hh => ?_)
              · have h32 : (keyB cl) = false := by simpa using hh
                clear hh
                refine gw_seq ?_
                refine gw_region ?_
                refine wl_ov (ov_assign rfl) rfl ?_
                refine wl_nil ?_
                refine nx_then ?_
                refine gw_ret ?_
                refine nx_blk_ret ?_
                refine nx_blk_ret ?_
                refine nx_then_ret ?_
                refine nx_then_ret ?_
                refine nx_blk_ret ?_
                refine nx_then_ret ?_
                have hE : codeE (prevOf l k) ⟨ke, cl, fr, tt, dy, mi⟩ = 5 := by unfold codeE; simp [h2, hO, h31, h32]
                refine nx_ret1 rfl rfl fun wx hm => ?_
                exact ⟨ret_int (by rw [hinv.2, hat, if_neg (by rw [hE]; decide), hE]), hm.g⟩
              · have h32 : (keyB cl) = true := by simpa using hh
                clear hh
                refine gw_seq ?_
                refine gw_region ?_
                refine wl_ov (ov_field fo188_2 rfl rfl) rfl ?_
                refine wl_ov (ov_load sc3 rfl (fun _ hm => hm.blkI 0 rfl) rfl) rfl ?_
                refine wl_ov (ov_field fo188_3 rfl rfl) rfl ?_
                refine wl_ov (ov_load sc3 rfl (fun _ hm => hm.blkI 0 rfl) rfl) rfl ?_
                refine wl_callw rfl cb99 rfl rfl (fun wx hm => (in_any _ _ _ wx)) ?_
                refine wl_ov (ov_un_not rfl) rfl ?_
                refine wl_ov (ov_move rfl) rfl ?_
                rcases Bool.eq_false_or_eq_true (!(inB fr 0 tt)) with h4 | h4
                · refine wl_set 51 rfl (congrArg Value.bool h4) ?_
                  refine wl_guard_off rfl rfl rfl (by decide) rfl ?_
                  refine wl_guard_off rfl rfl rfl (by decide) rfl ?_
                  refine wl_guard_off rfl rfl rfl (by decide) rfl ?_
                  refine wl_ov (ov_pick_t rfl rfl) rfl ?_
                  refine wl_ov (ov_assign rfl) rfl ?_
                  refine wl_nil ?_
                  refine nx_then ?_
                  refine gw_cond rfl (fun _ => ?_) (fun hh => by cases hh)
                  refine gw_seq ?_
                  refine gw_region ?_
                  refine wl_ov (ov_assign rfl) rfl ?_
                  refine wl_nil ?_
                  refine nx_then ?_
                  refine gw_ret ?_
                  refine nx_blk_ret ?_
                  refine nx_blk_ret ?_
                  refine nx_then_ret ?_
                  refine nx_then_ret ?_
                  refine nx_blk_ret ?_
                  refine nx_then_ret ?_
                  have hE : codeE (prevOf l k) ⟨ke, cl, fr, tt, dy, mi⟩ = 1 := by unfold codeE; simp [h2, hO, h31, h32, h4]
                  refine nx_ret1 rfl rfl fun wx hm => ?_
                  exact ⟨ret_int (by rw [hinv.2, hat, if_neg (by rw [hE]; decide), hE]), hm.g⟩
                · refine wl_set 51 rfl (congrArg Value.bool h4) ?_
                  refine wl_guard_on rfl rfl rfl ?_
                  refine wl_ov (ov_field fo188_3 rfl rfl) rfl ?_
                  refine wl_guard_on rfl rfl rfl ?_
                  refine wl_ov (ov_load sc3 rfl (fun _ hm => hm.blkI 0 rfl) rfl) rfl ?_
                  refine wl_guard_on rfl rfl rfl ?_
                  refine wl_ov (ov_gtr rfl rfl) rfl ?_
                  refine wl_ov (ov_pick_f rfl rfl) rfl ?_
                  refine wl_ov (ov_assign rfl) rfl ?_
                  refine wl_nil ?_
                  refine nx_then ?_
                  refine gw_cond rfl (fun hh => ?_) (fun hh => ?_)
                  · have h5 : 4001 < tt := by simpa using hh
                    clear hh
                    refine gw_seq ?_
                    refine gw_region ?_
                    refine wl_ov (ov_assign rfl) rfl ?_
                    refine wl_nil ?_
                    refine nx_then ?_
                    refine gw_ret ?_
                    refine nx_blk_ret ?_
                    refine nx_blk_ret ?_
                    refine nx_then_ret ?_
                    refine nx_then_ret ?_
                    refine nx_blk_ret ?_
                    refine nx_then_ret ?_
                    have hE : codeE (prevOf l k) ⟨ke, cl, fr, tt, dy, mi⟩ = 1 := by unfold codeE; simp [h2, hO, h31, h32, h4, h5]
                    refine nx_ret1 rfl rfl fun wx hm => ?_
                    exact ⟨ret_int (by rw [hinv.2, hat, if_neg (by rw [hE]; decide), hE]), hm.g⟩
                  · have h5 : ¬ (4001 < tt) := by simpa using hh
                    clear hh
                    refine gw_seq ?_
                    refine gw_region ?_
                    refine wl_ov (ov_field fo188_4 rfl rfl) rfl ?_
                    refine wl_ov (ov_load sc3 rfl (fun _ hm => hm.blkI 0 rfl) rfl) rfl ?_
                    refine wl_callw rfl cb99 rfl rfl (fun wx hm => (in_any _ _ _ wx)) ?_
                    refine wl_ov (ov_un_not rfl) rfl ?_
                    refine wl_ov (ov_move rfl) rfl ?_
                    rcases Bool.eq_false_or_eq_true (!(inB dy 1 120)) with h6 | h6
                    · refine wl_set 61 rfl (congrArg Value.bool h6) ?_
                      refine wl_guard_off rfl rfl rfl (by decide) rfl ?_
                      refine wl_guard_off rfl rfl rfl (by decide) rfl ?_
                      refine wl_guard_off rfl rfl rfl (by decide) rfl ?_
                      refine wl_guard_off rfl rfl rfl (by decide) rfl ?_
                      refine wl_ov (ov_pick_t rfl rfl) rfl ?_
                      refine wl_ov (ov_assign rfl) rfl ?_
                      refine wl_nil ?_
                      refine nx_then ?_
                      refine gw_cond rfl (fun _ => ?_) (fun hh => by cases hh)
                      refine gw_seq ?_
                      refine gw_region ?_
                      refine wl_ov (ov_assign rfl) rfl ?_
                      refine wl_nil ?_
                      refine nx_then ?_
                      refine gw_ret ?_
                      refine nx_blk_ret ?_
                      refine nx_blk_ret ?_
                      refine nx_then_ret ?_
                      refine nx_then_ret ?_
                      refine nx_blk_ret ?_
                      refine nx_then_ret ?_
                      have hE : codeE (prevOf l k) ⟨ke, cl, fr, tt, dy, mi⟩ = 1 := by unfold codeE; simp [h2, hO, h31, h32, h4, h5, h6]
                      refine nx_ret1 rfl rfl fun wx hm => ?_
                      exact ⟨ret_int (by rw [hinv.2, hat, if_neg (by rw [hE]; decide), hE]), hm.g⟩
                    · refine wl_set 61 rfl (congrArg Value.bool h6) ?_
                      refine wl_guard_on rfl rfl rfl ?_
                      refine wl_ov (ov_field fo188_5 rfl rfl) rfl ?_
                      refine wl_guard_on rfl rfl rfl ?_
                      refine wl_ov (ov_load sc3 rfl (fun _ hm => hm.blkI 0 rfl) rfl) rfl ?_
                      refine wl_guard_on rfl rfl rfl ?_
                      refine wl_callw rfl cb99 rfl rfl (fun wx hm => (in_any _ _ _ wx)) ?_
                      refine wl_guard_on rfl rfl rfl ?_
                      refine wl_ov (ov_un_not rfl) rfl ?_
                      refine wl_ov (ov_pick_f rfl rfl) rfl ?_
                      refine wl_ov (ov_assign rfl) rfl ?_
                      refine wl_nil ?_
                      refine nx_then ?_
                      refine gw_cond rfl (fun hh => ?_) (fun hh => ?_)
                      · have h7 : (inB mi 1 1000) = false := by simpa using hh
                        clear hh
                        refine gw_seq ?_
                        refine gw_region ?_
                        refine wl_ov (ov_assign rfl) rfl ?_
                        refine wl_nil ?_
                        refine nx_then ?_
                        refine gw_ret ?_
                        refine nx_blk_ret ?_
                        refine nx_blk_ret ?_
                        refine nx_then_ret ?_
                        refine nx_then_ret ?_
                        refine nx_blk_ret ?_
                        refine nx_then_ret ?_
                        have hE : codeE (prevOf l k) ⟨ke, cl, fr, tt, dy, mi⟩ = 1 := by unfold codeE; simp [h2, hO, h31, h32, h4, h5, h6, h7]
                        refine nx_ret1 rfl rfl fun wx hm => ?_
                        exact ⟨ret_int (by rw [hinv.2, hat, if_neg (by rw [hE]; decide), hE]), hm.g⟩
                      · have h7 : (inB mi 1 1000) = true := by simpa using hh
                        clear hh
                        refine gw_skip ?_
                        refine nx_blk_nrm ?_
                        refine nx_blk_nrm ?_
                        refine nx_then ?_
                        refine gw_region ?_
                        have hE : codeE (prevOf l k) ⟨ke, cl, fr, tt, dy, mi⟩ = 0 := by unfold codeE; simp [h2, hO, h31, h32, h4, h5, h6, h7]
                        refine wl_ov (ov_add rfl rfl (by omega) (by omega)) rfl ?_
                        refine wl_ov (ov_move rfl) rfl ?_
                        refine wl_nil ?_
                        exact nx_round (k + 1) ⟨by omega, by rw [hinv.2, hat, if_pos hE]⟩ (by omega) ⟨rfl, rfl, rfl, (some_int (by omega)), trivial⟩ (fun _ hm => hm.pick [] [] [0] rfl rfl)
            · refine wl_set 38 rfl (congrArg Value.bool h31) ?_
              have h31 : emptyS cl = true := by unfold emptyS; simpa only [Bool.not_eq_false'] using h31
              refine wl_guard_off rfl rfl rfl (by decide) rfl ?_
              refine wl_guard_off rfl rfl rfl (by decide) rfl ?_
              refine wl_guard_off rfl rfl rfl (by decide) rfl ?_
              refine wl_guard_off rfl rfl rfl (by decide) rfl ?_
              refine wl_ov (ov_pick_f rfl rfl) rfl ?_
              refine wl_ov (ov_assign rfl) rfl ?_
              refine wl_nil ?_
              refine nx_then ?_
              refine gw_cond rfl (fun hh => by cases hh) (fun _ => ?_)
              refine gw_seq ?_
              refine gw_region ?_
              refine wl_ov (ov_field fo188_2 rfl rfl) rfl ?_
              refine wl_ov (ov_load sc3 rfl (fun _ hm => hm.blkI 0 rfl) rfl) rfl ?_
              refine wl_ov (ov_field fo188_3 rfl rfl) rfl ?_
              refine wl_ov (ov_load sc3 rfl (fun _ hm => hm.blkI 0 rfl) rfl) rfl ?_
              refine wl_callw rfl cb99 rfl rfl (fun wx hm => (in_any _ _ _ wx)) ?_
              refine wl_ov (ov_un_not rfl) rfl ?_
              refine wl_ov (ov_move rfl) rfl ?_
              rcases Bool.eq_false_or_eq_true (!(inB fr 0 tt)) with h4 | h4
              · refine wl_set 51 rfl (congrArg Value.bool h4) ?_
                refine wl_guard_off rfl rfl rfl (by decide) rfl ?_
                refine wl_guard_off rfl rfl rfl (by decide) rfl ?_
                refine wl_guard_off rfl rfl rfl (by decide) rfl ?_
                refine wl_ov (ov_pick_t rfl rfl) rfl ?_
                refine wl_ov (ov_assign rfl) rfl ?_
                refine wl_nil ?_
                refine nx_then ?_
                refine gw_cond rfl (fun _ => ?_) (fun hh => by cases hh)
                refine gw_seq ?_
                refine gw_region ?_
                refine wl_ov (ov_assign rfl) rfl ?_
                refine wl_nil ?_
                refine nx_then ?_
                refine gw_ret ?_
                refine nx_blk_ret ?_
                refine nx_blk_ret ?_
                refine nx_then_ret ?_
                refine nx_then_ret ?_
                refine nx_blk_ret ?_
                refine nx_then_ret ?_
                have hE : codeE (prevOf l k) ⟨ke, cl, fr, tt, dy, mi⟩ = 1 := by unfold codeE; simp [h2, hO, h31, h4]
                refine nx_ret1 rfl rfl fun wx hm => ?_
                exact ⟨ret_int (by rw [hinv.2, hat, if_neg (by rw [hE]; decide), hE]), hm.g⟩
              · refine wl_set 51 rfl (congrArg Value.bool h4) ?_
                refine wl_guard_on rfl rfl rfl ?_
                refine wl_ov (ov_field fo188_3 rfl rfl) rfl ?_
                refine wl_guard_on rfl rfl rfl ?_
                refine wl_ov (ov_load sc3 rfl (fun _ hm => hm.blkI 0 rfl) rfl) rfl ?_
                refine wl_guard_on rfl rfl rfl ?_
                refine wl_ov (ov_gtr rfl rfl) rfl ?_
                refine wl_ov (ov_pick_f rfl rfl) rfl ?_
                refine wl_ov (ov_assign rfl) rfl ?_
                refine wl_nil ?_
                refine nx_then ?_
                refine gw_cond rfl (fun hh => ?_) (fun hh => ?_)
                · have h5 : 4001 < tt := by simpa using hh
                  clear hh
                  refine gw_seq ?_
                  refine gw_region ?_
                  refine wl_ov (ov_assign rfl) rfl ?_
                  refine wl_nil ?_
                  refine nx_then ?_
                  refine gw_ret ?_
                  refine nx_blk_ret ?_
                  refine nx_blk_ret ?_
                  refine nx_then_ret ?_
                  refine nx_then_ret ?_
                  refine nx_blk_ret ?_
                  refine nx_then_ret ?_
                  have hE : codeE (prevOf l k) ⟨ke, cl, fr, tt, dy, mi⟩ = 1 := by unfold codeE; simp [h2, hO, h31, h4, h5]
                  refine nx_ret1 rfl rfl fun wx hm => ?_
                  exact ⟨ret_int (by rw [hinv.2, hat, if_neg (by rw [hE]; decide), hE]), hm.g⟩
                · have h5 : ¬ (4001 < tt) := by simpa using hh
                  clear hh
                  refine gw_seq ?_
                  refine gw_region ?_
                  refine wl_ov (ov_field fo188_4 rfl rfl) rfl ?_
                  refine wl_ov (ov_load sc3 rfl (fun _ hm => hm.blkI 0 rfl) rfl) rfl ?_
                  refine wl_callw rfl cb99 rfl rfl (fun wx hm => (in_any _ _ _ wx)) ?_
                  refine wl_ov (ov_un_not rfl) rfl ?_
                  refine wl_ov (ov_move rfl) rfl ?_
                  rcases Bool.eq_false_or_eq_true (!(inB dy 1 120)) with h6 | h6
                  · refine wl_set 61 rfl (congrArg Value.bool h6) ?_
                    refine wl_guard_off rfl rfl rfl (by decide) rfl ?_
                    refine wl_guard_off rfl rfl rfl (by decide) rfl ?_
                    refine wl_guard_off rfl rfl rfl (by decide) rfl ?_
                    refine wl_guard_off rfl rfl rfl (by decide) rfl ?_
                    refine wl_ov (ov_pick_t rfl rfl) rfl ?_
                    refine wl_ov (ov_assign rfl) rfl ?_
                    refine wl_nil ?_
                    refine nx_then ?_
                    refine gw_cond rfl (fun _ => ?_) (fun hh => by cases hh)
                    refine gw_seq ?_
                    refine gw_region ?_
                    refine wl_ov (ov_assign rfl) rfl ?_
                    refine wl_nil ?_
                    refine nx_then ?_
                    refine gw_ret ?_
                    refine nx_blk_ret ?_
                    refine nx_blk_ret ?_
                    refine nx_then_ret ?_
                    refine nx_then_ret ?_
                    refine nx_blk_ret ?_
                    refine nx_then_ret ?_
                    have hE : codeE (prevOf l k) ⟨ke, cl, fr, tt, dy, mi⟩ = 1 := by unfold codeE; simp [h2, hO, h31, h4, h5, h6]
                    refine nx_ret1 rfl rfl fun wx hm => ?_
                    exact ⟨ret_int (by rw [hinv.2, hat, if_neg (by rw [hE]; decide), hE]), hm.g⟩
                  · refine wl_set 61 rfl (congrArg Value.bool h6) ?_
                    refine wl_guard_on rfl rfl rfl ?_
                    refine wl_ov (ov_field fo188_5 rfl rfl) rfl ?_
                    refine wl_guard_on rfl rfl rfl ?_
                    refine wl_ov (ov_load sc3 rfl (fun _ hm => hm.blkI 0 rfl) rfl) rfl ?_
                    refine wl_guard_on rfl rfl rfl ?_
                    refine wl_callw rfl cb99 rfl rfl (fun wx hm => (in_any _ _ _ wx)) ?_
                    refine wl_guard_on rfl rfl rfl ?_
                    refine wl_ov (ov_un_not rfl) rfl ?_
                    refine wl_ov (ov_pick_f rfl rfl) rfl ?_
                    refine wl_ov (ov_assign rfl) rfl ?_
                    refine wl_nil ?_
                    refine nx_then ?_
                    refine gw_cond rfl (fun hh => ?_) (fun hh => ?_)
                    · have h7 : (inB mi 1 1000) = false := by simpa using hh
                      clear hh
                      refine gw_seq ?_
                      refine gw_region ?_
                      refine wl_ov (ov_assign rfl) rfl ?_
                      refine wl_nil ?_
                      refine nx_then ?_
                      refine gw_ret ?_
                      refine nx_blk_ret ?_
                      refine nx_blk_ret ?_
                      refine nx_then_ret ?_
                      refine nx_then_ret ?_
                      refine nx_blk_ret ?_
                      refine nx_then_ret ?_
                      have hE : codeE (prevOf l k) ⟨ke, cl, fr, tt, dy, mi⟩ = 1 := by unfold codeE; simp [h2, hO, h31, h4, h5, h6, h7]
                      refine nx_ret1 rfl rfl fun wx hm => ?_
                      exact ⟨ret_int (by rw [hinv.2, hat, if_neg (by rw [hE]; decide), hE]), hm.g⟩
                    · have h7 : (inB mi 1 1000) = true := by simpa using hh
                      clear hh
                      refine gw_skip ?_
                      refine nx_blk_nrm ?_
                      refine nx_blk_nrm ?_
                      refine nx_then ?_
                      refine gw_region ?_
                      have hE : codeE (prevOf l k) ⟨ke, cl, fr, tt, dy, mi⟩ = 0 := by unfold codeE; simp [h2, hO, h31, h4, h5, h6, h7]
                      refine wl_ov (ov_add rfl rfl (by omega) (by omega)) rfl ?_
                      refine wl_ov (ov_move rfl) rfl ?_
                      refine wl_nil ?_
                      exact nx_round (k + 1) ⟨by omega, by rw [hinv.2, hat, if_pos hE]⟩ (by omega) ⟨rfl, rfl, rfl, (some_int (by omega)), trivial⟩ (fun _ hm => hm.pick [] [] [0] rfl rfl)
    · have hk : ¬ (((k : Nat) : Int) < ((n : Nat) : Int)) := by simpa using hh
      clear hh
      refine gw_exit ?_
      refine nx_then_exit ?_
      refine nx_then_exit ?_
      refine nx_blk_here ?_
      refine nx_then ?_
      refine gw_seq ?_
      refine gw_region ?_
      refine wl_ov (ov_assign rfl) rfl ?_
      refine wl_nil ?_
      refine nx_then ?_
      refine gw_ret ?_
      refine nx_ret1 rfl rfl fun wx hm => ?_
      exact ⟨ret_int (by rw [hinv.2, scanE_end _ _ _ _ (by omega)]), hm.g⟩

set_option maxRecDepth 100000 in
set_option maxHeartbeats 1000000 in
theorem codesFault_any (l : List Cd) (A : Option Addr) (n c : Nat) (w : World) (hl : SlT cdEnc 6 188 w A n l) (hok : ∀ b ∈ l, CdOk b) (hn : n ≤ 1000000) :
    Calls Tryd.prog 61 #[.slice A n c] w (GotE w (codesE l)) := by
  refine gw_enter ⟨62, w, none, []⟩ Tryd.func61 rfl Tryd.ntmps61 rfl (mem0 (X := [SlOld cdEnc 6 188 w.heap.size none A n l]) (allF_cons hl.old allF_nil) (allL_cons SlOld.lasts allL_nil)) ?_
  refine gw_seq ?_
  refine gw_region ?_
  have hlen := hl.len
  refine wl_ov (ov_assign rfl) rfl ?_
  refine wl_nil ?_
  refine nx_then ?_
  refine gw_seq ?_
  refine gw_seq ?_
  refine gw_region ?_
  refine wl_ov (ov_move rfl) rfl ?_
  refine wl_ov (ov_len es103 rfl) rfl ?_
  refine wl_ov (ov_gtr rfl rfl) rfl ?_
  refine wl_nil ?_
  refine nx_then ?_
  refine gw_cond rfl (fun hh => ?_) (fun hh => ?_)
  · have h1 : 50 < ((n : Nat) : Int) := by simpa using hh
    clear hh
    refine gw_seq ?_
    refine gw_region ?_
    refine wl_ov (ov_assign rfl) rfl ?_
    refine wl_nil ?_
    refine nx_then ?_
    refine gw_ret ?_
    refine nx_then_ret ?_
    refine nx_ret1 rfl rfl fun wx hm => ?_
    exact ⟨ret_int (by unfold codesE; rw [if_pos (by omega)]), hm.g⟩
  · have h1 : ¬ (50 < ((n : Nat) : Int)) := by simpa using hh
    clear hh
    refine gw_skip ?_
    refine nx_then ?_
    refine gw_seq ?_
    refine gw_region ?_
    refine wl_ov (ov_assign rfl) rfl ?_
    refine wl_nil ?_
    refine nx_then ?_
    refine gw_seq ?_
    refine gw_seq ?_
    refine gw_region ?_
    refine wl_ov (ov_move rfl) rfl ?_
    refine wl_ov (ov_len es103 rfl) rfl ?_
    refine wl_ov (ov_move rfl) rfl ?_
    refine wl_nil ?_
    refine nx_then ?_
    refine gw_block ?_
    refine gw_loop (γ := Nat) (fun (k : Nat) => k ≤ n ∧ codesE l = scanE codeE (prevOf l k) (l.drop k)) (fun (k : Nat) => [(3, .string (prevCd l k)), (9, .slice A n c), (10, .int .i64 ((n : Nat) : Int)), (11, .int .i64 ((k : Nat) : Int))]) (fun (k : Nat) => fun _ => True) (fun (k : Nat) => []) (fun (k : Nat) => []) (fun (k : Nat) => [SlOld cdEnc 6 188 w.heap.size none A n l]) (fun (k : Nat) => n - k) 0 ⟨Nat.zero_le _, by unfold codesE; rw [if_neg (by omega)]; rfl⟩ ⟨rfl, rfl, rfl, rfl, trivial⟩ (fun _ hm => hm.pick [] [] [0] rfl rfl) ?_
    intro k hinv
    replace hinv : k ≤ n ∧ codesE l = scanE codeE (prevOf l k) (l.drop k) := hinv
    refine gw_seq ?_
    refine gw_region ?_
    refine wl_ov (ov_lss rfl rfl) rfl ?_
    refine wl_nil ?_
    refine nx_then ?_
    refine gw_seq ?_
    refine gw_cond rfl (fun hh => ?_) (fun hh => ?_)
    · have hk : ((k : Nat) : Int) < ((n : Nat) : Int) := by simpa using hh
      clear hh
      refine gw_skip ?_
      refine nx_then ?_
      refine gw_seq ?_
      refine gw_block ?_
      refine gw_seq ?_
      refine gw_region ?_
      obtain ⟨b, off, hA, _, _⟩ := hl.get (by omega)
      subst hA
      obtain ⟨x, hx⟩ : ∃ x, l[k]? = some x := ⟨_, List.getElem?_eq_getElem (by omega)⟩
      obtain ⟨ke, cl, fr, tt, dy, mi⟩ := x
      have hat := scanE_at codeE l k _ hx
      have hk1 : ke.size ≤ 1000000 := (hok _ (List.mem_of_getElem? hx)).1
      have hk2 : cl.size ≤ 1000000 := (hok _ (List.mem_of_getElem? hx)).2
      refine wl_ov (ov_index (j := k) es103 rfl rfl (by omega)) rfl ?_
      refine wl_ov (ov_elem (vs := [.string ke, .string cl, .int .i64 fr, .int .i64 tt, .int .i64 dy, .int .i64 mi]) rz188 rfl (fun _ hm => (hm.fact 0 rfl).1) hx rfl rfl) rfl ?_
      refine wl_alloc zc188 rfl fun g1 => ?_
      refine wl_stores (cs' := [.string ke, .string cl, .int .i64 fr, .int .i64 tt, .int .i64 dy, .int .i64 mi]) 0 rz188 rfl rfl rfl rfl rfl rfl rfl rfl ?_
      refine wl_nil ?_
      refine nx_then ?_
      refine gw_seq ?_
      refine gw_block ?_
      refine gw_seq ?_
      refine gw_region ?_
      refine wl_ov (ov_field fo188_0 rfl rfl) rfl ?_
      refine wl_ov (ov_load sc9 rfl (fun _ hm => hm.blkI 0 rfl) rfl) rfl ?_
      refine wl_callv rfl cb90 rfl rfl (fun wx hm => (key_any _ wx (by omega))) ?_
      refine wl_ov (ov_un_not rfl) rfl ?_
      refine wl_ov (ov_assign rfl) rfl ?_
      refine wl_nil ?_
      refine nx_then ?_
      refine gw_cond rfl (fun hh => ?_) (fun hh => ?_)
      · have h2 : (keyB ke) = false := by simpa using hh
        clear hh
        refine gw_seq ?_
        refine gw_region ?_
        refine wl_ov (ov_assign rfl) rfl ?_
        refine wl_nil ?_
        refine nx_then ?_
        refine gw_ret ?_
        refine nx_blk_ret ?_
        refine nx_then_ret ?_
        refine nx_blk_ret ?_
        refine nx_then_ret ?_
        refine nx_then_ret ?_
        refine nx_blk_ret ?_
        refine nx_then_ret ?_
        have hE : codeE (prevOf l k) ⟨ke, cl, fr, tt, dy, mi⟩ = 5 := by unfold codeE; simp [h2]
        refine nx_ret1 rfl rfl fun wx hm => ?_
        exact ⟨ret_int (by rw [hinv.2, hat, if_neg (by rw [hE]; decide), hE]), hm.g⟩
      · have h2 : (keyB ke) = true := by simpa using hh
        clear hh
        refine gw_seq ?_
        refine gw_region ?_
        refine wl_ov (ov_field fo188_0 rfl rfl) rfl ?_
        refine wl_ov (ov_load sc9 rfl (fun _ hm => hm.blkI 0 rfl) rfl) rfl ?_
        refine wl_ov (ov_move rfl) rfl ?_
        refine wl_ov (ov_sleq rfl rfl) rfl ?_
        refine wl_ov (ov_assign rfl) rfl ?_
        refine wl_nil ?_
        refine nx_then ?_
        refine gw_cond rfl (fun hh => ?_) (fun hh => ?_)
        · have h9 : (Op.bytesLess ke.toList (prevCd l k).toList || ke.toList == (prevCd l k).toList) = true := by simpa using hh
          clear hh
          refine gw_seq ?_
          refine gw_region ?_
          have hO : leCd (prevOf l k) ⟨ke, cl, fr, tt, dy, mi⟩ = true := (prevCd_le (b := ⟨ke, cl, fr, tt, dy, mi⟩) (by simpa using h2)).symm.trans h9
          refine wl_ov (ov_assign rfl) rfl ?_
          refine wl_nil ?_
          refine nx_then ?_
          refine gw_ret ?_
          refine nx_blk_ret ?_
          refine nx_then_ret ?_
          refine nx_blk_ret ?_
          refine nx_then_ret ?_
          refine nx_then_ret ?_
          refine nx_blk_ret ?_
          refine nx_then_ret ?_
          have hE : codeE (prevOf l k) ⟨ke, cl, fr, tt, dy, mi⟩ = 7 := by unfold codeE; simp [h2, hO]
          refine nx_ret1 rfl rfl fun wx hm => ?_
          exact ⟨ret_int (by rw [hinv.2, hat, if_neg (by rw [hE]; decide), hE]), hm.g⟩
        · have h9 : (Op.bytesLess ke.toList (prevCd l k).toList || ke.toList == (prevCd l k).toList) = false := by simpa using hh
          clear hh
          refine gw_seq ?_
          refine gw_region ?_
          have hO : leCd (prevOf l k) ⟨ke, cl, fr, tt, dy, mi⟩ = false := (prevCd_le (b := ⟨ke, cl, fr, tt, dy, mi⟩) (by simpa using h2)).symm.trans h9
          refine wl_ov (ov_field fo188_1 rfl rfl) rfl ?_
          refine wl_ov (ov_load sc9 rfl (fun _ hm => hm.blkI 0 rfl) rfl) rfl ?_
          refine wl_ov (ov_sneq rfl rfl) rfl ?_
          refine wl_ov (ov_move rfl) rfl ?_
          rcases Bool.eq_false_or_eq_true (!(cl.toList == (⟨#[]⟩ : ByteArray).toList)) with h31 | h31
          · refine wl_set 29 rfl (congrArg Value.bool h31) ?_
            have h31 : emptyS cl = false := by unfold emptyS; simpa only [Bool.not_eq_true'] using h31
            refine wl_guard_on rfl rfl rfl ?_
            refine wl_ov (ov_field fo188_1 rfl rfl) rfl ?_
            refine wl_guard_on rfl rfl rfl ?_
            refine wl_ov (ov_load sc9 rfl (fun _ hm => hm.blkI 0 rfl) rfl) rfl ?_
            refine wl_guard_on rfl rfl rfl ?_
            refine wl_callv rfl cb90 rfl rfl (fun wx hm => (key_any _ wx (by omega))) ?_
            refine wl_guard_on rfl rfl rfl ?_
            refine wl_ov (ov_un_not rfl) rfl ?_
            refine wl_ov (ov_pick_t rfl rfl) rfl ?_
            refine wl_ov (ov_assign rfl) rfl ?_
            refine wl_nil ?_
            refine nx_then ?_
            refine gw_cond rfl (fun hh => ?_) (fun hh => ?_)
            · have h32 : (keyB cl) = false := by simpa using hh
              clear hh
              refine gw_seq ?_
              refine gw_region ?_
              refine wl_ov (ov_assign rfl) rfl ?_
              refine wl_nil ?_
              refine nx_then ?_
              refine gw_ret ?_
              refine nx_blk_ret ?_
              refine nx_then_ret ?_
              refine nx_blk_ret ?_
              refine nx_then_ret ?_
              refine nx_then_ret ?_
              refine nx_blk_ret ?_
              refine nx_then_ret ?_
              have hE : codeE (prevOf l k) ⟨ke, cl, fr, tt, dy, mi⟩ = 5 := by unfold codeE; simp [h2, hO, h31, h32]
              refine nx_ret1 rfl rfl fun wx hm => ?_
              exact ⟨ret_int (by rw [hinv.2, hat, if_neg (by rw [hE]; decide), hE]), hm.g⟩
            · have h32 : (keyB cl) = true := by simpa using hh
              clear hh
              refine gw_seq ?_
              refine gw_region ?_
              refine wl_ov (ov_field fo188_2 rfl rfl) rfl ?_
              refine wl_ov (ov_load sc3 rfl (fun _ hm => hm.blkI 0 rfl) rfl) rfl ?_
              refine wl_ov (ov_field fo188_3 rfl rfl) rfl ?_
              refine wl_ov (ov_load sc3 rfl (fun _ hm => hm.blkI 0 rfl) rfl) rfl ?_
              refine wl_callw rfl cb91 rfl rfl (fun wx hm => (rin_any _ _ _ wx)) ?_
              refine wl_ov (ov_un_not rfl) rfl ?_
              refine wl_ov (ov_move rfl) rfl ?_
              rcases Bool.eq_false_or_eq_true (!(inB fr 0 tt)) with h4 | h4
              · refine wl_set 42 rfl (congrArg Value.bool h4) ?_
                refine wl_guard_off rfl rfl rfl (by decide) rfl ?_
                refine wl_guard_off rfl rfl rfl (by decide) rfl ?_
                refine wl_guard_off rfl rfl rfl (by decide) rfl ?_
                refine wl_ov (ov_pick_t rfl rfl) rfl ?_
                refine wl_ov (ov_move rfl) rfl ?_
                refine wl_guard_off rfl rfl rfl (by decide) rfl ?_
                refine wl_guard_off rfl rfl rfl (by decide) rfl ?_
                refine wl_guard_off rfl rfl rfl (by decide) rfl ?_
                refine wl_guard_off rfl rfl rfl (by decide) rfl ?_
                refine wl_ov (ov_pick_t rfl rfl) rfl ?_
                refine wl_ov (ov_move rfl) rfl ?_
                refine wl_guard_off rfl rfl rfl (by decide) rfl ?_
                refine wl_guard_off rfl rfl rfl (by decide) rfl ?_
                refine wl_guard_off rfl rfl rfl (by decide) rfl ?_
                refine wl_guard_off rfl rfl rfl (by decide) rfl ?_
                refine wl_ov (ov_pick_t rfl rfl) rfl ?_
                refine wl_ov (ov_assign rfl) rfl ?_
                refine wl_nil ?_
                refine nx_then ?_
                refine gw_cond rfl (fun _ => ?_) (fun hh => by cases hh)
                refine gw_seq ?_
                refine gw_region ?_
                refine wl_ov (ov_assign rfl) rfl ?_
                refine wl_nil ?_
                refine nx_then ?_
                refine gw_ret ?_
                refine nx_blk_ret ?_
                refine nx_then_ret ?_
                refine nx_blk_ret ?_
                refine nx_then_ret ?_
                refine nx_then_ret ?_
                refine nx_blk_ret ?_
                refine nx_then_ret ?_
                have hE : codeE (prevOf l k) ⟨ke, cl, fr, tt, dy, mi⟩ = 1 := by unfold codeE; simp [h2, hO, h31, h32, h4]
                refine nx_ret1 rfl rfl fun wx hm => ?_
                exact ⟨ret_int (by rw [hinv.2, hat, if_neg (by rw [hE]; decide), hE]), hm.g⟩
              · refine wl_set 42 rfl (congrArg Value.bool h4) ?_
                refine wl_guard_on rfl rfl rfl ?_
                refine wl_ov (ov_field fo188_3 rfl rfl) rfl ?_
                refine wl_guard_on rfl rfl rfl ?_
                refine wl_ov (ov_load sc3 rfl (fun _ hm => hm.blkI 0 rfl) rfl) rfl ?_
                refine wl_guard_on rfl rfl rfl ?_
                refine wl_ov (ov_gtr rfl rfl) rfl ?_
                refine wl_ov (ov_pick_f rfl rfl) rfl ?_
                refine wl_ov (ov_move rfl) rfl ?_
                rcases Bool.eq_false_or_eq_true (decide (4001 < tt)) with h5 | h5
                · refine wl_set 47 rfl (congrArg Value.bool h5) ?_
                  replace h5 := of_decide_eq_true h5
                  refine wl_guard_off rfl rfl rfl (by decide) rfl ?_
                  refine wl_guard_off rfl rfl rfl (by decide) rfl ?_
                  refine wl_guard_off rfl rfl rfl (by decide) rfl ?_
                  refine wl_guard_off rfl rfl rfl (by decide) rfl ?_
                  refine wl_ov (ov_pick_t rfl rfl) rfl ?_
                  refine wl_ov (ov_move rfl) rfl ?_
                  refine wl_guard_off rfl rfl rfl (by decide) rfl ?_
                  refine wl_guard_off rfl rfl rfl (by decide) rfl ?_
                  refine wl_guard_off rfl rfl rfl (by decide) rfl ?_
                  refine wl_guard_off rfl rfl rfl (by decide) rfl ?_
                  refine wl_ov (ov_pick_t rfl rfl) rfl ?_
                  refine wl_ov (ov_assign rfl) rfl ?_
                  refine wl_nil ?_
                  refine nx_then ?_
                  refine gw_cond rfl (fun _ => ?_) (fun hh => by cases hh)
                  refine gw_seq ?_
                  refine gw_region ?_
                  refine wl_ov (ov_assign rfl) rfl ?_
                  refine wl_nil ?_
                  refine nx_then ?_
                  refine gw_ret ?_
                  refine nx_blk_ret ?_
                  refine nx_then_ret ?_
                  refine nx_blk_ret ?_
                  refine nx_then_ret ?_
                  refine nx_then_ret ?_
                  refine nx_blk_ret ?_
                  refine nx_then_ret ?_
                  have hE : codeE (prevOf l k) ⟨ke, cl, fr, tt, dy, mi⟩ = 1 := by unfold codeE; simp [h2, hO, h31, h32, h4, h5]
                  refine nx_ret1 rfl rfl fun wx hm => ?_
                  exact ⟨ret_int (by rw [hinv.2, hat, if_neg (by rw [hE]; decide), hE]), hm.g⟩
                · refine wl_set 47 rfl (congrArg Value.bool h5) ?_
                  replace h5 := of_decide_eq_false h5
                  refine wl_guard_on rfl rfl rfl ?_
                  refine wl_ov (ov_field fo188_4 rfl rfl) rfl ?_
                  refine wl_guard_on rfl rfl rfl ?_
                  refine wl_ov (ov_load sc3 rfl (fun _ hm => hm.blkI 0 rfl) rfl) rfl ?_
                  refine wl_guard_on rfl rfl rfl ?_
                  refine wl_callw rfl cb91 rfl rfl (fun wx hm => (rin_any _ _ _ wx)) ?_
                  refine wl_guard_on rfl rfl rfl ?_
                  refine wl_ov (ov_un_not rfl) rfl ?_
                  refine wl_ov (ov_pick_f rfl rfl) rfl ?_
                  refine wl_ov (ov_move rfl) rfl ?_
                  rcases Bool.eq_false_or_eq_true (!(inB dy 1 120)) with h6 | h6
                  · refine wl_set 53 rfl (congrArg Value.bool h6) ?_
                    refine wl_guard_off rfl rfl rfl (by decide) rfl ?_
                    refine wl_guard_off rfl rfl rfl (by decide) rfl ?_
                    refine wl_guard_off rfl rfl rfl (by decide) rfl ?_
                    refine wl_guard_off rfl rfl rfl (by decide) rfl ?_
                    refine wl_ov (ov_pick_t rfl rfl) rfl ?_
                    refine wl_ov (ov_assign rfl) rfl ?_
                    refine wl_nil ?_
                    refine nx_then ?_
                    refine gw_cond rfl (fun _ => ?_) (fun hh => by cases hh)
                    refine gw_seq ?_
                    refine gw_region ?_
                    refine wl_ov (ov_assign rfl) rfl ?_
                    refine wl_nil ?_
                    refine nx_then ?_
                    refine gw_ret ?_
                    refine nx_blk_ret ?_
                    refine nx_then_ret ?_
                    refine nx_blk_ret ?_
                    refine nx_then_ret ?_
                    refine nx_then_ret ?_
                    refine nx_blk_ret ?_
                    refine nx_then_ret ?_
                    have hE : codeE (prevOf l k) ⟨ke, cl, fr, tt, dy, mi⟩ = 1 := by unfold codeE; simp [h2, hO, h31, h32, h4, h5, h6]
                    refine nx_ret1 rfl rfl fun wx hm => ?_
                    exact ⟨ret_int (by rw [hinv.2, hat, if_neg (by rw [hE]; decide), hE]), hm.g⟩
                  · refine wl_set 53 rfl (congrArg Value.bool h6) ?_
                    refine wl_guard_on rfl rfl rfl ?_
                    refine wl_ov (ov_field fo188_5 rfl rfl) rfl ?_
                    refine wl_guard_on rfl rfl rfl ?_
                    refine wl_ov (ov_load sc3 rfl (fun _ hm => hm.blkI 0 rfl) rfl) rfl ?_
                    refine wl_guard_on rfl rfl rfl ?_
                    refine wl_callw rfl cb91 rfl rfl (fun wx hm => (rin_any _ _ _ wx)) ?_
                    refine wl_guard_on rfl rfl rfl ?_
                    refine wl_ov (ov_un_not rfl) rfl ?_
                    refine wl_ov (ov_pick_f rfl rfl) rfl ?_
                    refine wl_ov (ov_assign rfl) rfl ?_
                    refine wl_nil ?_
                    refine nx_then ?_
                    refine gw_cond rfl (fun hh => ?_) (fun hh => ?_)
                    · have h7 : (inB mi 1 1000) = false := by simpa using hh
                      clear hh
                      refine gw_seq ?_
                      refine gw_region ?_
                      refine wl_ov (ov_assign rfl) rfl ?_
                      refine wl_nil ?_
                      refine nx_then ?_
                      refine gw_ret ?_
                      refine nx_blk_ret ?_
                      refine nx_then_ret ?_
                      refine nx_blk_ret ?_
                      refine nx_then_ret ?_
                      refine nx_then_ret ?_
                      refine nx_blk_ret ?_
                      refine nx_then_ret ?_
                      have hE : codeE (prevOf l k) ⟨ke, cl, fr, tt, dy, mi⟩ = 1 := by unfold codeE; simp [h2, hO, h31, h32, h4, h5, h6, h7]
                      refine nx_ret1 rfl rfl fun wx hm => ?_
                      exact ⟨ret_int (by rw [hinv.2, hat, if_neg (by rw [hE]; decide), hE]), hm.g⟩
                    · have h7 : (inB mi 1 1000) = true := by simpa using hh
                      clear hh
                      refine gw_skip ?_
                      refine nx_blk_nrm ?_
                      refine nx_then ?_
                      refine gw_region ?_
                      have hE : codeE (prevOf l k) ⟨ke, cl, fr, tt, dy, mi⟩ = 0 := by unfold codeE; simp [h2, hO, h31, h32, h4, h5, h6, h7]
                      refine wl_ov (ov_field fo188_0 rfl rfl) rfl ?_
                      refine wl_ov (ov_load sc9 rfl (fun _ hm => hm.blkI 0 rfl) rfl) rfl ?_
                      refine wl_ov (ov_assign rfl) rfl ?_
                      refine wl_nil ?_
                      refine nx_blk_nrm ?_
                      refine nx_then ?_
                      refine gw_region ?_
                      refine wl_ov (ov_add rfl rfl (by omega) (by omega)) rfl ?_
                      refine wl_ov (ov_move rfl) rfl ?_
                      refine wl_nil ?_
                      exact nx_round (k + 1) ⟨by omega, by rw [hinv.2, hat, if_pos hE]⟩ (by omega) ⟨(congrArg (fun z => some (Value.string z)) (prevCd_succ hx).symm), rfl, rfl, (some_int (by omega)), trivial⟩ (fun _ hm => hm.pick [] [] [0] rfl rfl)
          · refine wl_set 29 rfl (congrArg Value.bool h31) ?_
            have h31 : emptyS cl = true := by unfold emptyS; simpa only [Bool.not_eq_false'] using h31
            refine wl_guard_off rfl rfl rfl (by decide) rfl ?_
            refine wl_guard_off rfl rfl rfl (by decide) rfl ?_
            refine wl_guard_off rfl rfl rfl (by decide) rfl ?_
            refine wl_guard_off rfl rfl rfl (by decide) rfl ?_
            refine wl_ov (ov_pick_f rfl rfl) rfl ?_
            refine wl_ov (ov_assign rfl) rfl ?_
            refine wl_nil ?_
            refine nx_then ?_
            refine gw_cond rfl (fun hh => by cases hh) (fun _ => ?_)
            refine gw_seq ?_
            refine gw_region ?_
            refine wl_ov (ov_field fo188_2 rfl rfl) rfl ?_
            refine wl_ov (ov_load sc3 rfl (fun _ hm => hm.blkI 0 rfl) rfl) rfl ?_
            refine wl_ov (ov_field fo188_3 rfl rfl) rfl ?_
            refine wl_ov (ov_load sc3 rfl (fun _ hm => hm.blkI 0 rfl) rfl) rfl ?_
            refine wl_callw rfl cb91 rfl rfl (fun wx hm => (rin_any _ _ _ wx)) ?_
            refine wl_ov (ov_un_not rfl) rfl ?_
            refine wl_ov (ov_move rfl) rfl ?_
            rcases Bool.eq_false_or_eq_true (!(inB fr 0 tt)) with h4 | h4
            · refine wl_set 42 rfl (congrArg Value.bool h4) ?_
              refine wl_guard_off rfl rfl rfl (by decide) rfl ?_
              refine wl_guard_off rfl rfl rfl (by decide) rfl ?_
              refine wl_guard_off rfl rfl rfl (by decide) rfl ?_
              refine wl_ov (ov_pick_t rfl rfl) rfl ?_
              refine wl_ov (ov_move rfl) rfl ?_
              refine wl_guard_off rfl rfl rfl (by decide) rfl ?_
              refine wl_guard_off rfl rfl rfl (by decide) rfl ?_
              refine wl_guard_off rfl rfl rfl (by decide) rfl ?_
              refine wl_guard_off rfl rfl rfl (by decide) rfl ?_
              refine wl_ov (ov_pick_t rfl rfl) rfl ?_
              refine wl_ov (ov_move rfl) rfl ?_
              refine wl_guard_off rfl rfl rfl (by decide) rfl ?_
              refine wl_guard_off rfl rfl rfl (by decide) rfl ?_
              refine wl_guard_off rfl rfl rfl (by decide) rfl ?_
              refine wl_guard_off rfl rfl rfl (by decide) rfl ?_
              refine wl_ov (ov_pick_t rfl rfl) rfl ?_
              refine wl_ov (ov_assign rfl) rfl ?_
              refine wl_nil ?_
              refine nx_then ?_
              refine gw_cond rfl (fun _ => ?_) (fun hh => by cases hh)
              refine gw_seq ?_
              refine gw_region ?_
              refine wl_ov (ov_assign rfl) rfl ?_
              refine wl_nil ?_
              refine nx_then ?_
              refine gw_ret ?_
              refine nx_blk_ret ?_
              refine nx_then_ret ?_
              refine nx_blk_ret ?_
              refine nx_then_ret ?_
              refine nx_then_ret ?_
              refine nx_blk_ret ?_
              refine nx_then_ret ?_
              have hE : codeE (prevOf l k) ⟨ke, cl, fr, tt, dy, mi⟩ = 1 := by unfold codeE; simp [h2, hO, h31, h4]
              refine nx_ret1 rfl rfl fun wx hm => ?_
              exact ⟨ret_int (by rw [hinv.2, hat, if_neg (by rw [hE]; decide), hE]), hm.g⟩
            · refine wl_set 42 rfl (congrArg Value.bool h4) ?_
              refine wl_guard_on rfl rfl rfl ?_
              refine wl_ov (ov_field fo188_3 rfl rfl) rfl ?_
              refine wl_guard_on rfl rfl rfl ?_
              refine wl_ov (ov_load sc3 rfl (fun _ hm => hm.blkI 0 rfl) rfl) rfl ?_
              refine wl_guard_on rfl rfl rfl ?_
              refine wl_ov (ov_gtr rfl rfl) rfl ?_
              refine wl_ov (ov_pick_f rfl rfl) rfl ?_
              refine wl_ov (ov_move rfl) rfl ?_
              rcases Bool.eq_false_or_eq_true (decide (4001 < tt)) with h5 | h5
              · refine wl_set 47 rfl (congrArg Value.bool h5) ?_
                replace h5 := of_decide_eq_true h5
                refine wl_guard_off rfl rfl rfl (by decide) rfl ?_
                refine wl_guard_off rfl rfl rfl (by decide) rfl ?_
                refine wl_guard_off rfl rfl rfl (by decide) rfl ?_
                refine wl_guard_off rfl rfl rfl (by decide) rfl ?_
                refine wl_ov (ov_pick_t rfl rfl) rfl ?_
                refine wl_ov (ov_move rfl) rfl ?_
                refine wl_guard_off rfl rfl rfl (by decide) rfl ?_
                refine wl_guard_off rfl rfl rfl (by decide) rfl ?_
                refine wl_guard_off rfl rfl rfl (by decide) rfl ?_
                refine wl_guard_off rfl rfl rfl (by decide) rfl ?_
                refine wl_ov (ov_pick_t rfl rfl) rfl ?_
                refine wl_ov (ov_assign rfl) rfl ?_
                refine wl_nil ?_
                refine nx_then ?_
                refine gw_cond rfl (fun _ => ?_) (fun hh => by cases hh)
                refine gw_seq ?_
                refine gw_region ?_
                refine wl_ov (ov_assign rfl) rfl ?_
                refine wl_nil ?_
                refine nx_then ?_
                refine gw_ret ?_
                refine nx_blk_ret ?_
                refine nx_then_ret ?_
                refine nx_blk_ret ?_
                refine nx_then_ret ?_
                refine nx_then_ret ?_
                refine nx_blk_ret ?_
                refine nx_then_ret ?_
                have hE : codeE (prevOf l k) ⟨ke, cl, fr, tt, dy, mi⟩ = 1 := by unfold codeE; simp [h2, hO, h31, h4, h5]
                refine nx_ret1 rfl rfl fun wx hm => ?_
                exact ⟨ret_int (by rw [hinv.2, hat, if_neg (by rw [hE]; decide), hE]), hm.g⟩
              · refine wl_set 47 rfl (congrArg Value.bool h5) ?_
                replace h5 := of_decide_eq_false h5
                refine wl_guard_on rfl rfl rfl ?_
                refine wl_ov (ov_field fo188_4 rfl rfl) rfl ?_
                refine wl_guard_on rfl rfl rfl ?_
                refine wl_ov (ov_load sc3 rfl (fun _ hm => hm.blkI 0 rfl) rfl) rfl ?_
                refine wl_guard_on rfl rfl rfl ?_
                refine wl_callw rfl cb91 rfl rfl (fun wx hm => (rin_any _ _ _ wx)) ?_
                refine wl_guard_on rfl rfl rfl ?_
                refine wl_ov (ov_un_not rfl) rfl ?_
                refine wl_ov (ov_pick_f rfl rfl) rfl ?_
                refine wl_ov (ov_move rfl) rfl ?_
                rcases Bool.eq_false_or_eq_true (!(inB dy 1 120)) with h6 | h6
                · refine wl_set 53 rfl (congrArg Value.bool h6) ?_
                  refine wl_guard_off rfl rfl rfl (by decide) rfl ?_
                  refine wl_guard_off rfl rfl rfl (by decide) rfl ?_
                  refine wl_guard_off rfl rfl rfl (by decide) rfl ?_
                  refine wl_guard_off rfl rfl rfl (by decide) rfl ?_
                  refine wl_ov (ov_pick_t rfl rfl) rfl ?_
                  refine wl_ov (ov_assign rfl) rfl ?_
                  refine wl_nil ?_
                  refine nx_then ?_
                  refine gw_cond rfl (fun _ => ?_) (fun hh => by cases hh)
                  refine gw_seq ?_
                  refine gw_region ?_
                  refine wl_ov (ov_assign rfl) rfl ?_
                  refine wl_nil ?_
                  refine nx_then ?_
                  refine gw_ret ?_
                  refine nx_blk_ret ?_
                  refine nx_then_ret ?_
                  refine nx_blk_ret ?_
                  refine nx_then_ret ?_
                  refine nx_then_ret ?_
                  refine nx_blk_ret ?_
                  refine nx_then_ret ?_
                  have hE : codeE (prevOf l k) ⟨ke, cl, fr, tt, dy, mi⟩ = 1 := by unfold codeE; simp [h2, hO, h31, h4, h5, h6]
                  refine nx_ret1 rfl rfl fun wx hm => ?_
                  exact ⟨ret_int (by rw [hinv.2, hat, if_neg (by rw [hE]; decide), hE]), hm.g⟩
                · refine wl_set 53 rfl (congrArg Value.bool h6) ?_
                  refine wl_guard_on rfl rfl rfl ?_
                  refine wl_ov (ov_field fo188_5 rfl rfl) rfl ?_
                  refine wl_guard_on rfl rfl rfl ?_
                  refine wl_ov (ov_load sc3 rfl (fun _ hm => hm.blkI 0 rfl) rfl) rfl ?_
                  refine wl_guard_on rfl rfl rfl ?_
                  refine wl_callw rfl cb91 rfl rfl (fun wx hm => (rin_any _ _ _ wx)) ?_
                  refine wl_guard_on rfl rfl rfl ?_
                  refine wl_ov (ov_un_not rfl) rfl ?_
                  refine wl_ov (ov_pick_f rfl rfl) rfl ?_
                  refine wl_ov (ov_assign rfl) rfl ?_
                  refine wl_nil ?_
                  refine nx_then ?_
                  refine gw_cond rfl (fun hh => ?_) (fun hh => ?_)
                  · have h7 : (inB mi 1 1000) = false := by simpa using hh
                    clear hh
                    refine gw_seq ?_
                    refine gw_region ?_
                    refine wl_ov (ov_assign rfl) rfl ?_
                    refine wl_nil ?_
                    refine nx_then ?_
                    refine gw_ret ?_
                    refine nx_blk_ret ?_
                    refine nx_then_ret ?_
                    refine nx_blk_ret ?_
                    refine nx_then_ret ?_
                    refine nx_then_ret ?_
                    refine nx_blk_ret ?_
                    refine nx_then_ret ?_
                    have hE : codeE (prevOf l k) ⟨ke, cl, fr, tt, dy, mi⟩ = 1 := by unfold codeE; simp [h2, hO, h31, h4, h5, h6, h7]
                    refine nx_ret1 rfl rfl fun wx hm => ?_
                    exact ⟨ret_int (by rw [hinv.2, hat, if_neg (by rw [hE]; decide), hE]), hm.g⟩
                  · have h7 : (inB mi 1 1000) = true := by simpa using hh
                    clear hh
                    refine gw_skip ?_
                    refine nx_blk_nrm ?_
                    refine nx_then ?_
                    refine gw_region ?_
                    have hE : codeE (prevOf l k) ⟨ke, cl, fr, tt, dy, mi⟩ = 0 := by unfold codeE; simp [h2, hO, h31, h4, h5, h6, h7]
                    refine wl_ov (ov_field fo188_0 rfl rfl) rfl ?_
                    refine wl_ov (ov_load sc9 rfl (fun _ hm => hm.blkI 0 rfl) rfl) rfl ?_
                    refine wl_ov (ov_assign rfl) rfl ?_
                    refine wl_nil ?_
                    refine nx_blk_nrm ?_
                    refine nx_then ?_
                    refine gw_region ?_
                    refine wl_ov (ov_add rfl rfl (by omega) (by omega)) rfl ?_
                    refine wl_ov (ov_move rfl) rfl ?_
                    refine wl_nil ?_
                    exact nx_round (k + 1) ⟨by omega, by rw [hinv.2, hat, if_pos hE]⟩ (by omega) ⟨(congrArg (fun z => some (Value.string z)) (prevCd_succ hx).symm), rfl, rfl, (some_int (by omega)), trivial⟩ (fun _ hm => hm.pick [] [] [0] rfl rfl)
    · have hk : ¬ (((k : Nat) : Int) < ((n : Nat) : Int)) := by simpa using hh
      clear hh
      refine gw_exit ?_
      refine nx_then_exit ?_
      refine nx_then_exit ?_
      refine nx_blk_here ?_
      refine nx_then ?_
      refine gw_seq ?_
      refine gw_region ?_
      refine wl_ov (ov_assign rfl) rfl ?_
      refine wl_nil ?_
      refine nx_then ?_
      refine gw_ret ?_
      refine nx_ret1 rfl rfl fun wx hm => ?_
      exact ⟨ret_int (by rw [hinv.2, scanE_end _ _ _ _ (by omega)]), hm.g⟩

set_option maxRecDepth 100000 in
set_option maxHeartbeats 400000 in
theorem pred_codeAt_1_tariff (ke : ByteArray) (cl : ByteArray) (fr : Int) (tt : Int) (dy : Int) (mi : Int) (gk : Nat) (k : ByteArray) (w : World) (hk : Blk w gk 9 [.string k]) :
    Calls Tryd.prog 172 #[.agg #[.string ke, .string cl, .int .i64 fr, .int .i64 tt, .int .i64 dy, .int .i64 mi], .pointer (some ⟨gk, 0, none⟩)] w (fun e w' => e = .returned (.bool (codeP k ⟨ke, cl, fr, tt, dy, mi⟩)) ∧ w.grownBy w' none) := by
  refine gw_enter ⟨8, w, none, []⟩ Tryd.func172 rfl Tryd.ntmps172 rfl (mem0 (X := [BlkOld w.heap.size none gk 9 [.string k]]) (allF_cons hk.old allF_nil) (allL_cons BlkOld.lasts allL_nil)) ?_
  refine gw_seq ?_
  refine gw_region ?_
  refine wl_box rfl rfl rfl fun g1 => ?_
  refine wl_ov (ov_assign rfl) rfl ?_
  refine wl_nil ?_
  refine nx_then ?_
  refine gw_seq ?_
  refine gw_region ?_
  refine wl_ov (ov_field fo188_0 rfl rfl) rfl ?_
  refine wl_ov (ov_load sc9 rfl (fun _ hm => hm.blkI 0 rfl) rfl) rfl ?_
  refine wl_ov (ov_load sc9 rfl (fun _ hm => (hm.fact 0 rfl).2) rfl) rfl ?_
  refine wl_ov (ov_seql rfl rfl) rfl ?_
  refine wl_ov (ov_assign rfl) rfl ?_
  refine wl_nil ?_
  refine nx_then ?_
  refine gw_ret ?_
  refine nx_ret1 rfl rfl fun wx hm => ?_
  exact ⟨rfl, hm.g⟩

set_option maxRecDepth 100000 in
set_option maxHeartbeats 400000 in
theorem index_codeAt_1_tariff (l : List Cd) (A : Option Addr) (n c0 : Nat) (gk : Nat) (k : ByteArray) (w : World) (hl : SlT cdEnc 6 188 w A n l) (hn : n ≤ 1000000) (hk : Blk w gk 9 [.string k]) :
    Calls Tryd.prog 171 #[.slice A n c0, .func (.func 172) #[] #[.pointer (some ⟨gk, 0, none⟩)]] w (GotE w (ixP (codeP k) l 0)) := by
  refine gw_enter ⟨19, w, none, []⟩ Tryd.func171 rfl Tryd.ntmps171 rfl (mem0 (X := [SlOld cdEnc 6 188 w.heap.size none A n l, BlkOld w.heap.size none gk 9 [.string k]]) (allF_cons hl.old (allF_cons hk.old allF_nil)) (allL_cons SlOld.lasts (allL_cons BlkOld.lasts allL_nil))) ?_
  refine gw_seq ?_
  refine gw_region ?_
  have hlen := hl.len
  refine wl_ov (ov_assign rfl) rfl ?_
  refine wl_nil ?_
  refine nx_then ?_
  refine gw_seq ?_
  refine gw_seq ?_
  refine gw_region ?_
  refine wl_ov (ov_move rfl) rfl ?_
  refine wl_ov (ov_len es103 rfl) rfl ?_
  refine wl_ov (ov_move rfl) rfl ?_
  refine wl_nil ?_
  refine nx_then ?_
  refine gw_block ?_
  refine gw_loop (γ := Nat) (fun (i : Nat) => i ≤ n ∧ ixP (codeP k) l 0 = ixP (codeP k) (l.drop i) i) (fun (i : Nat) => [(0, .slice A n c0), (1, .func (.func 172) #[] #[.pointer (some ⟨gk, 0, none⟩)]), (7, .int .i64 ((n : Nat) : Int)), (8, .int .i64 ((i : Nat) : Int))]) (fun (i : Nat) => fun _ => True) (fun (i : Nat) => []) (fun (i : Nat) => []) (fun (i : Nat) => [SlOld cdEnc 6 188 w.heap.size none A n l, BlkOld w.heap.size none gk 9 [.string k]]) (fun (i : Nat) => n - i) 0 ⟨Nat.zero_le _, rfl⟩ ⟨rfl, rfl, rfl, rfl, trivial⟩ (fun _ hm => hm.pick [] [] [0, 1] rfl rfl) ?_
  intro i hinv
  replace hinv : i ≤ n ∧ ixP (codeP k) l 0 = ixP (codeP k) (l.drop i) i := hinv
  refine gw_seq ?_
  refine gw_region ?_
  refine wl_ov (ov_lss rfl rfl) rfl ?_
  refine wl_nil ?_
  refine nx_then ?_
  refine gw_seq ?_
  refine gw_cond rfl (fun hh => ?_) (fun hh => ?_)
  · have hi : ((i : Nat) : Int) < ((n : Nat) : Int) := by simpa using hh
    clear hh
    refine gw_skip ?_
    refine nx_then ?_
    refine gw_seq ?_
    refine gw_block ?_
    refine gw_seq ?_
    refine gw_region ?_
    obtain ⟨b, off, hA, _, _⟩ := hl.get (by omega)
    subst hA
    obtain ⟨x, hx⟩ : ∃ x, l[i]? = some x := ⟨_, List.getElem?_eq_getElem (by omega)⟩
    obtain ⟨ke, cl, fr, tt, dy, mi⟩ := x
    have hat := ixP_at (p := codeP k) hx
    refine wl_ov (ov_move rfl) rfl ?_
    refine wl_ov (ov_assign rfl) rfl ?_
    refine wl_nil ?_
    refine nx_then ?_
    refine gw_seq ?_
    refine gw_region ?_
    refine wl_ov (ov_move rfl) rfl ?_
    refine wl_ov (ov_move rfl) rfl ?_
    refine wl_ov (ov_move rfl) rfl ?_
    refine wl_ov (ov_index (j := i) es103 rfl rfl (by omega)) rfl ?_
    refine wl_ov (ov_elem (vs := [.string ke, .string cl, .int .i64 fr, .int .i64 tt, .int .i64 dy, .int .i64 mi]) rz188 rfl (fun _ hm => (hm.fact 0 rfl).1) hx rfl rfl) rfl ?_
    refine wl_callv rfl cb172 rfl rfl (fun wx hm => (pred_codeAt_1_tariff ke cl fr tt dy mi gk k wx (hm.fact 1 rfl).2)) ?_
    refine wl_nil ?_
    refine nx_then ?_
    refine gw_cond rfl (fun hh => ?_) (fun hh => ?_)
    · have hq : (codeP k ⟨ke, cl, fr, tt, dy, mi⟩) = true := by simpa using hh
      clear hh
      refine gw_seq ?_
      refine gw_region ?_
      refine wl_ov (ov_move rfl) rfl ?_
      refine wl_ov (ov_assign rfl) rfl ?_
      refine wl_nil ?_
      refine nx_then ?_
      refine gw_ret ?_
      refine nx_blk_ret ?_
      refine nx_then_ret ?_
      refine nx_then_ret ?_
      refine nx_blk_ret ?_
      refine nx_then_ret ?_
      refine nx_ret1 rfl rfl fun wx hm => ?_
      exact ⟨ret_int (by rw [hinv.2, hat, if_pos hq]), hm.g⟩
    · have hq : (codeP k ⟨ke, cl, fr, tt, dy, mi⟩) = false := by simpa using hh
      clear hh
      refine gw_skip ?_
      refine nx_blk_nrm ?_
      refine nx_then ?_
      refine gw_region ?_
      refine wl_ov (ov_add rfl rfl (by omega) (by omega)) rfl ?_
      refine wl_ov (ov_move rfl) rfl ?_
      refine wl_nil ?_
      exact nx_round (i + 1) ⟨by omega, by rw [hinv.2, hat, if_neg (by rw [hq]; decide)]⟩ (by omega) ⟨rfl, rfl, rfl, (some_int (by omega)), trivial⟩ (fun _ hm => hm.pick [] [] [0, 1] rfl rfl)
  · have hi : ¬ (((i : Nat) : Int) < ((n : Nat) : Int)) := by simpa using hh
    clear hh
    refine gw_exit ?_
    refine nx_then_exit ?_
    refine nx_then_exit ?_
    refine nx_blk_here ?_
    refine nx_then ?_
    refine gw_seq ?_
    refine gw_region ?_
    refine wl_ov (ov_assign rfl) rfl ?_
    refine wl_set 4 (v' := .int .i64 (-1)) rfl rfl ?_
    refine wl_nil ?_
    refine nx_then ?_
    refine gw_ret ?_
    refine nx_ret1 rfl rfl fun wx hm => ?_
    exact ⟨ret_int (by rw [hinv.2, List.drop_eq_nil_of_le (by omega)]; rfl), hm.g⟩

set_option maxRecDepth 100000 in
set_option maxHeartbeats 400000 in
theorem codeAt_any (l : List Cd) (A : Option Addr) (n c0 : Nat) (k : ByteArray) (w : World) (hl : SlT cdEnc 6 188 w A n l) (hn : n ≤ 1000000) :
    Calls Tryd.prog 129 #[.slice A n c0, .string k] w (GotE w (ixP (codeP k) l 0)) := by
  refine gw_enter ⟨8, w, none, []⟩ Tryd.func129 rfl Tryd.ntmps129 rfl (mem0 (X := [SlOld cdEnc 6 188 w.heap.size none A n l]) (allF_cons hl.old allF_nil) (allL_cons SlOld.lasts allL_nil)) ?_
  refine gw_seq ?_
  refine gw_region ?_
  refine wl_box rfl rfl rfl fun g1 => ?_
  refine wl_ov (ov_assign rfl) rfl ?_
  refine wl_nil ?_
  refine nx_then ?_
  refine gw_seq ?_
  refine gw_region ?_
  refine wl_ov (ov_move rfl) rfl ?_
  refine wl_ov (ov_makeFunc rfl rfl) rfl ?_
  refine wl_callv rfl cb171 rfl rfl (fun wx hm => (index_codeAt_1_tariff l A n c0 _ k wx (hm.fact 0 rfl).1 hn (hm.blkI 0 rfl))) ?_
  refine wl_ov (ov_assign rfl) rfl ?_
  refine wl_nil ?_
  refine nx_then ?_
  refine gw_ret ?_
  refine nx_ret1 rfl rfl fun wx hm => ?_
  exact ⟨rfl, hm.g⟩

set_option maxRecDepth 100000 in
set_option maxHeartbeats 400000 in
theorem pred_CodeKeysFault_1_rentref1 (ke : ByteArray) (cl : ByteArray) (fr : Int) (tt : Int) (dy : Int) (mi : Int) (gk : Nat) (k : ByteArray) (w : World) (hk : Blk w gk 9 [.string k]) :
    Calls Tryd.prog 131 #[.agg #[.string ke, .string cl, .int .i64 fr, .int .i64 tt, .int .i64 dy, .int .i64 mi], .pointer (some ⟨gk, 0, none⟩)] w (fun e w' => e = .returned (.bool (codeP k ⟨ke, cl, fr, tt, dy, mi⟩)) ∧ w.grownBy w' none) := by
  refine gw_enter ⟨8, w, none, []⟩ Tryd.func131 rfl Tryd.ntmps131 rfl (mem0 (X := [BlkOld w.heap.size none gk 9 [.string k]]) (allF_cons hk.old allF_nil) (allL_cons BlkOld.lasts allL_nil)) ?_
  refine gw_seq ?_
  refine gw_region ?_
  refine wl_box rfl rfl rfl fun g1 => ?_
  refine wl_ov (ov_assign rfl) rfl ?_
  refine wl_nil ?_
  refine nx_then ?_
  refine gw_seq ?_
  refine gw_region ?_
  refine wl_ov (ov_field fo188_0 rfl rfl) rfl ?_
  refine wl_ov (ov_load sc9 rfl (fun _ hm => hm.blkI 0 rfl) rfl) rfl ?_
  refine wl_ov (ov_load sc9 rfl (fun _ hm => (hm.fact 0 rfl).2) rfl) rfl ?_
  refine wl_ov (ov_seql rfl rfl) rfl ?_
  refine wl_ov (ov_assign rfl) rfl ?_
  refine wl_nil ?_
  refine nx_then ?_
  refine gw_ret ?_
  refine nx_ret1 rfl rfl fun wx hm => ?_
  exact ⟨rfl, hm.g⟩

set_option maxRecDepth 100000 in
set_option maxHeartbeats 400000 in
theorem index_CodeKeysFault_1_rentref1 (l : List Cd) (A : Option Addr) (n c0 : Nat) (gk : Nat) (k : ByteArray) (w : World) (hl : SlT cdEnc 6 188 w A n l) (hn : n ≤ 1000000) (hk : Blk w gk 9 [.string k]) :
    Calls Tryd.prog 171 #[.slice A n c0, .func (.func 131) #[] #[.pointer (some ⟨gk, 0, none⟩)]] w (GotE w (ixP (codeP k) l 0)) := by
  refine gw_enter ⟨19, w, none, []⟩ Tryd.func171 rfl Tryd.ntmps171 rfl (mem0 (X := [SlOld cdEnc 6 188 w.heap.size none A n l, BlkOld w.heap.size none gk 9 [.string k]]) (allF_cons hl.old (allF_cons hk.old allF_nil)) (allL_cons SlOld.lasts (allL_cons BlkOld.lasts allL_nil))) ?_
  refine gw_seq ?_
  refine gw_region ?_
  have hlen := hl.len
  refine wl_ov (ov_assign rfl) rfl ?_
  refine wl_nil ?_
  refine nx_then ?_
  refine gw_seq ?_
  refine gw_seq ?_
  refine gw_region ?_
  refine wl_ov (ov_move rfl) rfl ?_
  refine wl_ov (ov_len es103 rfl) rfl ?_
  refine wl_ov (ov_move rfl) rfl ?_
  refine wl_nil ?_
  refine nx_then ?_
  refine gw_block ?_
  refine gw_loop (γ := Nat) (fun (i : Nat) => i ≤ n ∧ ixP (codeP k) l 0 = ixP (codeP k) (l.drop i) i) (fun (i : Nat) => [(0, .slice A n c0), (1, .func (.func 131) #[] #[.pointer (some ⟨gk, 0, none⟩)]), (7, .int .i64 ((n : Nat) : Int)), (8, .int .i64 ((i : Nat) : Int))]) (fun (i : Nat) => fun _ => True) (fun (i : Nat) => []) (fun (i : Nat) => []) (fun (i : Nat) => [SlOld cdEnc 6 188 w.heap.size none A n l, BlkOld w.heap.size none gk 9 [.string k]]) (fun (i : Nat) => n - i) 0 ⟨Nat.zero_le _, rfl⟩ ⟨rfl, rfl, rfl, rfl, trivial⟩ (fun _ hm => hm.pick [] [] [0, 1] rfl rfl) ?_
  intro i hinv
  replace hinv : i ≤ n ∧ ixP (codeP k) l 0 = ixP (codeP k) (l.drop i) i := hinv
  refine gw_seq ?_
  refine gw_region ?_
  refine wl_ov (ov_lss rfl rfl) rfl ?_
  refine wl_nil ?_
  refine nx_then ?_
  refine gw_seq ?_
  refine gw_cond rfl (fun hh => ?_) (fun hh => ?_)
  · have hi : ((i : Nat) : Int) < ((n : Nat) : Int) := by simpa using hh
    clear hh
    refine gw_skip ?_
    refine nx_then ?_
    refine gw_seq ?_
    refine gw_block ?_
    refine gw_seq ?_
    refine gw_region ?_
    obtain ⟨b, off, hA, _, _⟩ := hl.get (by omega)
    subst hA
    obtain ⟨x, hx⟩ : ∃ x, l[i]? = some x := ⟨_, List.getElem?_eq_getElem (by omega)⟩
    obtain ⟨ke, cl, fr, tt, dy, mi⟩ := x
    have hat := ixP_at (p := codeP k) hx
    refine wl_ov (ov_move rfl) rfl ?_
    refine wl_ov (ov_assign rfl) rfl ?_
    refine wl_nil ?_
    refine nx_then ?_
    refine gw_seq ?_
    refine gw_region ?_
    refine wl_ov (ov_move rfl) rfl ?_
    refine wl_ov (ov_move rfl) rfl ?_
    refine wl_ov (ov_move rfl) rfl ?_
    refine wl_ov (ov_index (j := i) es103 rfl rfl (by omega)) rfl ?_
    refine wl_ov (ov_elem (vs := [.string ke, .string cl, .int .i64 fr, .int .i64 tt, .int .i64 dy, .int .i64 mi]) rz188 rfl (fun _ hm => (hm.fact 0 rfl).1) hx rfl rfl) rfl ?_
    refine wl_callv rfl cb131 rfl rfl (fun wx hm => (pred_CodeKeysFault_1_rentref1 ke cl fr tt dy mi gk k wx (hm.fact 1 rfl).2)) ?_
    refine wl_nil ?_
    refine nx_then ?_
    refine gw_cond rfl (fun hh => ?_) (fun hh => ?_)
    · have hq : (codeP k ⟨ke, cl, fr, tt, dy, mi⟩) = true := by simpa using hh
      clear hh
      refine gw_seq ?_
      refine gw_region ?_
      refine wl_ov (ov_move rfl) rfl ?_
      refine wl_ov (ov_assign rfl) rfl ?_
      refine wl_nil ?_
      refine nx_then ?_
      refine gw_ret ?_
      refine nx_blk_ret ?_
      refine nx_then_ret ?_
      refine nx_then_ret ?_
      refine nx_blk_ret ?_
      refine nx_then_ret ?_
      refine nx_ret1 rfl rfl fun wx hm => ?_
      exact ⟨ret_int (by rw [hinv.2, hat, if_pos hq]), hm.g⟩
    · have hq : (codeP k ⟨ke, cl, fr, tt, dy, mi⟩) = false := by simpa using hh
      clear hh
      refine gw_skip ?_
      refine nx_blk_nrm ?_
      refine nx_then ?_
      refine gw_region ?_
      refine wl_ov (ov_add rfl rfl (by omega) (by omega)) rfl ?_
      refine wl_ov (ov_move rfl) rfl ?_
      refine wl_nil ?_
      exact nx_round (i + 1) ⟨by omega, by rw [hinv.2, hat, if_neg (by rw [hq]; decide)]⟩ (by omega) ⟨rfl, rfl, rfl, (some_int (by omega)), trivial⟩ (fun _ hm => hm.pick [] [] [0, 1] rfl rfl)
  · have hi : ¬ (((i : Nat) : Int) < ((n : Nat) : Int)) := by simpa using hh
    clear hh
    refine gw_exit ?_
    refine nx_then_exit ?_
    refine nx_then_exit ?_
    refine nx_blk_here ?_
    refine nx_then ?_
    refine gw_seq ?_
    refine gw_region ?_
    refine wl_ov (ov_assign rfl) rfl ?_
    refine wl_set 4 (v' := .int .i64 (-1)) rfl rfl ?_
    refine wl_nil ?_
    refine nx_then ?_
    refine gw_ret ?_
    refine nx_ret1 rfl rfl fun wx hm => ?_
    exact ⟨ret_int (by rw [hinv.2, List.drop_eq_nil_of_le (by omega)]; rfl), hm.g⟩

set_option maxRecDepth 100000 in
set_option maxHeartbeats 400000 in
theorem hasCode_any (l : List Cd) (A : Option Addr) (n c0 : Nat) (gk : Nat) (k : ByteArray) (w : World) (hl : SlT cdEnc 6 188 w A n l) (hn : n ≤ 1000000) (hk : Blk w gk 9 [.string k]) :
    Calls Tryd.prog 130 #[.slice A n c0, .func (.func 131) #[] #[.pointer (some ⟨gk, 0, none⟩)]] w (fun e w' => e = .returned (.bool (l.any (codeP k))) ∧ w.grownBy w' none) := by
  refine gw_enter ⟨9, w, none, []⟩ Tryd.func130 rfl Tryd.ntmps130 rfl (mem0 (X := [SlOld cdEnc 6 188 w.heap.size none A n l, BlkOld w.heap.size none gk 9 [.string k]]) (allF_cons hl.old (allF_cons hk.old allF_nil)) (allL_cons SlOld.lasts (allL_cons BlkOld.lasts allL_nil))) ?_
  refine gw_seq ?_
  refine gw_region ?_
  refine wl_ov (ov_assign rfl) rfl ?_
  refine wl_nil ?_
  refine nx_then ?_
  refine gw_seq ?_
  refine gw_region ?_
  refine wl_ov (ov_move rfl) rfl ?_
  refine wl_ov (ov_move rfl) rfl ?_
  refine wl_callv rfl cb171 rfl rfl (fun wx hm => (index_CodeKeysFault_1_rentref1 l A n c0 gk k wx (hm.fact 0 rfl).1 hn (hm.fact 1 rfl).2)) ?_
  refine wl_ov (ov_geq rfl rfl) rfl ?_
  refine wl_ov (ov_assign rfl) rfl ?_
  refine wl_nil ?_
  refine nx_then ?_
  refine gw_ret ?_
  refine nx_ret1 rfl rfl fun wx hm => ?_
  exact ⟨by rw [← ix_any], hm.g⟩

set_option maxRecDepth 100000 in
set_option maxHeartbeats 400000 in
theorem index_str (ks : List ByteArray) (A1 : Option Addr) (n1 c1 : Nat) (k : ByteArray) (w : World) (hs : SlT sgEnc 1 9 w A1 n1 ks) (hn : n1 ≤ 1000000) :
    Calls Tryd.prog 173 #[.slice A1 n1 c1, .string k] w (GotE w (ixP (fun y => k.toList == y.toList) ks 0)) := by
  refine gw_enter ⟨19, w, none, []⟩ Tryd.func173 rfl Tryd.ntmps173 rfl (mem0 (X := [SlOld sgEnc 1 9 w.heap.size none A1 n1 ks]) (allF_cons hs.old allF_nil) (allL_cons SlOld.lasts allL_nil)) ?_
  refine gw_seq ?_
  refine gw_region ?_
  have hlen := hs.len
  refine wl_ov (ov_assign rfl) rfl ?_
  refine wl_nil ?_
  refine nx_then ?_
  refine gw_seq ?_
  refine gw_seq ?_
  refine gw_region ?_
  refine wl_ov (ov_move rfl) rfl ?_
  refine wl_ov (ov_len es105 rfl) rfl ?_
  refine wl_ov (ov_move rfl) rfl ?_
  refine wl_nil ?_
  refine nx_then ?_
  refine gw_block ?_
  refine gw_loop (γ := Nat) (fun (i : Nat) => i ≤ n1 ∧ ixP (fun y => k.toList == y.toList) ks 0 = ixP (fun y => k.toList == y.toList) (ks.drop i) i) (fun (i : Nat) => [(0, .slice A1 n1 c1), (1, .string k), (7, .int .i64 ((n1 : Nat) : Int)), (8, .int .i64 ((i : Nat) : Int))]) (fun (i : Nat) => fun _ => True) (fun (i : Nat) => []) (fun (i : Nat) => []) (fun (i : Nat) => [SlOld sgEnc 1 9 w.heap.size none A1 n1 ks]) (fun (i : Nat) => n1 - i) 0 ⟨Nat.zero_le _, rfl⟩ ⟨rfl, rfl, rfl, rfl, trivial⟩ (fun _ hm => hm.pick [] [] [0] rfl rfl) ?_
  intro i hinv
  replace hinv : i ≤ n1 ∧ ixP (fun y => k.toList == y.toList) ks 0 = ixP (fun y => k.toList == y.toList) (ks.drop i) i := hinv
  refine gw_seq ?_
  refine gw_region ?_
  refine wl_ov (ov_lss rfl rfl) rfl ?_
  refine wl_nil ?_
  refine nx_then ?_
  refine gw_seq ?_
  refine gw_cond rfl (fun hh => ?_) (fun hh => ?_)
  · have hi : ((i : Nat) : Int) < ((n1 : Nat) : Int) := by simpa using hh
    clear hh
    refine gw_skip ?_
    refine nx_then ?_
    refine gw_seq ?_
    refine gw_block ?_
    refine gw_seq ?_
    refine gw_region ?_
    obtain ⟨b, off, hA, _, _⟩ := hs.get (by omega)
    subst hA
    obtain ⟨z0, hx⟩ : ∃ x, ks[i]? = some x := ⟨_, List.getElem?_eq_getElem (by omega)⟩
    have hat := ixP_at (p := (fun y => k.toList == y.toList)) hx
    refine wl_ov (ov_move rfl) rfl ?_
    refine wl_ov (ov_assign rfl) rfl ?_
    refine wl_nil ?_
    refine nx_then ?_
    refine gw_seq ?_
    refine gw_region ?_
    refine wl_ov (ov_move rfl) rfl ?_
    refine wl_ov (ov_move rfl) rfl ?_
    refine wl_ov (ov_move rfl) rfl ?_
    refine wl_ov (ov_index (j := i) es105 rfl rfl (by omega)) rfl ?_
    refine wl_ov (ov_elem1 (k := 0) (v := .string z0) sc9 rfl (fun _ hm => (hm.fact 0 rfl).1) hx rfl rfl) rfl ?_
    refine wl_ov (ov_seql rfl rfl) rfl ?_
    refine wl_nil ?_
    refine nx_then ?_
    refine gw_cond rfl (fun hh => ?_) (fun hh => ?_)
    · have hq : (k.toList == z0.toList) = true := by simpa using hh
      clear hh
      refine gw_seq ?_
      refine gw_region ?_
      refine wl_ov (ov_move rfl) rfl ?_
      refine wl_ov (ov_assign rfl) rfl ?_
      refine wl_nil ?_
      refine nx_then ?_
      refine gw_ret ?_
      refine nx_blk_ret ?_
      refine nx_then_ret ?_
      refine nx_then_ret ?_
      refine nx_blk_ret ?_
      refine nx_then_ret ?_
      refine nx_ret1 rfl rfl fun wx hm => ?_
      exact ⟨ret_int (by rw [hinv.2, hat, if_pos hq]), hm.g⟩
    · have hq : (k.toList == z0.toList) = false := by simpa using hh
      clear hh
      refine gw_skip ?_
      refine nx_blk_nrm ?_
      refine nx_then ?_
      refine gw_region ?_
      refine wl_ov (ov_add rfl rfl (by omega) (by omega)) rfl ?_
      refine wl_ov (ov_move rfl) rfl ?_
      refine wl_nil ?_
      exact nx_round (i + 1) ⟨by omega, by rw [hinv.2, hat, if_neg (by rw [hq]; decide)]⟩ (by omega) ⟨rfl, rfl, rfl, (some_int (by omega)), trivial⟩ (fun _ hm => hm.pick [] [] [0] rfl rfl)
  · have hi : ¬ (((i : Nat) : Int) < ((n1 : Nat) : Int)) := by simpa using hh
    clear hh
    refine gw_exit ?_
    refine nx_then_exit ?_
    refine nx_then_exit ?_
    refine nx_blk_here ?_
    refine nx_then ?_
    refine gw_seq ?_
    refine gw_region ?_
    refine wl_ov (ov_assign rfl) rfl ?_
    refine wl_set 4 (v' := .int .i64 (-1)) rfl rfl ?_
    refine wl_nil ?_
    refine nx_then ?_
    refine gw_ret ?_
    refine nx_ret1 rfl rfl fun wx hm => ?_
    exact ⟨ret_int (by rw [hinv.2, List.drop_eq_nil_of_le (by omega)]; rfl), hm.g⟩

set_option maxRecDepth 100000 in
set_option maxHeartbeats 400000 in
theorem contains_str (ks : List ByteArray) (A1 : Option Addr) (n1 c1 : Nat) (k : ByteArray) (w : World) (hs : SlT sgEnc 1 9 w A1 n1 ks) (hn : n1 ≤ 1000000) :
    Calls Tryd.prog 132 #[.slice A1 n1 c1, .string k] w (fun e w' => e = .returned (.bool (ks.any (fun y => k.toList == y.toList))) ∧ w.grownBy w' none) := by
  refine gw_enter ⟨9, w, none, []⟩ Tryd.func132 rfl Tryd.ntmps132 rfl (mem0 (X := [SlOld sgEnc 1 9 w.heap.size none A1 n1 ks]) (allF_cons hs.old allF_nil) (allL_cons SlOld.lasts allL_nil)) ?_
  refine gw_seq ?_
  refine gw_region ?_
  refine wl_ov (ov_assign rfl) rfl ?_
  refine wl_nil ?_
  refine nx_then ?_
  refine gw_seq ?_
  refine gw_region ?_
  refine wl_ov (ov_move rfl) rfl ?_
  refine wl_ov (ov_move rfl) rfl ?_
  refine wl_callv rfl cb173 rfl rfl (fun wx hm => (index_str ks A1 n1 c1 k wx (hm.fact 0 rfl).1 hn)) ?_
  refine wl_ov (ov_geq rfl rfl) rfl ?_
  refine wl_ov (ov_assign rfl) rfl ?_
  refine wl_nil ?_
  refine nx_then ?_
  refine gw_ret ?_
  refine nx_ret1 rfl rfl fun wx hm => ?_
  exact ⟨by rw [← ix_any], hm.g⟩

set_option maxRecDepth 100000 in
set_option maxHeartbeats 400000 in
theorem isCode_any (l : List Cd) (A : Option Addr) (n c0 : Nat) (gl : Nat) (k : ByteArray) (w : World) (hl : SlT cdEnc 6 188 w A n l) (hn : n ≤ 1000000) (hg : Blk w gl 103 [.slice A n c0]) :
    Calls Tryd.prog 128 #[.string k, .pointer (some ⟨gl, 0, none⟩)] w (fun e w' => e = .returned (.bool (l.any (codeP k))) ∧ w.grownBy w' none) := by
  refine gw_enter ⟨8, w, none, []⟩ Tryd.func128 rfl Tryd.ntmps128 rfl (mem0 (X := [SlOld cdEnc 6 188 w.heap.size none A n l, BlkOld w.heap.size none gl 103 [.slice A n c0]]) (allF_cons hl.old (allF_cons hg.old allF_nil)) (allL_cons SlOld.lasts (allL_cons BlkOld.lasts allL_nil))) ?_
  refine gw_seq ?_
  refine gw_region ?_
  refine wl_ov (ov_assign rfl) rfl ?_
  refine wl_nil ?_
  refine nx_then ?_
  refine gw_seq ?_
  refine gw_region ?_
  refine wl_ov (ov_load sc103 rfl (fun _ hm => (hm.fact 1 rfl).2) rfl) rfl ?_
  refine wl_ov (ov_move rfl) rfl ?_
  refine wl_callv rfl cb129 rfl rfl (fun wx hm => (codeAt_any l A n c0 k wx (hm.fact 0 rfl).1 hn)) ?_
  refine wl_ov (ov_geq rfl rfl) rfl ?_
  refine wl_ov (ov_assign rfl) rfl ?_
  refine wl_nil ?_
  refine nx_then ?_
  refine gw_ret ?_
  refine nx_ret1 rfl rfl fun wx hm => ?_
  exact ⟨by rw [← ix_any], hm.g⟩

set_option maxRecDepth 100000 in
set_option maxHeartbeats 1000000 in
theorem checkAsked_codes (l : List Cd) (A : Option Addr) (n c0 : Nat) (ks : List ByteArray) (A1 : Option Addr) (n1 c1 : Nat) (gl : Nat) (w : World) (hl : SlT cdEnc 6 188 w A n l) (hn : n ≤ 1000000) (hs : SlT sgEnc 1 9 w A1 n1 ks) (hn1 : n1 ≤ 1000000) (hc1 : n1 ≤ c1) (hg : Blk w gl 103 [.slice A n c0]) :
    Calls Tryd.prog 127 #[.slice A1 n1 c1, .func (.func 128) #[] #[.pointer (some ⟨gl, 0, none⟩)]] w (GotE w (askE (fun k => l.any (codeP k)) ks)) := by
  refine gw_enter ⟨29, w, none, []⟩ Tryd.func127 rfl Tryd.ntmps127 rfl (mem0 (X := [SlOld sgEnc 1 9 w.heap.size none A1 n1 ks, SlOld cdEnc 6 188 w.heap.size none A n l, BlkOld w.heap.size none gl 103 [.slice A n c0]]) (allF_cons hs.old (allF_cons hl.old (allF_cons hg.old allF_nil))) (allL_cons SlOld.lasts (allL_cons SlOld.lasts (allL_cons BlkOld.lasts allL_nil)))) ?_
  refine gw_seq ?_
  refine gw_region ?_
  have hlen := hs.len
  refine wl_ov (ov_assign rfl) rfl ?_
  refine wl_nil ?_
  refine nx_then ?_
  refine gw_seq ?_
  refine gw_seq ?_
  refine gw_region ?_
  refine wl_ov (ov_move rfl) rfl ?_
  refine wl_ov (ov_len es105 rfl) rfl ?_
  refine wl_ov (ov_gtr rfl rfl) rfl ?_
  refine wl_nil ?_
  refine nx_then ?_
  refine gw_cond rfl (fun hh => ?_) (fun hh => ?_)
  · have h1 : 10 < ((n1 : Nat) : Int) := by simpa using hh
    clear hh
    refine gw_seq ?_
    refine gw_region ?_
    refine wl_ov (ov_assign rfl) rfl ?_
    refine wl_nil ?_
    refine nx_then ?_
    refine gw_ret ?_
    refine nx_then_ret ?_
    refine nx_ret1 rfl rfl fun wx hm => ?_
    exact ⟨ret_int (by unfold askE; rw [if_pos (by omega)]), hm.g⟩
  · have h1 : ¬ (10 < ((n1 : Nat) : Int)) := by simpa using hh
    clear hh
    refine gw_skip ?_
    refine nx_then ?_
    refine gw_seq ?_
    refine gw_seq ?_
    refine gw_region ?_
    refine wl_ov (ov_move rfl) rfl ?_
    refine wl_ov (ov_len es105 rfl) rfl ?_
    refine wl_ov (ov_move rfl) rfl ?_
    refine wl_nil ?_
    refine nx_then ?_
    refine gw_block ?_
    refine gw_loop (γ := Nat) (fun (i : Nat) => i ≤ n1 ∧ askE (fun k => l.any (codeP k)) ks = askG (fun k => l.any (codeP k)) (ks.take i) (ks.drop i)) (fun (i : Nat) => [(0, .slice A1 n1 c1), (1, .func (.func 128) #[] #[.pointer (some ⟨gl, 0, none⟩)]), (10, .slice A1 n1 c1), (11, .int .i64 ((n1 : Nat) : Int)), (12, .int .i64 ((i : Nat) : Int))]) (fun (i : Nat) => fun _ => True) (fun (i : Nat) => []) (fun (i : Nat) => []) (fun (i : Nat) => [SlOld sgEnc 1 9 w.heap.size none A1 n1 ks, SlOld cdEnc 6 188 w.heap.size none A n l, BlkOld w.heap.size none gl 103 [.slice A n c0]]) (fun (i : Nat) => n1 - i) 0 ⟨Nat.zero_le _, by unfold askE; rw [if_neg (by omega)]; rfl⟩ ⟨rfl, rfl, rfl, rfl, rfl, trivial⟩ (fun _ hm => hm.pick [] [] [0, 1, 2] rfl rfl) ?_
    intro i hinv
    replace hinv : i ≤ n1 ∧ askE (fun k => l.any (codeP k)) ks = askG (fun k => l.any (codeP k)) (ks.take i) (ks.drop i) := hinv
    refine gw_seq ?_
    refine gw_region ?_
    refine wl_ov (ov_lss rfl rfl) rfl ?_
    refine wl_nil ?_
    refine nx_then ?_
    refine gw_seq ?_
    refine gw_cond rfl (fun hh => ?_) (fun hh => ?_)
    · have hi : ((i : Nat) : Int) < ((n1 : Nat) : Int) := by simpa using hh
      clear hh
      refine gw_skip ?_
      refine nx_then ?_
      refine gw_seq ?_
      refine gw_block ?_
      refine gw_seq ?_
      refine gw_region ?_
      obtain ⟨b1, off1, hA, _, _⟩ := hs.get (by omega)
      subst hA
      obtain ⟨k, hx⟩ : ∃ x, ks[i]? = some x := ⟨_, List.getElem?_eq_getElem (by omega)⟩
      have hat := askG_at (has := (fun k => l.any (codeP k))) hx
      refine wl_ov (ov_move rfl) rfl ?_
      refine wl_ov (ov_index (j := i) es105 rfl rfl (by omega)) rfl ?_
      refine wl_ov (ov_elem1 (k := 0) (v := .string k) sc9 rfl (fun _ hm => (hm.fact 0 rfl).1) hx rfl rfl) rfl ?_
      refine wl_ov (ov_assign rfl) rfl ?_
      refine wl_ov (ov_assign rfl) rfl ?_
      refine wl_nil ?_
      refine nx_then ?_
      refine gw_block ?_
      refine gw_seq ?_
      refine gw_region ?_
      refine wl_ov (ov_move rfl) rfl ?_
      refine wl_ov (ov_move rfl) rfl ?_
      refine wl_callv rfl cb128 rfl rfl (fun wx hm => (isCode_any l A n c0 gl k wx (hm.fact 1 rfl).1 hn (hm.fact 2 rfl).2)) ?_
      refine wl_ov (ov_un_not rfl) rfl ?_
      refine wl_ov (ov_assign rfl) rfl ?_
      refine wl_nil ?_
      refine nx_then ?_
      refine gw_cond rfl (fun hh => ?_) (fun hh => ?_)
      · have h2 : (l.any (codeP k)) = false := by simpa using hh
        clear hh
        refine gw_seq ?_
        refine gw_region ?_
        refine wl_ov (ov_assign rfl) rfl ?_
        refine wl_nil ?_
        refine nx_then ?_
        refine gw_ret ?_
        refine nx_blk_ret ?_
        refine nx_blk_ret ?_
        refine nx_then_ret ?_
        refine nx_then_ret ?_
        refine nx_blk_ret ?_
        refine nx_then_ret ?_
        refine nx_ret1 rfl rfl fun wx hm => ?_
        exact ⟨ret_int (by rw [hinv.2, hat, if_pos (by simpa using h2)]), hm.g⟩
      · have h2 : (l.any (codeP k)) = true := by simpa using hh
        clear hh
        refine gw_seq ?_
        refine gw_region ?_
        refine wl_ov (ov_move rfl) rfl ?_
        refine wl_ov (ov_move rfl) rfl ?_
        refine wl_ov (ov_sliceHi (hi := i) es105 rfl rfl rfl (by omega)) rfl ?_
        refine wl_ov (ov_move rfl) rfl ?_
        refine wl_callv rfl cb132 rfl rfl (fun wx hm => (contains_str (ks.take i) _ i c1 k wx (SlT.takeT (hm.fact 0 rfl).1 (by omega)) (by omega))) ?_
        refine wl_ov (ov_assign rfl) rfl ?_
        refine wl_nil ?_
        refine nx_then ?_
        refine gw_cond rfl (fun hh => ?_) (fun hh => ?_)
        · have h3 : ((ks.take i).any (fun y => k.toList == y.toList)) = true := by simpa using hh
          clear hh
          refine gw_seq ?_
          refine gw_region ?_
          refine wl_ov (ov_assign rfl) rfl ?_
          refine wl_nil ?_
          refine nx_then ?_
          refine gw_ret ?_
          refine nx_blk_ret ?_
          refine nx_blk_ret ?_
          refine nx_then_ret ?_
          refine nx_then_ret ?_
          refine nx_blk_ret ?_
          refine nx_then_ret ?_
          refine nx_ret1 rfl rfl fun wx hm => ?_
          exact ⟨ret_int (by rw [hinv.2, hat, if_neg (by simpa using h2), if_pos h3]), hm.g⟩
        · have h3 : ((ks.take i).any (fun y => k.toList == y.toList)) = false := by simpa using hh
          clear hh
          refine gw_skip ?_
          refine nx_blk_nrm ?_
          refine nx_blk_nrm ?_
          refine nx_then ?_
          refine gw_region ?_
          refine wl_ov (ov_add rfl rfl (by omega) (by omega)) rfl ?_
          refine wl_ov (ov_move rfl) rfl ?_
          refine wl_nil ?_
          exact nx_round (i + 1) ⟨by omega, by rw [hinv.2, hat, if_neg (by simpa using h2), if_neg (by rw [h3]; decide)]⟩ (by omega) ⟨rfl, rfl, rfl, rfl, (some_int (by omega)), trivial⟩ (fun _ hm => hm.pick [] [] [0, 1, 2] rfl rfl)
    · have hi : ¬ (((i : Nat) : Int) < ((n1 : Nat) : Int)) := by simpa using hh
      clear hh
      refine gw_exit ?_
      refine nx_then_exit ?_
      refine nx_then_exit ?_
      refine nx_blk_here ?_
      refine nx_then ?_
      refine gw_seq ?_
      refine gw_region ?_
      refine wl_ov (ov_assign rfl) rfl ?_
      refine wl_nil ?_
      refine nx_then ?_
      refine gw_ret ?_
      refine nx_ret1 rfl rfl fun wx hm => ?_
      exact ⟨ret_int (by rw [hinv.2, List.drop_eq_nil_of_le (by omega)]; rfl), hm.g⟩

set_option maxRecDepth 100000 in
set_option maxHeartbeats 1000000 in
theorem codeKeys_any (l : List Cd) (A : Option Addr) (n c0 : Nat) (ks : List ByteArray) (A1 : Option Addr) (n1 c1 : Nat) (w : World) (hl : SlT cdEnc 6 188 w A n l) (hn : n ≤ 1000000) (hs : SlT sgEnc 1 9 w A1 n1 ks) (hn1 : n1 ≤ 1000000) (hc1 : n1 ≤ c1) :
    Calls Tryd.prog 63 #[.slice A n c0, .slice A1 n1 c1] w (GotE w (askE (fun k => l.any (codeP k)) ks)) := by
  refine gw_enter ⟨27, w, none, []⟩ Tryd.func63 rfl Tryd.ntmps63 rfl (mem0 (X := [SlOld sgEnc 1 9 w.heap.size none A1 n1 ks, SlOld cdEnc 6 188 w.heap.size none A n l]) (allF_cons hs.old (allF_cons hl.old allF_nil)) (allL_cons SlOld.lasts (allL_cons SlOld.lasts allL_nil))) ?_
  refine gw_seq ?_
  refine gw_region ?_
  have hlen := hs.len
  refine wl_ov (ov_assign rfl) rfl ?_
  refine wl_nil ?_
  refine nx_then ?_
  refine gw_seq ?_
  refine gw_seq ?_
  refine gw_region ?_
  refine wl_ov (ov_move rfl) rfl ?_
  refine wl_ov (ov_len es105 rfl) rfl ?_
  refine wl_ov (ov_gtr rfl rfl) rfl ?_
  refine wl_nil ?_
  refine nx_then ?_
  refine gw_cond rfl (fun hh => ?_) (fun hh => ?_)
  · have h1 : 10 < ((n1 : Nat) : Int) := by simpa using hh
    clear hh
    refine gw_seq ?_
    refine gw_region ?_
    refine wl_ov (ov_assign rfl) rfl ?_
    refine wl_nil ?_
    refine nx_then ?_
    refine gw_ret ?_
    refine nx_then_ret ?_
    refine nx_ret1 rfl rfl fun wx hm => ?_
    exact ⟨ret_int (by unfold askE; rw [if_pos (by omega)]), hm.g⟩
  · have h1 : ¬ (10 < ((n1 : Nat) : Int)) := by simpa using hh
    clear hh
    refine gw_skip ?_
    refine nx_then ?_
    refine gw_seq ?_
    refine gw_seq ?_
    refine gw_region ?_
    refine wl_ov (ov_move rfl) rfl ?_
    refine wl_ov (ov_len es105 rfl) rfl ?_
    refine wl_ov (ov_move rfl) rfl ?_
    refine wl_nil ?_
    refine nx_then ?_
    refine gw_block ?_
    refine gw_loop (γ := Nat) (fun (i : Nat) => i ≤ n1 ∧ askE (fun k => l.any (codeP k)) ks = askG (fun k => l.any (codeP k)) (ks.take i) (ks.drop i)) (fun (i : Nat) => [(0, .slice A n c0), (1, .slice A1 n1 c1), (10, .slice A1 n1 c1), (11, .int .i64 ((n1 : Nat) : Int)), (12, .int .i64 ((i : Nat) : Int))]) (fun (i : Nat) => fun _ => True) (fun (i : Nat) => []) (fun (i : Nat) => []) (fun (i : Nat) => [SlOld sgEnc 1 9 w.heap.size none A1 n1 ks, SlOld cdEnc 6 188 w.heap.size none A n l]) (fun (i : Nat) => n1 - i) 0 ⟨Nat.zero_le _, by unfold askE; rw [if_neg (by omega)]; rfl⟩ ⟨rfl, rfl, rfl, rfl, rfl, trivial⟩ (fun _ hm => hm.pick [] [] [0, 1] rfl rfl) ?_
    intro i hinv
    replace hinv : i ≤ n1 ∧ askE (fun k => l.any (codeP k)) ks = askG (fun k => l.any (codeP k)) (ks.take i) (ks.drop i) := hinv
    refine gw_seq ?_
    refine gw_region ?_
    refine wl_ov (ov_lss rfl rfl) rfl ?_
    refine wl_nil ?_
    refine nx_then ?_
    refine gw_seq ?_
    refine gw_cond rfl (fun hh => ?_) (fun hh => ?_)
    · have hi : ((i : Nat) : Int) < ((n1 : Nat) : Int) := by simpa using hh
      clear hh
      refine gw_skip ?_
      refine nx_then ?_
      refine gw_seq ?_
      refine gw_block ?_
      refine gw_seq ?_
      refine gw_region ?_
      obtain ⟨b1, off1, hA, _, _⟩ := hs.get (by omega)
      subst hA
      obtain ⟨k, hx⟩ : ∃ x, ks[i]? = some x := ⟨_, List.getElem?_eq_getElem (by omega)⟩
      have hat := askG_at (has := (fun k => l.any (codeP k))) hx
      refine wl_ov (ov_move rfl) rfl ?_
      refine wl_ov (ov_index (j := i) es105 rfl rfl (by omega)) rfl ?_
      refine wl_ov (ov_elem1 (k := 0) (v := .string k) sc9 rfl (fun _ hm => (hm.fact 0 rfl).1) hx rfl rfl) rfl ?_
      refine wl_alloc zc9 rfl fun g1 => ?_
      refine wl_ov (ov_assign rfl) rfl ?_
      refine wl_store 0 sc9 rfl rfl rfl rfl rfl rfl ?_
      refine wl_nil ?_
      refine nx_then ?_
      refine gw_seq ?_
      refine gw_seq ?_
      refine gw_region ?_
      refine wl_ov (ov_move rfl) rfl ?_
      refine wl_ov (ov_makeFunc rfl rfl) rfl ?_
      refine wl_callv rfl cb130 rfl rfl (fun wx hm => (hasCode_any l A n c0 _ k wx (hm.fact 1 rfl).1 hn (hm.blkI 0 rfl))) ?_
      refine wl_ov (ov_un_not rfl) rfl ?_
      refine wl_nil ?_
      refine nx_then ?_
      refine gw_cond rfl (fun hh => ?_) (fun hh => ?_)
      · have h2 : (l.any (codeP k)) = false := by simpa using hh
        clear hh
        refine gw_seq ?_
        refine gw_region ?_
        refine wl_ov (ov_assign rfl) rfl ?_
        refine wl_nil ?_
        refine nx_then ?_
        refine gw_ret ?_
        refine nx_then_ret ?_
        refine nx_blk_ret ?_
        refine nx_then_ret ?_
        refine nx_then_ret ?_
        refine nx_blk_ret ?_
        refine nx_then_ret ?_
        refine nx_ret1 rfl rfl fun wx hm => ?_
        exact ⟨ret_int (by rw [hinv.2, hat, if_pos (by simpa using h2)]), hm.g⟩
      · have h2 : (l.any (codeP k)) = true := by simpa using hh
        clear hh
        refine gw_skip ?_
        refine nx_then ?_
        refine gw_seq ?_
        refine gw_draw (fun wz => Blk wz g1 9 [.string k] ∧ (SlOld sgEnc 1 9 w.heap.size none (some ⟨b1, off1, none⟩) n1 ks) wz ∧ (SlOld cdEnc 6 188 w.heap.size none A n l) wz ∧ True) mixed ?_
        refine wa_take 0 rfl (by kernel_rfl) (by kernel_rfl) (by kernel_rfl) (listed' := #[true, false, false, false, false]) rfl (fun _ _ _ h => h) (fun _ hm => ⟨hm.blkI 0 rfl, hm.fact 0 rfl, hm.fact 1 rfl, trivial⟩) (ov_move rfl) rfl ?_
        refine wa_take 1 rfl (by kernel_rfl) (by kernel_rfl) (by kernel_rfl) (listed' := #[true, true, false, false, false]) rfl (fun _ _ _ h => h) (fun _ hm => ⟨hm.blkI 0 rfl, hm.fact 0 rfl, hm.fact 1 rfl, trivial⟩) (ov_move rfl) rfl ?_
        refine wa_take 2 rfl (by kernel_rfl) (by kernel_rfl) (by kernel_rfl) (listed' := #[true, true, true, false, false]) rfl (fun _ _ _ h => h) (fun _ hm => ⟨hm.blkI 0 rfl, hm.fact 0 rfl, hm.fact 1 rfl, trivial⟩) (ov_sliceHi (hi := i) es105 rfl rfl rfl (by omega)) rfl ?_
        refine wa_take 3 rfl (by kernel_rfl) (by kernel_rfl) (by kernel_rfl) (listed' := #[true, true, true, true, false]) rfl (fun _ _ _ h => h) (fun _ hm => ⟨hm.blkI 0 rfl, hm.fact 0 rfl, hm.fact 1 rfl, trivial⟩) (ov_load sc9 rfl (fun _ hm => hm.1) rfl) rfl ?_
        refine wa_all [4] (by kernel_rfl) rfl ⟨⟨_, rfl, ?_⟩, trivial⟩
        refine wl_callv rfl cb132 rfl rfl (fun wx hm => (contains_str (ks.take i) _ i c1 k wx (SlT.takeT (hm.fact 0 rfl).1 (by omega)) (by omega))) ?_
        refine wl_nil ?_
        refine nx_wa0 (listed' := #[true, true, true, true, true]) rfl (fun _ hm => ⟨hm.blkI 0 rfl, hm.fact 0 rfl, hm.fact 1 rfl, trivial⟩) ?_
        refine wa_done (by kernel_rfl) ?_
        refine nx_then ?_
        refine gw_cond rfl (fun hh => ?_) (fun hh => ?_)
        · have h3 : ((ks.take i).any (fun y => k.toList == y.toList)) = true := by simpa using hh
          clear hh
          refine gw_seq ?_
          refine gw_region ?_
          refine wl_ov (ov_assign rfl) rfl ?_
          refine wl_nil ?_
          refine nx_then ?_
          refine gw_ret ?_
          refine nx_blk_ret ?_
          refine nx_then_ret ?_
          refine nx_then_ret ?_
          refine nx_blk_ret ?_
          refine nx_then_ret ?_
          refine nx_ret1 rfl rfl fun wx hm => ?_
          exact ⟨ret_int (by rw [hinv.2, hat, if_neg (by simpa using h2), if_pos h3]), hm.g⟩
        · have h3 : ((ks.take i).any (fun y => k.toList == y.toList)) = false := by simpa using hh
          clear hh
          refine gw_skip ?_
          refine nx_blk_nrm ?_
          refine nx_then ?_
          refine gw_region ?_
          refine wl_ov (ov_add rfl rfl (by omega) (by omega)) rfl ?_
          refine wl_ov (ov_move rfl) rfl ?_
          refine wl_nil ?_
          exact nx_round (i + 1) ⟨by omega, by rw [hinv.2, hat, if_neg (by simpa using h2), if_neg (by rw [h3]; decide)]⟩ (by omega) ⟨rfl, rfl, rfl, rfl, (some_int (by omega)), trivial⟩ (fun _ hm => hm.pick [] [] [0, 1] rfl rfl)
    · have hi : ¬ (((i : Nat) : Int) < ((n1 : Nat) : Int)) := by simpa using hh
      clear hh
      refine gw_exit ?_
      refine nx_then_exit ?_
      refine nx_then_exit ?_
      refine nx_blk_here ?_
      refine nx_then ?_
      refine gw_seq ?_
      refine gw_region ?_
      refine wl_ov (ov_assign rfl) rfl ?_
      refine wl_nil ?_
      refine nx_then ?_
      refine gw_ret ?_
      refine nx_ret1 rfl rfl fun wx hm => ?_
      exact ⟨ret_int (by rw [hinv.2, List.drop_eq_nil_of_le (by omega)]; rfl), hm.g⟩

theorem cd_snoc {l : List Cd} {x : Cd} (h : ∀ y ∈ l, CdOk y) (h1 : x.key.size ≤ 1000000) (h2 : x.cls.size ≤ 1000000) : ∀ y ∈ l ++ [x], CdOk y := fun y hy => by
  rcases List.mem_append.1 hy with hy | hy
  · exact h y hy
  · rw [List.mem_singleton.1 hy]; exact ⟨h1, h2⟩
theorem cd_set {l : List Cd} {x : Cd} {j : Nat} (h : ∀ y ∈ l, CdOk y) (h1 : x.key.size ≤ 1000000) (h2 : x.cls.size ≤ 1000000) : ∀ y ∈ l.set j x, CdOk y := fun y hy => by
  rcases List.mem_or_eq_of_mem_set hy with hy | rfl
  · exact h y hy
  · exact ⟨h1, h2⟩
set_option maxRecDepth 100000 in
set_option maxHeartbeats 1000000 in
theorem gcodes_any (w : World) (B sb m : Nat) (hS : Strm 25 w B sb m) (hm : m ≤ 100000000000) :
    Calls Tryd.prog 58 #[.pointer (some ⟨sb, 0, none⟩)] w (fun e w' => ∃ (A : Option Addr) (n c : Nat) (l : List Cd), e = .returned (.slice A n c) ∧ SlT cdEnc 6 188 w' A n l ∧ (∀ x ∈ l, CdOk x) ∧ n ≤ 3 ∧ n ≤ c ∧ Strm 25 w' B sb (m + 50) ∧ w.grownBy w' (some sb)) := by
  refine gw_enter ⟨74, w, (some sb), []⟩ Tryd.func58 rfl Tryd.ntmps58 rfl (memS (X := []) hS allF_nil allL_nil) ?_
  refine gw_seq ?_
  refine gw_region ?_
  refine wl_ov (ov_assign rfl) rfl ?_
  refine wl_nil ?_
  refine nx_then ?_
  refine gw_seq ?_
  refine gw_region ?_
  refine wl_ov (ov_assign rfl) rfl ?_
  refine wl_nil ?_
  refine nx_then ?_
  refine gw_seq ?_
  refine gw_seq ?_
  refine gw_region ?_
  refine wl_buildSlice (e := 9) (cs := [.string ⟨#[97, 49, 48]⟩, .string ⟨#[98, 50, 48]⟩, .string ⟨#[99, 51, 48]⟩]) rfl (by kernel_rfl) rfl fun g1 => ?_
  refine wl_ov (ov_len es105 rfl) rfl ?_
  refine wl_set 9 (v' := .int .i64 3) rfl rfl ?_
  refine wl_ov (ov_move rfl) rfl ?_
  refine wl_nil ?_
  refine nx_then ?_
  refine gw_block ?_
  refine gw_nilOwn 188 6 ?_
  refine gw_loop (γ := Nat × Nat × Value × List Cd × List Value) (fun (g : Nat × Nat × Value × List Cd × List Value) => g.1 ≤ 3 ∧ g.2.1 ≤ g.1 ∧ g.2.2.2.1.length = g.2.1 ∧ (∀ x ∈ g.2.2.2.1, CdOk x) ∧ g.2.2.2.2 = g.2.2.2.1.flatMap cdEnc) (fun (g : Nat × Nat × Value × List Cd × List Value) => [(0, .pointer (some ⟨sb, 0, none⟩)), (2, .slice none 0 0), (3, g.2.2.1), (8, .slice (some ⟨g1, 0, none⟩) 3 3), (9, .int .i64 3), (10, .int .i64 ((g.1 : Nat) : Int))]) (fun (g : Nat × Nat × Value × List Cd × List Value) => fun w => Strm 25 w B sb (m + 10 * g.1)) (fun (g : Nat × Nat × Value × List Cd × List Value) => [(g1, 9, [.string ⟨#[97, 49, 48]⟩, .string ⟨#[98, 50, 48]⟩, .string ⟨#[99, 51, 48]⟩])]) (fun (g : Nat × Nat × Value × List Cd × List Value) => [⟨g.2.2.1, 188, 6, g.2.1, g.2.2.2.2⟩]) (fun (g : Nat × Nat × Value × List Cd × List Value) => []) (fun (g : Nat × Nat × Value × List Cd × List Value) => 3 - g.1) (0, 0, .slice none 0 0, [], []) ⟨Nat.zero_le _, Nat.zero_le _, rfl, (fun _ h => by cases h), rfl⟩ ⟨rfl, rfl, rfl, rfl, rfl, rfl, trivial⟩ (fun _ hm => (hm.more rfl (by first | omega | (dsimp only; omega))).pick [0] [0] [] rfl rfl) ?_
  rintro ⟨k, n, v, l, xs⟩ hinv
  replace hinv : k ≤ 3 ∧ n ≤ k ∧ l.length = n ∧ (∀ x ∈ l, CdOk x) ∧ xs = l.flatMap cdEnc := hinv
  dsimp only
  refine gw_seq ?_
  refine gw_region ?_
  obtain ⟨hi0, hi1, hi2, hi3, rfl⟩ := hinv
  refine wl_ov (ov_lss rfl rfl) rfl ?_
  refine wl_nil ?_
  refine nx_then ?_
  refine gw_seq ?_
  refine gw_cond rfl (fun hh => ?_) (fun hh => ?_)
  · have hk : ((k : Nat) : Int) < 3 := by simpa using hh
    clear hh
    refine gw_skip ?_
    refine nx_then ?_
    refine gw_seq ?_
    refine gw_block ?_
    refine gw_seq ?_
    refine gw_region ?_
    obtain ⟨nm, hx⟩ : ∃ x, ([⟨#[97, 49, 48]⟩, ⟨#[98, 50, 48]⟩, ⟨#[99, 51, 48]⟩] : List ByteArray)[k]? = some x := ⟨_, List.getElem?_eq_getElem (by simp; omega)⟩
    have hnm : nm.size ≤ 100 := mem_sz (List.mem_of_getElem? hx) (by decide)
    refine wl_ov (ov_index (j := k) es105 rfl rfl (by omega)) rfl ?_
    refine wl_ov (ov_elem1 (k := 0) (v := .string nm) sc9 rfl (fun _ hm => (SlT.ofBlk (l := [⟨#[97, 49, 48]⟩, ⟨#[98, 50, 48]⟩, ⟨#[99, 51, 48]⟩]) sg_len (hm.blkI 0 rfl))) hx rfl rfl) rfl ?_
    refine wl_ov (ov_assign rfl) rfl ?_
    refine wl_nil ?_
    refine nx_then ?_
    refine gw_seq ?_
    refine gw_seq ?_
    refine gw_region ?_
    refine wl_ov (ov_move rfl) rfl ?_
    refine wl_got (γ := Bool) (val := fun v => .bool v) (φ := fun v => True) rfl cb87 rfl rfl rfl rfl (fun wx hm => ((flip_any _ wx B sb _ hm.k (by omega) (by omega) (by omega)).mono fun _ _ ⟨v, he, hS, hg⟩ => ⟨v, trivial, he, hS, hg⟩)) fun f2 _ => ?_
    refine wl_nil ?_
    refine nx_then ?_
    refine gw_cond rfl (fun hh => ?_) (fun hh => ?_)
    · have hf : f2 = true := by simpa using hh
      clear hh
      refine gw_exit ?_
      refine nx_then_exit ?_
      refine nx_blk_here ?_
      refine nx_then ?_
      refine gw_region ?_
      refine wl_ov (ov_add rfl rfl (by omega) (by omega)) rfl ?_
      refine wl_ov (ov_move rfl) rfl ?_
      refine wl_nil ?_
      exact nx_round (k + 1, n, v, l, l.flatMap cdEnc) ⟨by dsimp only; omega, by dsimp only; omega, hi2, hi3, rfl⟩ (by dsimp only; omega) ⟨rfl, rfl, rfl, rfl, rfl, (some_int (by omega)), trivial⟩ (fun _ hm => (hm.more rfl (by first | omega | (dsimp only; omega))).pick [0] [0] [] rfl rfl)
    · have hf : f2 = false := by simpa using hh
      clear hh
      refine gw_skip ?_
      refine nx_then ?_
      refine gw_seq ?_
      refine gw_region ?_
      refine wl_ov (ov_move rfl) rfl ?_
      refine wl_buildSlice (e := 3) (cs := [.int .i64 0, .int .i64 0, .int .i64 3]) rfl (by kernel_rfl) rfl fun g3 => ?_
      refine wl_got (γ := Int) (val := fun v => .int .i64 v) (φ := fun v => v ∈ ([0, 0, 3] : List Int)) rfl cb23 rfl rfl rfl rfl (fun wx hm => (pick_any [0, 0, 3] _ _ _ wx B sb _ hm.k (by omega) (by simp) (by simp) (hm.blkI 0 rfl) (hm.neRow 0 rfl rfl))) fun v4 hv4 => ?_
      have bv4 : 0 ≤ v4 ∧ v4 ≤ 3 := mem_rng hv4 (by decide)
      have bv40 := bv4.1
      have bv41 := bv4.2
      clear bv4
      refine wl_ov (ov_assign rfl) rfl ?_
      refine wl_nil ?_
      refine nx_then ?_
      refine gw_region ?_
      refine wl_ov (ov_move rfl) rfl ?_
      refine wl_ov (ov_move rfl) rfl ?_
      refine wl_ov (ov_move rfl) rfl ?_
      refine wl_buildSlice (e := 9) (cs := [.string ⟨#[]⟩, .string ⟨#[]⟩, .string ⟨#[109, 105, 110, 105]⟩]) rfl (by kernel_rfl) rfl fun g5 => ?_
      refine wl_got (γ := ByteArray) (val := fun v => .string v) (φ := fun v => v ∈ ([⟨#[]⟩, ⟨#[]⟩, ⟨#[109, 105, 110, 105]⟩] : List ByteArray)) rfl cb66 rfl rfl rfl rfl (fun wx hm => (some_any [⟨#[]⟩, ⟨#[]⟩, ⟨#[109, 105, 110, 105]⟩] _ _ _ wx B sb _ hm.k (by omega) (by simp) (by simp) (hm.blkI 0 rfl) (hm.neRow 0 rfl rfl))) fun s6 hs6 => ?_
      have zs6 : s6.size ≤ 100 := mem_sz hs6 (by decide)
      refine wl_ov (ov_move rfl) rfl ?_
      refine wl_ov (ov_move rfl) rfl ?_
      refine wl_ov (ov_move rfl) rfl ?_
      refine wl_buildSlice (e := 3) (cs := [.int .i64 0, .int .i64 1, .int .i64 10, .int .i64 3000]) rfl (by kernel_rfl) rfl fun g7 => ?_
      refine wl_got (γ := Int) (val := fun v => .int .i64 v) (φ := fun v => v ∈ ([0, 1, 10, 3000] : List Int)) rfl cb23 rfl rfl rfl rfl (fun wx hm => (pick_any [0, 1, 10, 3000] _ _ _ wx B sb _ hm.k (by omega) (by simp) (by simp) (hm.blkI 0 rfl) (hm.neRow 0 rfl rfl))) fun v8 hv8 => ?_
      have bv8 : 0 ≤ v8 ∧ v8 ≤ 3000 := mem_rng hv8 (by decide)
      have bv80 := bv8.1
      have bv81 := bv8.2
      clear bv8
      refine wl_ov (ov_add rfl rfl (by omega) (by omega)) rfl ?_
      refine wl_ov (ov_move rfl) rfl ?_
      refine wl_buildSlice (e := 3) (cs := [.int .i64 1, .int .i64 1, .int .i64 2, .int .i64 5]) rfl (by kernel_rfl) rfl fun g9 => ?_
      refine wl_got (γ := Int) (val := fun v => .int .i64 v) (φ := fun v => v ∈ ([1, 1, 2, 5] : List Int)) rfl cb23 rfl rfl rfl rfl (fun wx hm => (pick_any [1, 1, 2, 5] _ _ _ wx B sb _ hm.k (by omega) (by simp) (by simp) (hm.blkI 0 rfl) (hm.neRow 0 rfl rfl))) fun v10 hv10 => ?_
      have bv10 : 1 ≤ v10 ∧ v10 ≤ 5 := mem_rng hv10 (by decide)
      have bv100 := bv10.1
      have bv101 := bv10.2
      clear bv10
      refine wl_ov (ov_move rfl) rfl ?_
      refine wl_buildSlice (e := 3) (cs := [.int .i64 1, .int .i64 100, .int .i64 100, .int .i64 250, .int .i64 1000]) rfl (by kernel_rfl) rfl fun g11 => ?_
      refine wl_got (γ := Int) (val := fun v => .int .i64 v) (φ := fun v => v ∈ ([1, 100, 100, 250, 1000] : List Int)) rfl cb23 rfl rfl rfl rfl (fun wx hm => (pick_any [1, 100, 100, 250, 1000] _ _ _ wx B sb _ hm.k (by omega) (by simp) (by simp) (hm.blkI 0 rfl) (hm.neRow 0 rfl rfl))) fun v12 hv12 => ?_
      have bv12 : 1 ≤ v12 ∧ v12 ≤ 1000 := mem_rng hv12 (by decide)
      have bv120 := bv12.1
      have bv121 := bv12.2
      clear bv12
      refine wl_ov (ov_build (cs := [.string nm, .string s6, .int .i64 v4, .int .i64 (v4 + v8), .int .i64 v10, .int .i64 v12]) rfl (by kernel_rfl)) rfl ?_
      refine wl_buildSlice (e := 188) (cs := [.string nm, .string s6, .int .i64 v4, .int .i64 (v4 + v8), .int .i64 v10, .int .i64 v12]) rfl (by kernel_rfl) rfl fun g13 => ?_
      refine wl_append (news := [.string nm, .string s6, .int .i64 v4, .int .i64 (v4 + v8), .int .i64 v10, .int .i64 v12]) 0 0 ap103 rfl rfl rfl rfl rfl rfl rfl (by omega) (by unfold maxLen; omega) rfl rfl fun v2 hv2 => ?_
      refine wl_ov (ov_assign rfl) rfl ?_
      refine wl_nil ?_
      refine nx_blk_nrm ?_
      refine nx_then ?_
      refine gw_region ?_
      refine wl_ov (ov_add rfl rfl (by omega) (by omega)) rfl ?_
      refine wl_ov (ov_move rfl) rfl ?_
      refine wl_nil ?_
      exact nx_round (k + 1, n + 1, v2, l ++ [⟨nm, s6, v4, v4 + v8, v10, v12⟩], l.flatMap cdEnc ++ ([.string nm, .string s6, .int .i64 v4, .int .i64 (v4 + v8), .int .i64 v10, .int .i64 v12] : List Value)) ⟨by dsimp only; omega, by dsimp only; omega, by simp [hi2], cd_snoc hi3 (show nm.size ≤ 1000000 by omega) (show s6.size ≤ 1000000 by omega), by simp [cdEnc]⟩ (by dsimp only; omega) ⟨rfl, rfl, rfl, rfl, rfl, (some_int (by omega)), trivial⟩ (fun _ hm => (hm.more rfl (by first | omega | (dsimp only; omega))).pick [6] [0] [] rfl rfl)
  · have hk : ¬ (((k : Nat) : Int) < 3) := by simpa using hh
    clear hh
    refine gw_exit ?_
    refine nx_then_exit ?_
    refine nx_then_exit ?_
    refine nx_blk_here ?_
    refine nx_then ?_
    refine gw_seq ?_
    refine gw_seq ?_
    refine gw_region ?_
    refine wl_look (R := ∃ A cc, v = .slice A n cc) (fun wx hm => own_slice (hm.ownI 0 rfl)) ?_
    rintro ⟨A, c, rfl⟩
    refine wl_ov (ov_move rfl) rfl ?_
    refine wl_ov (ov_len es103 rfl) rfl ?_
    refine wl_ov (ov_gtr rfl rfl) rfl ?_
    refine wl_ov (ov_move rfl) rfl ?_
    rcases Bool.eq_false_or_eq_true (decide (0 < ((n : Nat) : Int))) with hb | hb
    · refine wl_set 43 rfl (congrArg Value.bool hb) ?_
      have hk0 : 0 < n := by simpa using hb
      refine wl_guard_on rfl rfl rfl ?_
      refine wl_ov (ov_move rfl) rfl ?_
      refine wl_guard_on rfl rfl rfl ?_
      refine wl_got (γ := Bool) (val := fun v => .bool v) (φ := fun v => True) rfl cb87 rfl rfl rfl rfl (fun wx hm => ((flip_any _ wx B sb _ hm.k (by omega) (by omega) (by omega)).mono fun _ _ ⟨v, he, hS, hg⟩ => ⟨v, trivial, he, hS, hg⟩)) fun f14 _ => ?_
      refine wl_ov (ov_pick_t rfl rfl) rfl ?_
      refine wl_nil ?_
      refine nx_then ?_
      refine gw_cond rfl (fun hh => ?_) (fun hh => ?_)
      · have hf : f14 = true := by simpa using hh
        clear hh
        refine gw_seq ?_
        refine gw_region ?_
        refine wl_look (R := ∃ g, A = some ⟨g, 0, none⟩) (fun wx hm => own_addr (hm.ownI 0 rfl) hk0) ?_
        rintro ⟨bo, rfl⟩
        refine wl_ov (ov_move rfl) rfl ?_
        refine wl_ov (ov_move rfl) rfl ?_
        refine wl_ov (ov_move rfl) rfl ?_
        refine wl_ov (ov_len es103 rfl) rfl ?_
        refine wl_got (γ := Int) (val := fun v => .int .i64 v) (φ := fun v => IsBelow ((n : Nat) : Int) v) rfl cb88 rfl rfl rfl rfl (fun wx hm => (next_any _ wx B sb _ hm.k (by omega) (by omega) (by omega))) fun vj hvj => ?_
        have hj := isBelow_lt hvj (by omega)
        obtain ⟨i, rfl⟩ := Int.eq_ofNat_of_zero_le hj.1
        have hij : i < n := by omega
        obtain ⟨y, hy⟩ : ∃ y, l[i]? = some y := ⟨_, List.getElem?_eq_getElem (by omega)⟩
        obtain ⟨y0, y1, y2, y3, y4, y5⟩ := y
        obtain ⟨hy0, hy1⟩ := hi3 _ (List.mem_of_getElem? hy)
        have hy0 : y0.size ≤ 1000000 := hy0
        have hy1 : y1.size ≤ 1000000 := hy1
        refine wl_ov (ov_index (j := i) es103 rfl rfl (by omega)) rfl ?_
        refine wl_ov (ov_assign rfl) rfl ?_
        refine wl_nil ?_
        refine nx_then ?_
        refine gw_region ?_
        refine wl_ov (ov_move rfl) rfl ?_
        refine wl_ov (ov_move rfl) rfl ?_
        refine wl_ov (ov_move rfl) rfl ?_
        refine wl_ov (ov_move rfl) rfl ?_
        refine wl_ov (ov_move rfl) rfl ?_
        refine wl_ov (ov_nilcheck rfl) rfl ?_
        refine wl_ov (ov_field fo188_0 rfl rfl) rfl ?_
        refine wl_ov (ov_elem1 (k := 0) (v := .string y0) sc9 rfl (fun _ hm => (SlT.ofOwn cd_len (hm.ownI 0 rfl) hi2)) hy rfl rfl) rfl ?_
        refine wl_buildSlice (e := 9) (cs := [.string y0, .string ⟨#[]⟩, .string ⟨#[122, 101, 100]⟩, .string ⟨#[97, 49, 48]⟩]) rfl (by kernel_rfl) rfl fun g15 => ?_
        refine wl_got (γ := ByteArray) (val := fun v => .string v) (φ := fun v => v ∈ ([y0, ⟨#[]⟩, ⟨#[122, 101, 100]⟩, ⟨#[97, 49, 48]⟩] : List ByteArray)) rfl cb66 rfl rfl rfl rfl (fun wx hm => (some_any [y0, ⟨#[]⟩, ⟨#[122, 101, 100]⟩, ⟨#[97, 49, 48]⟩] _ _ _ wx B sb _ hm.k (by omega) (by simp) (by simp) (hm.blkI 0 rfl) (hm.neRow 0 rfl rfl))) fun sn hsn => ?_
        have hsn : sn.size ≤ 1000000 := by
          simp at hsn
          rcases hsn with rfl | rfl | rfl | rfl
          · exact hy0
          · decide
          · decide
          · decide
        refine wl_ov (ov_move rfl) rfl ?_
        refine wl_got (γ := Int) (val := fun v => .int .i64 v) (φ := fun v => -2000000000000000 ≤ v ∧ v ≤ 2000000000000000) rfl cb89 rfl rfl rfl rfl (fun wx hm => (odd_any _ _ wx B sb _ hm.k (by omega) (by omega) (by omega) (by omega))) fun v16 hv16 => ?_
        refine wl_ov (ov_move rfl) rfl ?_
        refine wl_got (γ := Int) (val := fun v => .int .i64 v) (φ := fun v => -2000000000000000 ≤ v ∧ v ≤ 2000000000000000) rfl cb89 rfl rfl rfl rfl (fun wx hm => (odd_any _ _ wx B sb _ hm.k (by omega) (by omega) (by omega) (by omega))) fun v17 hv17 => ?_
        refine wl_ov (ov_nilcheck rfl) rfl ?_
        refine wl_ov (ov_field fo188_0 rfl rfl) rfl ?_
        refine wl_storeE (l := l) (j := i) (r := 0) (el := ⟨y0, y1, y2, y3, y4, y5⟩) (el' := ⟨sn, y1, y2, y3, y4, y5⟩) 0 sc9 rfl rfl rfl rfl cd_len rfl hy hi2 (by decide) rfl rfl ?_
        refine wl_ov (ov_nilcheck rfl) rfl ?_
        refine wl_ov (ov_field fo188_4 rfl rfl) rfl ?_
        refine wl_storeE (l := (l.set i ⟨sn, y1, y2, y3, y4, y5⟩)) (j := i) (r := 4) (el := ⟨sn, y1, y2, y3, y4, y5⟩) (el' := ⟨sn, y1, y2, y3, v16, y5⟩) 0 sc3 rfl rfl rfl rfl cd_len rfl (List.getElem?_set_self (by first | omega | (simp; omega))) (by simp; exact hi2) (by decide) rfl rfl ?_
        refine wl_ov (ov_nilcheck rfl) rfl ?_
        refine wl_ov (ov_field fo188_5 rfl rfl) rfl ?_
        refine wl_storeE (l := ((l.set i ⟨sn, y1, y2, y3, y4, y5⟩).set i ⟨sn, y1, y2, y3, v16, y5⟩)) (j := i) (r := 5) (el := ⟨sn, y1, y2, y3, v16, y5⟩) (el' := ⟨sn, y1, y2, y3, v16, v17⟩) 0 sc3 rfl rfl rfl rfl cd_len rfl (List.getElem?_set_self (by first | omega | (simp; omega))) (by simp; exact hi2) (by decide) rfl rfl ?_
        refine wl_nil ?_
        refine nx_then ?_
        refine gw_seq ?_
        refine gw_region ?_
        refine wl_ov (ov_move rfl) rfl ?_
        refine wl_ov (ov_assign rfl) rfl ?_
        refine wl_nil ?_
        refine nx_then ?_
        refine gw_ret ?_
        refine nx_ret1 rfl rfl fun wx hm => ?_
        exact ⟨some ⟨bo, 0, none⟩, n, c, (((l.set i ⟨sn, y1, y2, y3, y4, y5⟩).set i ⟨sn, y1, y2, y3, v16, y5⟩).set i ⟨sn, y1, y2, y3, v16, v17⟩), rfl, SlT.ofOwn cd_len (hm.ownI 0 rfl) (by simp; exact hi2), cd_set (cd_set (cd_set (hi3) hsn hy1) hsn hy1) hsn hy1, by omega, own_cap (hm.ownI 0 rfl), hm.k.more (by omega), hm.g⟩
      · have hf : f14 = false := by simpa using hh
        clear hh
        refine gw_skip ?_
        refine nx_then ?_
        refine gw_seq ?_
        refine gw_region ?_
        refine wl_ov (ov_move rfl) rfl ?_
        refine wl_ov (ov_assign rfl) rfl ?_
        refine wl_nil ?_
        refine nx_then ?_
        refine gw_ret ?_
        refine nx_ret1 rfl rfl fun wx hm => ?_
        exact ⟨A, n, c, l, rfl, SlT.ofOwn cd_len (hm.ownI 0 rfl) hi2, hi3, by omega, own_cap (hm.ownI 0 rfl), hm.k.more (by omega), hm.g⟩
    · refine wl_set 43 rfl (congrArg Value.bool hb) ?_
      refine wl_guard_off rfl rfl rfl (by decide) rfl ?_
      refine wl_guard_off rfl rfl rfl (by decide) rfl ?_
      refine wl_ov (ov_pick_f rfl rfl) rfl ?_
      refine wl_nil ?_
      refine nx_then ?_
      refine gw_cond rfl (fun hh => by cases hh) (fun _ => ?_)
      refine gw_skip ?_
      refine nx_then ?_
      refine gw_seq ?_
      refine gw_region ?_
      refine wl_ov (ov_move rfl) rfl ?_
      refine wl_ov (ov_assign rfl) rfl ?_
      refine wl_nil ?_
      refine nx_then ?_
      refine gw_ret ?_
      refine nx_ret1 rfl rfl fun wx hm => ?_
      exact ⟨A, n, c, l, rfl, SlT.ofOwn cd_len (hm.ownI 0 rfl) hi2, hi3, by omega, own_cap (hm.ownI 0 rfl), hm.k.more (by omega), hm.g⟩

set_option maxRecDepth 100000 in
set_option maxHeartbeats 400000 in
theorem gcodeKeys_any (w : World) (B sb m : Nat) (hS : Strm 25 w B sb m) (hm : m ≤ 100000000000) :
    Calls Tryd.prog 59 #[.pointer (some ⟨sb, 0, none⟩)] w (fun e w' => ∃ (A : Option Addr) (n c : Nat) (l : List ByteArray), e = .returned (.slice A n c) ∧ SlT sgEnc 1 9 w' A n l ∧ (∀ x ∈ l, x.size ≤ 100) ∧ n ≤ 3 ∧ n ≤ c ∧ Strm 25 w' B sb (m + 1) ∧ w.grownBy w' (some sb)) := by
  refine gw_enter ⟨14, w, (some sb), []⟩ Tryd.func59 rfl Tryd.ntmps59 rfl (memS (X := []) hS allF_nil allL_nil) ?_
  refine gw_seq ?_
  refine gw_region ?_
  refine wl_ov (ov_assign rfl) rfl ?_
  refine wl_nil ?_
  refine nx_then ?_
  refine gw_seq ?_
  refine gw_region ?_
  refine wl_buildSlice (e := 9) (cs := [.string ⟨#[97, 49, 48]⟩]) rfl (by kernel_rfl) rfl fun g1 => ?_
  refine wl_buildSlice (e := 9) (cs := [.string ⟨#[98, 50, 48]⟩, .string ⟨#[97, 49, 48]⟩]) rfl (by kernel_rfl) rfl fun g2 => ?_
  refine wl_buildSlice (e := 9) (cs := [.string ⟨#[99, 51, 48]⟩, .string ⟨#[98, 50, 48]⟩, .string ⟨#[97, 49, 48]⟩]) rfl (by kernel_rfl) rfl fun g3 => ?_
  refine wl_buildSlice (e := 9) (cs := [.string ⟨#[110, 111, 110, 101]⟩]) rfl (by kernel_rfl) rfl fun g4 => ?_
  refine wl_buildSlice (e := 9) (cs := [.string ⟨#[97, 49, 48]⟩, .string ⟨#[97, 49, 48]⟩]) rfl (by kernel_rfl) rfl fun g5 => ?_
  refine wl_buildSlice (e := 105) (cs := [.slice none 0 0, .slice (some ⟨g1, 0, none⟩) 1 1, .slice (some ⟨g2, 0, none⟩) 2 2, .slice (some ⟨g3, 0, none⟩) 3 3, .slice (some ⟨g4, 0, none⟩) 1 1, .slice (some ⟨g5, 0, none⟩) 2 2]) rfl (by kernel_rfl) rfl fun g6 => ?_
  refine wl_ov (ov_move rfl) rfl ?_
  refine wl_buildSlice (e := 3) (cs := [.int .i64 0, .int .i64 1, .int .i64 1, .int .i64 2, .int .i64 2, .int .i64 3, .int .i64 4, .int .i64 5]) rfl (by kernel_rfl) rfl fun g7 => ?_
  refine wl_got (γ := Int) (val := fun v => .int .i64 v) (φ := fun v => v ∈ ([0, 1, 1, 2, 2, 3, 4, 5] : List Int)) rfl cb23 rfl rfl rfl rfl (fun wx hm => (pick_any [0, 1, 1, 2, 2, 3, 4, 5] _ _ _ wx B sb _ hm.k (by omega) (by simp) (by simp) (hm.blkI 0 rfl) (hm.neRow 0 rfl rfl))) fun v hv => ?_
  have bv : 0 ≤ v ∧ v ≤ 5 := mem_rng hv (by decide)
  have bv0 := bv.1
  have bv1 := bv.2
  clear bv
  obtain hv8 | hv8 | hv8 | hv8 | hv8 | hv8 : v = 0 ∨ v = 1 ∨ v = 2 ∨ v = 3 ∨ v = 4 ∨ v = 5 := (by simp at hv; omega)
  · subst hv8
    refine wl_ov (ov_index (j := 0) es190 rfl rfl (by decide)) rfl ?_
    refine wl_ov (ov_load sc105 rfl (fun _ hm => hm.blkI 1 rfl) rfl) rfl ?_
    refine wl_ov (ov_assign rfl) rfl ?_
    refine wl_nil ?_
    refine nx_then ?_
    refine gw_ret ?_
    refine nx_ret1 rfl rfl fun wx hm => ?_
    exact ⟨none, 0, 0, [], rfl, SlT.nil_ _ _, (fun _ h => by cases h), by omega, by omega, hm.k, hm.g⟩
  · subst hv8
    refine wl_ov (ov_index (j := 1) es190 rfl rfl (by decide)) rfl ?_
    refine wl_ov (ov_load sc105 rfl (fun _ hm => hm.blkI 1 rfl) rfl) rfl ?_
    refine wl_ov (ov_assign rfl) rfl ?_
    refine wl_nil ?_
    refine nx_then ?_
    refine gw_ret ?_
    refine nx_ret1 rfl rfl fun wx hm => ?_
    exact ⟨some ⟨g1, 0, none⟩, 1, 1, [⟨#[97, 49, 48]⟩], rfl, SlT.ofBlk (l := [⟨#[97, 49, 48]⟩]) sg_len (hm.blkI 6 rfl), (by decide), by omega, by omega, hm.k, hm.g⟩
  · subst hv8
    refine wl_ov (ov_index (j := 2) es190 rfl rfl (by decide)) rfl ?_
    refine wl_ov (ov_load sc105 rfl (fun _ hm => hm.blkI 1 rfl) rfl) rfl ?_
    refine wl_ov (ov_assign rfl) rfl ?_
    refine wl_nil ?_
    refine nx_then ?_
    refine gw_ret ?_
    refine nx_ret1 rfl rfl fun wx hm => ?_
    exact ⟨some ⟨g2, 0, none⟩, 2, 2, [⟨#[98, 50, 48]⟩, ⟨#[97, 49, 48]⟩], rfl, SlT.ofBlk (l := [⟨#[98, 50, 48]⟩, ⟨#[97, 49, 48]⟩]) sg_len (hm.blkI 5 rfl), (by decide), by omega, by omega, hm.k, hm.g⟩
  · subst hv8
    refine wl_ov (ov_index (j := 3) es190 rfl rfl (by decide)) rfl ?_
    refine wl_ov (ov_load sc105 rfl (fun _ hm => hm.blkI 1 rfl) rfl) rfl ?_
    refine wl_ov (ov_assign rfl) rfl ?_
    refine wl_nil ?_
    refine nx_then ?_
    refine gw_ret ?_
    refine nx_ret1 rfl rfl fun wx hm => ?_
    exact ⟨some ⟨g3, 0, none⟩, 3, 3, [⟨#[99, 51, 48]⟩, ⟨#[98, 50, 48]⟩, ⟨#[97, 49, 48]⟩], rfl, SlT.ofBlk (l := [⟨#[99, 51, 48]⟩, ⟨#[98, 50, 48]⟩, ⟨#[97, 49, 48]⟩]) sg_len (hm.blkI 4 rfl), (by decide), by omega, by omega, hm.k, hm.g⟩
  · subst hv8
    refine wl_ov (ov_index (j := 4) es190 rfl rfl (by decide)) rfl ?_
    refine wl_ov (ov_load sc105 rfl (fun _ hm => hm.blkI 1 rfl) rfl) rfl ?_
    refine wl_ov (ov_assign rfl) rfl ?_
    refine wl_nil ?_
    refine nx_then ?_
    refine gw_ret ?_
    refine nx_ret1 rfl rfl fun wx hm => ?_
    exact ⟨some ⟨g4, 0, none⟩, 1, 1, [⟨#[110, 111, 110, 101]⟩], rfl, SlT.ofBlk (l := [⟨#[110, 111, 110, 101]⟩]) sg_len (hm.blkI 3 rfl), (by decide), by omega, by omega, hm.k, hm.g⟩
  · subst hv8
    refine wl_ov (ov_index (j := 5) es190 rfl rfl (by decide)) rfl ?_
    refine wl_ov (ov_load sc105 rfl (fun _ hm => hm.blkI 1 rfl) rfl) rfl ?_
    refine wl_ov (ov_assign rfl) rfl ?_
    refine wl_nil ?_
    refine nx_then ?_
    refine gw_ret ?_
    refine nx_ret1 rfl rfl fun wx hm => ?_
    exact ⟨some ⟨g5, 0, none⟩, 2, 2, [⟨#[97, 49, 48]⟩, ⟨#[97, 49, 48]⟩], rfl, SlT.ofBlk (l := [⟨#[97, 49, 48]⟩, ⟨#[97, 49, 48]⟩]) sg_len (hm.blkI 2 rfl), (by decide), by omega, by omega, hm.k, hm.g⟩

end Go.Proofs.YtmpomocahgcebaaDoor
