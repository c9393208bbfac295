/- Opening hours, as the reference has them. -/
import Derived.Test.YtcggbojhalbkjaaDoorSn
import Derived.Test.YtcggbojhalbkjaaDoorIx
import Derived.Test.YtcggbojhalbkjaaDoorRk
import Derived.Test.YtcggbojhalbkjaaDoorTw
import Derived.Test.YtcggbojhalbkjaaDoorSj
namespace Go.Proofs.YtcggbojhalbkjaaDoor
open Go.RowKit

theorem hours7 (u0 u1 u2 u3 u4 u5 u6 u7 u8 u9 u10 u11 u12 u13 : Int) : hoursBad [u0, u1, u2, u3, u4, u5, u6, u7, u8, u9, u10, u11, u12, u13] = (winBad u0 u1 || (winBad u2 u3 || (winBad u4 u5 || (winBad u6 u7 || (winBad u8 u9 || (winBad u10 u11 || (winBad u12 u13 || false))))))) := rfl
theorem nextR_at {hs : List Int} {at_ d : Int} {k : Nat} (hk : k < 8) : nextR hs at_ (8 - k) d = if at_ < d * 1440 + frD hs d ∧ d * 1440 + frD hs d < 5761440 ∧ frD hs d < toD hs d then some (d * 1440 + frD hs d) else nextR hs at_ (8 - (k + 1)) (d + 1) := by
  rw [show 8 - k = (8 - (k + 1)) + 1 by omega]; rfl
theorem minSum_at {hs : List Int} {a b d : Int} {k : Nat} (hk : k < 4002) (h : d * 1440 < b) : minSum hs a b (4002 - k) d = max 0 (min b (d * 1440 + toD hs d) - max a (d * 1440 + frD hs d)) + minSum hs a b (4002 - (k + 1)) (d + 1) := by
  rw [show 4002 - k = (4002 - (k + 1)) + 1 by omega, minSum, if_pos h]; rfl
def prevSt (l : List St) (k : Nat) : ByteArray := match prevOf l k with
  | none => ⟨#[]⟩
  | some q => q.key
theorem prevSt_succ {l : List St} {k : Nat} {x : St} (h : l[k]? = some x) : prevSt l (k + 1) = x.key := by
  unfold prevSt prevOf; rw [if_neg (by omega), Nat.add_sub_cancel, h]
theorem prevSt_le {l : List St} {k : Nat} {key : ByteArray} (h : keyB key = true) : leB key (prevSt l k) = prevB (prevOf l k) (fun q => leB key q.key) := by
  unfold prevSt prevB
  cases prevOf l k with
  | none => exact key_low h
  | some q => rfl

set_option maxRecDepth 100000 in
set_option maxHeartbeats 1000000 in
theorem stationsFault_any (l : List St) (A : Option Addr) (n c : Nat) (w : World) (hl : SlT stEnc 15 56 w A n l) (hok : ∀ x ∈ l, StOk x) (hn : n ≤ 1000000) :
    Calls Tryd.prog 28 #[.slice A n c] w (GotE w (stationsE l)) := by
  refine gw_enter ⟨47, w, none, []⟩ Tryd.func28 rfl Tryd.ntmps28 rfl (mem0 (X := [SlOld stEnc 15 56 w.heap.size none A n l]) (allF_cons hl.old allF_nil) (allL_cons SlOld.lasts allL_nil)) ?_
  refine gw_seq ?_
  refine gw_region ?_
  have hlen := hl.len
  refine wl_ov (ov_assign rfl) rfl ?_
  refine wl_nil ?_
  refine nx_then ?_
  refine gw_seq ?_
  refine gw_seq ?_
  refine gw_region ?_
  refine wl_ov (ov_move rfl) rfl ?_
  refine wl_ov (ov_len es60 rfl) rfl ?_
  refine wl_ov (ov_gtr rfl rfl) rfl ?_
  refine wl_nil ?_
  refine nx_then ?_
  refine gw_cond rfl (fun hh => ?_) (fun hh => ?_)
  · have h1 : 50 < ((n : Nat) : Int) := by simpa using hh
    clear hh
    refine gw_seq ?_
    refine gw_region ?_
    refine wl_ov (ov_assign rfl) rfl ?_
    refine wl_nil ?_
    refine nx_then ?_
    refine gw_ret ?_
    refine nx_then_ret ?_
    refine nx_ret1 rfl rfl fun wx hm => ?_
    exact ⟨ret_int (by unfold stationsE; rw [if_pos (by omega)]), hm.g⟩
  · have h1 : ¬ (50 < ((n : Nat) : Int)) := by simpa using hh
    clear hh
    refine gw_skip ?_
    refine nx_then ?_
    refine gw_seq ?_
    refine gw_region ?_
    have hse : stationsE l = scanE stationE none l := by unfold stationsE; rw [if_neg (by omega)]
    refine wl_ov (ov_assign rfl) rfl ?_
    refine wl_nil ?_
    refine nx_then ?_
    refine gw_seq ?_
    refine gw_seq ?_
    refine gw_region ?_
    refine wl_ov (ov_move rfl) rfl ?_
    refine wl_ov (ov_len es60 rfl) rfl ?_
    refine wl_ov (ov_move rfl) rfl ?_
    refine wl_nil ?_
    refine nx_then ?_
    refine gw_block ?_
    refine gw_loop (γ := Nat) (fun (k : Nat) => k ≤ n ∧ scanE stationE none l = scanE stationE (prevOf l k) (l.drop k)) (fun (k : Nat) => [(3, .string (prevSt l k)), (11, .slice A n c), (12, .int .i64 ((n : Nat) : Int)), (13, .int .i64 ((k : Nat) : Int))]) (fun (k : Nat) => fun _ => True) (fun (k : Nat) => []) (fun (k : Nat) => []) (fun (k : Nat) => [SlOld stEnc 15 56 w.heap.size none A n l]) (fun (k : Nat) => n - k) 0 ⟨Nat.zero_le _, rfl⟩ ⟨rfl, rfl, rfl, rfl, trivial⟩ (fun _ hm => hm.pick [] [] [0] rfl rfl) ?_
    intro k hinv
    replace hinv : k ≤ n ∧ scanE stationE none l = scanE stationE (prevOf l k) (l.drop k) := hinv
    refine gw_seq ?_
    refine gw_region ?_
    refine wl_ov (ov_lss rfl rfl) rfl ?_
    refine wl_nil ?_
    refine nx_then ?_
    refine gw_seq ?_
    refine gw_cond rfl (fun hh => ?_) (fun hh => ?_)
    · have hk : ((k : Nat) : Int) < ((n : Nat) : Int) := by simpa using hh
      clear hh
      refine gw_skip ?_
      refine nx_then ?_
      refine gw_seq ?_
      refine gw_block ?_
      refine gw_seq ?_
      refine gw_region ?_
      obtain ⟨b, off, hA, _, _⟩ := hl.get (by omega)
      subst hA
      obtain ⟨x, hx⟩ : ∃ x, l[k]? = some x := ⟨_, List.getElem?_eq_getElem (by omega)⟩
      have hat := scanE_at stationE l k _ hx
      have hso := hok _ (List.mem_of_getElem? hx)
      obtain ⟨key, hs⟩ := x
      obtain ⟨u0, u1, u2, u3, u4, u5, u6, u7, u8, u9, u10, u11, u12, u13, rfl⟩ := list14 hs hso.1
      have hk1 : key.size ≤ 1000000 := hso.2.1
      have hsb := hso.2.2
      refine wl_ov (ov_index (j := k) es60 rfl rfl (by omega)) rfl ?_
      refine wl_ov (ov_elem (vs := [.string key, .int .i64 u0, .int .i64 u1, .int .i64 u2, .int .i64 u3, .int .i64 u4, .int .i64 u5, .int .i64 u6, .int .i64 u7, .int .i64 u8, .int .i64 u9, .int .i64 u10, .int .i64 u11, .int .i64 u12, .int .i64 u13]) rz56 rfl (fun _ hm => (hm.fact 0 rfl).1) hx rfl rfl) rfl ?_
      refine wl_alloc zc56 rfl fun g1 => ?_
      refine wl_stores (cs' := [.string key, .int .i64 u0, .int .i64 u1, .int .i64 u2, .int .i64 u3, .int .i64 u4, .int .i64 u5, .int .i64 u6, .int .i64 u7, .int .i64 u8, .int .i64 u9, .int .i64 u10, .int .i64 u11, .int .i64 u12, .int .i64 u13]) 0 rz56 rfl rfl rfl rfl rfl rfl rfl rfl ?_
      refine wl_nil ?_
      refine nx_then ?_
      refine gw_seq ?_
      refine gw_block ?_
      refine gw_seq ?_
      refine gw_region ?_
      refine wl_ov (ov_field fo56_0 rfl rfl) rfl ?_
      refine wl_ov (ov_load sc9 rfl (fun _ hm => hm.blkI 0 rfl) rfl) rfl ?_
      refine wl_callv rfl cb57 rfl rfl (fun wx hm => (key_any _ wx (by omega))) ?_
      refine wl_ov (ov_un_not rfl) rfl ?_
      refine wl_ov (ov_assign rfl) rfl ?_
      refine wl_nil ?_
      refine nx_then ?_
      refine gw_cond rfl (fun hh => ?_) (fun hh => ?_)
      · have h2 : (keyB key) = false := by simpa using hh
        clear hh
        refine gw_seq ?_
        refine gw_region ?_
        refine wl_ov (ov_assign rfl) rfl ?_
        refine wl_nil ?_
        refine nx_then ?_
        refine gw_ret ?_
        refine nx_blk_ret ?_
        refine nx_then_ret ?_
        refine nx_blk_ret ?_
        refine nx_then_ret ?_
        refine nx_then_ret ?_
        refine nx_blk_ret ?_
        refine nx_then_ret ?_
        have hE : stationE (prevOf l k) ⟨key, [u0, u1, u2, u3, u4, u5, u6, u7, u8, u9, u10, u11, u12, u13]⟩ = 5 := by unfold stationE; rw [if_pos (by simpa using h2)]
        refine nx_ret1 rfl rfl fun wx hm => ?_
        exact ⟨ret_int (by rw [hse, hinv.2, hat, if_neg (by rw [hE]; decide), hE]), hm.g⟩
      · have h2 : (keyB key) = true := by simpa using hh
        clear hh
        refine gw_seq ?_
        refine gw_region ?_
        refine wl_ov (ov_field fo56_0 rfl rfl) rfl ?_
        refine wl_ov (ov_load sc9 rfl (fun _ hm => hm.blkI 0 rfl) rfl) rfl ?_
        refine wl_ov (ov_move rfl) rfl ?_
        refine wl_ov (ov_sleq rfl rfl) rfl ?_
        refine wl_ov (ov_assign rfl) rfl ?_
        refine wl_nil ?_
        refine nx_then ?_
        refine gw_cond rfl (fun hh => ?_) (fun hh => ?_)
        · have h9 : (Op.bytesLess key.toList (prevSt l k).toList || key.toList == (prevSt l k).toList) = true := by simpa using hh
          clear hh
          refine gw_seq ?_
          refine gw_region ?_
          have hky : keyB key = true := by simpa using h2
          have hO : prevB (prevOf l k) (fun q => leB key q.key) = true := (prevSt_le hky).symm.trans h9
          refine wl_ov (ov_assign rfl) rfl ?_
          refine wl_nil ?_
          refine nx_then ?_
          refine gw_ret ?_
          refine nx_blk_ret ?_
          refine nx_then_ret ?_
          refine nx_blk_ret ?_
          refine nx_then_ret ?_
          refine nx_then_ret ?_
          refine nx_blk_ret ?_
          refine nx_then_ret ?_
          have hE : stationE (prevOf l k) ⟨key, [u0, u1, u2, u3, u4, u5, u6, u7, u8, u9, u10, u11, u12, u13]⟩ = 7 := by unfold stationE; rw [if_neg (by rw [hky]; decide), if_pos hO]
          refine nx_ret1 rfl rfl fun wx hm => ?_
          exact ⟨ret_int (by rw [hse, hinv.2, hat, if_neg (by rw [hE]; decide), hE]), hm.g⟩
        · have h9 : (Op.bytesLess key.toList (prevSt l k).toList || key.toList == (prevSt l k).toList) = false := by simpa using hh
          clear hh
          refine gw_skip ?_
          refine nx_blk_nrm ?_
          refine nx_then ?_
          refine gw_seq ?_
          refine gw_region ?_
          have hky : keyB key = true := by simpa using h2
          have hO : prevB (prevOf l k) (fun q => leB key q.key) = false := (prevSt_le hky).symm.trans h9
          have hE0 : stationE (prevOf l k) ⟨key, [u0, u1, u2, u3, u4, u5, u6, u7, u8, u9, u10, u11, u12, u13]⟩ = if hoursBad [u0, u1, u2, u3, u4, u5, u6, u7, u8, u9, u10, u11, u12, u13] = true then 1 else 0 := by unfold stationE; rw [if_neg (by rw [hky]; decide), if_neg (by rw [hO]; decide)]
          rw [hours7] at hE0
          refine wl_ov (ov_field fo56_0 rfl rfl) rfl ?_
          refine wl_ov (ov_load sc9 rfl (fun _ hm => hm.blkI 0 rfl) rfl) rfl ?_
          refine wl_ov (ov_assign rfl) rfl ?_
          refine wl_nil ?_
          refine nx_then ?_
          refine gw_seq ?_
          refine gw_region ?_
          refine wl_ov (ov_field fo56_1 rfl rfl) rfl ?_
          refine wl_ov (ov_loads rz54 rfl (fun _ hm => hm.blkI 0 rfl) rfl rfl) rfl ?_
          refine wl_ov (ov_move rfl) rfl ?_
          refine wl_nil ?_
          refine nx_then ?_
          refine gw_block ?_
          refine gw_rounds 8 ?_
          refine gr_next ?_
          refine gw_seq ?_
          refine gw_region ?_
          refine wl_ov (ov_lss rfl rfl) rfl ?_
          refine wl_set 32 (v' := .bool true) rfl (congrArg Value.bool (by decide)) ?_
          refine wl_nil ?_
          refine nx_then ?_
          refine gw_seq ?_
          refine gw_cond rfl (fun _ => ?_) (fun hh => by cases hh)
          refine gw_skip ?_
          refine nx_then ?_
          refine gw_seq ?_
          refine gw_block ?_
          refine gw_seq ?_
          refine gw_region ?_
          refine wl_ov (ov_indexA (e := 31) (len := 7) (sz := 2) (i := 0) (cs := [.int .i64 u0, .int .i64 u1, .int .i64 u2, .int .i64 u3, .int .i64 u4, .int .i64 u5, .int .i64 u6, .int .i64 u7, .int .i64 u8, .int .i64 u9, .int .i64 u10, .int .i64 u11, .int .i64 u12, .int .i64 u13]) (vs := [.int .i64 u0, .int .i64 u1]) (by kernel_rfl) rfl rfl (by decide) rfl) rfl ?_
          refine wl_alloc zc31 rfl fun g2 => ?_
          refine wl_stores (cs' := [.int .i64 u0, .int .i64 u1]) 0 rz31 rfl rfl rfl rfl rfl rfl rfl rfl ?_
          refine wl_nil ?_
          refine nx_then ?_
          refine gw_seq ?_
          refine gw_region ?_
          refine wl_ov (ov_field fo31_0 rfl rfl) rfl ?_
          refine wl_ov (ov_load sc3 rfl (fun _ hm => hm.blkI 0 rfl) rfl) rfl ?_
          refine wl_ov (ov_field fo31_1 rfl rfl) rfl ?_
          refine wl_ov (ov_load sc3 rfl (fun _ hm => hm.blkI 0 rfl) rfl) rfl ?_
          refine wl_callw rfl cb58 rfl rfl (fun wx hm => (rin_any _ _ _ wx)) ?_
          refine wl_ov (ov_un_not rfl) rfl ?_
          refine wl_ov (ov_move rfl) rfl ?_
          rcases Bool.eq_false_or_eq_true (!(inB u0 0 u1)) with hg0 | hg0
          · refine wl_set 40 rfl (congrArg Value.bool hg0) ?_
            have hw0 : winBad u0 u1 = true := by unfold winBad; simp [hg0]
            refine wl_guard_off rfl rfl rfl (by decide) rfl ?_
            refine wl_guard_off rfl rfl rfl (by decide) rfl ?_
            refine wl_guard_off rfl rfl rfl (by decide) rfl ?_
            refine wl_ov (ov_pick_t rfl rfl) rfl ?_
            refine wl_nil ?_
            refine nx_then ?_
            refine gw_cond rfl (fun _ => ?_) (fun hh => by cases hh)
            refine gw_seq ?_
            refine gw_region ?_
            refine wl_ov (ov_assign rfl) rfl ?_
            refine wl_nil ?_
            refine nx_then ?_
            refine gw_ret ?_
            refine nx_blk_ret ?_
            refine nx_then_ret ?_
            refine nx_then_ret ?_
            refine nx_blk_ret ?_
            refine nx_blk_ret ?_
            refine nx_then_ret ?_
            refine nx_then_ret ?_
            refine nx_blk_ret ?_
            refine nx_then_ret ?_
            have hE : stationE (prevOf l k) ⟨key, [u0, u1, u2, u3, u4, u5, u6, u7, u8, u9, u10, u11, u12, u13]⟩ = 1 := by rw [hE0]; simp [hw0]
            refine nx_ret1 rfl rfl fun wx hm => ?_
            exact ⟨ret_int (by rw [hse, hinv.2, hat, if_neg (by rw [hE]; decide), hE]), hm.g⟩
          · refine wl_set 40 rfl (congrArg Value.bool hg0) ?_
            refine wl_guard_on rfl rfl rfl ?_
            refine wl_ov (ov_field fo31_1 rfl rfl) rfl ?_
            refine wl_guard_on rfl rfl rfl ?_
            refine wl_ov (ov_load sc3 rfl (fun _ hm => hm.blkI 0 rfl) rfl) rfl ?_
            refine wl_guard_on rfl rfl rfl ?_
            refine wl_ov (ov_gtr rfl rfl) rfl ?_
            refine wl_ov (ov_pick_f rfl rfl) rfl ?_
            refine wl_nil ?_
            refine nx_then ?_
            refine gw_cond rfl (fun hh => ?_) (fun hh => ?_)
            · have hh0 : 1440 < u1 := by simpa using hh
              clear hh
              refine gw_seq ?_
              refine gw_region ?_
              have hw0 : winBad u0 u1 = true := by unfold winBad; simp [hg0, hh0]
              refine wl_ov (ov_assign rfl) rfl ?_
              refine wl_nil ?_
              refine nx_then ?_
              refine gw_ret ?_
              refine nx_blk_ret ?_
              refine nx_then_ret ?_
              refine nx_then_ret ?_
              refine nx_blk_ret ?_
              refine nx_blk_ret ?_
              refine nx_then_ret ?_
              refine nx_then_ret ?_
              refine nx_blk_ret ?_
              refine nx_then_ret ?_
              have hE : stationE (prevOf l k) ⟨key, [u0, u1, u2, u3, u4, u5, u6, u7, u8, u9, u10, u11, u12, u13]⟩ = 1 := by rw [hE0]; simp [hw0]
              refine nx_ret1 rfl rfl fun wx hm => ?_
              exact ⟨ret_int (by rw [hse, hinv.2, hat, if_neg (by rw [hE]; decide), hE]), hm.g⟩
            · have hh0 : ¬ (1440 < u1) := by simpa using hh
              clear hh
              refine gw_skip ?_
              refine nx_blk_nrm ?_
              refine nx_then ?_
              refine gw_region ?_
              have hw0 : winBad u0 u1 = false := by unfold winBad; simp at hg0; simp [hg0]; omega
              refine wl_ov (ov_add rfl rfl (by omega) (by omega)) rfl ?_
              refine wl_set 45 (v' := .int .i64 1) rfl rfl ?_
              refine wl_ov (ov_move rfl) rfl ?_
              refine wl_nil ?_
              refine nx_next ?_
              refine gr_next ?_
              refine gw_seq ?_
              refine gw_region ?_
              refine wl_ov (ov_lss rfl rfl) rfl ?_
              refine wl_set 32 (v' := .bool true) rfl (congrArg Value.bool (by decide)) ?_
              refine wl_nil ?_
              refine nx_then ?_
              refine gw_seq ?_
              refine gw_cond rfl (fun _ => ?_) (fun hh => by cases hh)
              refine gw_skip ?_
              refine nx_then ?_
              refine gw_seq ?_
              refine gw_block ?_
              refine gw_seq ?_
              refine gw_region ?_
              refine wl_ov (ov_indexA (e := 31) (len := 7) (sz := 2) (i := 1) (cs := [.int .i64 u0, .int .i64 u1, .int .i64 u2, .int .i64 u3, .int .i64 u4, .int .i64 u5, .int .i64 u6, .int .i64 u7, .int .i64 u8, .int .i64 u9, .int .i64 u10, .int .i64 u11, .int .i64 u12, .int .i64 u13]) (vs := [.int .i64 u2, .int .i64 u3]) (by kernel_rfl) rfl rfl (by decide) rfl) rfl ?_
              refine wl_alloc zc31 rfl fun g3 => ?_
              refine wl_stores (cs' := [.int .i64 u2, .int .i64 u3]) 0 rz31 rfl rfl rfl rfl rfl rfl rfl rfl ?_
              refine wl_nil ?_
              refine nx_then ?_
              refine gw_seq ?_
              refine gw_region ?_
              refine wl_ov (ov_field fo31_0 rfl rfl) rfl ?_
              refine wl_ov (ov_load sc3 rfl (fun _ hm => hm.blkI 0 rfl) rfl) rfl ?_
              refine wl_ov (ov_field fo31_1 rfl rfl) rfl ?_
              refine wl_ov (ov_load sc3 rfl (fun _ hm => hm.blkI 0 rfl) rfl) rfl ?_
              refine wl_callw rfl cb58 rfl rfl (fun wx hm => (rin_any _ _ _ wx)) ?_
              refine wl_ov (ov_un_not rfl) rfl ?_
              refine wl_ov (ov_move rfl) rfl ?_
              rcases Bool.eq_false_or_eq_true (!(inB u2 0 u3)) with hg1 | hg1
              · refine wl_set 40 rfl (congrArg Value.bool hg1) ?_
                have hw1 : winBad u2 u3 = true := by unfold winBad; simp [hg1]
                refine wl_guard_off rfl rfl rfl (by decide) rfl ?_
                refine wl_guard_off rfl rfl rfl (by decide) rfl ?_
                refine wl_guard_off rfl rfl rfl (by decide) rfl ?_
                refine wl_ov (ov_pick_t rfl rfl) rfl ?_
                refine wl_nil ?_
                refine nx_then ?_
                refine gw_cond rfl (fun _ => ?_) (fun hh => by cases hh)
                refine gw_seq ?_
                refine gw_region ?_
                refine wl_ov (ov_assign rfl) rfl ?_
                refine wl_nil ?_
                refine nx_then ?_
                refine gw_ret ?_
                refine nx_blk_ret ?_
                refine nx_then_ret ?_
                refine nx_then_ret ?_
                refine nx_blk_ret ?_
                refine nx_blk_ret ?_
                refine nx_then_ret ?_
                refine nx_then_ret ?_
                refine nx_blk_ret ?_
                refine nx_then_ret ?_
                have hE : stationE (prevOf l k) ⟨key, [u0, u1, u2, u3, u4, u5, u6, u7, u8, u9, u10, u11, u12, u13]⟩ = 1 := by rw [hE0]; simp [hw0, hw1]
                refine nx_ret1 rfl rfl fun wx hm => ?_
                exact ⟨ret_int (by rw [hse, hinv.2, hat, if_neg (by rw [hE]; decide), hE]), hm.g⟩
              · refine wl_set 40 rfl (congrArg Value.bool hg1) ?_
                refine wl_guard_on rfl rfl rfl ?_
                refine wl_ov (ov_field fo31_1 rfl rfl) rfl ?_
                refine wl_guard_on rfl rfl rfl ?_
                refine wl_ov (ov_load sc3 rfl (fun _ hm => hm.blkI 0 rfl) rfl) rfl ?_
                refine wl_guard_on rfl rfl rfl ?_
                refine wl_ov (ov_gtr rfl rfl) rfl ?_
                refine wl_ov (ov_pick_f rfl rfl) rfl ?_
                refine wl_nil ?_
                refine nx_then ?_
                refine gw_cond rfl (fun hh => ?_) (fun hh => ?_)
                · have hh1 : 1440 < u3 := by simpa using hh
                  clear hh
                  refine gw_seq ?_
                  refine gw_region ?_
                  have hw1 : winBad u2 u3 = true := by unfold winBad; simp [hg1, hh1]
                  refine wl_ov (ov_assign rfl) rfl ?_
                  refine wl_nil ?_
                  refine nx_then ?_
                  refine gw_ret ?_
                  refine nx_blk_ret ?_
                  refine nx_then_ret ?_
                  refine nx_then_ret ?_
                  refine nx_blk_ret ?_
                  refine nx_blk_ret ?_
                  refine nx_then_ret ?_
                  refine nx_then_ret ?_
                  refine nx_blk_ret ?_
                  refine nx_then_ret ?_
                  have hE : stationE (prevOf l k) ⟨key, [u0, u1, u2, u3, u4, u5, u6, u7, u8, u9, u10, u11, u12, u13]⟩ = 1 := by rw [hE0]; simp [hw0, hw1]
                  refine nx_ret1 rfl rfl fun wx hm => ?_
                  exact ⟨ret_int (by rw [hse, hinv.2, hat, if_neg (by rw [hE]; decide), hE]), hm.g⟩
                · have hh1 : ¬ (1440 < u3) := by simpa using hh
                  clear hh
                  refine gw_skip ?_
                  refine nx_blk_nrm ?_
                  refine nx_then ?_
                  refine gw_region ?_
                  have hw1 : winBad u2 u3 = false := by unfold winBad; simp at hg1; simp [hg1]; omega
                  refine wl_ov (ov_add rfl rfl (by omega) (by omega)) rfl ?_
                  refine wl_set 45 (v' := .int .i64 2) rfl rfl ?_
                  refine wl_ov (ov_move rfl) rfl ?_
                  refine wl_nil ?_
                  refine nx_next ?_
                  refine gr_next ?_
                  refine gw_seq ?_
                  refine gw_region ?_
                  refine wl_ov (ov_lss rfl rfl) rfl ?_
                  refine wl_set 32 (v' := .bool true) rfl (congrArg Value.bool (by decide)) ?_
                  refine wl_nil ?_
                  refine nx_then ?_
                  refine gw_seq ?_
                  refine gw_cond rfl (fun _ => ?_) (fun hh => by cases hh)
                  refine gw_skip ?_
                  refine nx_then ?_
                  refine gw_seq ?_
                  refine gw_block ?_
                  refine gw_seq ?_
                  refine gw_region ?_
                  refine wl_ov (ov_indexA (e := 31) (len := 7) (sz := 2) (i := 2) (cs := [.int .i64 u0, .int .i64 u1, .int .i64 u2, .int .i64 u3, .int .i64 u4, .int .i64 u5, .int .i64 u6, .int .i64 u7, .int .i64 u8, .int .i64 u9, .int .i64 u10, .int .i64 u11, .int .i64 u12, .int .i64 u13]) (vs := [.int .i64 u4, .int .i64 u5]) (by kernel_rfl) rfl rfl (by decide) rfl) rfl ?_
                  refine wl_alloc zc31 rfl fun g4 => ?_
                  refine wl_stores (cs' := [.int .i64 u4, .int .i64 u5]) 0 rz31 rfl rfl rfl rfl rfl rfl rfl rfl ?_
                  refine wl_nil ?_
                  refine nx_then ?_
                  refine gw_seq ?_
                  refine gw_region ?_
                  refine wl_ov (ov_field fo31_0 rfl rfl) rfl ?_
                  refine wl_ov (ov_load sc3 rfl (fun _ hm => hm.blkI 0 rfl) rfl) rfl ?_
                  refine wl_ov (ov_field fo31_1 rfl rfl) rfl ?_
                  refine wl_ov (ov_load sc3 rfl (fun _ hm => hm.blkI 0 rfl) rfl) rfl ?_
                  refine wl_callw rfl cb58 rfl rfl (fun wx hm => (rin_any _ _ _ wx)) ?_
                  refine wl_ov (ov_un_not rfl) rfl ?_
                  refine wl_ov (ov_move rfl) rfl ?_
                  rcases Bool.eq_false_or_eq_true (!(inB u4 0 u5)) with hg2 | hg2
                  · refine wl_set 40 rfl (congrArg Value.bool hg2) ?_
                    have hw2 : winBad u4 u5 = true := by unfold winBad; simp [hg2]
                    refine wl_guard_off rfl rfl rfl (by decide) rfl ?_
                    refine wl_guard_off rfl rfl rfl (by decide) rfl ?_
                    refine wl_guard_off rfl rfl rfl (by decide) rfl ?_
                    refine wl_ov (ov_pick_t rfl rfl) rfl ?_
                    refine wl_nil ?_
                    refine nx_then ?_
                    refine gw_cond rfl (fun _ => ?_) (fun hh => by cases hh)
                    refine gw_seq ?_
                    refine gw_region ?_
                    refine wl_ov (ov_assign rfl) rfl ?_
                    refine wl_nil ?_
                    refine nx_then ?_
                    refine gw_ret ?_
                    refine nx_blk_ret ?_
                    refine nx_then_ret ?_
                    refine nx_then_ret ?_
                    refine nx_blk_ret ?_
                    refine nx_blk_ret ?_
                    refine nx_then_ret ?_
                    refine nx_then_ret ?_
                    refine nx_blk_ret ?_
                    refine nx_then_ret ?_
                    have hE : stationE (prevOf l k) ⟨key, [u0, u1, u2, u3, u4, u5, u6, u7, u8, u9, u10, u11, u12, u13]⟩ = 1 := by rw [hE0]; simp [hw0, hw1, hw2]
                    refine nx_ret1 rfl rfl fun wx hm => ?_
                    exact ⟨ret_int (by rw [hse, hinv.2, hat, if_neg (by rw [hE]; decide), hE]), hm.g⟩
                  · refine wl_set 40 rfl (congrArg Value.bool hg2) ?_
                    refine wl_guard_on rfl rfl rfl ?_
                    refine wl_ov (ov_field fo31_1 rfl rfl) rfl ?_
                    refine wl_guard_on rfl rfl rfl ?_
                    refine wl_ov (ov_load sc3 rfl (fun _ hm => hm.blkI 0 rfl) rfl) rfl ?_
                    refine wl_guard_on rfl rfl rfl ?_
                    refine wl_ov (ov_gtr rfl rfl) rfl ?_
                    refine wl_ov (ov_pick_f rfl rfl) rfl ?_
                    refine wl_nil ?_
                    refine nx_then ?_
                    refine gw_cond rfl (fun hh => ?_) (fun hh => ?_)
                    · have hh2 : 1440 < u5 := by simpa using hh
                      clear hh
                      refine gw_seq ?_
                      refine gw_region ?_
                      have hw2 : winBad u4 u5 = true := by unfold winBad; simp [hg2, hh2]
                      refine wl_ov (ov_assign rfl) rfl ?_
                      refine wl_nil ?_
                      refine nx_then ?_
                      refine gw_ret ?_
                      refine nx_blk_ret ?_
                      refine nx_then_ret ?_
                      refine nx_then_ret ?_
                      refine nx_blk_ret ?_
                      refine nx_blk_ret ?_
                      refine nx_then_ret ?_
                      refine nx_then_ret ?_
                      refine nx_blk_ret ?_
                      refine nx_then_ret ?_
                      have hE : stationE (prevOf l k) ⟨key, [u0, u1, u2, u3, u4, u5, u6, u7, u8, u9, u10, u11, u12, u13]⟩ = 1 := by rw [hE0]; simp [hw0, hw1, hw2]
                      refine nx_ret1 rfl rfl fun wx hm => ?_
                      exact ⟨ret_int (by rw [hse, hinv.2, hat, if_neg (by rw [hE]; decide), hE]), hm.g⟩
                    · have hh2 : ¬ (1440 < u5) := by simpa using hh
                      clear hh
                      refine gw_skip ?_
                      refine nx_blk_nrm ?_
                      refine nx_then ?_
                      refine gw_region ?_
                      have hw2 : winBad u4 u5 = false := by unfold winBad; simp at hg2; simp [hg2]; omega
                      refine wl_ov (ov_add rfl rfl (by omega) (by omega)) rfl ?_
                      refine wl_set 45 (v' := .int .i64 3) rfl rfl ?_
                      refine wl_ov (ov_move rfl) rfl ?_
                      refine wl_nil ?_
                      refine nx_next ?_
                      refine gr_next ?_
                      refine gw_seq ?_
                      refine gw_region ?_
                      refine wl_ov (ov_lss rfl rfl) rfl ?_
                      refine wl_set 32 (v' := .bool true) rfl (congrArg Value.bool (by decide)) ?_
                      refine wl_nil ?_
                      refine nx_then ?_
                      refine gw_seq ?_
                      refine gw_cond rfl (fun _ => ?_) (fun hh => by cases hh)
                      refine gw_skip ?_
                      refine nx_then ?_
                      refine gw_seq ?_
                      refine gw_block ?_
                      refine gw_seq ?_
                      refine gw_region ?_
                      refine wl_ov (ov_indexA (e := 31) (len := 7) (sz := 2) (i := 3) (cs := [.int .i64 u0, .int .i64 u1, .int .i64 u2, .int .i64 u3, .int .i64 u4, .int .i64 u5, .int .i64 u6, .int .i64 u7, .int .i64 u8, .int .i64 u9, .int .i64 u10, .int .i64 u11, .int .i64 u12, .int .i64 u13]) (vs := [.int .i64 u6, .int .i64 u7]) (by kernel_rfl) rfl rfl (by decide) rfl) rfl ?_
                      refine wl_alloc zc31 rfl fun g5 => ?_
                      refine wl_stores (cs' := [.int .i64 u6, .int .i64 u7]) 0 rz31 rfl rfl rfl rfl rfl rfl rfl rfl ?_
                      refine wl_nil ?_
                      refine nx_then ?_
                      refine gw_seq ?_
                      refine gw_region ?_
                      refine wl_ov (ov_field fo31_0 rfl rfl) rfl ?_
                      refine wl_ov (ov_load sc3 rfl (fun _ hm => hm.blkI 0 rfl) rfl) rfl ?_
                      refine wl_ov (ov_field fo31_1 rfl rfl) rfl ?_
                      refine wl_ov (ov_load sc3 rfl (fun _ hm => hm.blkI 0 rfl) rfl) rfl ?_
                      refine wl_callw rfl cb58 rfl rfl (fun wx hm => (rin_any _ _ _ wx)) ?_
                      refine wl_ov (ov_un_not rfl) rfl ?_
                      refine wl_ov (ov_move rfl) rfl ?_
                      rcases Bool.eq_false_or_eq_true (!(inB u6 0 u7)) with hg3 | hg3
                      · refine wl_set 40 rfl (congrArg Value.bool hg3) ?_
                        have hw3 : winBad u6 u7 = true := by unfold winBad; simp [hg3]
                        refine wl_guard_off rfl rfl rfl (by decide) rfl ?_
                        refine wl_guard_off rfl rfl rfl (by decide) rfl ?_
                        refine wl_guard_off rfl rfl rfl (by decide) rfl ?_
                        refine wl_ov (ov_pick_t rfl rfl) rfl ?_
                        refine wl_nil ?_
                        refine nx_then ?_
                        refine gw_cond rfl (fun _ => ?_) (fun hh => by cases hh)
                        refine gw_seq ?_
                        refine gw_region ?_
                        refine wl_ov (ov_assign rfl) rfl ?_
                        refine wl_nil ?_
                        refine nx_then ?_
                        refine gw_ret ?_
                        refine nx_blk_ret ?_
                        refine nx_then_ret ?_
                        refine nx_then_ret ?_
                        refine nx_blk_ret ?_
                        refine nx_blk_ret ?_
                        refine nx_then_ret ?_
                        refine nx_then_ret ?_
                        refine nx_blk_ret ?_
                        refine nx_then_ret ?_
                        have hE : stationE (prevOf l k) ⟨key, [u0, u1, u2, u3, u4, u5, u6, u7, u8, u9, u10, u11, u12, u13]⟩ = 1 := by rw [hE0]; simp [hw0, hw1, hw2, hw3]
                        refine nx_ret1 rfl rfl fun wx hm => ?_
                        exact ⟨ret_int (by rw [hse, hinv.2, hat, if_neg (by rw [hE]; decide), hE]), hm.g⟩
                      · refine wl_set 40 rfl (congrArg Value.bool hg3) ?_
                        refine wl_guard_on rfl rfl rfl ?_
                        refine wl_ov (ov_field fo31_1 rfl rfl) rfl ?_
                        refine wl_guard_on rfl rfl rfl ?_
                        refine wl_ov (ov_load sc3 rfl (fun _ hm => hm.blkI 0 rfl) rfl) rfl ?_
                        refine wl_guard_on rfl rfl rfl ?_
                        refine wl_ov (ov_gtr rfl rfl) rfl ?_
                        refine wl_ov (ov_pick_f rfl rfl) rfl ?_
                        refine wl_nil ?_
                        refine nx_then ?_
                        refine gw_cond rfl (fun hh => ?_) (fun hh => ?_)
                        · have hh3 : 1440 < u7 := by simpa using hh
                          clear hh
                          refine gw_seq ?_
                          refine gw_region ?_
                          have hw3 : winBad u6 u7 = true := by unfold winBad; simp [hg3, hh3]
                          refine wl_ov (ov_assign rfl) rfl ?_
                          refine wl_nil ?_
                          refine nx_then ?_
                          refine gw_ret ?_
                          refine nx_blk_ret ?_
                          refine nx_then_ret ?_
                          refine nx_then_ret ?_
                          refine nx_blk_ret ?_
                          refine nx_blk_ret ?_
                          refine nx_then_ret ?_
                          refine nx_then_ret ?_
                          refine nx_blk_ret ?_
                          refine nx_then_ret ?_
                          have hE : stationE (prevOf l k) ⟨key, [u0, u1, u2, u3, u4, u5, u6, u7, u8, u9, u10, u11, u12, u13]⟩ = 1 := by rw [hE0]; simp [hw0, hw1, hw2, hw3]
                          refine nx_ret1 rfl rfl fun wx hm => ?_
                          exact ⟨ret_int (by rw [hse, hinv.2, hat, if_neg (by rw [hE]; decide), hE]), hm.g⟩
                        · have hh3 : ¬ (1440 < u7) := by simpa using hh
                          clear hh
                          refine gw_skip ?_
                          refine nx_blk_nrm ?_
                          refine nx_then ?_
                          refine gw_region ?_
                          have hw3 : winBad u6 u7 = false := by unfold winBad; simp at hg3; simp [hg3]; omega
                          refine wl_ov (ov_add rfl rfl (by omega) (by omega)) rfl ?_
                          refine wl_set 45 (v' := .int .i64 4) rfl rfl ?_
                          refine wl_ov (ov_move rfl) rfl ?_
                          refine wl_nil ?_
                          refine nx_next ?_
                          refine gr_next ?_
                          refine gw_seq ?_
                          refine gw_region ?_
                          refine wl_ov (ov_lss rfl rfl) rfl ?_
                          refine wl_set 32 (v' := .bool true) rfl (congrArg Value.bool (by decide)) ?_
                          refine wl_nil ?_
                          refine nx_then ?_
                          refine gw_seq ?_
                          refine gw_cond rfl (fun _ => ?_) (fun hh => by cases hh)
                          refine gw_skip ?_
                          refine nx_then ?_
                          refine gw_seq ?_
                          refine gw_block ?_
                          refine gw_seq ?_
                          refine gw_region ?_
                          refine wl_ov (ov_indexA (e := 31) (len := 7) (sz := 2) (i := 4) (cs := [.int .i64 u0, .int .i64 u1, .int .i64 u2, .int .i64 u3, .int .i64 u4, .int .i64 u5, .int .i64 u6, .int .i64 u7, .int .i64 u8, .int .i64 u9, .int .i64 u10, .int .i64 u11, .int .i64 u12, .int .i64 u13]) (vs := [.int .i64 u8, .int .i64 u9]) (by kernel_rfl) rfl rfl (by decide) rfl) rfl ?_
                          refine wl_alloc zc31 rfl fun g6 => ?_
                          refine wl_stores (cs' := [.int .i64 u8, .int .i64 u9]) 0 rz31 rfl rfl rfl rfl rfl rfl rfl rfl ?_
                          refine wl_nil ?_
                          refine nx_then ?_
                          refine gw_seq ?_
                          refine gw_region ?_
                          refine wl_ov (ov_field fo31_0 rfl rfl) rfl ?_
                          refine wl_ov (ov_load sc3 rfl (fun _ hm => hm.blkI 0 rfl) rfl) rfl ?_
                          refine wl_ov (ov_field fo31_1 rfl rfl) rfl ?_
                          refine wl_ov (ov_load sc3 rfl (fun _ hm => hm.blkI 0 rfl) rfl) rfl ?_
                          refine wl_callw rfl cb58 rfl rfl (fun wx hm => (rin_any _ _ _ wx)) ?_
                          refine wl_ov (ov_un_not rfl) rfl ?_
                          refine wl_ov (ov_move rfl) rfl ?_
                          rcases Bool.eq_false_or_eq_true (!(inB u8 0 u9)) with hg4 | hg4
                          · refine wl_set 40 rfl (congrArg Value.bool hg4) ?_
                            have hw4 : winBad u8 u9 = true := by unfold winBad; simp [hg4]
                            refine wl_guard_off rfl rfl rfl (by decide) rfl ?_
                            refine wl_guard_off rfl rfl rfl (by decide) rfl ?_
                            refine wl_guard_off rfl rfl rfl (by decide) rfl ?_
                            refine wl_ov (ov_pick_t rfl rfl) rfl ?_
                            refine wl_nil ?_
                            refine nx_then ?_
                            refine gw_cond rfl (fun _ => ?_) (fun hh => by cases hh)
                            refine gw_seq ?_
                            refine gw_region ?_
                            refine wl_ov (ov_assign rfl) rfl ?_
                            refine wl_nil ?_
                            refine nx_then ?_
                            refine gw_ret ?_
                            refine nx_blk_ret ?_
                            refine nx_then_ret ?_
                            refine nx_then_ret ?_
                            refine nx_blk_ret ?_
                            refine nx_blk_ret ?_
                            refine nx_then_ret ?_
                            refine nx_then_ret ?_
                            refine nx_blk_ret ?_
                            refine nx_then_ret ?_
                            have hE : stationE (prevOf l k) ⟨key, [u0, u1, u2, u3, u4, u5, u6, u7, u8, u9, u10, u11, u12, u13]⟩ = 1 := by rw [hE0]; simp [hw0, hw1, hw2, hw3, hw4]
                            refine nx_ret1 rfl rfl fun wx hm => ?_
                            exact ⟨ret_int (by rw [hse, hinv.2, hat, if_neg (by rw [hE]; decide), hE]), hm.g⟩
                          · refine wl_set 40 rfl (congrArg Value.bool hg4) ?_
                            refine wl_guard_on rfl rfl rfl ?_
                            refine wl_ov (ov_field fo31_1 rfl rfl) rfl ?_
                            refine wl_guard_on rfl rfl rfl ?_
                            refine wl_ov (ov_load sc3 rfl (fun _ hm => hm.blkI 0 rfl) rfl) rfl ?_
                            refine wl_guard_on rfl rfl rfl ?_
                            refine wl_ov (ov_gtr rfl rfl) rfl ?_
                            refine wl_ov (ov_pick_f rfl rfl) rfl ?_
                            refine wl_nil ?_
                            refine nx_then ?_
                            refine gw_cond rfl (fun hh => ?_) (fun hh => ?_)
                            · have hh4 : 1440 < u9 := by simpa using hh
                              clear hh
                              refine gw_seq ?_
                              refine gw_region ?_
                              have hw4 : winBad u8 u9 = true := by unfold winBad; simp [hg4, hh4]
                              refine wl_ov (ov_assign rfl) rfl ?_
                              refine wl_nil ?_
                              refine nx_then ?_
                              refine gw_ret ?_
                              refine nx_blk_ret ?_
                              refine nx_then_ret ?_
                              refine nx_then_ret ?_
                              refine nx_blk_ret ?_
                              refine nx_blk_ret ?_
                              refine nx_then_ret ?_
                              refine nx_then_ret ?_
                              refine nx_blk_ret ?_
                              refine nx_then_ret ?_
                              have hE : stationE (prevOf l k) ⟨key, [u0, u1, u2, u3, u4, u5, u6, u7, u8, u9, u10, u11, u12, u13]⟩ = 1 := by rw [hE0]; simp [hw0, hw1, hw2, hw3, hw4]
                              refine nx_ret1 rfl rfl fun wx hm => ?_
                              exact ⟨ret_int (by rw [hse, hinv.2, hat, if_neg (by rw [hE]; decide), hE]), hm.g⟩
                            · have hh4 : ¬ (1440 < u9) := by simpa using hh
                              clear hh
                              refine gw_skip ?_
                              refine nx_blk_nrm ?_
                              refine nx_then ?_
                              refine gw_region ?_
                              have hw4 : winBad u8 u9 = false := by unfold winBad; simp at hg4; simp [hg4]; omega
                              refine wl_ov (ov_add rfl rfl (by omega) (by omega)) rfl ?_
                              refine wl_set 45 (v' := .int .i64 5) rfl rfl ?_
                              refine wl_ov (ov_move rfl) rfl ?_
                              refine wl_nil ?_
                              refine nx_next ?_
                              refine gr_next ?_
                              refine gw_seq ?_
                              refine gw_region ?_
                              refine wl_ov (ov_lss rfl rfl) rfl ?_
                              refine wl_set 32 (v' := .bool true) rfl (congrArg Value.bool (by decide)) ?_
                              refine wl_nil ?_
                              refine nx_then ?_
                              refine gw_seq ?_
                              refine gw_cond rfl (fun _ => ?_) (fun hh => by cases hh)
                              refine gw_skip ?_
                              refine nx_then ?_
                              refine gw_seq ?_
                              refine gw_block ?_
                              refine gw_seq ?_
                              refine gw_region ?_
                              refine wl_ov (ov_indexA (e := 31) (len := 7) (sz := 2) (i := 5) (cs := [.int .i64 u0, .int .i64 u1, .int .i64 u2, .int .i64 u3, .int .i64 u4, .int .i64 u5, .int .i64 u6, .int .i64 u7, .int .i64 u8, .int .i64 u9, .int .i64 u10, .int .i64 u11, .int .i64 u12, .int .i64 u13]) (vs := [.int .i64 u10, .int .i64 u11]) (by kernel_rfl) rfl rfl (by decide) rfl) rfl ?_
                              refine wl_alloc zc31 rfl fun g7 => ?_
                              refine wl_stores (cs' := [.int .i64 u10, .int .i64 u11]) 0 rz31 rfl rfl rfl rfl rfl rfl rfl rfl ?_
                              refine wl_nil ?_
                              refine nx_then ?_
                              refine gw_seq ?_
                              refine gw_region ?_
                              refine wl_ov (ov_field fo31_0 rfl rfl) rfl ?_
                              refine wl_ov (ov_load sc3 rfl (fun _ hm => hm.blkI 0 rfl) rfl) rfl ?_
                              refine wl_ov (ov_field fo31_1 rfl rfl) rfl ?_
                              refine wl_ov (ov_load sc3 rfl (fun _ hm => hm.blkI 0 rfl) rfl) rfl ?_
                              refine wl_callw rfl cb58 rfl rfl (fun wx hm => (rin_any _ _ _ wx)) ?_
                              refine wl_ov (ov_un_not rfl) rfl ?_
                              refine wl_ov (ov_move rfl) rfl ?_
                              rcases Bool.eq_false_or_eq_true (!(inB u10 0 u11)) with hg5 | hg5
                              · refine wl_set 40 rfl (congrArg Value.bool hg5) ?_
                                have hw5 : winBad u10 u11 = true := by unfold winBad; simp [hg5]
                                refine wl_guard_off rfl rfl rfl (by decide) rfl ?_
                                refine wl_guard_off rfl rfl rfl (by decide) rfl ?_
                                refine wl_guard_off rfl rfl rfl (by decide) rfl ?_
                                refine wl_ov (ov_pick_t rfl rfl) rfl ?_
                                refine wl_nil ?_
                                refine nx_then ?_
                                refine gw_cond rfl (fun _ => ?_) (fun hh => by cases hh)
                                refine gw_seq ?_
                                refine gw_region ?_
                                refine wl_ov (ov_assign rfl) rfl ?_
                                refine wl_nil ?_
                                refine nx_then ?_
                                refine gw_ret ?_
                                refine nx_blk_ret ?_
                                refine nx_then_ret ?_
                                refine nx_then_ret ?_
                                refine nx_blk_ret ?_
                                refine nx_blk_ret ?_
                                refine nx_then_ret ?_
                                refine nx_then_ret ?_
                                refine nx_blk_ret ?_
                                refine nx_then_ret ?_
                                have hE : stationE (prevOf l k) ⟨key, [u0, u1, u2, u3, u4, u5, u6, u7, u8, u9, u10, u11, u12, u13]⟩ = 1 := by rw [hE0]; simp [hw0, hw1, hw2, hw3, hw4, hw5]
                                refine nx_ret1 rfl rfl fun wx hm => ?_
                                exact ⟨ret_int (by rw [hse, hinv.2, hat, if_neg (by rw [hE]; decide), hE]), hm.g⟩
                              · refine wl_set 40 rfl (congrArg Value.bool hg5) ?_
                                refine wl_guard_on rfl rfl rfl ?_
                                refine wl_ov (ov_field fo31_1 rfl rfl) rfl ?_
                                refine wl_guard_on rfl rfl rfl ?_
                                refine wl_ov (ov_load sc3 rfl (fun _ hm => hm.blkI 0 rfl) rfl) rfl ?_
                                refine wl_guard_on rfl rfl rfl ?_
                                refine wl_ov (ov_gtr rfl rfl) rfl ?_
                                refine wl_ov (ov_pick_f rfl rfl) rfl ?_
                                refine wl_nil ?_
                                refine nx_then ?_
                                refine gw_cond rfl (fun hh => ?_) (fun hh => ?_)
                                · have hh5 : 1440 < u11 := by simpa using hh
                                  clear hh
                                  refine gw_seq ?_
                                  refine gw_region ?_
                                  have hw5 : winBad u10 u11 = true := by unfold winBad; simp [hg5, hh5]
                                  refine wl_ov (ov_assign rfl) rfl ?_
                                  refine wl_nil ?_
                                  refine nx_then ?_
                                  refine gw_ret ?_
                                  refine nx_blk_ret ?_
                                  refine nx_then_ret ?_
                                  refine nx_then_ret ?_
                                  refine nx_blk_ret ?_
                                  refine nx_blk_ret ?_
                                  refine nx_then_ret ?_
                                  refine nx_then_ret ?_
                                  refine nx_blk_ret ?_
                                  refine nx_then_ret ?_
                                  have hE : stationE (prevOf l k) ⟨key, [u0, u1, u2, u3, u4, u5, u6, u7, u8, u9, u10, u11, u12, u13]⟩ = 1 := by rw [hE0]; simp [hw0, hw1, hw2, hw3, hw4, hw5]
                                  refine nx_ret1 rfl rfl fun wx hm => ?_
                                  exact ⟨ret_int (by rw [hse, hinv.2, hat, if_neg (by rw [hE]; decide), hE]), hm.g⟩
                                · have hh5 : ¬ (1440 < u11) := by simpa using hh
                                  clear hh
                                  refine gw_skip ?_
                                  refine nx_blk_nrm ?_
                                  refine nx_then ?_
                                  refine gw_region ?_
                                  have hw5 : winBad u10 u11 = false := by unfold winBad; simp at hg5; simp [hg5]; omega
                                  refine wl_ov (ov_add rfl rfl (by omega) (by omega)) rfl ?_
                                  refine wl_set 45 (v' := .int .i64 6) rfl rfl ?_
                                  refine wl_ov (ov_move rfl) rfl ?_
                                  refine wl_nil ?_
                                  refine nx_next ?_
                                  refine gr_next ?_
                                  refine gw_seq ?_
                                  refine gw_region ?_
                                  refine wl_ov (ov_lss rfl rfl) rfl ?_
                                  refine wl_set 32 (v' := .bool true) rfl (congrArg Value.bool (by decide)) ?_
                                  refine wl_nil ?_
                                  refine nx_then ?_
                                  refine gw_seq ?_
                                  refine gw_cond rfl (fun _ => ?_) (fun hh => by cases hh)
                                  refine gw_skip ?_
                                  refine nx_then ?_
                                  refine gw_seq ?_
                                  refine gw_block ?_
                                  refine gw_seq ?_
                                  refine gw_region ?_
                                  refine wl_ov (ov_indexA (e := 31) (len := 7) (sz := 2) (i := 6) (cs := [.int .i64 u0, .int .i64 u1, .int .i64 u2, .int .i64 u3, .int .i64 u4, .int .i64 u5, .int .i64 u6, .int .i64 u7, .int .i64 u8, .int .i64 u9, .int .i64 u10, .int .i64 u11, .int .i64 u12, .int .i64 u13]) (vs := [.int .i64 u12, .int .i64 u13]) (by kernel_rfl) rfl rfl (by decide) rfl) rfl ?_
                                  refine wl_alloc zc31 rfl fun g8 => ?_
                                  refine wl_stores (cs' := [.int .i64 u12, .int .i64 u13]) 0 rz31 rfl rfl rfl rfl rfl rfl rfl rfl ?_
                                  refine wl_nil ?_
                                  refine nx_then ?_
                                  refine gw_seq ?_
                                  refine gw_region ?_
                                  refine wl_ov (ov_field fo31_0 rfl rfl) rfl ?_
                                  refine wl_ov (ov_load sc3 rfl (fun _ hm => hm.blkI 0 rfl) rfl) rfl ?_
                                  refine wl_ov (ov_field fo31_1 rfl rfl) rfl ?_
                                  refine wl_ov (ov_load sc3 rfl (fun _ hm => hm.blkI 0 rfl) rfl) rfl ?_
                                  refine wl_callw rfl cb58 rfl rfl (fun wx hm => (rin_any _ _ _ wx)) ?_
                                  refine wl_ov (ov_un_not rfl) rfl ?_
                                  refine wl_ov (ov_move rfl) rfl ?_
                                  rcases Bool.eq_false_or_eq_true (!(inB u12 0 u13)) with hg6 | hg6
                                  · refine wl_set 40 rfl (congrArg Value.bool hg6) ?_
                                    have hw6 : winBad u12 u13 = true := by unfold winBad; simp [hg6]
                                    refine wl_guard_off rfl rfl rfl (by decide) rfl ?_
                                    refine wl_guard_off rfl rfl rfl (by decide) rfl ?_
                                    refine wl_guard_off rfl rfl rfl (by decide) rfl ?_
                                    refine wl_ov (ov_pick_t rfl rfl) rfl ?_
                                    refine wl_nil ?_
                                    refine nx_then ?_
                                    refine gw_cond rfl (fun _ => ?_) (fun hh => by cases hh)
                                    refine gw_seq ?_
                                    refine gw_region ?_
                                    refine wl_ov (ov_assign rfl) rfl ?_
                                    refine wl_nil ?_
                                    refine nx_then ?_
                                    refine gw_ret ?_
                                    refine nx_blk_ret ?_
                                    refine nx_then_ret ?_
                                    refine nx_then_ret ?_
                                    refine nx_blk_ret ?_
                                    refine nx_blk_ret ?_
                                    refine nx_then_ret ?_
                                    refine nx_then_ret ?_
                                    refine nx_blk_ret ?_
                                    refine nx_then_ret ?_
                                    have hE : stationE (prevOf l k) ⟨key, [u0, u1, u2, u3, u4, u5, u6, u7, u8, u9, u10, u11, u12, u13]⟩ = 1 := by rw [hE0]; simp [hw0, hw1, hw2, hw3, hw4, hw5, hw6]
                                    refine nx_ret1 rfl rfl fun wx hm => ?_
                                    exact ⟨ret_int (by rw [hse, hinv.2, hat, if_neg (by rw [hE]; decide), hE]), hm.g⟩
                                  · refine wl_set 40 rfl (congrArg Value.bool hg6) ?_
                                    refine wl_guard_on rfl rfl rfl ?_
                                    refine wl_ov (ov_field fo31_1 rfl rfl) rfl ?_
                                    refine wl_guard_on rfl rfl rfl ?_
                                    refine wl_ov (ov_load sc3 rfl (fun _ hm => hm.blkI 0 rfl) rfl) rfl ?_
                                    refine wl_guard_on rfl rfl rfl ?_
                                    refine wl_ov (ov_gtr rfl rfl) rfl ?_
                                    refine wl_ov (ov_pick_f rfl rfl) rfl ?_
                                    refine wl_nil ?_
                                    refine nx_then ?_
                                    refine gw_cond rfl (fun hh => ?_) (fun hh => ?_)
                                    · have hh6 : 1440 < u13 := by simpa using hh
                                      clear hh
                                      refine gw_seq ?_
                                      refine gw_region ?_
                                      have hw6 : winBad u12 u13 = true := by unfold winBad; simp [hg6, hh6]
                                      refine wl_ov (ov_assign rfl) rfl ?_
                                      refine wl_nil ?_
                                      refine nx_then ?_
                                      refine gw_ret ?_
                                      refine nx_blk_ret ?_
                                      refine nx_then_ret ?_
                                      refine nx_then_ret ?_
                                      refine nx_blk_ret ?_
                                      refine nx_blk_ret ?_
                                      refine nx_then_ret ?_
                                      refine nx_then_ret ?_
                                      refine nx_blk_ret ?_
                                      refine nx_then_ret ?_
                                      have hE : stationE (prevOf l k) ⟨key, [u0, u1, u2, u3, u4, u5, u6, u7, u8, u9, u10, u11, u12, u13]⟩ = 1 := by rw [hE0]; simp [hw0, hw1, hw2, hw3, hw4, hw5, hw6]
                                      refine nx_ret1 rfl rfl fun wx hm => ?_
                                      exact ⟨ret_int (by rw [hse, hinv.2, hat, if_neg (by rw [hE]; decide), hE]), hm.g⟩
                                    · have hh6 : ¬ (1440 < u13) := by simpa using hh
                                      clear hh
                                      refine gw_skip ?_
                                      refine nx_blk_nrm ?_
                                      refine nx_then ?_
                                      refine gw_region ?_
                                      have hw6 : winBad u12 u13 = false := by unfold winBad; simp at hg6; simp [hg6]; omega
                                      have hE : stationE (prevOf l k) ⟨key, [u0, u1, u2, u3, u4, u5, u6, u7, u8, u9, u10, u11, u12, u13]⟩ = 0 := by rw [hE0]; simp [hw0, hw1, hw2, hw3, hw4, hw5, hw6]
                                      refine wl_ov (ov_add rfl rfl (by omega) (by omega)) rfl ?_
                                      refine wl_set 45 (v' := .int .i64 7) rfl rfl ?_
                                      refine wl_ov (ov_move rfl) rfl ?_
                                      refine wl_nil ?_
                                      refine nx_next ?_
                                      refine gr_next ?_
                                      refine gw_seq ?_
                                      refine gw_region ?_
                                      refine wl_ov (ov_lss rfl rfl) rfl ?_
                                      refine wl_set 32 (v' := .bool false) rfl (congrArg Value.bool (by decide)) ?_
                                      refine wl_nil ?_
                                      refine nx_then ?_
                                      refine gw_seq ?_
                                      refine gw_cond rfl (fun hh => by cases hh) (fun _ => ?_)
                                      refine gw_exit ?_
                                      refine nx_then_exit ?_
                                      refine nx_then_exit ?_
                                      refine nx_blk_here ?_
                                      refine nx_blk_nrm ?_
                                      refine nx_then ?_
                                      refine gw_region ?_
                                      refine wl_ov (ov_add rfl rfl (by omega) (by omega)) rfl ?_
                                      refine wl_ov (ov_move rfl) rfl ?_
                                      refine wl_nil ?_
                                      exact nx_round (k + 1) ⟨by omega, by rw [hinv.2, hat, if_pos hE]⟩ (by omega) ⟨(congrArg (fun z => some (Value.string z)) (prevSt_succ hx).symm), rfl, rfl, (some_int (by omega)), trivial⟩ (fun _ hm => hm.pick [] [] [0] rfl rfl)
    · have hk : ¬ (((k : Nat) : Int) < ((n : Nat) : Int)) := by simpa using hh
      clear hh
      refine gw_exit ?_
      refine nx_then_exit ?_
      refine nx_then_exit ?_
      refine nx_blk_here ?_
      refine nx_then ?_
      refine gw_seq ?_
      refine gw_region ?_
      refine wl_ov (ov_assign rfl) rfl ?_
      refine wl_nil ?_
      refine nx_then ?_
      refine gw_ret ?_
      refine nx_ret1 rfl rfl fun wx hm => ?_
      exact ⟨ret_int (by rw [hse, hinv.2, scanE_end _ _ _ _ (by omega)]), hm.g⟩

set_option maxRecDepth 100000 in
set_option maxHeartbeats 1000000 in
theorem openAt_any (key : ByteArray) (u0 u1 u2 u3 u4 u5 u6 u7 u8 u9 u10 u11 u12 u13 : Int) (at_ : Int) (w : World) (ho : HrsOk [u0, u1, u2, u3, u4, u5, u6, u7, u8, u9, u10, u11, u12, u13]) (h0_ : 0 ≤ at_) (h1_ : at_ ≤ 5761439) :
    Calls Tryd.prog 33 #[.agg #[.string key, .int .i64 u0, .int .i64 u1, .int .i64 u2, .int .i64 u3, .int .i64 u4, .int .i64 u5, .int .i64 u6, .int .i64 u7, .int .i64 u8, .int .i64 u9, .int .i64 u10, .int .i64 u11, .int .i64 u12, .int .i64 u13], .int .i64 at_] w (fun e w' => e = .returned (.bool (openV [u0, u1, u2, u3, u4, u5, u6, u7, u8, u9, u10, u11, u12, u13] at_)) ∧ w.grownBy w' none) := by
  refine gw_enter ⟨20, w, none, []⟩ Tryd.func33 rfl Tryd.ntmps33 rfl (mem0 (X := []) allF_nil allL_nil) ?_
  refine gw_seq ?_
  refine gw_region ?_
  have q0 : 0 ≤ u0 ∧ u0 ≤ u1 ∧ u1 ≤ 1440 := ho 0
  have q1 : 0 ≤ u2 ∧ u2 ≤ u3 ∧ u3 ≤ 1440 := ho 1
  have q2 : 0 ≤ u4 ∧ u4 ≤ u5 ∧ u5 ≤ 1440 := ho 2
  have q3 : 0 ≤ u6 ∧ u6 ≤ u7 ∧ u7 ≤ 1440 := ho 3
  have q4 : 0 ≤ u8 ∧ u8 ≤ u9 ∧ u9 ≤ 1440 := ho 4
  have q5 : 0 ≤ u10 ∧ u10 ≤ u11 ∧ u11 ≤ 1440 := ho 5
  have q6 : 0 ≤ u12 ∧ u12 ≤ u13 ∧ u13 ≤ 1440 := ho 6
  have hjc : at_ / 1440 % 7 = 0 ∨ at_ / 1440 % 7 = 1 ∨ at_ / 1440 % 7 = 2 ∨ at_ / 1440 % 7 = 3 ∨ at_ / 1440 % 7 = 4 ∨ at_ / 1440 % 7 = 5 ∨ at_ / 1440 % 7 = 6 := by omega
  rcases hjc with hjc | hjc | hjc | hjc | hjc | hjc | hjc
  · have hfr : frD [u0, u1, u2, u3, u4, u5, u6, u7, u8, u9, u10, u11, u12, u13] (at_ / 1440) = u0 := by unfold frD; rw [hjc]; rfl
    have hto : toD [u0, u1, u2, u3, u4, u5, u6, u7, u8, u9, u10, u11, u12, u13] (at_ / 1440) = u1 := by unfold toD; rw [hjc]; rfl
    refine wl_box rfl rfl rfl fun g1 => ?_
    refine wl_ov (ov_assign rfl) rfl ?_
    refine wl_nil ?_
    refine nx_then ?_
    refine gw_seq ?_
    refine gw_region ?_
    refine wl_ov (ov_move rfl) rfl ?_
    refine wl_ov (ov_quo rfl rfl (by omega) (by omega) (by omega)) rfl ?_
    refine wl_ov (ov_rem rfl rfl (by omega) (by omega) (by omega)) rfl ?_
    refine wl_set 8 (v' := .int .i64 0) rfl (congrArg (Value.int .i64) hjc) ?_
    refine wl_ov (ov_field fo56_1 rfl rfl) rfl ?_
    refine wl_ov (ov_indexP (j := 0) ar54 rfl rfl (by decide) rfl) rfl ?_
    refine wl_ov (ov_loads rz31 rfl (fun _ hm => hm.blkI 0 rfl) rfl rfl) rfl ?_
    refine wl_alloc zc31 rfl fun g2 => ?_
    refine wl_stores (cs' := [.int .i64 u0, .int .i64 u1]) 0 rz31 rfl rfl rfl rfl rfl rfl rfl rfl ?_
    refine wl_nil ?_
    refine nx_then ?_
    refine gw_seq ?_
    refine gw_region ?_
    refine wl_ov (ov_move rfl) rfl ?_
    refine wl_ov (ov_rem rfl rfl (by omega) (by omega) (by omega)) rfl ?_
    refine wl_ov (ov_field fo31_0 rfl rfl) rfl ?_
    refine wl_ov (ov_load sc3 rfl (fun _ hm => hm.blkI 0 rfl) rfl) rfl ?_
    refine wl_ov (ov_field fo31_1 rfl rfl) rfl ?_
    refine wl_ov (ov_load sc3 rfl (fun _ hm => hm.blkI 0 rfl) rfl) rfl ?_
    refine wl_ov (ov_sub rfl rfl (by omega) (by omega)) rfl ?_
    refine wl_callw rfl cb58 rfl rfl (fun wx hm => (rin_any _ _ _ wx)) ?_
    refine wl_ov (ov_assign rfl) rfl ?_
    refine wl_nil ?_
    refine nx_then ?_
    refine gw_ret ?_
    refine nx_ret1 rfl rfl fun wx hm => ?_
    exact ⟨by unfold openV; rw [hfr, hto], hm.g⟩
  · have hfr : frD [u0, u1, u2, u3, u4, u5, u6, u7, u8, u9, u10, u11, u12, u13] (at_ / 1440) = u2 := by unfold frD; rw [hjc]; rfl
    have hto : toD [u0, u1, u2, u3, u4, u5, u6, u7, u8, u9, u10, u11, u12, u13] (at_ / 1440) = u3 := by unfold toD; rw [hjc]; rfl
    refine wl_box rfl rfl rfl fun g3 => ?_
    refine wl_ov (ov_assign rfl) rfl ?_
    refine wl_nil ?_
    refine nx_then ?_
    refine gw_seq ?_
    refine gw_region ?_
    refine wl_ov (ov_move rfl) rfl ?_
    refine wl_ov (ov_quo rfl rfl (by omega) (by omega) (by omega)) rfl ?_
    refine wl_ov (ov_rem rfl rfl (by omega) (by omega) (by omega)) rfl ?_
    refine wl_set 8 (v' := .int .i64 1) rfl (congrArg (Value.int .i64) hjc) ?_
    refine wl_ov (ov_field fo56_1 rfl rfl) rfl ?_
    refine wl_ov (ov_indexP (j := 1) ar54 rfl rfl (by decide) rfl) rfl ?_
    refine wl_ov (ov_loads rz31 rfl (fun _ hm => hm.blkI 0 rfl) rfl rfl) rfl ?_
    refine wl_alloc zc31 rfl fun g4 => ?_
    refine wl_stores (cs' := [.int .i64 u2, .int .i64 u3]) 0 rz31 rfl rfl rfl rfl rfl rfl rfl rfl ?_
    refine wl_nil ?_
    refine nx_then ?_
    refine gw_seq ?_
    refine gw_region ?_
    refine wl_ov (ov_move rfl) rfl ?_
    refine wl_ov (ov_rem rfl rfl (by omega) (by omega) (by omega)) rfl ?_
    refine wl_ov (ov_field fo31_0 rfl rfl) rfl ?_
    refine wl_ov (ov_load sc3 rfl (fun _ hm => hm.blkI 0 rfl) rfl) rfl ?_
    refine wl_ov (ov_field fo31_1 rfl rfl) rfl ?_
    refine wl_ov (ov_load sc3 rfl (fun _ hm => hm.blkI 0 rfl) rfl) rfl ?_
    refine wl_ov (ov_sub rfl rfl (by omega) (by omega)) rfl ?_
    refine wl_callw rfl cb58 rfl rfl (fun wx hm => (rin_any _ _ _ wx)) ?_
    refine wl_ov (ov_assign rfl) rfl ?_
    refine wl_nil ?_
    refine nx_then ?_
    refine gw_ret ?_
    refine nx_ret1 rfl rfl fun wx hm => ?_
    exact ⟨by unfold openV; rw [hfr, hto], hm.g⟩
  · have hfr : frD [u0, u1, u2, u3, u4, u5, u6, u7, u8, u9, u10, u11, u12, u13] (at_ / 1440) = u4 := by unfold frD; rw [hjc]; rfl
    have hto : toD [u0, u1, u2, u3, u4, u5, u6, u7, u8, u9, u10, u11, u12, u13] (at_ / 1440) = u5 := by unfold toD; rw [hjc]; rfl
    refine wl_box rfl rfl rfl fun g5 => ?_
    refine wl_ov (ov_assign rfl) rfl ?_
    refine wl_nil ?_
    refine nx_then ?_
    refine gw_seq ?_
    refine gw_region ?_
    refine wl_ov (ov_move rfl) rfl ?_
    refine wl_ov (ov_quo rfl rfl (by omega) (by omega) (by omega)) rfl ?_
    refine wl_ov (ov_rem rfl rfl (by omega) (by omega) (by omega)) rfl ?_
    refine wl_set 8 (v' := .int .i64 2) rfl (congrArg (Value.int .i64) hjc) ?_
    refine wl_ov (ov_field fo56_1 rfl rfl) rfl ?_
    refine wl_ov (ov_indexP (j := 2) ar54 rfl rfl (by decide) rfl) rfl ?_
    refine wl_ov (ov_loads rz31 rfl (fun _ hm => hm.blkI 0 rfl) rfl rfl) rfl ?_
    refine wl_alloc zc31 rfl fun g6 => ?_
    refine wl_stores (cs' := [.int .i64 u4, .int .i64 u5]) 0 rz31 rfl rfl rfl rfl rfl rfl rfl rfl ?_
    refine wl_nil ?_
    refine nx_then ?_
    refine gw_seq ?_
    refine gw_region ?_
    refine wl_ov (ov_move rfl) rfl ?_
    refine wl_ov (ov_rem rfl rfl (by omega) (by omega) (by omega)) rfl ?_
    refine wl_ov (ov_field fo31_0 rfl rfl) rfl ?_
    refine wl_ov (ov_load sc3 rfl (fun _ hm => hm.blkI 0 rfl) rfl) rfl ?_
    refine wl_ov (ov_field fo31_1 rfl rfl) rfl ?_
    refine wl_ov (ov_load sc3 rfl (fun _ hm => hm.blkI 0 rfl) rfl) rfl ?_
    refine wl_ov (ov_sub rfl rfl (by omega) (by omega)) rfl ?_
    refine wl_callw rfl cb58 rfl rfl (fun wx hm => (rin_any _ _ _ wx)) ?_
    refine wl_ov (ov_assign rfl) rfl ?_
    refine wl_nil ?_
    refine nx_then ?_
    refine gw_ret ?_
    refine nx_ret1 rfl rfl fun wx hm => ?_
    exact ⟨by unfold openV; rw [hfr, hto], hm.g⟩
  · have hfr : frD [u0, u1, u2, u3, u4, u5, u6, u7, u8, u9, u10, u11, u12, u13] (at_ / 1440) = u6 := by unfold frD; rw [hjc]; rfl
    have hto : toD [u0, u1, u2, u3, u4, u5, u6, u7, u8, u9, u10, u11, u12, u13] (at_ / 1440) = u7 := by unfold toD; rw [hjc]; rfl
    refine wl_box rfl rfl rfl fun g7 => ?_
    refine wl_ov (ov_assign rfl) rfl ?_
    refine wl_nil ?_
    refine nx_then ?_
    refine gw_seq ?_
    refine gw_region ?_
    refine wl_ov (ov_move rfl) rfl ?_
    refine wl_ov (ov_quo rfl rfl (by omega) (by omega) (by omega)) rfl ?_
    refine wl_ov (ov_rem rfl rfl (by omega) (by omega) (by omega)) rfl ?_
    refine wl_set 8 (v' := .int .i64 3) rfl (congrArg (Value.int .i64) hjc) ?_
    refine wl_ov (ov_field fo56_1 rfl rfl) rfl ?_
    refine wl_ov (ov_indexP (j := 3) ar54 rfl rfl (by decide) rfl) rfl ?_
    refine wl_ov (ov_loads rz31 rfl (fun _ hm => hm.blkI 0 rfl) rfl rfl) rfl ?_
    refine wl_alloc zc31 rfl fun g8 => ?_
    refine wl_stores (cs' := [.int .i64 u6, .int .i64 u7]) 0 rz31 rfl rfl rfl rfl rfl rfl rfl rfl ?_
    refine wl_nil ?_
    refine nx_then ?_
    refine gw_seq ?_
    refine gw_region ?_
    refine wl_ov (ov_move rfl) rfl ?_
    refine wl_ov (ov_rem rfl rfl (by omega) (by omega) (by omega)) rfl ?_
    refine wl_ov (ov_field fo31_0 rfl rfl) rfl ?_
    refine wl_ov (ov_load sc3 rfl (fun _ hm => hm.blkI 0 rfl) rfl) rfl ?_
    refine wl_ov (ov_field fo31_1 rfl rfl) rfl ?_
    refine wl_ov (ov_load sc3 rfl (fun _ hm => hm.blkI 0 rfl) rfl) rfl ?_
    refine wl_ov (ov_sub rfl rfl (by omega) (by omega)) rfl ?_
    refine wl_callw rfl cb58 rfl rfl (fun wx hm => (rin_any _ _ _ wx)) ?_
    refine wl_ov (ov_assign rfl) rfl ?_
    refine wl_nil ?_
    refine nx_then ?_
    refine gw_ret ?_
    refine nx_ret1 rfl rfl fun wx hm => ?_
    exact ⟨by unfold openV; rw [hfr, hto], hm.g⟩
  · have hfr : frD [u0, u1, u2, u3, u4, u5, u6, u7, u8, u9, u10, u11, u12, u13] (at_ / 1440) = u8 := by unfold frD; rw [hjc]; rfl
    have hto : toD [u0, u1, u2, u3, u4, u5, u6, u7, u8, u9, u10, u11, u12, u13] (at_ / 1440) = u9 := by unfold toD; rw [hjc]; rfl
    refine wl_box rfl rfl rfl fun g9 => ?_
    refine wl_ov (ov_assign rfl) rfl ?_
    refine wl_nil ?_
    refine nx_then ?_
    refine gw_seq ?_
    refine gw_region ?_
    refine wl_ov (ov_move rfl) rfl ?_
    refine wl_ov (ov_quo rfl rfl (by omega) (by omega) (by omega)) rfl ?_
    refine wl_ov (ov_rem rfl rfl (by omega) (by omega) (by omega)) rfl ?_
    refine wl_set 8 (v' := .int .i64 4) rfl (congrArg (Value.int .i64) hjc) ?_
    refine wl_ov (ov_field fo56_1 rfl rfl) rfl ?_
    refine wl_ov (ov_indexP (j := 4) ar54 rfl rfl (by decide) rfl) rfl ?_
    refine wl_ov (ov_loads rz31 rfl (fun _ hm => hm.blkI 0 rfl) rfl rfl) rfl ?_
    refine wl_alloc zc31 rfl fun g10 => ?_
    refine wl_stores (cs' := [.int .i64 u8, .int .i64 u9]) 0 rz31 rfl rfl rfl rfl rfl rfl rfl rfl ?_
    refine wl_nil ?_
    refine nx_then ?_
    refine gw_seq ?_
    refine gw_region ?_
    refine wl_ov (ov_move rfl) rfl ?_
    refine wl_ov (ov_rem rfl rfl (by omega) (by omega) (by omega)) rfl ?_
    refine wl_ov (ov_field fo31_0 rfl rfl) rfl ?_
    refine wl_ov (ov_load sc3 rfl (fun _ hm => hm.blkI 0 rfl) rfl) rfl ?_
    refine wl_ov (ov_field fo31_1 rfl rfl) rfl ?_
    refine wl_ov (ov_load sc3 rfl (fun _ hm => hm.blkI 0 rfl) rfl) rfl ?_
    refine wl_ov (ov_sub rfl rfl (by omega) (by omega)) rfl ?_
    refine wl_callw rfl cb58 rfl rfl (fun wx hm => (rin_any _ _ _ wx)) ?_
    refine wl_ov (ov_assign rfl) rfl ?_
    refine wl_nil ?_
    refine nx_then ?_
    refine gw_ret ?_
    refine nx_ret1 rfl rfl fun wx hm => ?_
    exact ⟨by unfold openV; rw [hfr, hto], hm.g⟩
  · have hfr : frD [u0, u1, u2, u3, u4, u5, u6, u7, u8, u9, u10, u11, u12, u13] (at_ / 1440) = u10 := by unfold frD; rw [hjc]; rfl
    have hto : toD [u0, u1, u2, u3, u4, u5, u6, u7, u8, u9, u10, u11, u12, u13] (at_ / 1440) = u11 := by unfold toD; rw [hjc]; rfl
    refine wl_box rfl rfl rfl fun g11 => ?_
    refine wl_ov (ov_assign rfl) rfl ?_
    refine wl_nil ?_
    refine nx_then ?_
    refine gw_seq ?_
    refine gw_region ?_
    refine wl_ov (ov_move rfl) rfl ?_
    refine wl_ov (ov_quo rfl rfl (by omega) (by omega) (by omega)) rfl ?_
    refine wl_ov (ov_rem rfl rfl (by omega) (by omega) (by omega)) rfl ?_
    refine wl_set 8 (v' := .int .i64 5) rfl (congrArg (Value.int .i64) hjc) ?_
    refine wl_ov (ov_field fo56_1 rfl rfl) rfl ?_
    refine wl_ov (ov_indexP (j := 5) ar54 rfl rfl (by decide) rfl) rfl ?_
    refine wl_ov (ov_loads rz31 rfl (fun _ hm => hm.blkI 0 rfl) rfl rfl) rfl ?_
    refine wl_alloc zc31 rfl fun g12 => ?_
    refine wl_stores (cs' := [.int .i64 u10, .int .i64 u11]) 0 rz31 rfl rfl rfl rfl rfl rfl rfl rfl ?_
    refine wl_nil ?_
    refine nx_then ?_
    refine gw_seq ?_
    refine gw_region ?_
    refine wl_ov (ov_move rfl) rfl ?_
    refine wl_ov (ov_rem rfl rfl (by omega) (by omega) (by omega)) rfl ?_
    refine wl_ov (ov_field fo31_0 rfl rfl) rfl ?_
    refine wl_ov (ov_load sc3 rfl (fun _ hm => hm.blkI 0 rfl) rfl) rfl ?_
    refine wl_ov (ov_field fo31_1 rfl rfl) rfl ?_
    refine wl_ov (ov_load sc3 rfl (fun _ hm => hm.blkI 0 rfl) rfl) rfl ?_
    refine wl_ov (ov_sub rfl rfl (by omega) (by omega)) rfl ?_
    refine wl_callw rfl cb58 rfl rfl (fun wx hm => (rin_any _ _ _ wx)) ?_
    refine wl_ov (ov_assign rfl) rfl ?_
    refine wl_nil ?_
    refine nx_then ?_
    refine gw_ret ?_
    refine nx_ret1 rfl rfl fun wx hm => ?_
    exact ⟨by unfold openV; rw [hfr, hto], hm.g⟩
  · have hfr : frD [u0, u1, u2, u3, u4, u5, u6, u7, u8, u9, u10, u11, u12, u13] (at_ / 1440) = u12 := by unfold frD; rw [hjc]; rfl
    have hto : toD [u0, u1, u2, u3, u4, u5, u6, u7, u8, u9, u10, u11, u12, u13] (at_ / 1440) = u13 := by unfold toD; rw [hjc]; rfl
    refine wl_box rfl rfl rfl fun g13 => ?_
    refine wl_ov (ov_assign rfl) rfl ?_
    refine wl_nil ?_
    refine nx_then ?_
    refine gw_seq ?_
    refine gw_region ?_
    refine wl_ov (ov_move rfl) rfl ?_
    refine wl_ov (ov_quo rfl rfl (by omega) (by omega) (by omega)) rfl ?_
    refine wl_ov (ov_rem rfl rfl (by omega) (by omega) (by omega)) rfl ?_
    refine wl_set 8 (v' := .int .i64 6) rfl (congrArg (Value.int .i64) hjc) ?_
    refine wl_ov (ov_field fo56_1 rfl rfl) rfl ?_
    refine wl_ov (ov_indexP (j := 6) ar54 rfl rfl (by decide) rfl) rfl ?_
    refine wl_ov (ov_loads rz31 rfl (fun _ hm => hm.blkI 0 rfl) rfl rfl) rfl ?_
    refine wl_alloc zc31 rfl fun g14 => ?_
    refine wl_stores (cs' := [.int .i64 u12, .int .i64 u13]) 0 rz31 rfl rfl rfl rfl rfl rfl rfl rfl ?_
    refine wl_nil ?_
    refine nx_then ?_
    refine gw_seq ?_
    refine gw_region ?_
    refine wl_ov (ov_move rfl) rfl ?_
    refine wl_ov (ov_rem rfl rfl (by omega) (by omega) (by omega)) rfl ?_
    refine wl_ov (ov_field fo31_0 rfl rfl) rfl ?_
    refine wl_ov (ov_load sc3 rfl (fun _ hm => hm.blkI 0 rfl) rfl) rfl ?_
    refine wl_ov (ov_field fo31_1 rfl rfl) rfl ?_
    refine wl_ov (ov_load sc3 rfl (fun _ hm => hm.blkI 0 rfl) rfl) rfl ?_
    refine wl_ov (ov_sub rfl rfl (by omega) (by omega)) rfl ?_
    refine wl_callw rfl cb58 rfl rfl (fun wx hm => (rin_any _ _ _ wx)) ?_
    refine wl_ov (ov_assign rfl) rfl ?_
    refine wl_nil ?_
    refine nx_then ?_
    refine gw_ret ?_
    refine nx_ret1 rfl rfl fun wx hm => ?_
    exact ⟨by unfold openV; rw [hfr, hto], hm.g⟩

set_option maxRecDepth 100000 in
set_option maxHeartbeats 1000000 in
theorem nextOpenOf_any (key : ByteArray) (u0 u1 u2 u3 u4 u5 u6 u7 u8 u9 u10 u11 u12 u13 : Int) (at_ : Int) (w : World) (ho : HrsOk [u0, u1, u2, u3, u4, u5, u6, u7, u8, u9, u10, u11, u12, u13]) (h0_ : 0 ≤ at_) (h1_ : at_ ≤ 5761439) :
    Calls Tryd.prog 30 #[.agg #[.string key, .int .i64 u0, .int .i64 u1, .int .i64 u2, .int .i64 u3, .int .i64 u4, .int .i64 u5, .int .i64 u6, .int .i64 u7, .int .i64 u8, .int .i64 u9, .int .i64 u10, .int .i64 u11, .int .i64 u12, .int .i64 u13], .int .i64 at_] w (fun e w' => e = .returned (.tuple #[.int .i64 ((nextQ [u0, u1, u2, u3, u4, u5, u6, u7, u8, u9, u10, u11, u12, u13] at_).getD 0), .bool (nextQ [u0, u1, u2, u3, u4, u5, u6, u7, u8, u9, u10, u11, u12, u13] at_).isSome]) ∧ w.grownBy w' none) := by
  refine gw_enter ⟨47, w, none, []⟩ Tryd.func30 rfl Tryd.ntmps30 rfl (mem0 (X := []) allF_nil allL_nil) ?_
  refine gw_seq ?_
  refine gw_region ?_
  have q0 : 0 ≤ u0 ∧ u0 ≤ u1 ∧ u1 ≤ 1440 := ho 0
  have q1 : 0 ≤ u2 ∧ u2 ≤ u3 ∧ u3 ≤ 1440 := ho 1
  have q2 : 0 ≤ u4 ∧ u4 ≤ u5 ∧ u5 ≤ 1440 := ho 2
  have q3 : 0 ≤ u6 ∧ u6 ≤ u7 ∧ u7 ≤ 1440 := ho 3
  have q4 : 0 ≤ u8 ∧ u8 ≤ u9 ∧ u9 ≤ 1440 := ho 4
  have q5 : 0 ≤ u10 ∧ u10 ≤ u11 ∧ u11 ≤ 1440 := ho 5
  have q6 : 0 ≤ u12 ∧ u12 ≤ u13 ∧ u13 ≤ 1440 := ho 6
  refine wl_box rfl rfl rfl fun g1 => ?_
  refine wl_ov (ov_assign rfl) rfl ?_
  refine wl_ov (ov_assign rfl) rfl ?_
  refine wl_nil ?_
  refine nx_then ?_
  refine gw_seq ?_
  refine gw_seq ?_
  refine gw_region ?_
  refine wl_ov (ov_loads rz56 rfl (fun _ hm => hm.blkI 0 rfl) rfl rfl) rfl ?_
  refine wl_ov (ov_move rfl) rfl ?_
  refine wl_callv rfl cb33 rfl rfl (fun wx hm => (openAt_any key u0 u1 u2 u3 u4 u5 u6 u7 u8 u9 u10 u11 u12 u13 at_ wx ho h0_ h1_)) ?_
  refine wl_nil ?_
  refine nx_then ?_
  refine gw_cond rfl (fun hh => ?_) (fun hh => ?_)
  · have hop : (openV [u0, u1, u2, u3, u4, u5, u6, u7, u8, u9, u10, u11, u12, u13] at_) = true := by simpa using hh
    clear hh
    refine gw_seq ?_
    refine gw_region ?_
    refine wl_ov (ov_move rfl) rfl ?_
    refine wl_ov (ov_assign rfl) rfl ?_
    refine wl_ov (ov_assign rfl) rfl ?_
    refine wl_nil ?_
    refine nx_then ?_
    refine gw_ret ?_
    refine nx_then_ret ?_
    refine nx_ret2 rfl rfl rfl fun wx hm => ?_
    exact ⟨by unfold nextQ; rw [if_pos hop]; rfl, hm.g⟩
  · have hop : (openV [u0, u1, u2, u3, u4, u5, u6, u7, u8, u9, u10, u11, u12, u13] at_) = false := by simpa using hh
    clear hh
    refine gw_skip ?_
    refine nx_then ?_
    refine gw_seq ?_
    refine gw_seq ?_
    refine gw_region ?_
    have hnq : nextQ [u0, u1, u2, u3, u4, u5, u6, u7, u8, u9, u10, u11, u12, u13] at_ = nextR [u0, u1, u2, u3, u4, u5, u6, u7, u8, u9, u10, u11, u12, u13] at_ 8 (at_ / 1440) := by unfold nextQ; rw [if_neg (by rw [hop]; decide)]
    refine wl_ov (ov_move rfl) rfl ?_
    refine wl_ov (ov_quo rfl rfl (by omega) (by omega) (by omega)) rfl ?_
    refine wl_ov (ov_assign rfl) rfl ?_
    refine wl_nil ?_
    refine nx_then ?_
    refine gw_block ?_
    refine gw_loop (γ := Nat) (fun (k : Nat) => k ≤ 8 ∧ nextQ [u0, u1, u2, u3, u4, u5, u6, u7, u8, u9, u10, u11, u12, u13] at_ = nextR [u0, u1, u2, u3, u4, u5, u6, u7, u8, u9, u10, u11, u12, u13] at_ (8 - k) (at_ / 1440 + ((k : Nat) : Int))) (fun (k : Nat) => [(1, .int .i64 at_), (2, .pointer (some ⟨g1, 0, none⟩)), (6, .int .i64 (at_ / 1440 + ((k : Nat) : Int)))]) (fun (k : Nat) => fun _ => True) (fun (k : Nat) => [(g1, 56, [.string key, .int .i64 u0, .int .i64 u1, .int .i64 u2, .int .i64 u3, .int .i64 u4, .int .i64 u5, .int .i64 u6, .int .i64 u7, .int .i64 u8, .int .i64 u9, .int .i64 u10, .int .i64 u11, .int .i64 u12, .int .i64 u13])]) (fun (k : Nat) => []) (fun (k : Nat) => []) (fun (k : Nat) => 8 - k) 0 ⟨Nat.zero_le _, by rw [hnq]; congr 1; omega⟩ ⟨rfl, rfl, (some_int (by omega)), trivial⟩ (fun _ hm => hm.pick [0] [] [] rfl rfl) ?_
    intro k hinv
    replace hinv : k ≤ 8 ∧ nextQ [u0, u1, u2, u3, u4, u5, u6, u7, u8, u9, u10, u11, u12, u13] at_ = nextR [u0, u1, u2, u3, u4, u5, u6, u7, u8, u9, u10, u11, u12, u13] at_ (8 - k) (at_ / 1440 + ((k : Nat) : Int)) := hinv
    refine gw_seq ?_
    refine gw_seq ?_
    refine gw_region ?_
    refine wl_ov (ov_move rfl) rfl ?_
    refine wl_ov (ov_move rfl) rfl ?_
    refine wl_ov (ov_quo rfl rfl (by omega) (by omega) (by omega)) rfl ?_
    refine wl_ov (ov_add rfl rfl (by omega) (by omega)) rfl ?_
    refine wl_ov (ov_leq rfl rfl) rfl ?_
    refine wl_nil ?_
    refine nx_then ?_
    refine gw_cond rfl (fun hh => ?_) (fun hh => ?_)
    · have hk : at_ / 1440 + ((k : Nat) : Int) ≤ (at_ / 1440) + 7 := by simpa using hh
      clear hh
      refine gw_skip ?_
      refine nx_then ?_
      refine gw_seq ?_
      refine gw_block ?_
      refine gw_seq ?_
      refine gw_region ?_
      have hk8 : k < 8 := by omega
      have hst := nextR_at (hs := [u0, u1, u2, u3, u4, u5, u6, u7, u8, u9, u10, u11, u12, u13]) (at_ := at_) (d := at_ / 1440 + ((k : Nat) : Int)) hk8
      have hjc : (at_ / 1440 + ((k : Nat) : Int)) % 7 = 0 ∨ (at_ / 1440 + ((k : Nat) : Int)) % 7 = 1 ∨ (at_ / 1440 + ((k : Nat) : Int)) % 7 = 2 ∨ (at_ / 1440 + ((k : Nat) : Int)) % 7 = 3 ∨ (at_ / 1440 + ((k : Nat) : Int)) % 7 = 4 ∨ (at_ / 1440 + ((k : Nat) : Int)) % 7 = 5 ∨ (at_ / 1440 + ((k : Nat) : Int)) % 7 = 6 := by omega
      rcases hjc with hjc | hjc | hjc | hjc | hjc | hjc | hjc
      · have hfr : frD [u0, u1, u2, u3, u4, u5, u6, u7, u8, u9, u10, u11, u12, u13] ((at_ / 1440 + ((k : Nat) : Int))) = u0 := by unfold frD; rw [hjc]; rfl
        have hto : toD [u0, u1, u2, u3, u4, u5, u6, u7, u8, u9, u10, u11, u12, u13] ((at_ / 1440 + ((k : Nat) : Int))) = u1 := by unfold toD; rw [hjc]; rfl
        rw [hfr, hto] at hst
        refine wl_ov (ov_move rfl) rfl ?_
        refine wl_ov (ov_rem rfl rfl (by omega) (by omega) (by omega)) rfl ?_
        refine wl_set 23 (v' := .int .i64 0) rfl (congrArg (Value.int .i64) hjc) ?_
        refine wl_ov (ov_field fo56_1 rfl rfl) rfl ?_
        refine wl_ov (ov_indexP (j := 0) ar54 rfl rfl (by decide) rfl) rfl ?_
        refine wl_ov (ov_loads rz31 rfl (fun _ hm => hm.blkI 0 rfl) rfl rfl) rfl ?_
        refine wl_alloc zc31 rfl fun g2 => ?_
        refine wl_stores (cs' := [.int .i64 u0, .int .i64 u1]) 0 rz31 rfl rfl rfl rfl rfl rfl rfl rfl ?_
        refine wl_nil ?_
        refine nx_then ?_
        refine gw_seq ?_
        refine gw_region ?_
        refine wl_ov (ov_move rfl) rfl ?_
        refine wl_ov (ov_mul rfl rfl (by omega) (by omega)) rfl ?_
        refine wl_ov (ov_field fo31_0 rfl rfl) rfl ?_
        refine wl_ov (ov_load sc3 rfl (fun _ hm => hm.blkI 0 rfl) rfl) rfl ?_
        refine wl_ov (ov_add rfl rfl (by omega) (by omega)) rfl ?_
        refine wl_ov (ov_assign rfl) rfl ?_
        refine wl_nil ?_
        refine nx_then ?_
        refine gw_seq ?_
        refine gw_region ?_
        refine wl_ov (ov_move rfl) rfl ?_
        refine wl_ov (ov_move rfl) rfl ?_
        refine wl_ov (ov_gtr rfl rfl) rfl ?_
        refine wl_ov (ov_move rfl) rfl ?_
        rcases Bool.eq_false_or_eq_true (decide (at_ < ((at_ / 1440 + ((k : Nat) : Int)) * 1440) + u0)) with g1 | g1
        · refine wl_set 35 rfl (congrArg Value.bool g1) ?_
          have g1 := of_decide_eq_true g1
          refine wl_guard_on rfl rfl rfl ?_
          refine wl_ov (ov_move rfl) rfl ?_
          refine wl_guard_on rfl rfl rfl ?_
          refine wl_ov (ov_lss rfl rfl) rfl ?_
          refine wl_ov (ov_pick_t rfl rfl) rfl ?_
          refine wl_ov (ov_move rfl) rfl ?_
          rcases Bool.eq_false_or_eq_true (decide (((at_ / 1440 + ((k : Nat) : Int)) * 1440) + u0 < 5761440)) with g2 | g2
          · refine wl_set 39 rfl (congrArg Value.bool g2) ?_
            have g2 := of_decide_eq_true g2
            refine wl_guard_on rfl rfl rfl ?_
            refine wl_ov (ov_field fo31_0 rfl rfl) rfl ?_
            refine wl_guard_on rfl rfl rfl ?_
            refine wl_ov (ov_load sc3 rfl (fun _ hm => hm.blkI 0 rfl) rfl) rfl ?_
            refine wl_guard_on rfl rfl rfl ?_
            refine wl_ov (ov_field fo31_1 rfl rfl) rfl ?_
            refine wl_guard_on rfl rfl rfl ?_
            refine wl_ov (ov_load sc3 rfl (fun _ hm => hm.blkI 0 rfl) rfl) rfl ?_
            refine wl_guard_on rfl rfl rfl ?_
            refine wl_ov (ov_lss rfl rfl) rfl ?_
            refine wl_ov (ov_pick_t rfl rfl) rfl ?_
            refine wl_nil ?_
            refine nx_then ?_
            refine gw_cond rfl (fun hh => ?_) (fun hh => ?_)
            · have g3 : u0 < u1 := by simpa using hh
              clear hh
              refine gw_seq ?_
              refine gw_region ?_
              refine wl_ov (ov_move rfl) rfl ?_
              refine wl_ov (ov_assign rfl) rfl ?_
              refine wl_ov (ov_assign rfl) rfl ?_
              refine wl_nil ?_
              refine nx_then ?_
              refine gw_ret ?_
              refine nx_blk_ret ?_
              refine nx_then_ret ?_
              refine nx_then_ret ?_
              refine nx_blk_ret ?_
              refine nx_then_ret ?_
              refine nx_ret2 rfl rfl rfl fun wx hm => ?_
              exact ⟨by rw [hinv.2, hst, if_pos ⟨by omega, by omega, g3⟩]; rfl, hm.g⟩
            · have g3 : ¬ (u0 < u1) := by simpa using hh
              clear hh
              refine gw_skip ?_
              refine nx_blk_nrm ?_
              refine nx_then ?_
              refine gw_region ?_
              refine wl_ov (ov_move rfl) rfl ?_
              refine wl_ov (ov_add rfl rfl (by omega) (by omega)) rfl ?_
              refine wl_ov (ov_assign rfl) rfl ?_
              refine wl_nil ?_
              exact nx_round (k + 1) ⟨by omega, by rw [hinv.2, hst, if_neg (by omega), show at_ / 1440 + ((k : Nat) : Int) + 1 = at_ / 1440 + ((k + 1 : Nat) : Int) by omega]⟩ (by omega) ⟨rfl, rfl, (some_int (by omega)), trivial⟩ (fun _ hm => hm.pick [1] [] [] rfl rfl)
          · refine wl_set 39 rfl (congrArg Value.bool g2) ?_
            have g2 := of_decide_eq_false g2
            refine wl_guard_off rfl rfl rfl (by decide) rfl ?_
            refine wl_guard_off rfl rfl rfl (by decide) rfl ?_
            refine wl_guard_off rfl rfl rfl (by decide) rfl ?_
            refine wl_guard_off rfl rfl rfl (by decide) rfl ?_
            refine wl_guard_off rfl rfl rfl (by decide) rfl ?_
            refine wl_ov (ov_pick_f rfl rfl) rfl ?_
            refine wl_nil ?_
            refine nx_then ?_
            refine gw_cond rfl (fun hh => by cases hh) (fun _ => ?_)
            refine gw_skip ?_
            refine nx_blk_nrm ?_
            refine nx_then ?_
            refine gw_region ?_
            refine wl_ov (ov_move rfl) rfl ?_
            refine wl_ov (ov_add rfl rfl (by omega) (by omega)) rfl ?_
            refine wl_ov (ov_assign rfl) rfl ?_
            refine wl_nil ?_
            exact nx_round (k + 1) ⟨by omega, by rw [hinv.2, hst, if_neg (by omega), show at_ / 1440 + ((k : Nat) : Int) + 1 = at_ / 1440 + ((k + 1 : Nat) : Int) by omega]⟩ (by omega) ⟨rfl, rfl, (some_int (by omega)), trivial⟩ (fun _ hm => hm.pick [1] [] [] rfl rfl)
        · refine wl_set 35 rfl (congrArg Value.bool g1) ?_
          have g1 := of_decide_eq_false g1
          refine wl_guard_off rfl rfl rfl (by decide) rfl ?_
          refine wl_guard_off rfl rfl rfl (by decide) rfl ?_
          refine wl_ov (ov_pick_f rfl rfl) rfl ?_
          refine wl_ov (ov_move rfl) rfl ?_
          refine wl_guard_off rfl rfl rfl (by decide) rfl ?_
          refine wl_guard_off rfl rfl rfl (by decide) rfl ?_
          refine wl_guard_off rfl rfl rfl (by decide) rfl ?_
          refine wl_guard_off rfl rfl rfl (by decide) rfl ?_
          refine wl_guard_off rfl rfl rfl (by decide) rfl ?_
          refine wl_ov (ov_pick_f rfl rfl) rfl ?_
          refine wl_nil ?_
          refine nx_then ?_
          refine gw_cond rfl (fun hh => by cases hh) (fun _ => ?_)
          refine gw_skip ?_
          refine nx_blk_nrm ?_
          refine nx_then ?_
          refine gw_region ?_
          refine wl_ov (ov_move rfl) rfl ?_
          refine wl_ov (ov_add rfl rfl (by omega) (by omega)) rfl ?_
          refine wl_ov (ov_assign rfl) rfl ?_
          refine wl_nil ?_
          exact nx_round (k + 1) ⟨by omega, by rw [hinv.2, hst, if_neg (by omega), show at_ / 1440 + ((k : Nat) : Int) + 1 = at_ / 1440 + ((k + 1 : Nat) : Int) by omega]⟩ (by omega) ⟨rfl, rfl, (some_int (by omega)), trivial⟩ (fun _ hm => hm.pick [1] [] [] rfl rfl)
      · have hfr : frD [u0, u1, u2, u3, u4, u5, u6, u7, u8, u9, u10, u11, u12, u13] ((at_ / 1440 + ((k : Nat) : Int))) = u2 := by unfold frD; rw [hjc]; rfl
        have hto : toD [u0, u1, u2, u3, u4, u5, u6, u7, u8, u9, u10, u11, u12, u13] ((at_ / 1440 + ((k : Nat) : Int))) = u3 := by unfold toD; rw [hjc]; rfl
        rw [hfr, hto] at hst
        refine wl_ov (ov_move rfl) rfl ?_
        refine wl_ov (ov_rem rfl rfl (by omega) (by omega) (by omega)) rfl ?_
        refine wl_set 23 (v' := .int .i64 1) rfl (congrArg (Value.int .i64) hjc) ?_
        refine wl_ov (ov_field fo56_1 rfl rfl) rfl ?_
        refine wl_ov (ov_indexP (j := 1) ar54 rfl rfl (by decide) rfl) rfl ?_
        refine wl_ov (ov_loads rz31 rfl (fun _ hm => hm.blkI 0 rfl) rfl rfl) rfl ?_
        refine wl_alloc zc31 rfl fun g3 => ?_
        refine wl_stores (cs' := [.int .i64 u2, .int .i64 u3]) 0 rz31 rfl rfl rfl rfl rfl rfl rfl rfl ?_
        refine wl_nil ?_
        refine nx_then ?_
        refine gw_seq ?_
        refine gw_region ?_
        refine wl_ov (ov_move rfl) rfl ?_
        refine wl_ov (ov_mul rfl rfl (by omega) (by omega)) rfl ?_
        refine wl_ov (ov_field fo31_0 rfl rfl) rfl ?_
        refine wl_ov (ov_load sc3 rfl (fun _ hm => hm.blkI 0 rfl) rfl) rfl ?_
        refine wl_ov (ov_add rfl rfl (by omega) (by omega)) rfl ?_
        refine wl_ov (ov_assign rfl) rfl ?_
        refine wl_nil ?_
        refine nx_then ?_
        refine gw_seq ?_
        refine gw_region ?_
        refine wl_ov (ov_move rfl) rfl ?_
        refine wl_ov (ov_move rfl) rfl ?_
        refine wl_ov (ov_gtr rfl rfl) rfl ?_
        refine wl_ov (ov_move rfl) rfl ?_
        rcases Bool.eq_false_or_eq_true (decide (at_ < ((at_ / 1440 + ((k : Nat) : Int)) * 1440) + u2)) with g1 | g1
        · refine wl_set 35 rfl (congrArg Value.bool g1) ?_
          have g1 := of_decide_eq_true g1
          refine wl_guard_on rfl rfl rfl ?_
          refine wl_ov (ov_move rfl) rfl ?_
          refine wl_guard_on rfl rfl rfl ?_
          refine wl_ov (ov_lss rfl rfl) rfl ?_
          refine wl_ov (ov_pick_t rfl rfl) rfl ?_
          refine wl_ov (ov_move rfl) rfl ?_
          rcases Bool.eq_false_or_eq_true (decide (((at_ / 1440 + ((k : Nat) : Int)) * 1440) + u2 < 5761440)) with g2 | g2
          · refine wl_set 39 rfl (congrArg Value.bool g2) ?_
            have g2 := of_decide_eq_true g2
            refine wl_guard_on rfl rfl rfl ?_
            refine wl_ov (ov_field fo31_0 rfl rfl) rfl ?_
            refine wl_guard_on rfl rfl rfl ?_
            refine wl_ov (ov_load sc3 rfl (fun _ hm => hm.blkI 0 rfl) rfl) rfl ?_
            refine wl_guard_on rfl rfl rfl ?_
            refine wl_ov (ov_field fo31_1 rfl rfl) rfl ?_
            refine wl_guard_on rfl rfl rfl ?_
            refine wl_ov (ov_load sc3 rfl (fun _ hm => hm.blkI 0 rfl) rfl) rfl ?_
            refine wl_guard_on rfl rfl rfl ?_
            refine wl_ov (ov_lss rfl rfl) rfl ?_
            refine wl_ov (ov_pick_t rfl rfl) rfl ?_
            refine wl_nil ?_
            refine nx_then ?_
            refine gw_cond rfl (fun hh => ?_) (fun hh => ?_)
            · have g3 : u2 < u3 := by simpa using hh
              clear hh
              refine gw_seq ?_
              refine gw_region ?_
              refine wl_ov (ov_move rfl) rfl ?_
              refine wl_ov (ov_assign rfl) rfl ?_
              refine wl_ov (ov_assign rfl) rfl ?_
              refine wl_nil ?_
              refine nx_then ?_
              refine gw_ret ?_
              refine nx_blk_ret ?_
              refine nx_then_ret ?_
              refine nx_then_ret ?_
              refine nx_blk_ret ?_
              refine nx_then_ret ?_
              refine nx_ret2 rfl rfl rfl fun wx hm => ?_
              exact ⟨by rw [hinv.2, hst, if_pos ⟨by omega, by omega, g3⟩]; rfl, hm.g⟩
            · have g3 : ¬ (u2 < u3) := by simpa using hh
              clear hh
              refine gw_skip ?_
              refine nx_blk_nrm ?_
              refine nx_then ?_
              refine gw_region ?_
              refine wl_ov (ov_move rfl) rfl ?_
              refine wl_ov (ov_add rfl rfl (by omega) (by omega)) rfl ?_
              refine wl_ov (ov_assign rfl) rfl ?_
              refine wl_nil ?_
              exact nx_round (k + 1) ⟨by omega, by rw [hinv.2, hst, if_neg (by omega), show at_ / 1440 + ((k : Nat) : Int) + 1 = at_ / 1440 + ((k + 1 : Nat) : Int) by omega]⟩ (by omega) ⟨rfl, rfl, (some_int (by omega)), trivial⟩ (fun _ hm => hm.pick [1] [] [] rfl rfl)
          · refine wl_set 39 rfl (congrArg Value.bool g2) ?_
            have g2 := of_decide_eq_false g2
            refine wl_guard_off rfl rfl rfl (by decide) rfl ?_
            refine wl_guard_off rfl rfl rfl (by decide) rfl ?_
            refine wl_guard_off rfl rfl rfl (by decide) rfl ?_
            refine wl_guard_off rfl rfl rfl (by decide) rfl ?_
            refine wl_guard_off rfl rfl rfl (by decide) rfl ?_
            refine wl_ov (ov_pick_f rfl rfl) rfl ?_
            refine wl_nil ?_
            refine nx_then ?_
            refine gw_cond rfl (fun hh => by cases hh) (fun _ => ?_)
            refine gw_skip ?_
            refine nx_blk_nrm ?_
            refine nx_then ?_
            refine gw_region ?_
            refine wl_ov (ov_move rfl) rfl ?_
            refine wl_ov (ov_add rfl rfl (by omega) (by omega)) rfl ?_
            refine wl_ov (ov_assign rfl) rfl ?_
            refine wl_nil ?_
            exact nx_round (k + 1) ⟨by omega, by rw [hinv.2, hst, if_neg (by omega), show at_ / 1440 + ((k : Nat) : Int) + 1 = at_ / 1440 + ((k + 1 : Nat) : Int) by omega]⟩ (by omega) ⟨rfl, rfl, (some_int (by omega)), trivial⟩ (fun _ hm => hm.pick [1] [] [] rfl rfl)
        · refine wl_set 35 rfl (congrArg Value.bool g1) ?_
          have g1 := of_decide_eq_false g1
          refine wl_guard_off rfl rfl rfl (by decide) rfl ?_
          refine wl_guard_off rfl rfl rfl (by decide) rfl ?_
          refine wl_ov (ov_pick_f rfl rfl) rfl ?_
          refine wl_ov (ov_move rfl) rfl ?_
          refine wl_guard_off rfl rfl rfl (by decide) rfl ?_
          refine wl_guard_off rfl rfl rfl (by decide) rfl ?_
          refine wl_guard_off rfl rfl rfl (by decide) rfl ?_
          refine wl_guard_off rfl rfl rfl (by decide) rfl ?_
          refine wl_guard_off rfl rfl rfl (by decide) rfl ?_
          refine wl_ov (ov_pick_f rfl rfl) rfl ?_
          refine wl_nil ?_
          refine nx_then ?_
          refine gw_cond rfl (fun hh => by cases hh) (fun _ => ?_)
          refine gw_skip ?_
          refine nx_blk_nrm ?_
          refine nx_then ?_
          refine gw_region ?_
          refine wl_ov (ov_move rfl) rfl ?_
          refine wl_ov (ov_add rfl rfl (by omega) (by omega)) rfl ?_
          refine wl_ov (ov_assign rfl) rfl ?_
          refine wl_nil ?_
          exact nx_round (k + 1) ⟨by omega, by rw [hinv.2, hst, if_neg (by omega), show at_ / 1440 + ((k : Nat) : Int) + 1 = at_ / 1440 + ((k + 1 : Nat) : Int) by omega]⟩ (by omega) ⟨rfl, rfl, (some_int (by omega)), trivial⟩ (fun _ hm => hm.pick [1] [] [] rfl rfl)
      · have hfr : frD [u0, u1, u2, u3, u4, u5, u6, u7, u8, u9, u10, u11, u12, u13] ((at_ / 1440 + ((k : Nat) : Int))) = u4 := by unfold frD; rw [hjc]; rfl
        have hto : toD [u0, u1, u2, u3, u4, u5, u6, u7, u8, u9, u10, u11, u12, u13] ((at_ / 1440 + ((k : Nat) : Int))) = u5 := by unfold toD; rw [hjc]; rfl
        rw [hfr, hto] at hst
        refine wl_ov (ov_move rfl) rfl ?_
        refine wl_ov (ov_rem rfl rfl (by omega) (by omega) (by omega)) rfl ?_
        refine wl_set 23 (v' := .int .i64 2) rfl (congrArg (Value.int .i64) hjc) ?_
        refine wl_ov (ov_field fo56_1 rfl rfl) rfl ?_
        refine wl_ov (ov_indexP (j := 2) ar54 rfl rfl (by decide) rfl) rfl ?_
        refine wl_ov (ov_loads rz31 rfl (fun _ hm => hm.blkI 0 rfl) rfl rfl) rfl ?_
        refine wl_alloc zc31 rfl fun g4 => ?_
        refine wl_stores (cs' := [.int .i64 u4, .int .i64 u5]) 0 rz31 rfl rfl rfl rfl rfl rfl rfl rfl ?_
        refine wl_nil ?_
        refine nx_then ?_
        refine gw_seq ?_
        refine gw_region ?_
        refine wl_ov (ov_move rfl) rfl ?_
        refine wl_ov (ov_mul rfl rfl (by omega) (by omega)) rfl ?_
        refine wl_ov (ov_field fo31_0 rfl rfl) rfl ?_
        refine wl_ov (ov_load sc3 rfl (fun _ hm => hm.blkI 0 rfl) rfl) rfl ?_
        refine wl_ov (ov_add rfl rfl (by omega) (by omega)) rfl ?_
        refine wl_ov (ov_assign rfl) rfl ?_
        refine wl_nil ?_
        refine nx_then ?_
        refine gw_seq ?_
        refine gw_region ?_
        refine wl_ov (ov_move rfl) rfl ?_
        refine wl_ov (ov_move rfl) rfl ?_
        refine wl_ov (ov_gtr rfl rfl) rfl ?_
        refine wl_ov (ov_move rfl) rfl ?_
        rcases Bool.eq_false_or_eq_true (decide (at_ < ((at_ / 1440 + ((k : Nat) : Int)) * 1440) + u4)) with g1 | g1
        · refine wl_set 35 rfl (congrArg Value.bool g1) ?_
          have g1 := of_decide_eq_true g1
          refine wl_guard_on rfl rfl rfl ?_
          refine wl_ov (ov_move rfl) rfl ?_
          refine wl_guard_on rfl rfl rfl ?_
          refine wl_ov (ov_lss rfl rfl) rfl ?_
          refine wl_ov (ov_pick_t rfl rfl) rfl ?_
          refine wl_ov (ov_move rfl) rfl ?_
          rcases Bool.eq_false_or_eq_true (decide (((at_ / 1440 + ((k : Nat) : Int)) * 1440) + u4 < 5761440)) with g2 | g2
          · refine wl_set 39 rfl (congrArg Value.bool g2) ?_
            have g2 := of_decide_eq_true g2
            refine wl_guard_on rfl rfl rfl ?_
            refine wl_ov (ov_field fo31_0 rfl rfl) rfl ?_
            refine wl_guard_on rfl rfl rfl ?_
            refine wl_ov (ov_load sc3 rfl (fun _ hm => hm.blkI 0 rfl) rfl) rfl ?_
            refine wl_guard_on rfl rfl rfl ?_
            refine wl_ov (ov_field fo31_1 rfl rfl) rfl ?_
            refine wl_guard_on rfl rfl rfl ?_
            refine wl_ov (ov_load sc3 rfl (fun _ hm => hm.blkI 0 rfl) rfl) rfl ?_
            refine wl_guard_on rfl rfl rfl ?_
            refine wl_ov (ov_lss rfl rfl) rfl ?_
            refine wl_ov (ov_pick_t rfl rfl) rfl ?_
            refine wl_nil ?_
            refine nx_then ?_
            refine gw_cond rfl (fun hh => ?_) (fun hh => ?_)
            · have g3 : u4 < u5 := by simpa using hh
              clear hh
              refine gw_seq ?_
              refine gw_region ?_
              refine wl_ov (ov_move rfl) rfl ?_
              refine wl_ov (ov_assign rfl) rfl ?_
              refine wl_ov (ov_assign rfl) rfl ?_
              refine wl_nil ?_
              refine nx_then ?_
              refine gw_ret ?_
              refine nx_blk_ret ?_
              refine nx_then_ret ?_
              refine nx_then_ret ?_
              refine nx_blk_ret ?_
              refine nx_then_ret ?_
              refine nx_ret2 rfl rfl rfl fun wx hm => ?_
              exact ⟨by rw [hinv.2, hst, if_pos ⟨by omega, by omega, g3⟩]; rfl, hm.g⟩
            · have g3 : ¬ (u4 < u5) := by simpa using hh
              clear hh
              refine gw_skip ?_
              refine nx_blk_nrm ?_
              refine nx_then ?_
              refine gw_region ?_
              refine wl_ov (ov_move rfl) rfl ?_
              refine wl_ov (ov_add rfl rfl (by omega) (by omega)) rfl ?_
              refine wl_ov (ov_assign rfl) rfl ?_
              refine wl_nil ?_
              exact nx_round (k + 1) ⟨by omega, by rw [hinv.2, hst, if_neg (by omega), show at_ / 1440 + ((k : Nat) : Int) + 1 = at_ / 1440 + ((k + 1 : Nat) : Int) by omega]⟩ (by omega) ⟨rfl, rfl, (some_int (by omega)), trivial⟩ (fun _ hm => hm.pick [1] [] [] rfl rfl)
          · refine wl_set 39 rfl (congrArg Value.bool g2) ?_
            have g2 := of_decide_eq_false g2
            refine wl_guard_off rfl rfl rfl (by decide) rfl ?_
            refine wl_guard_off rfl rfl rfl (by decide) rfl ?_
            refine wl_guard_off rfl rfl rfl (by decide) rfl ?_
            refine wl_guard_off rfl rfl rfl (by decide) rfl ?_
            refine wl_guard_off rfl rfl rfl (by decide) rfl ?_
            refine wl_ov (ov_pick_f rfl rfl) rfl ?_
            refine wl_nil ?_
            refine nx_then ?_
            refine gw_cond rfl (fun hh => by cases hh) (fun _ => ?_)
            refine gw_skip ?_
            refine nx_blk_nrm ?_
            refine nx_then ?_
            refine gw_region ?_
            refine wl_ov (ov_move rfl) rfl ?_
            refine wl_ov (ov_add rfl rfl (by omega) (by omega)) rfl ?_
            refine wl_ov (ov_assign rfl) rfl ?_
            refine wl_nil ?_
            exact nx_round (k + 1) ⟨by omega, by rw [hinv.2, hst, if_neg (by omega), show at_ / 1440 + ((k : Nat) : Int) + 1 = at_ / 1440 + ((k + 1 : Nat) : Int) by omega]⟩ (by omega) ⟨rfl, rfl, (some_int (by omega)), trivial⟩ (fun _ hm => hm.pick [1] [] [] rfl rfl)
        · refine wl_set 35 rfl (congrArg Value.bool g1) ?_
          have g1 := of_decide_eq_false g1
          refine wl_guard_off rfl rfl rfl (by decide) rfl ?_
          refine wl_guard_off rfl rfl rfl (by decide) rfl ?_
          refine wl_ov (ov_pick_f rfl rfl) rfl ?_
          refine wl_ov (ov_move rfl) rfl ?_
          refine wl_guard_off rfl rfl rfl (by decide) rfl ?_
          refine wl_guard_off rfl rfl rfl (by decide) rfl ?_
          refine wl_guard_off rfl rfl rfl (by decide) rfl ?_
          refine wl_guard_off rfl rfl rfl (by decide) rfl ?_
          refine wl_guard_off rfl rfl rfl (by decide) rfl ?_
          refine wl_ov (ov_pick_f rfl rfl) rfl ?_
          refine wl_nil ?_
          refine nx_then ?_
          refine gw_cond rfl (fun hh => by cases hh) (fun _ => ?_)
          refine gw_skip ?_
          refine nx_blk_nrm ?_
          refine nx_then ?_
          refine gw_region ?_
          refine wl_ov (ov_move rfl) rfl ?_
          refine wl_ov (ov_add rfl rfl (by omega) (by omega)) rfl ?_
          refine wl_ov (ov_assign rfl) rfl ?_
          refine wl_nil ?_
          exact nx_round (k + 1) ⟨by omega, by rw [hinv.2, hst, if_neg (by omega), show at_ / 1440 + ((k : Nat) : Int) + 1 = at_ / 1440 + ((k + 1 : Nat) : Int) by omega]⟩ (by omega) ⟨rfl, rfl, (some_int (by omega)), trivial⟩ (fun _ hm => hm.pick [1] [] [] rfl rfl)
      · have hfr : frD [u0, u1, u2, u3, u4, u5, u6, u7, u8, u9, u10, u11, u12, u13] ((at_ / 1440 + ((k : Nat) : Int))) = u6 := by unfold frD; rw [hjc]; rfl
        have hto : toD [u0, u1, u2, u3, u4, u5, u6, u7, u8, u9, u10, u11, u12, u13] ((at_ / 1440 + ((k : Nat) : Int))) = u7 := by unfold toD; rw [hjc]; rfl
        rw [hfr, hto] at hst
        refine wl_ov (ov_move rfl) rfl ?_
        refine wl_ov (ov_rem rfl rfl (by omega) (by omega) (by omega)) rfl ?_
        refine wl_set 23 (v' := .int .i64 3) rfl (congrArg (Value.int .i64) hjc) ?_
        refine wl_ov (ov_field fo56_1 rfl rfl) rfl ?_
        refine wl_ov (ov_indexP (j := 3) ar54 rfl rfl (by decide) rfl) rfl ?_
        refine wl_ov (ov_loads rz31 rfl (fun _ hm => hm.blkI 0 rfl) rfl rfl) rfl ?_
        refine wl_alloc zc31 rfl fun g5 => ?_
        refine wl_stores (cs' := [.int .i64 u6, .int .i64 u7]) 0 rz31 rfl rfl rfl rfl rfl rfl rfl rfl ?_
        refine wl_nil ?_
        refine nx_then ?_
        refine gw_seq ?_
        refine gw_region ?_
        refine wl_ov (ov_move rfl) rfl ?_
        refine wl_ov (ov_mul rfl rfl (by omega) (by omega)) rfl ?_
        refine wl_ov (ov_field fo31_0 rfl rfl) rfl ?_
        refine wl_ov (ov_load sc3 rfl (fun _ hm => hm.blkI 0 rfl) rfl) rfl ?_
        refine wl_ov (ov_add rfl rfl (by omega) (by omega)) rfl ?_
        refine wl_ov (ov_assign rfl) rfl ?_
        refine wl_nil ?_
        refine nx_then ?_
        refine gw_seq ?_
        refine gw_region ?_
        refine wl_ov (ov_move rfl) rfl ?_
        refine wl_ov (ov_move rfl) rfl ?_
        refine wl_ov (ov_gtr rfl rfl) rfl ?_
        refine wl_ov (ov_move rfl) rfl ?_
        rcases Bool.eq_false_or_eq_true (decide (at_ < ((at_ / 1440 + ((k : Nat) : Int)) * 1440) + u6)) with g1 | g1
        · refine wl_set 35 rfl (congrArg Value.bool g1) ?_
          have g1 := of_decide_eq_true g1
          refine wl_guard_on rfl rfl rfl ?_
          refine wl_ov (ov_move rfl) rfl ?_
          refine wl_guard_on rfl rfl rfl ?_
          refine wl_ov (ov_lss rfl rfl) rfl ?_
          refine wl_ov (ov_pick_t rfl rfl) rfl ?_
          refine wl_ov (ov_move rfl) rfl ?_
          rcases Bool.eq_false_or_eq_true (decide (((at_ / 1440 + ((k : Nat) : Int)) * 1440) + u6 < 5761440)) with g2 | g2
          · refine wl_set 39 rfl (congrArg Value.bool g2) ?_
            have g2 := of_decide_eq_true g2
            refine wl_guard_on rfl rfl rfl ?_
            refine wl_ov (ov_field fo31_0 rfl rfl) rfl ?_
            refine wl_guard_on rfl rfl rfl ?_
            refine wl_ov (ov_load sc3 rfl (fun _ hm => hm.blkI 0 rfl) rfl) rfl ?_
            refine wl_guard_on rfl rfl rfl ?_
            refine wl_ov (ov_field fo31_1 rfl rfl) rfl ?_
            refine wl_guard_on rfl rfl rfl ?_
            refine wl_ov (ov_load sc3 rfl (fun _ hm => hm.blkI 0 rfl) rfl) rfl ?_
            refine wl_guard_on rfl rfl rfl ?_
            refine wl_ov (ov_lss rfl rfl) rfl ?_
            refine wl_ov (ov_pick_t rfl rfl) rfl ?_
            refine wl_nil ?_
            refine nx_then ?_
            refine gw_cond rfl (fun hh => ?_) (fun hh => ?_)
            · have g3 : u6 < u7 := by simpa using hh
              clear hh
              refine gw_seq ?_
              refine gw_region ?_
              refine wl_ov (ov_move rfl) rfl ?_
              refine wl_ov (ov_assign rfl) rfl ?_
              refine wl_ov (ov_assign rfl) rfl ?_
              refine wl_nil ?_
              refine nx_then ?_
              refine gw_ret ?_
              refine nx_blk_ret ?_
              refine nx_then_ret ?_
              refine nx_then_ret ?_
              refine nx_blk_ret ?_
              refine nx_then_ret ?_
              refine nx_ret2 rfl rfl rfl fun wx hm => ?_
              exact ⟨by rw [hinv.2, hst, if_pos ⟨by omega, by omega, g3⟩]; rfl, hm.g⟩
            · have g3 : ¬ (u6 < u7) := by simpa using hh
              clear hh
              refine gw_skip ?_
              refine nx_blk_nrm ?_
              refine nx_then ?_
              refine gw_region ?_
              refine wl_ov (ov_move rfl) rfl ?_
              refine wl_ov (ov_add rfl rfl (by omega) (by omega)) rfl ?_
              refine wl_ov (ov_assign rfl) rfl ?_
              refine wl_nil ?_
              exact nx_round (k + 1) ⟨by omega, by rw [hinv.2, hst, if_neg (by omega), show at_ / 1440 + ((k : Nat) : Int) + 1 = at_ / 1440 + ((k + 1 : Nat) : Int) by omega]⟩ (by omega) ⟨rfl, rfl, (some_int (by omega)), trivial⟩ (fun _ hm => hm.pick [1] [] [] rfl rfl)
          · refine wl_set 39 rfl (congrArg Value.bool g2) ?_
            have g2 := of_decide_eq_false g2
            refine wl_guard_off rfl rfl rfl (by decide) rfl ?_
            refine wl_guard_off rfl rfl rfl (by decide) rfl ?_
            refine wl_guard_off rfl rfl rfl (by decide) rfl ?_
            refine wl_guard_off rfl rfl rfl (by decide) rfl ?_
            refine wl_guard_off rfl rfl rfl (by decide) rfl ?_
            refine wl_ov (ov_pick_f rfl rfl) rfl ?_
            refine wl_nil ?_
            refine nx_then ?_
            refine gw_cond rfl (fun hh => by cases hh) (fun _ => ?_)
            refine gw_skip ?_
            refine nx_blk_nrm ?_
            refine nx_then ?_
            refine gw_region ?_
            refine wl_ov (ov_move rfl) rfl ?_
            refine wl_ov (ov_add rfl rfl (by omega) (by omega)) rfl ?_
            refine wl_ov (ov_assign rfl) rfl ?_
            refine wl_nil ?_
            exact nx_round (k + 1) ⟨by omega, by rw [hinv.2, hst, if_neg (by omega), show at_ / 1440 + ((k : Nat) : Int) + 1 = at_ / 1440 + ((k + 1 : Nat) : Int) by omega]⟩ (by omega) ⟨rfl, rfl, (some_int (by omega)), trivial⟩ (fun _ hm => hm.pick [1] [] [] rfl rfl)
        · refine wl_set 35 rfl (congrArg Value.bool g1) ?_
          have g1 := of_decide_eq_false g1
          refine wl_guard_off rfl rfl rfl (by decide) rfl ?_
          refine wl_guard_off rfl rfl rfl (by decide) rfl ?_
          refine wl_ov (ov_pick_f rfl rfl) rfl ?_
          refine wl_ov (ov_move rfl) rfl ?_
          refine wl_guard_off rfl rfl rfl (by decide) rfl ?_
          refine wl_guard_off rfl rfl rfl (by decide) rfl ?_
          refine wl_guard_off rfl rfl rfl (by decide) rfl ?_
          refine wl_guard_off rfl rfl rfl (by decide) rfl ?_
          refine wl_guard_off rfl rfl rfl (by decide) rfl ?_
          refine wl_ov (ov_pick_f rfl rfl) rfl ?_
          refine wl_nil ?_
          refine nx_then ?_
          refine gw_cond rfl (fun hh => by cases hh) (fun _ => ?_)
          refine gw_skip ?_
          refine nx_blk_nrm ?_
          refine nx_then ?_
          refine gw_region ?_
          refine wl_ov (ov_move rfl) rfl ?_
          refine wl_ov (ov_add rfl rfl (by omega) (by omega)) rfl ?_
          refine wl_ov (ov_assign rfl) rfl ?_
          refine wl_nil ?_
          exact nx_round (k + 1) ⟨by omega, by rw [hinv.2, hst, if_neg (by omega), show at_ / 1440 + ((k : Nat) : Int) + 1 = at_ / 1440 + ((k + 1 : Nat) : Int) by omega]⟩ (by omega) ⟨rfl, rfl, (some_int (by omega)), trivial⟩ (fun _ hm => hm.pick [1] [] [] rfl rfl)
      · have hfr : frD [u0, u1, u2, u3, u4, u5, u6, u7, u8, u9, u10, u11, u12, u13] ((at_ / 1440 + ((k : Nat) : Int))) = u8 := by unfold frD; rw [hjc]; rfl
        have hto : toD [u0, u1, u2, u3, u4, u5, u6, u7, u8, u9, u10, u11, u12, u13] ((at_ / 1440 + ((k : Nat) : Int))) = u9 := by unfold toD; rw [hjc]; rfl
        rw [hfr, hto] at hst
        refine wl_ov (ov_move rfl) rfl ?_
        refine wl_ov (ov_rem rfl rfl (by omega) (by omega) (by omega)) rfl ?_
        refine wl_set 23 (v' := .int .i64 4) rfl (congrArg (Value.int .i64) hjc) ?_
        refine wl_ov (ov_field fo56_1 rfl rfl) rfl ?_
        refine wl_ov (ov_indexP (j := 4) ar54 rfl rfl (by decide) rfl) rfl ?_
        refine wl_ov (ov_loads rz31 rfl (fun _ hm => hm.blkI 0 rfl) rfl rfl) rfl ?_
        refine wl_alloc zc31 rfl fun g6 => ?_
        refine wl_stores (cs' := [.int .i64 u8, .int .i64 u9]) 0 rz31 rfl rfl rfl rfl rfl rfl rfl rfl ?_
        refine wl_nil ?_
        refine nx_then ?_
        refine gw_seq ?_
        refine gw_region ?_
        refine wl_ov (ov_move rfl) rfl ?_
        refine wl_ov (ov_mul rfl rfl (by omega) (by omega)) rfl ?_
        refine wl_ov (ov_field fo31_0 rfl rfl) rfl ?_
        refine wl_ov (ov_load sc3 rfl (fun _ hm => hm.blkI 0 rfl) rfl) rfl ?_
        refine wl_ov (ov_add rfl rfl (by omega) (by omega)) rfl ?_
        refine wl_ov (ov_assign rfl) rfl ?_
        refine wl_nil ?_
        refine nx_then ?_
        refine gw_seq ?_
        refine gw_region ?_
        refine wl_ov (ov_move rfl) rfl ?_
        refine wl_ov (ov_move rfl) rfl ?_
        refine wl_ov (ov_gtr rfl rfl) rfl ?_
        refine wl_ov (ov_move rfl) rfl ?_
        rcases Bool.eq_false_or_eq_true (decide (at_ < ((at_ / 1440 + ((k : Nat) : Int)) * 1440) + u8)) with g1 | g1
        · refine wl_set 35 rfl (congrArg Value.bool g1) ?_
          have g1 := of_decide_eq_true g1
          refine wl_guard_on rfl rfl rfl ?_
          refine wl_ov (ov_move rfl) rfl ?_
          refine wl_guard_on rfl rfl rfl ?_
          refine wl_ov (ov_lss rfl rfl) rfl ?_
          refine wl_ov (ov_pick_t rfl rfl) rfl ?_
          refine wl_ov (ov_move rfl) rfl ?_
          rcases Bool.eq_false_or_eq_true (decide (((at_ / 1440 + ((k : Nat) : Int)) * 1440) + u8 < 5761440)) with g2 | g2
          · refine wl_set 39 rfl (congrArg Value.bool g2) ?_
            have g2 := of_decide_eq_true g2
            refine wl_guard_on rfl rfl rfl ?_
            refine wl_ov (ov_field fo31_0 rfl rfl) rfl ?_
            refine wl_guard_on rfl rfl rfl ?_
            refine wl_ov (ov_load sc3 rfl (fun _ hm => hm.blkI 0 rfl) rfl) rfl ?_
            refine wl_guard_on rfl rfl rfl ?_
            refine wl_ov (ov_field fo31_1 rfl rfl) rfl ?_
            refine wl_guard_on rfl rfl rfl ?_
            refine wl_ov (ov_load sc3 rfl (fun _ hm => hm.blkI 0 rfl) rfl) rfl ?_
            refine wl_guard_on rfl rfl rfl ?_
            refine wl_ov (ov_lss rfl rfl) rfl ?_
            refine wl_ov (ov_pick_t rfl rfl) rfl ?_
            refine wl_nil ?_
            refine nx_then ?_
            refine gw_cond rfl (fun hh => ?_) (fun hh => ?_)
            · have g3 : u8 < u9 := by simpa using hh
              clear hh
              refine gw_seq ?_
              refine gw_region ?_
              refine wl_ov (ov_move rfl) rfl ?_
              refine wl_ov (ov_assign rfl) rfl ?_
              refine wl_ov (ov_assign rfl) rfl ?_
              refine wl_nil ?_
              refine nx_then ?_
              refine gw_ret ?_
              refine nx_blk_ret ?_
              refine nx_then_ret ?_
              refine nx_then_ret ?_
              refine nx_blk_ret ?_
              refine nx_then_ret ?_
              refine nx_ret2 rfl rfl rfl fun wx hm => ?_
              exact ⟨by rw [hinv.2, hst, if_pos ⟨by omega, by omega, g3⟩]; rfl, hm.g⟩
            · have g3 : ¬ (u8 < u9) := by simpa using hh
              clear hh
              refine gw_skip ?_
              refine nx_blk_nrm ?_
              refine nx_then ?_
              refine gw_region ?_
              refine wl_ov (ov_move rfl) rfl ?_
              refine wl_ov (ov_add rfl rfl (by omega) (by omega)) rfl ?_
              refine wl_ov (ov_assign rfl) rfl ?_
              refine wl_nil ?_
              exact nx_round (k + 1) ⟨by omega, by rw [hinv.2, hst, if_neg (by omega), show at_ / 1440 + ((k : Nat) : Int) + 1 = at_ / 1440 + ((k + 1 : Nat) : Int) by omega]⟩ (by omega) ⟨rfl, rfl, (some_int (by omega)), trivial⟩ (fun _ hm => hm.pick [1] [] [] rfl rfl)
          · refine wl_set 39 rfl (congrArg Value.bool g2) ?_
            have g2 := of_decide_eq_false g2
            refine wl_guard_off rfl rfl rfl (by decide) rfl ?_
            refine wl_guard_off rfl rfl rfl (by decide) rfl ?_
            refine wl_guard_off rfl rfl rfl (by decide) rfl ?_
            refine wl_guard_off rfl rfl rfl (by decide) rfl ?_
            refine wl_guard_off rfl rfl rfl (by decide) rfl ?_
            refine wl_ov (ov_pick_f rfl rfl) rfl ?_
            refine wl_nil ?_
            refine nx_then ?_
            refine gw_cond rfl (fun hh => by cases hh) (fun _ => ?_)
            refine gw_skip ?_
            refine nx_blk_nrm ?_
            refine nx_then ?_
            refine gw_region ?_
            refine wl_ov (ov_move rfl) rfl ?_
            refine wl_ov (ov_add rfl rfl (by omega) (by omega)) rfl ?_
            refine wl_ov (ov_assign rfl) rfl ?_
            refine wl_nil ?_
            exact nx_round (k + 1) ⟨by omega, by rw [hinv.2, hst, if_neg (by omega), show at_ / 1440 + ((k : Nat) : Int) + 1 = at_ / 1440 + ((k + 1 : Nat) : Int) by omega]⟩ (by omega) ⟨rfl, rfl, (some_int (by omega)), trivial⟩ (fun _ hm => hm.pick [1] [] [] rfl rfl)
        · refine wl_set 35 rfl (congrArg Value.bool g1) ?_
          have g1 := of_decide_eq_false g1
          refine wl_guard_off rfl rfl rfl (by decide) rfl ?_
          refine wl_guard_off rfl rfl rfl (by decide) rfl ?_
          refine wl_ov (ov_pick_f rfl rfl) rfl ?_
          refine wl_ov (ov_move rfl) rfl ?_
          refine wl_guard_off rfl rfl rfl (by decide) rfl ?_
          refine wl_guard_off rfl rfl rfl (by decide) rfl ?_
          refine wl_guard_off rfl rfl rfl (by decide) rfl ?_
          refine wl_guard_off rfl rfl rfl (by decide) rfl ?_
          refine wl_guard_off rfl rfl rfl (by decide) rfl ?_
          refine wl_ov (ov_pick_f rfl rfl) rfl ?_
          refine wl_nil ?_
          refine nx_then ?_
          refine gw_cond rfl (fun hh => by cases hh) (fun _ => ?_)
          refine gw_skip ?_
          refine nx_blk_nrm ?_
          refine nx_then ?_
          refine gw_region ?_
          refine wl_ov (ov_move rfl) rfl ?_
          refine wl_ov (ov_add rfl rfl (by omega) (by omega)) rfl ?_
          refine wl_ov (ov_assign rfl) rfl ?_
          refine wl_nil ?_
          exact nx_round (k + 1) ⟨by omega, by rw [hinv.2, hst, if_neg (by omega), show at_ / 1440 + ((k : Nat) : Int) + 1 = at_ / 1440 + ((k + 1 : Nat) : Int) by omega]⟩ (by omega) ⟨rfl, rfl, (some_int (by omega)), trivial⟩ (fun _ hm => hm.pick [1] [] [] rfl rfl)
      · have hfr : frD [u0, u1, u2, u3, u4, u5, u6, u7, u8, u9, u10, u11, u12, u13] ((at_ / 1440 + ((k : Nat) : Int))) = u10 := by unfold frD; rw [hjc]; rfl
        have hto : toD [u0, u1, u2, u3, u4, u5, u6, u7, u8, u9, u10, u11, u12, u13] ((at_ / 1440 + ((k : Nat) : Int))) = u11 := by unfold toD; rw [hjc]; rfl
        rw [hfr, hto] at hst
        refine wl_ov (ov_move rfl) rfl ?_
        refine wl_ov (ov_rem rfl rfl (by omega) (by omega) (by omega)) rfl ?_
        refine wl_set 23 (v' := .int .i64 5) rfl (congrArg (Value.int .i64) hjc) ?_
        refine wl_ov (ov_field fo56_1 rfl rfl) rfl ?_
        refine wl_ov (ov_indexP (j := 5) ar54 rfl rfl (by decide) rfl) rfl ?_
        refine wl_ov (ov_loads rz31 rfl (fun _ hm => hm.blkI 0 rfl) rfl rfl) rfl ?_
        refine wl_alloc zc31 rfl fun g7 => ?_
        refine wl_stores (cs' := [.int .i64 u10, .int .i64 u11]) 0 rz31 rfl rfl rfl rfl rfl rfl rfl rfl ?_
        refine wl_nil ?_
        refine nx_then ?_
        refine gw_seq ?_
        refine gw_region ?_
        refine wl_ov (ov_move rfl) rfl ?_
        refine wl_ov (ov_mul rfl rfl (by omega) (by omega)) rfl ?_
        refine wl_ov (ov_field fo31_0 rfl rfl) rfl ?_
        refine wl_ov (ov_load sc3 rfl (fun _ hm => hm.blkI 0 rfl) rfl) rfl ?_
        refine wl_ov (ov_add rfl rfl (by omega) (by omega)) rfl ?_
        refine wl_ov (ov_assign rfl) rfl ?_
        refine wl_nil ?_
        refine nx_then ?_
        refine gw_seq ?_
        refine gw_region ?_
        refine wl_ov (ov_move rfl) rfl ?_
        refine wl_ov (ov_move rfl) rfl ?_
        refine wl_ov (ov_gtr rfl rfl) rfl ?_
        refine wl_ov (ov_move rfl) rfl ?_
        rcases Bool.eq_false_or_eq_true (decide (at_ < ((at_ / 1440 + ((k : Nat) : Int)) * 1440) + u10)) with g1 | g1
        · refine wl_set 35 rfl (congrArg Value.bool g1) ?_
          have g1 := of_decide_eq_true g1
          refine wl_guard_on rfl rfl rfl ?_
          refine wl_ov (ov_move rfl) rfl ?_
          refine wl_guard_on rfl rfl rfl ?_
          refine wl_ov (ov_lss rfl rfl) rfl ?_
          refine wl_ov (ov_pick_t rfl rfl) rfl ?_
          refine wl_ov (ov_move rfl) rfl ?_
          rcases Bool.eq_false_or_eq_true (decide (((at_ / 1440 + ((k : Nat) : Int)) * 1440) + u10 < 5761440)) with g2 | g2
          · refine wl_set 39 rfl (congrArg Value.bool g2) ?_
            have g2 := of_decide_eq_true g2
            refine wl_guard_on rfl rfl rfl ?_
            refine wl_ov (ov_field fo31_0 rfl rfl) rfl ?_
            refine wl_guard_on rfl rfl rfl ?_
            refine wl_ov (ov_load sc3 rfl (fun _ hm => hm.blkI 0 rfl) rfl) rfl ?_
            refine wl_guard_on rfl rfl rfl ?_
            refine wl_ov (ov_field fo31_1 rfl rfl) rfl ?_
            refine wl_guard_on rfl rfl rfl ?_
            refine wl_ov (ov_load sc3 rfl (fun _ hm => hm.blkI 0 rfl) rfl) rfl ?_
            refine wl_guard_on rfl rfl rfl ?_
            refine wl_ov (ov_lss rfl rfl) rfl ?_
            refine wl_ov (ov_pick_t rfl rfl) rfl ?_
            refine wl_nil ?_
            refine nx_then ?_
            refine gw_cond rfl (fun hh => ?_) (fun hh => ?_)
            · have g3 : u10 < u11 := by simpa using hh
              clear hh
              refine gw_seq ?_
              refine gw_region ?_
              refine wl_ov (ov_move rfl) rfl ?_
              refine wl_ov (ov_assign rfl) rfl ?_
              refine wl_ov (ov_assign rfl) rfl ?_
              refine wl_nil ?_
              refine nx_then ?_
              refine gw_ret ?_
              refine nx_blk_ret ?_
              refine nx_then_ret ?_
              refine nx_then_ret ?_
              refine nx_blk_ret ?_
              refine nx_then_ret ?_
              refine nx_ret2 rfl rfl rfl fun wx hm => ?_
              exact ⟨by rw [hinv.2, hst, if_pos ⟨by omega, by omega, g3⟩]; rfl, hm.g⟩
            · have g3 : ¬ (u10 < u11) := by simpa using hh
              clear hh
              refine gw_skip ?_
              refine nx_blk_nrm ?_
              refine nx_then ?_
              refine gw_region ?_
              refine wl_ov (ov_move rfl) rfl ?_
              refine wl_ov (ov_add rfl rfl (by omega) (by omega)) rfl ?_
              refine wl_ov (ov_assign rfl) rfl ?_
              refine wl_nil ?_
              exact nx_round (k + 1) ⟨by omega, by rw [hinv.2, hst, if_neg (by omega), show at_ / 1440 + ((k : Nat) : Int) + 1 = at_ / 1440 + ((k + 1 : Nat) : Int) by omega]⟩ (by omega) ⟨rfl, rfl, (some_int (by omega)), trivial⟩ (fun _ hm => hm.pick [1] [] [] rfl rfl)
          · refine wl_set 39 rfl (congrArg Value.bool g2) ?_
            have g2 := of_decide_eq_false g2
            refine wl_guard_off rfl rfl rfl (by decide) rfl ?_
            refine wl_guard_off rfl rfl rfl (by decide) rfl ?_
            refine wl_guard_off rfl rfl rfl (by decide) rfl ?_
            refine wl_guard_off rfl rfl rfl (by decide) rfl ?_
            refine wl_guard_off rfl rfl rfl (by decide) rfl ?_
            refine wl_ov (ov_pick_f rfl rfl) rfl ?_
            refine wl_nil ?_
            refine nx_then ?_
            refine gw_cond rfl (fun hh => by cases hh) (fun _ => ?_)
            refine gw_skip ?_
            refine nx_blk_nrm ?_
            refine nx_then ?_
            refine gw_region ?_
            refine wl_ov (ov_move rfl) rfl ?_
            refine wl_ov (ov_add rfl rfl (by omega) (by omega)) rfl ?_
            refine wl_ov (ov_assign rfl) rfl ?_
            refine wl_nil ?_
            exact nx_round (k + 1) ⟨by omega, by rw [hinv.2, hst, if_neg (by omega), show at_ / 1440 + ((k : Nat) : Int) + 1 = at_ / 1440 + ((k + 1 : Nat) : Int) by omega]⟩ (by omega) ⟨rfl, rfl, (some_int (by omega)), trivial⟩ (fun _ hm => hm.pick [1] [] [] rfl rfl)
        · refine wl_set 35 rfl (congrArg Value.bool g1) ?_
          have g1 := of_decide_eq_false g1
          refine wl_guard_off rfl rfl rfl (by decide) rfl ?_
          refine wl_guard_off rfl rfl rfl (by decide) rfl ?_
          refine wl_ov (ov_pick_f rfl rfl) rfl ?_
          refine wl_ov (ov_move rfl) rfl ?_
          refine wl_guard_off rfl rfl rfl (by decide) rfl ?_
          refine wl_guard_off rfl rfl rfl (by decide) rfl ?_
          refine wl_guard_off rfl rfl rfl (by decide) rfl ?_
          refine wl_guard_off rfl rfl rfl (by decide) rfl ?_
          refine wl_guard_off rfl rfl rfl (by decide) rfl ?_
          refine wl_ov (ov_pick_f rfl rfl) rfl ?_
          refine wl_nil ?_
          refine nx_then ?_
          refine gw_cond rfl (fun hh => by cases hh) (fun _ => ?_)
          refine gw_skip ?_
          refine nx_blk_nrm ?_
          refine nx_then ?_
          refine gw_region ?_
          refine wl_ov (ov_move rfl) rfl ?_
          refine wl_ov (ov_add rfl rfl (by omega) (by omega)) rfl ?_
          refine wl_ov (ov_assign rfl) rfl ?_
          refine wl_nil ?_
          exact nx_round (k + 1) ⟨by omega, by rw [hinv.2, hst, if_neg (by omega), show at_ / 1440 + ((k : Nat) : Int) + 1 = at_ / 1440 + ((k + 1 : Nat) : Int) by omega]⟩ (by omega) ⟨rfl, rfl, (some_int (by omega)), trivial⟩ (fun _ hm => hm.pick [1] [] [] rfl rfl)
      · have hfr : frD [u0, u1, u2, u3, u4, u5, u6, u7, u8, u9, u10, u11, u12, u13] ((at_ / 1440 + ((k : Nat) : Int))) = u12 := by unfold frD; rw [hjc]; rfl
        have hto : toD [u0, u1, u2, u3, u4, u5, u6, u7, u8, u9, u10, u11, u12, u13] ((at_ / 1440 + ((k : Nat) : Int))) = u13 := by unfold toD; rw [hjc]; rfl
        rw [hfr, hto] at hst
        refine wl_ov (ov_move rfl) rfl ?_
        refine wl_ov (ov_rem rfl rfl (by omega) (by omega) (by omega)) rfl ?_
        refine wl_set 23 (v' := .int .i64 6) rfl (congrArg (Value.int .i64) hjc) ?_
        refine wl_ov (ov_field fo56_1 rfl rfl) rfl ?_
        refine wl_ov (ov_indexP (j := 6) ar54 rfl rfl (by decide) rfl) rfl ?_
        refine wl_ov (ov_loads rz31 rfl (fun _ hm => hm.blkI 0 rfl) rfl rfl) rfl ?_
        refine wl_alloc zc31 rfl fun g8 => ?_
        refine wl_stores (cs' := [.int .i64 u12, .int .i64 u13]) 0 rz31 rfl rfl rfl rfl rfl rfl rfl rfl ?_
        refine wl_nil ?_
        refine nx_then ?_
        refine gw_seq ?_
        refine gw_region ?_
        refine wl_ov (ov_move rfl) rfl ?_
        refine wl_ov (ov_mul rfl rfl (by omega) (by omega)) rfl ?_
        refine wl_ov (ov_field fo31_0 rfl rfl) rfl ?_
        refine wl_ov (ov_load sc3 rfl (fun _ hm => hm.blkI 0 rfl) rfl) rfl ?_
        refine wl_ov (ov_add rfl rfl (by omega) (by omega)) rfl ?_
        refine wl_ov (ov_assign rfl) rfl ?_
        refine wl_nil ?_
        refine nx_then ?_
        refine gw_seq ?_
        refine gw_region ?_
        refine wl_ov (ov_move rfl) rfl ?_
        refine wl_ov (ov_move rfl) rfl ?_
        refine wl_ov (ov_gtr rfl rfl) rfl ?_
        refine wl_ov (ov_move rfl) rfl ?_
        rcases Bool.eq_false_or_eq_true (decide (at_ < ((at_ / 1440 + ((k : Nat) : Int)) * 1440) + u12)) with g1 | g1
        · refine wl_set 35 rfl (congrArg Value.bool g1) ?_
          have g1 := of_decide_eq_true g1
          refine wl_guard_on rfl rfl rfl ?_
          refine wl_ov (ov_move rfl) rfl ?_
          refine wl_guard_on rfl rfl rfl ?_
          refine wl_ov (ov_lss rfl rfl) rfl ?_
          refine wl_ov (ov_pick_t rfl rfl) rfl ?_
          refine wl_ov (ov_move rfl) rfl ?_
          rcases Bool.eq_false_or_eq_true (decide (((at_ / 1440 + ((k : Nat) : Int)) * 1440) + u12 < 5761440)) with g2 | g2
          · refine wl_set 39 rfl (congrArg Value.bool g2) ?_
            have g2 := of_decide_eq_true g2
            refine wl_guard_on rfl rfl rfl ?_
            refine wl_ov (ov_field fo31_0 rfl rfl) rfl ?_
            refine wl_guard_on rfl rfl rfl ?_
            refine wl_ov (ov_load sc3 rfl (fun _ hm => hm.blkI 0 rfl) rfl) rfl ?_
            refine wl_guard_on rfl rfl rfl ?_
            refine wl_ov (ov_field fo31_1 rfl rfl) rfl ?_
            refine wl_guard_on rfl rfl rfl ?_
            refine wl_ov (ov_load sc3 rfl (fun _ hm => hm.blkI 0 rfl) rfl) rfl ?_
            refine wl_guard_on rfl rfl rfl ?_
            refine wl_ov (ov_lss rfl rfl) rfl ?_
            refine wl_ov (ov_pick_t rfl rfl) rfl ?_
            refine wl_nil ?_
            refine nx_then ?_
            refine gw_cond rfl (fun hh => ?_) (fun hh => ?_)
            · have g3 : u12 < u13 := by simpa using hh
              clear hh
              refine gw_seq ?_
              refine gw_region ?_
              refine wl_ov (ov_move rfl) rfl ?_
              refine wl_ov (ov_assign rfl) rfl ?_
              refine wl_ov (ov_assign rfl) rfl ?_
              refine wl_nil ?_
              refine nx_then ?_
              refine gw_ret ?_
              refine nx_blk_ret ?_
              refine nx_then_ret ?_
              refine nx_then_ret ?_
              refine nx_blk_ret ?_
              refine nx_then_ret ?_
              refine nx_ret2 rfl rfl rfl fun wx hm => ?_
              exact ⟨by rw [hinv.2, hst, if_pos ⟨by omega, by omega, g3⟩]; rfl, hm.g⟩
            · have g3 : ¬ (u12 < u13) := by simpa using hh
              clear hh
              refine gw_skip ?_
              refine nx_blk_nrm ?_
              refine nx_then ?_
              refine gw_region ?_
              refine wl_ov (ov_move rfl) rfl ?_
              refine wl_ov (ov_add rfl rfl (by omega) (by omega)) rfl ?_
              refine wl_ov (ov_assign rfl) rfl ?_
              refine wl_nil ?_
              exact nx_round (k + 1) ⟨by omega, by rw [hinv.2, hst, if_neg (by omega), show at_ / 1440 + ((k : Nat) : Int) + 1 = at_ / 1440 + ((k + 1 : Nat) : Int) by omega]⟩ (by omega) ⟨rfl, rfl, (some_int (by omega)), trivial⟩ (fun _ hm => hm.pick [1] [] [] rfl rfl)
          · refine wl_set 39 rfl (congrArg Value.bool g2) ?_
            have g2 := of_decide_eq_false g2
            refine wl_guard_off rfl rfl rfl (by decide) rfl ?_
            refine wl_guard_off rfl rfl rfl (by decide) rfl ?_
            refine wl_guard_off rfl rfl rfl (by decide) rfl ?_
            refine wl_guard_off rfl rfl rfl (by decide) rfl ?_
            refine wl_guard_off rfl rfl rfl (by decide) rfl ?_
            refine wl_ov (ov_pick_f rfl rfl) rfl ?_
            refine wl_nil ?_
            refine nx_then ?_
            refine gw_cond rfl (fun hh => by cases hh) (fun _ => ?_)
            refine gw_skip ?_
            refine nx_blk_nrm ?_
            refine nx_then ?_
            refine gw_region ?_
            refine wl_ov (ov_move rfl) rfl ?_
            refine wl_ov (ov_add rfl rfl (by omega) (by omega)) rfl ?_
            refine wl_ov (ov_assign rfl) rfl ?_
            refine wl_nil ?_
            exact nx_round (k + 1) ⟨by omega, by rw [hinv.2, hst, if_neg (by omega), show at_ / 1440 + ((k : Nat) : Int) + 1 = at_ / 1440 + ((k + 1 : Nat) : Int) by omega]⟩ (by omega) ⟨rfl, rfl, (some_int (by omega)), trivial⟩ (fun _ hm => hm.pick [1] [] [] rfl rfl)
        · refine wl_set 35 rfl (congrArg Value.bool g1) ?_
          have g1 := of_decide_eq_false g1
          refine wl_guard_off rfl rfl rfl (by decide) rfl ?_
          refine wl_guard_off rfl rfl rfl (by decide) rfl ?_
          refine wl_ov (ov_pick_f rfl rfl) rfl ?_
          refine wl_ov (ov_move rfl) rfl ?_
          refine wl_guard_off rfl rfl rfl (by decide) rfl ?_
          refine wl_guard_off rfl rfl rfl (by decide) rfl ?_
          refine wl_guard_off rfl rfl rfl (by decide) rfl ?_
          refine wl_guard_off rfl rfl rfl (by decide) rfl ?_
          refine wl_guard_off rfl rfl rfl (by decide) rfl ?_
          refine wl_ov (ov_pick_f rfl rfl) rfl ?_
          refine wl_nil ?_
          refine nx_then ?_
          refine gw_cond rfl (fun hh => by cases hh) (fun _ => ?_)
          refine gw_skip ?_
          refine nx_blk_nrm ?_
          refine nx_then ?_
          refine gw_region ?_
          refine wl_ov (ov_move rfl) rfl ?_
          refine wl_ov (ov_add rfl rfl (by omega) (by omega)) rfl ?_
          refine wl_ov (ov_assign rfl) rfl ?_
          refine wl_nil ?_
          exact nx_round (k + 1) ⟨by omega, by rw [hinv.2, hst, if_neg (by omega), show at_ / 1440 + ((k : Nat) : Int) + 1 = at_ / 1440 + ((k + 1 : Nat) : Int) by omega]⟩ (by omega) ⟨rfl, rfl, (some_int (by omega)), trivial⟩ (fun _ hm => hm.pick [1] [] [] rfl rfl)
    · have hk : ¬ (at_ / 1440 + ((k : Nat) : Int) ≤ (at_ / 1440) + 7) := by simpa using hh
      clear hh
      refine gw_exit ?_
      refine nx_then_exit ?_
      refine nx_then_exit ?_
      refine nx_blk_here ?_
      refine nx_then ?_
      refine gw_seq ?_
      refine gw_region ?_
      refine wl_ov (ov_assign rfl) rfl ?_
      refine wl_ov (ov_assign rfl) rfl ?_
      refine wl_nil ?_
      refine nx_then ?_
      refine gw_ret ?_
      refine nx_ret2 rfl rfl rfl fun wx hm => ?_
      exact ⟨by rw [hinv.2, show 8 - k = 0 by omega]; rfl, hm.g⟩

set_option maxRecDepth 100000 in
set_option maxHeartbeats 1000000 in
theorem openIn_any (key : ByteArray) (u0 u1 u2 u3 u4 u5 u6 u7 u8 u9 u10 u11 u12 u13 : Int) (a b : Int) (w : World) (ho : HrsOk [u0, u1, u2, u3, u4, u5, u6, u7, u8, u9, u10, u11, u12, u13]) (ha : 0 ≤ a) (hab : a ≤ b) (hb : b ≤ 5761440) :
    Calls Tryd.prog 34 #[.agg #[.string key, .int .i64 u0, .int .i64 u1, .int .i64 u2, .int .i64 u3, .int .i64 u4, .int .i64 u5, .int .i64 u6, .int .i64 u7, .int .i64 u8, .int .i64 u9, .int .i64 u10, .int .i64 u11, .int .i64 u12, .int .i64 u13], .agg #[.int .i64 a, .int .i64 b]] w (fun e w' => e = .returned (.int .i64 (minSum [u0, u1, u2, u3, u4, u5, u6, u7, u8, u9, u10, u11, u12, u13] a b 4002 (a / 1440))) ∧ w.grownBy w' none) := by
  refine gw_enter ⟨44, w, none, []⟩ Tryd.func34 rfl Tryd.ntmps34 rfl (mem0 (X := []) allF_nil allL_nil) ?_
  refine gw_seq ?_
  refine gw_region ?_
  have q0 : 0 ≤ u0 ∧ u0 ≤ u1 ∧ u1 ≤ 1440 := ho 0
  have q1 : 0 ≤ u2 ∧ u2 ≤ u3 ∧ u3 ≤ 1440 := ho 1
  have q2 : 0 ≤ u4 ∧ u4 ≤ u5 ∧ u5 ≤ 1440 := ho 2
  have q3 : 0 ≤ u6 ∧ u6 ≤ u7 ∧ u7 ≤ 1440 := ho 3
  have q4 : 0 ≤ u8 ∧ u8 ≤ u9 ∧ u9 ≤ 1440 := ho 4
  have q5 : 0 ≤ u10 ∧ u10 ≤ u11 ∧ u11 ≤ 1440 := ho 5
  have q6 : 0 ≤ u12 ∧ u12 ≤ u13 ∧ u13 ≤ 1440 := ho 6
  refine wl_box rfl rfl rfl fun g1 => ?_
  refine wl_box rfl rfl rfl fun g2 => ?_
  refine wl_ov (ov_assign rfl) rfl ?_
  refine wl_nil ?_
  refine nx_then ?_
  refine gw_seq ?_
  refine gw_region ?_
  refine wl_ov (ov_assign rfl) rfl ?_
  refine wl_nil ?_
  refine nx_then ?_
  refine gw_seq ?_
  refine gw_seq ?_
  refine gw_region ?_
  refine wl_ov (ov_field fo31_0 rfl rfl) rfl ?_
  refine wl_ov (ov_load sc3 rfl (fun _ hm => hm.blkI 0 rfl) rfl) rfl ?_
  refine wl_ov (ov_quo rfl rfl (by omega) (by omega) (by omega)) rfl ?_
  refine wl_ov (ov_assign rfl) rfl ?_
  refine wl_nil ?_
  refine nx_then ?_
  refine gw_block ?_
  refine gw_loop (γ := Nat × Int) (fun (g : Nat × Int) => g.1 ≤ 4002 ∧ (0 ≤ g.2 ∧ g.2 ≤ 5761440 * ((g.1 : Nat) : Int)) ∧ g.2 + minSum [u0, u1, u2, u3, u4, u5, u6, u7, u8, u9, u10, u11, u12, u13] a b (4002 - g.1) (a / 1440 + ((g.1 : Nat) : Int)) = minSum [u0, u1, u2, u3, u4, u5, u6, u7, u8, u9, u10, u11, u12, u13] a b 4002 (a / 1440)) (fun (g : Nat × Int) => [(2, .pointer (some ⟨g1, 0, none⟩)), (3, .pointer (some ⟨g2, 0, none⟩)), (4, .int .i64 0), (5, .int .i64 g.2), (6, .int .i64 (a / 1440 + ((g.1 : Nat) : Int)))]) (fun (g : Nat × Int) => fun _ => True) (fun (g : Nat × Int) => [(g2, 31, [.int .i64 a, .int .i64 b]), (g1, 56, [.string key, .int .i64 u0, .int .i64 u1, .int .i64 u2, .int .i64 u3, .int .i64 u4, .int .i64 u5, .int .i64 u6, .int .i64 u7, .int .i64 u8, .int .i64 u9, .int .i64 u10, .int .i64 u11, .int .i64 u12, .int .i64 u13])]) (fun (g : Nat × Int) => []) (fun (g : Nat × Int) => []) (fun (g : Nat × Int) => 4002 - g.1) (0, 0) ⟨Nat.zero_le _, ⟨by dsimp only; omega, by dsimp only; omega⟩, by dsimp only; rw [Int.zero_add]; congr 1; omega⟩ ⟨rfl, rfl, rfl, rfl, (some_int (by omega)), trivial⟩ (fun _ hm => hm.pick [0, 1] [] [] rfl rfl) ?_
  rintro ⟨k, acc⟩ hinv
  replace hinv : k ≤ 4002 ∧ (0 ≤ acc ∧ acc ≤ 5761440 * ((k : Nat) : Int)) ∧ acc + minSum [u0, u1, u2, u3, u4, u5, u6, u7, u8, u9, u10, u11, u12, u13] a b (4002 - k) (a / 1440 + ((k : Nat) : Int)) = minSum [u0, u1, u2, u3, u4, u5, u6, u7, u8, u9, u10, u11, u12, u13] a b 4002 (a / 1440) := hinv
  dsimp only
  refine gw_seq ?_
  refine gw_seq ?_
  refine gw_region ?_
  obtain ⟨hk0, ⟨ha0, ha1⟩, hsum⟩ := hinv
  refine wl_ov (ov_move rfl) rfl ?_
  refine wl_ov (ov_mul rfl rfl (by omega) (by omega)) rfl ?_
  refine wl_ov (ov_field fo31_1 rfl rfl) rfl ?_
  refine wl_ov (ov_load sc3 rfl (fun _ hm => hm.blkI 0 rfl) rfl) rfl ?_
  refine wl_ov (ov_lss rfl rfl) rfl ?_
  refine wl_nil ?_
  refine nx_then ?_
  refine gw_cond rfl (fun hh => ?_) (fun hh => ?_)
  · have hk : (a / 1440 + ((k : Nat) : Int)) * 1440 < b := by simpa using hh
    clear hh
    refine gw_skip ?_
    refine nx_then ?_
    refine gw_seq ?_
    refine gw_block ?_
    refine gw_seq ?_
    refine gw_region ?_
    have hk8 : k < 4002 := by omega
    have hst := minSum_at (hs := [u0, u1, u2, u3, u4, u5, u6, u7, u8, u9, u10, u11, u12, u13]) (a := a) (d := a / 1440 + ((k : Nat) : Int)) hk8 hk
    have hjc : (a / 1440 + ((k : Nat) : Int)) % 7 = 0 ∨ (a / 1440 + ((k : Nat) : Int)) % 7 = 1 ∨ (a / 1440 + ((k : Nat) : Int)) % 7 = 2 ∨ (a / 1440 + ((k : Nat) : Int)) % 7 = 3 ∨ (a / 1440 + ((k : Nat) : Int)) % 7 = 4 ∨ (a / 1440 + ((k : Nat) : Int)) % 7 = 5 ∨ (a / 1440 + ((k : Nat) : Int)) % 7 = 6 := by omega
    rcases hjc with hjc | hjc | hjc | hjc | hjc | hjc | hjc
    · have hfr : frD [u0, u1, u2, u3, u4, u5, u6, u7, u8, u9, u10, u11, u12, u13] ((a / 1440 + ((k : Nat) : Int))) = u0 := by unfold frD; rw [hjc]; rfl
      have hto : toD [u0, u1, u2, u3, u4, u5, u6, u7, u8, u9, u10, u11, u12, u13] ((a / 1440 + ((k : Nat) : Int))) = u1 := by unfold toD; rw [hjc]; rfl
      rw [hfr, hto] at hst
      refine wl_ov (ov_move rfl) rfl ?_
      refine wl_ov (ov_rem rfl rfl (by omega) (by omega) (by omega)) rfl ?_
      refine wl_set 19 (v' := .int .i64 0) rfl (congrArg (Value.int .i64) hjc) ?_
      refine wl_ov (ov_field fo56_1 rfl rfl) rfl ?_
      refine wl_ov (ov_indexP (j := 0) ar54 rfl rfl (by decide) rfl) rfl ?_
      refine wl_ov (ov_loads rz31 rfl (fun _ hm => hm.blkI 1 rfl) rfl rfl) rfl ?_
      refine wl_alloc zc31 rfl fun g3 => ?_
      refine wl_stores (cs' := [.int .i64 u0, .int .i64 u1]) 0 rz31 rfl rfl rfl rfl rfl rfl rfl rfl ?_
      refine wl_nil ?_
      refine nx_then ?_
      refine gw_region ?_
      refine wl_ov (ov_move rfl) rfl ?_
      refine wl_ov (ov_field fo31_1 rfl rfl) rfl ?_
      refine wl_ov (ov_load sc3 rfl (fun _ hm => hm.blkI 1 rfl) rfl) rfl ?_
      refine wl_ov (ov_move rfl) rfl ?_
      refine wl_ov (ov_mul rfl rfl (by omega) (by omega)) rfl ?_
      refine wl_ov (ov_field fo31_1 rfl rfl) rfl ?_
      refine wl_ov (ov_load sc3 rfl (fun _ hm => hm.blkI 0 rfl) rfl) rfl ?_
      refine wl_ov (ov_add rfl rfl (by omega) (by omega)) rfl ?_
      refine wl_ov (ov_min rfl rfl) rfl ?_
      refine wl_ov (ov_field fo31_0 rfl rfl) rfl ?_
      refine wl_ov (ov_load sc3 rfl (fun _ hm => hm.blkI 1 rfl) rfl) rfl ?_
      refine wl_ov (ov_move rfl) rfl ?_
      refine wl_ov (ov_mul rfl rfl (by omega) (by omega)) rfl ?_
      refine wl_ov (ov_field fo31_0 rfl rfl) rfl ?_
      refine wl_ov (ov_load sc3 rfl (fun _ hm => hm.blkI 0 rfl) rfl) rfl ?_
      refine wl_ov (ov_add rfl rfl (by omega) (by omega)) rfl ?_
      refine wl_ov (ov_max rfl rfl) rfl ?_
      refine wl_ov (ov_sub rfl rfl (by omega) (by omega)) rfl ?_
      refine wl_ov (ov_max rfl rfl) rfl ?_
      refine wl_ov (ov_add rfl rfl (by omega) (by omega)) rfl ?_
      refine wl_ov (ov_assign rfl) rfl ?_
      refine wl_nil ?_
      refine nx_blk_nrm ?_
      refine nx_then ?_
      refine gw_region ?_
      refine wl_ov (ov_move rfl) rfl ?_
      refine wl_ov (ov_add rfl rfl (by omega) (by omega)) rfl ?_
      refine wl_ov (ov_assign rfl) rfl ?_
      refine wl_nil ?_
      exact nx_round (k + 1, acc + (max 0 ((min b (((a / 1440 + ((k : Nat) : Int)) * 1440) + u1)) - (max a (((a / 1440 + ((k : Nat) : Int)) * 1440) + u0))))) ⟨by dsimp only; omega, ⟨by dsimp only; omega, by dsimp only; omega⟩, by dsimp only; rw [← hsum, hst, Int.add_assoc, show a / 1440 + ((k : Nat) : Int) + 1 = a / 1440 + ((k + 1 : Nat) : Int) by omega]⟩ (by dsimp only; omega) ⟨rfl, rfl, rfl, rfl, (some_int (by omega)), trivial⟩ (fun _ hm => hm.pick [1, 2] [] [] rfl rfl)
    · have hfr : frD [u0, u1, u2, u3, u4, u5, u6, u7, u8, u9, u10, u11, u12, u13] ((a / 1440 + ((k : Nat) : Int))) = u2 := by unfold frD; rw [hjc]; rfl
      have hto : toD [u0, u1, u2, u3, u4, u5, u6, u7, u8, u9, u10, u11, u12, u13] ((a / 1440 + ((k : Nat) : Int))) = u3 := by unfold toD; rw [hjc]; rfl
      rw [hfr, hto] at hst
      refine wl_ov (ov_move rfl) rfl ?_
      refine wl_ov (ov_rem rfl rfl (by omega) (by omega) (by omega)) rfl ?_
      refine wl_set 19 (v' := .int .i64 1) rfl (congrArg (Value.int .i64) hjc) ?_
      refine wl_ov (ov_field fo56_1 rfl rfl) rfl ?_
      refine wl_ov (ov_indexP (j := 1) ar54 rfl rfl (by decide) rfl) rfl ?_
      refine wl_ov (ov_loads rz31 rfl (fun _ hm => hm.blkI 1 rfl) rfl rfl) rfl ?_
      refine wl_alloc zc31 rfl fun g4 => ?_
      refine wl_stores (cs' := [.int .i64 u2, .int .i64 u3]) 0 rz31 rfl rfl rfl rfl rfl rfl rfl rfl ?_
      refine wl_nil ?_
      refine nx_then ?_
      refine gw_region ?_
      refine wl_ov (ov_move rfl) rfl ?_
      refine wl_ov (ov_field fo31_1 rfl rfl) rfl ?_
      refine wl_ov (ov_load sc3 rfl (fun _ hm => hm.blkI 1 rfl) rfl) rfl ?_
      refine wl_ov (ov_move rfl) rfl ?_
      refine wl_ov (ov_mul rfl rfl (by omega) (by omega)) rfl ?_
      refine wl_ov (ov_field fo31_1 rfl rfl) rfl ?_
      refine wl_ov (ov_load sc3 rfl (fun _ hm => hm.blkI 0 rfl) rfl) rfl ?_
      refine wl_ov (ov_add rfl rfl (by omega) (by omega)) rfl ?_
      refine wl_ov (ov_min rfl rfl) rfl ?_
      refine wl_ov (ov_field fo31_0 rfl rfl) rfl ?_
      refine wl_ov (ov_load sc3 rfl (fun _ hm => hm.blkI 1 rfl) rfl) rfl ?_
      refine wl_ov (ov_move rfl) rfl ?_
      refine wl_ov (ov_mul rfl rfl (by omega) (by omega)) rfl ?_
      refine wl_ov (ov_field fo31_0 rfl rfl) rfl ?_
      refine wl_ov (ov_load sc3 rfl (fun _ hm => hm.blkI 0 rfl) rfl) rfl ?_
      refine wl_ov (ov_add rfl rfl (by omega) (by omega)) rfl ?_
      refine wl_ov (ov_max rfl rfl) rfl ?_
      refine wl_ov (ov_sub rfl rfl (by omega) (by omega)) rfl ?_
      refine wl_ov (ov_max rfl rfl) rfl ?_
      refine wl_ov (ov_add rfl rfl (by omega) (by omega)) rfl ?_
      refine wl_ov (ov_assign rfl) rfl ?_
      refine wl_nil ?_
      refine nx_blk_nrm ?_
      refine nx_then ?_
      refine gw_region ?_
      refine wl_ov (ov_move rfl) rfl ?_
      refine wl_ov (ov_add rfl rfl (by omega) (by omega)) rfl ?_
      refine wl_ov (ov_assign rfl) rfl ?_
      refine wl_nil ?_
      exact nx_round (k + 1, acc + (max 0 ((min b (((a / 1440 + ((k : Nat) : Int)) * 1440) + u3)) - (max a (((a / 1440 + ((k : Nat) : Int)) * 1440) + u2))))) ⟨by dsimp only; omega, ⟨by dsimp only; omega, by dsimp only; omega⟩, by dsimp only; rw [← hsum, hst, Int.add_assoc, show a / 1440 + ((k : Nat) : Int) + 1 = a / 1440 + ((k + 1 : Nat) : Int) by omega]⟩ (by dsimp only; omega) ⟨rfl, rfl, rfl, rfl, (some_int (by omega)), trivial⟩ (fun _ hm => hm.pick [1, 2] [] [] rfl rfl)
    · have hfr : frD [u0, u1, u2, u3, u4, u5, u6, u7, u8, u9, u10, u11, u12, u13] ((a / 1440 + ((k : Nat) : Int))) = u4 := by unfold frD; rw [hjc]; rfl
      have hto : toD [u0, u1, u2, u3, u4, u5, u6, u7, u8, u9, u10, u11, u12, u13] ((a / 1440 + ((k : Nat) : Int))) = u5 := by unfold toD; rw [hjc]; rfl
      rw [hfr, hto] at hst
      refine wl_ov (ov_move rfl) rfl ?_
      refine wl_ov (ov_rem rfl rfl (by omega) (by omega) (by omega)) rfl ?_
      refine wl_set 19 (v' := .int .i64 2) rfl (congrArg (Value.int .i64) hjc) ?_
      refine wl_ov (ov_field fo56_1 rfl rfl) rfl ?_
      refine wl_ov (ov_indexP (j := 2) ar54 rfl rfl (by decide) rfl) rfl ?_
      refine wl_ov (ov_loads rz31 rfl (fun _ hm => hm.blkI 1 rfl) rfl rfl) rfl ?_
      refine wl_alloc zc31 rfl fun g5 => ?_
      refine wl_stores (cs' := [.int .i64 u4, .int .i64 u5]) 0 rz31 rfl rfl rfl rfl rfl rfl rfl rfl ?_
      refine wl_nil ?_
      refine nx_then ?_
      refine gw_region ?_
      refine wl_ov (ov_move rfl) rfl ?_
      refine wl_ov (ov_field fo31_1 rfl rfl) rfl ?_
      refine wl_ov (ov_load sc3 rfl (fun _ hm => hm.blkI 1 rfl) rfl) rfl ?_
      refine wl_ov (ov_move rfl) rfl ?_
      refine wl_ov (ov_mul rfl rfl (by omega) (by omega)) rfl ?_
      refine wl_ov (ov_field fo31_1 rfl rfl) rfl ?_
      refine wl_ov (ov_load sc3 rfl (fun _ hm => hm.blkI 0 rfl) rfl) rfl ?_
      refine wl_ov (ov_add rfl rfl (by omega) (by omega)) rfl ?_
      refine wl_ov (ov_min rfl rfl) rfl ?_
      refine wl_ov (ov_field fo31_0 rfl rfl) rfl ?_
      refine wl_ov (ov_load sc3 rfl (fun _ hm => hm.blkI 1 rfl) rfl) rfl ?_
      refine wl_ov (ov_move rfl) rfl ?_
      refine wl_ov (ov_mul rfl rfl (by omega) (by omega)) rfl ?_
      refine wl_ov (ov_field fo31_0 rfl rfl) rfl ?_
      refine wl_ov (ov_load sc3 rfl (fun _ hm => hm.blkI 0 rfl) rfl) rfl ?_
      refine wl_ov (ov_add rfl rfl (by omega) (by omega)) rfl ?_
      refine wl_ov (ov_max rfl rfl) rfl ?_
      refine wl_ov (ov_sub rfl rfl (by omega) (by omega)) rfl ?_
      refine wl_ov (ov_max rfl rfl) rfl ?_
      refine wl_ov (ov_add rfl rfl (by omega) (by omega)) rfl ?_
      refine wl_ov (ov_assign rfl) rfl ?_
      refine wl_nil ?_
      refine nx_blk_nrm ?_
      refine nx_then ?_
      refine gw_region ?_
      refine wl_ov (ov_move rfl) rfl ?_
      refine wl_ov (ov_add rfl rfl (by omega) (by omega)) rfl ?_
      refine wl_ov (ov_assign rfl) rfl ?_
      refine wl_nil ?_
      exact nx_round (k + 1, acc + (max 0 ((min b (((a / 1440 + ((k : Nat) : Int)) * 1440) + u5)) - (max a (((a / 1440 + ((k : Nat) : Int)) * 1440) + u4))))) ⟨by dsimp only; omega, ⟨by dsimp only; omega, by dsimp only; omega⟩, by dsimp only; rw [← hsum, hst, Int.add_assoc, show a / 1440 + ((k : Nat) : Int) + 1 = a / 1440 + ((k + 1 : Nat) : Int) by omega]⟩ (by dsimp only; omega) ⟨rfl, rfl, rfl, rfl, (some_int (by omega)), trivial⟩ (fun _ hm => hm.pick [1, 2] [] [] rfl rfl)
    · have hfr : frD [u0, u1, u2, u3, u4, u5, u6, u7, u8, u9, u10, u11, u12, u13] ((a / 1440 + ((k : Nat) : Int))) = u6 := by unfold frD; rw [hjc]; rfl
      have hto : toD [u0, u1, u2, u3, u4, u5, u6, u7, u8, u9, u10, u11, u12, u13] ((a / 1440 + ((k : Nat) : Int))) = u7 := by unfold toD; rw [hjc]; rfl
      rw [hfr, hto] at hst
      refine wl_ov (ov_move rfl) rfl ?_
      refine wl_ov (ov_rem rfl rfl (by omega) (by omega) (by omega)) rfl ?_
      refine wl_set 19 (v' := .int .i64 3) rfl (congrArg (Value.int .i64) hjc) ?_
      refine wl_ov (ov_field fo56_1 rfl rfl) rfl ?_
      refine wl_ov (ov_indexP (j := 3) ar54 rfl rfl (by decide) rfl) rfl ?_
      refine wl_ov (ov_loads rz31 rfl (fun _ hm => hm.blkI 1 rfl) rfl rfl) rfl ?_
      refine wl_alloc zc31 rfl fun g6 => ?_
      refine wl_stores (cs' := [.int .i64 u6, .int .i64 u7]) 0 rz31 rfl rfl rfl rfl rfl rfl rfl rfl ?_
      refine wl_nil ?_
      refine nx_then ?_
      refine gw_region ?_
      refine wl_ov (ov_move rfl) rfl ?_
      refine wl_ov (ov_field fo31_1 rfl rfl) rfl ?_
      refine wl_ov (ov_load sc3 rfl (fun _ hm => hm.blkI 1 rfl) rfl) rfl ?_
      refine wl_ov (ov_move rfl) rfl ?_
      refine wl_ov (ov_mul rfl rfl (by omega) (by omega)) rfl ?_
      refine wl_ov (ov_field fo31_1 rfl rfl) rfl ?_
      refine wl_ov (ov_load sc3 rfl (fun _ hm => hm.blkI 0 rfl) rfl) rfl ?_
      refine wl_ov (ov_add rfl rfl (by omega) (by omega)) rfl ?_
      refine wl_ov (ov_min rfl rfl) rfl ?_
      refine wl_ov (ov_field fo31_0 rfl rfl) rfl ?_
      refine wl_ov (ov_load sc3 rfl (fun _ hm => hm.blkI 1 rfl) rfl) rfl ?_
      refine wl_ov (ov_move rfl) rfl ?_
      refine wl_ov (ov_mul rfl rfl (by omega) (by omega)) rfl ?_
      refine wl_ov (ov_field fo31_0 rfl rfl) rfl ?_
      refine wl_ov (ov_load sc3 rfl (fun _ hm => hm.blkI 0 rfl) rfl) rfl ?_
      refine wl_ov (ov_add rfl rfl (by omega) (by omega)) rfl ?_
      refine wl_ov (ov_max rfl rfl) rfl ?_
      refine wl_ov (ov_sub rfl rfl (by omega) (by omega)) rfl ?_
      refine wl_ov (ov_max rfl rfl) rfl ?_
      refine wl_ov (ov_add rfl rfl (by omega) (by omega)) rfl ?_
      refine wl_ov (ov_assign rfl) rfl ?_
      refine wl_nil ?_
      refine nx_blk_nrm ?_
      refine nx_then ?_
      refine gw_region ?_
      refine wl_ov (ov_move rfl) rfl ?_
      refine wl_ov (ov_add rfl rfl (by omega) (by omega)) rfl ?_
      refine wl_ov (ov_assign rfl) rfl ?_
      refine wl_nil ?_
      exact nx_round (k + 1, acc + (max 0 ((min b (((a / 1440 + ((k : Nat) : Int)) * 1440) + u7)) - (max a (((a / 1440 + ((k : Nat) : Int)) * 1440) + u6))))) ⟨by dsimp only; omega, ⟨by dsimp only; omega, by dsimp only; omega⟩, by dsimp only; rw [← hsum, hst, Int.add_assoc, show a / 1440 + ((k : Nat) : Int) + 1 = a / 1440 + ((k + 1 : Nat) : Int) by omega]⟩ (by dsimp only; omega) ⟨rfl, rfl, rfl, rfl, (some_int (by omega)), trivial⟩ (fun _ hm => hm.pick [1, 2] [] [] rfl rfl)
    · have hfr : frD [u0, u1, u2, u3, u4, u5, u6, u7, u8, u9, u10, u11, u12, u13] ((a / 1440 + ((k : Nat) : Int))) = u8 := by unfold frD; rw [hjc]; rfl
      have hto : toD [u0, u1, u2, u3, u4, u5, u6, u7, u8, u9, u10, u11, u12, u13] ((a / 1440 + ((k : Nat) : Int))) = u9 := by unfold toD; rw [hjc]; rfl
      rw [hfr, hto] at hst
      refine wl_ov (ov_move rfl) rfl ?_
      refine wl_ov (ov_rem rfl rfl (by omega) (by omega) (by omega)) rfl ?_
      refine wl_set 19 (v' := .int .i64 4) rfl (congrArg (Value.int .i64) hjc) ?_
      refine wl_ov (ov_field fo56_1 rfl rfl) rfl ?_
      refine wl_ov (ov_indexP (j := 4) ar54 rfl rfl (by decide) rfl) rfl ?_
      refine wl_ov (ov_loads rz31 rfl (fun _ hm => hm.blkI 1 rfl) rfl rfl) rfl ?_
      refine wl_alloc zc31 rfl fun g7 => ?_
      refine wl_stores (cs' := [.int .i64 u8, .int .i64 u9]) 0 rz31 rfl rfl rfl rfl rfl rfl rfl rfl ?_
      refine wl_nil ?_
      refine nx_then ?_
      refine gw_region ?_
      refine wl_ov (ov_move rfl) rfl ?_
      refine wl_ov (ov_field fo31_1 rfl rfl) rfl ?_
      refine wl_ov (ov_load sc3 rfl (fun _ hm => hm.blkI 1 rfl) rfl) rfl ?_
      refine wl_ov (ov_move rfl) rfl ?_
      refine wl_ov (ov_mul rfl rfl (by omega) (by omega)) rfl ?_
      refine wl_ov (ov_field fo31_1 rfl rfl) rfl ?_
      refine wl_ov (ov_load sc3 rfl (fun _ hm => hm.blkI 0 rfl) rfl) rfl ?_
      refine wl_ov (ov_add rfl rfl (by omega) (by omega)) rfl ?_
      refine wl_ov (ov_min rfl rfl) rfl ?_
      refine wl_ov (ov_field fo31_0 rfl rfl) rfl ?_
      refine wl_ov (ov_load sc3 rfl (fun _ hm => hm.blkI 1 rfl) rfl) rfl ?_
      refine wl_ov (ov_move rfl) rfl ?_
      refine wl_ov (ov_mul rfl rfl (by omega) (by omega)) rfl ?_
      refine wl_ov (ov_field fo31_0 rfl rfl) rfl ?_
      refine wl_ov (ov_load sc3 rfl (fun _ hm => hm.blkI 0 rfl) rfl) rfl ?_
      refine wl_ov (ov_add rfl rfl (by omega) (by omega)) rfl ?_
      refine wl_ov (ov_max rfl rfl) rfl ?_
      refine wl_ov (ov_sub rfl rfl (by omega) (by omega)) rfl ?_
      refine wl_ov (ov_max rfl rfl) rfl ?_
      refine wl_ov (ov_add rfl rfl (by omega) (by omega)) rfl ?_
      refine wl_ov (ov_assign rfl) rfl ?_
      refine wl_nil ?_
      refine nx_blk_nrm ?_
      refine nx_then ?_
      refine gw_region ?_
      refine wl_ov (ov_move rfl) rfl ?_
      refine wl_ov (ov_add rfl rfl (by omega) (by omega)) rfl ?_
      refine wl_ov (ov_assign rfl) rfl ?_
      refine wl_nil ?_
      exact nx_round (k + 1, acc + (max 0 ((min b (((a / 1440 + ((k : Nat) : Int)) * 1440) + u9)) - (max a (((a / 1440 + ((k : Nat) : Int)) * 1440) + u8))))) ⟨by dsimp only; omega, ⟨by dsimp only; omega, by dsimp only; omega⟩, by dsimp only; rw [← hsum, hst, Int.add_assoc, show a / 1440 + ((k : Nat) : Int) + 1 = a / 1440 + ((k + 1 : Nat) : Int) by omega]⟩ (by dsimp only; omega) ⟨rfl, rfl, rfl, rfl, (some_int (by omega)), trivial⟩ (fun _ hm => hm.pick [1, 2] [] [] rfl rfl)
    · have hfr : frD [u0, u1, u2, u3, u4, u5, u6, u7, u8, u9, u10, u11, u12, u13] ((a / 1440 + ((k : Nat) : Int))) = u10 := by unfold frD; rw [hjc]; rfl
      have hto : toD [u0, u1, u2, u3, u4, u5, u6, u7, u8, u9, u10, u11, u12, u13] ((a / 1440 + ((k : Nat) : Int))) = u11 := by unfold toD; rw [hjc]; rfl
      rw [hfr, hto] at hst
      refine wl_ov (ov_move rfl) rfl ?_
      refine wl_ov (ov_rem rfl rfl (by omega) (by omega) (by omega)) rfl ?_
      refine wl_set 19 (v' := .int .i64 5) rfl (congrArg (Value.int .i64) hjc) ?_
      refine wl_ov (ov_field fo56_1 rfl rfl) rfl ?_
      refine wl_ov (ov_indexP (j := 5) ar54 rfl rfl (by decide) rfl) rfl ?_
      refine wl_ov (ov_loads rz31 rfl (fun _ hm => hm.blkI 1 rfl) rfl rfl) rfl ?_
      refine wl_alloc zc31 rfl fun g8 => ?_
      refine wl_stores (cs' := [.int .i64 u10, .int .i64 u11]) 0 rz31 rfl rfl rfl rfl rfl rfl rfl rfl ?_
      refine wl_nil ?_
      refine nx_then ?_
      refine gw_region ?_
      refine wl_ov (ov_move rfl) rfl ?_
      refine wl_ov (ov_field fo31_1 rfl rfl) rfl ?_
      refine wl_ov (ov_load sc3 rfl (fun _ hm => hm.blkI 1 rfl) rfl) rfl ?_
      refine wl_ov (ov_move rfl) rfl ?_
      refine wl_ov (ov_mul rfl rfl (by omega) (by omega)) rfl ?_
      refine wl_ov (ov_field fo31_1 rfl rfl) rfl ?_
      refine wl_ov (ov_load sc3 rfl (fun _ hm => hm.blkI 0 rfl) rfl) rfl ?_
      refine wl_ov (ov_add rfl rfl (by omega) (by omega)) rfl ?_
      refine wl_ov (ov_min rfl rfl) rfl ?_
      refine wl_ov (ov_field fo31_0 rfl rfl) rfl ?_
      refine wl_ov (ov_load sc3 rfl (fun _ hm => hm.blkI 1 rfl) rfl) rfl ?_
      refine wl_ov (ov_move rfl) rfl ?_
      refine wl_ov (ov_mul rfl rfl (by omega) (by omega)) rfl ?_
      refine wl_ov (ov_field fo31_0 rfl rfl) rfl ?_
      refine wl_ov (ov_load sc3 rfl (fun _ hm => hm.blkI 0 rfl) rfl) rfl ?_
      refine wl_ov (ov_add rfl rfl (by omega) (by omega)) rfl ?_
      refine wl_ov (ov_max rfl rfl) rfl ?_
      refine wl_ov (ov_sub rfl rfl (by omega) (by omega)) rfl ?_
      refine wl_ov (ov_max rfl rfl) rfl ?_
      refine wl_ov (ov_add rfl rfl (by omega) (by omega)) rfl ?_
      refine wl_ov (ov_assign rfl) rfl ?_
      refine wl_nil ?_
      refine nx_blk_nrm ?_
      refine nx_then ?_
      refine gw_region ?_
      refine wl_ov (ov_move rfl) rfl ?_
      refine wl_ov (ov_add rfl rfl (by omega) (by omega)) rfl ?_
      refine wl_ov (ov_assign rfl) rfl ?_
      refine wl_nil ?_
      exact nx_round (k + 1, acc + (max 0 ((min b (((a / 1440 + ((k : Nat) : Int)) * 1440) + u11)) - (max a (((a / 1440 + ((k : Nat) : Int)) * 1440) + u10))))) ⟨by dsimp only; omega, ⟨by dsimp only; omega, by dsimp only; omega⟩, by dsimp only; rw [← hsum, hst, Int.add_assoc, show a / 1440 + ((k : Nat) : Int) + 1 = a / 1440 + ((k + 1 : Nat) : Int) by omega]⟩ (by dsimp only; omega) ⟨rfl, rfl, rfl, rfl, (some_int (by omega)), trivial⟩ (fun _ hm => hm.pick [1, 2] [] [] rfl rfl)
    · have hfr : frD [u0, u1, u2, u3, u4, u5, u6, u7, u8, u9, u10, u11, u12, u13] ((a / 1440 + ((k : Nat) : Int))) = u12 := by unfold frD; rw [hjc]; rfl
      have hto : toD [u0, u1, u2, u3, u4, u5, u6, u7, u8, u9, u10, u11, u12, u13] ((a / 1440 + ((k : Nat) : Int))) = u13 := by unfold toD; rw [hjc]; rfl
      rw [hfr, hto] at hst
      refine wl_ov (ov_move rfl) rfl ?_
      refine wl_ov (ov_rem rfl rfl (by omega) (by omega) (by omega)) rfl ?_
      refine wl_set 19 (v' := .int .i64 6) rfl (congrArg (Value.int .i64) hjc) ?_
      refine wl_ov (ov_field fo56_1 rfl rfl) rfl ?_
      refine wl_ov (ov_indexP (j := 6) ar54 rfl rfl (by decide) rfl) rfl ?_
      refine wl_ov (ov_loads rz31 rfl (fun _ hm => hm.blkI 1 rfl) rfl rfl) rfl ?_
      refine wl_alloc zc31 rfl fun g9 => ?_
      refine wl_stores (cs' := [.int .i64 u12, .int .i64 u13]) 0 rz31 rfl rfl rfl rfl rfl rfl rfl rfl ?_
      refine wl_nil ?_
      refine nx_then ?_
      refine gw_region ?_
      refine wl_ov (ov_move rfl) rfl ?_
      refine wl_ov (ov_field fo31_1 rfl rfl) rfl ?_
      refine wl_ov (ov_load sc3 rfl (fun _ hm => hm.blkI 1 rfl) rfl) rfl ?_
      refine wl_ov (ov_move rfl) rfl ?_
      refine wl_ov (ov_mul rfl rfl (by omega) (by omega)) rfl ?_
      refine wl_ov (ov_field fo31_1 rfl rfl) rfl ?_
      refine wl_ov (ov_load sc3 rfl (fun _ hm => hm.blkI 0 rfl) rfl) rfl ?_
      refine wl_ov (ov_add rfl rfl (by omega) (by omega)) rfl ?_
      refine wl_ov (ov_min rfl rfl) rfl ?_
      refine wl_ov (ov_field fo31_0 rfl rfl) rfl ?_
      refine wl_ov (ov_load sc3 rfl (fun _ hm => hm.blkI 1 rfl) rfl) rfl ?_
      refine wl_ov (ov_move rfl) rfl ?_
      refine wl_ov (ov_mul rfl rfl (by omega) (by omega)) rfl ?_
      refine wl_ov (ov_field fo31_0 rfl rfl) rfl ?_
      refine wl_ov (ov_load sc3 rfl (fun _ hm => hm.blkI 0 rfl) rfl) rfl ?_
      refine wl_ov (ov_add rfl rfl (by omega) (by omega)) rfl ?_
      refine wl_ov (ov_max rfl rfl) rfl ?_
      refine wl_ov (ov_sub rfl rfl (by omega) (by omega)) rfl ?_
      refine wl_ov (ov_max rfl rfl) rfl ?_
      refine wl_ov (ov_add rfl rfl (by omega) (by omega)) rfl ?_
      refine wl_ov (ov_assign rfl) rfl ?_
      refine wl_nil ?_
      refine nx_blk_nrm ?_
      refine nx_then ?_
      refine gw_region ?_
      refine wl_ov (ov_move rfl) rfl ?_
      refine wl_ov (ov_add rfl rfl (by omega) (by omega)) rfl ?_
      refine wl_ov (ov_assign rfl) rfl ?_
      refine wl_nil ?_
      exact nx_round (k + 1, acc + (max 0 ((min b (((a / 1440 + ((k : Nat) : Int)) * 1440) + u13)) - (max a (((a / 1440 + ((k : Nat) : Int)) * 1440) + u12))))) ⟨by dsimp only; omega, ⟨by dsimp only; omega, by dsimp only; omega⟩, by dsimp only; rw [← hsum, hst, Int.add_assoc, show a / 1440 + ((k : Nat) : Int) + 1 = a / 1440 + ((k + 1 : Nat) : Int) by omega]⟩ (by dsimp only; omega) ⟨rfl, rfl, rfl, rfl, (some_int (by omega)), trivial⟩ (fun _ hm => hm.pick [1, 2] [] [] rfl rfl)
  · have hk : ¬ ((a / 1440 + ((k : Nat) : Int)) * 1440 < b) := by simpa using hh
    clear hh
    refine gw_exit ?_
    refine nx_then_exit ?_
    refine nx_then_exit ?_
    refine nx_blk_here ?_
    refine nx_then ?_
    refine gw_seq ?_
    refine gw_region ?_
    refine wl_ov (ov_move rfl) rfl ?_
    refine wl_ov (ov_assign rfl) rfl ?_
    refine wl_nil ?_
    refine nx_then ?_
    refine gw_ret ?_
    refine nx_ret1 rfl rfl fun wx hm => ?_
    exact ⟨by rw [← hsum, minSum_end hk, Int.add_zero], hm.g⟩

set_option maxRecDepth 100000 in
set_option maxHeartbeats 400000 in
theorem windowFault_any (a b : Int) (w : World) : Calls Tryd.prog 31 #[.agg #[.int .i64 a, .int .i64 b]] w (GotE w (windowE a b)) := by
  refine gw_enter ⟨14, w, none, []⟩ Tryd.func31 rfl Tryd.ntmps31 rfl (mem0 (X := []) allF_nil allL_nil) ?_
  refine gw_seq ?_
  refine gw_region ?_
  refine wl_box rfl rfl rfl fun g1 => ?_
  refine wl_ov (ov_assign rfl) rfl ?_
  refine wl_nil ?_
  refine nx_then ?_
  refine gw_seq ?_
  refine gw_seq ?_
  refine gw_region ?_
  refine wl_ov (ov_field fo31_0 rfl rfl) rfl ?_
  refine wl_ov (ov_load sc3 rfl (fun _ hm => hm.blkI 0 rfl) rfl) rfl ?_
  refine wl_ov (ov_field fo31_1 rfl rfl) rfl ?_
  refine wl_ov (ov_load sc3 rfl (fun _ hm => hm.blkI 0 rfl) rfl) rfl ?_
  refine wl_callw rfl cb58 rfl rfl (fun wx hm => (rin_any _ _ _ wx)) ?_
  refine wl_ov (ov_un_not rfl) rfl ?_
  refine wl_ov (ov_move rfl) rfl ?_
  rcases Bool.eq_false_or_eq_true (!(inB a 0 b)) with g1 | g1
  · refine wl_set 9 rfl (congrArg Value.bool g1) ?_
    refine wl_guard_off rfl rfl rfl (by decide) rfl ?_
    refine wl_guard_off rfl rfl rfl (by decide) rfl ?_
    refine wl_guard_off rfl rfl rfl (by decide) rfl ?_
    refine wl_ov (ov_pick_t rfl rfl) rfl ?_
    refine wl_nil ?_
    refine nx_then ?_
    refine gw_cond rfl (fun _ => ?_) (fun hh => by cases hh)
    refine gw_seq ?_
    refine gw_region ?_
    refine wl_ov (ov_assign rfl) rfl ?_
    refine wl_nil ?_
    refine nx_then ?_
    refine gw_ret ?_
    refine nx_then_ret ?_
    refine nx_ret1 rfl rfl fun wx hm => ?_
    exact ⟨ret_int (by unfold windowE; rw [g1]; rfl), hm.g⟩
  · refine wl_set 9 rfl (congrArg Value.bool g1) ?_
    refine wl_guard_on rfl rfl rfl ?_
    refine wl_ov (ov_field fo31_1 rfl rfl) rfl ?_
    refine wl_guard_on rfl rfl rfl ?_
    refine wl_ov (ov_load sc3 rfl (fun _ hm => hm.blkI 0 rfl) rfl) rfl ?_
    refine wl_guard_on rfl rfl rfl ?_
    refine wl_ov (ov_gtr rfl rfl) rfl ?_
    refine wl_ov (ov_pick_f rfl rfl) rfl ?_
    refine wl_nil ?_
    refine nx_then ?_
    refine gw_cond rfl (fun hh => ?_) (fun hh => ?_)
    · have g2 : 5761440 < b := by simpa using hh
      clear hh
      refine gw_seq ?_
      refine gw_region ?_
      refine wl_ov (ov_assign rfl) rfl ?_
      refine wl_nil ?_
      refine nx_then ?_
      refine gw_ret ?_
      refine nx_then_ret ?_
      refine nx_ret1 rfl rfl fun wx hm => ?_
      exact ⟨ret_int (by unfold windowE; rw [g1, decide_eq_true g2]; rfl), hm.g⟩
    · have g2 : ¬ (5761440 < b) := by simpa using hh
      clear hh
      refine gw_skip ?_
      refine nx_then ?_
      refine gw_seq ?_
      refine gw_region ?_
      refine wl_ov (ov_assign rfl) rfl ?_
      refine wl_nil ?_
      refine nx_then ?_
      refine gw_ret ?_
      refine nx_ret1 rfl rfl fun wx hm => ?_
      exact ⟨ret_int (by unfold windowE; rw [g1, decide_eq_false g2]; rfl), hm.g⟩

set_option maxRecDepth 100000 in
set_option maxHeartbeats 400000 in
theorem momentFault_any (at_ : Int) (w : World) : Calls Tryd.prog 29 #[.int .i64 at_] w (GotE w (momentE at_)) := by
  refine gw_enter ⟨7, w, none, []⟩ Tryd.func29 rfl Tryd.ntmps29 rfl (mem0 (X := []) allF_nil allL_nil) ?_
  refine gw_seq ?_
  refine gw_region ?_
  refine wl_ov (ov_assign rfl) rfl ?_
  refine wl_nil ?_
  refine nx_then ?_
  refine gw_seq ?_
  refine gw_region ?_
  refine wl_ov (ov_move rfl) rfl ?_
  refine wl_callw rfl cb68 rfl rfl (fun wx hm => (rmoment_any _ wx)) ?_
  refine wl_ov (ov_un_not rfl) rfl ?_
  refine wl_callw rfl cb15 rfl rfl (fun wx hm => (rwhen_any _ _ wx)) ?_
  refine wl_ov (ov_assign rfl) rfl ?_
  refine wl_nil ?_
  refine nx_then ?_
  refine gw_ret ?_
  refine nx_ret1 rfl rfl fun wx hm => ?_
  exact ⟨ret_int (by unfold momentE; first | rfl | simp), hm.g⟩

end Go.Proofs.YtcggbojhalbkjaaDoor
