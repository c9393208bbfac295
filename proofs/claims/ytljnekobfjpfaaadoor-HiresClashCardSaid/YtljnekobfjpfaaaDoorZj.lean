/- Several texts as one: Dv Hw Hj Tg -/
import Derived.Test.YtljnekobfjpfaaaDoorZh
import Derived.Test.YtljnekobfjpfaaaDoorHg
import Derived.Test.YtljnekobfjpfaaaDoorRo
import Derived.Test.YtljnekobfjpfaaaDoorGh
/- Drivers and ages: the checks. -/
namespace Go.Proofs.YtljnekobfjpfaaaDoor
open Go.RowKit

structure Dr where
  key : ByteArray
  born : Int
  frm : Int
  tto : Int
def drEnc (x : Dr) : List Value := [.string x.key, .int .i64 x.born, .int .i64 x.frm, .int .i64 x.tto]
theorem drEnc_len (x : Dr) : (drEnc x).length = 4 := rfl
def DrOk (x : Dr) : Prop := x.key.size ≤ 1000000
def leD (p : Option Dr) (b : Dr) : Bool := match p with
  | none => false
  | some q => leB b.key q.key
def drE (p : Option Dr) (b : Dr) : Int := if !keyB b.key then 5 else if leD p b then 7 else if !inB b.born (-50000) 4000 then 1 else if !inB b.frm (-50000) b.tto then 1 else if 50000 < b.tto then 1 else 0
def driversE (l : List Dr) : Int := if 500 < l.length then 2 else scanE drE none l
def prevD (l : List Dr) (k : Nat) : ByteArray := match prevOf l k with
  | none => ⟨#[]⟩
  | some q => q.key
theorem prevD_succ {l : List Dr} {k : Nat} {x : Dr} (h : l[k]? = some x) : prevD l (k + 1) = x.key := by
  unfold prevD prevOf; rw [if_neg (by omega), Nat.add_sub_cancel, h]
theorem prevD_le {l : List Dr} {k : Nat} {b : Dr} (h : keyB b.key = true) : leB b.key (prevD l k) = leD (prevOf l k) b := by
  unfold prevD leD
  cases prevOf l k with
  | none => exact key_low h
  | some q => rfl

structure Ag where
  cls : ByteArray
  days : Int
def agEnc (x : Ag) : List Value := [.string x.cls, .int .i64 x.days]
theorem agEnc_len (x : Ag) : (agEnc x).length = 2 := rfl
def AgOk (x : Ag) : Prop := x.cls.size ≤ 1000000
def leG (p : Option Ag) (b : Ag) : Bool := match p with
  | none => false
  | some q => leB b.cls q.cls
def agE (p : Option Ag) (b : Ag) : Int := if !keyB b.cls then 5 else if leG p b then 7 else if !inB b.days 0 50000 then 1 else 0
def agesE (l : List Ag) : Int := if 30 < l.length then 2 else scanE agE none l
def prevG (l : List Ag) (k : Nat) : ByteArray := match prevOf l k with
  | none => ⟨#[]⟩
  | some q => q.cls
theorem prevG_succ {l : List Ag} {k : Nat} {x : Ag} (h : l[k]? = some x) : prevG l (k + 1) = x.cls := by
  unfold prevG prevOf; rw [if_neg (by omega), Nat.add_sub_cancel, h]
theorem prevG_le {l : List Ag} {k : Nat} {b : Ag} (h : keyB b.cls = true) : leB b.cls (prevG l k) = leG (prevOf l k) b := by
  unfold prevG leG
  cases prevOf l k with
  | none => exact key_low h
  | some q => rfl

set_option maxRecDepth 100000 in
set_option maxHeartbeats 1000000 in
theorem checkDrivers_any (l : List Dr) (A : Option Addr) (n c : Nat) (w : World) (hl : SlT drEnc 4 83 w A n l) (hok : ∀ b ∈ l, DrOk b) (hn : n ≤ 1000000) :
    Calls Tryd.prog 47 #[.slice A n c] w (GotE w (driversE l)) := by
  refine gw_enter ⟨53, w, none, []⟩ Tryd.func47 rfl Tryd.ntmps47 rfl (mem0 (X := [SlOld drEnc 4 83 w.heap.size none A n l]) (allF_cons hl.old allF_nil) (allL_cons SlOld.lasts allL_nil)) ?_
  refine gw_seq ?_
  refine gw_region ?_
  have hlen := hl.len
  refine wl_ov (ov_assign rfl) rfl ?_
  refine wl_nil ?_
  refine nx_then ?_
  refine gw_seq ?_
  refine gw_seq ?_
  refine gw_region ?_
  refine wl_ov (ov_move rfl) rfl ?_
  refine wl_ov (ov_len es73 rfl) rfl ?_
  refine wl_ov (ov_gtr rfl rfl) rfl ?_
  refine wl_nil ?_
  refine nx_then ?_
  refine gw_cond rfl (fun hh => ?_) (fun hh => ?_)
  · have h1 : 500 < ((n : Nat) : Int) := by simpa using hh
    clear hh
    refine gw_seq ?_
    refine gw_region ?_
    refine wl_ov (ov_assign rfl) rfl ?_
    refine wl_nil ?_
    refine nx_then ?_
    refine gw_ret ?_
    refine nx_then_ret ?_
    refine nx_ret1 rfl rfl fun wx hm => ?_
    exact ⟨ret_int (by unfold driversE; rw [if_pos (by omega)]), hm.g⟩
  · have h1 : ¬ (500 < ((n : Nat) : Int)) := by simpa using hh
    clear hh
    refine gw_skip ?_
    refine nx_then ?_
    refine gw_seq ?_
    refine gw_seq ?_
    refine gw_region ?_
    refine wl_ov (ov_move rfl) rfl ?_
    refine wl_ov (ov_len es73 rfl) rfl ?_
    refine wl_ov (ov_move rfl) rfl ?_
    refine wl_nil ?_
    refine nx_then ?_
    refine gw_block ?_
    refine gw_loop (γ := Nat) (fun (k : Nat) => k ≤ n ∧ driversE l = scanE drE (prevOf l k) (l.drop k)) (fun (k : Nat) => [(0, .slice A n c), (8, .slice A n c), (9, .int .i64 ((n : Nat) : Int)), (10, .int .i64 ((k : Nat) : Int))]) (fun (k : Nat) => fun _ => True) (fun (k : Nat) => []) (fun (k : Nat) => []) (fun (k : Nat) => [SlOld drEnc 4 83 w.heap.size none A n l]) (fun (k : Nat) => n - k) 0 ⟨Nat.zero_le _, by unfold driversE; rw [if_neg (by omega)]; rfl⟩ ⟨rfl, rfl, rfl, rfl, trivial⟩ (fun _ hm => hm.pick [] [] [0] rfl rfl) ?_
    intro k hinv
    replace hinv : k ≤ n ∧ driversE l = scanE drE (prevOf l k) (l.drop k) := hinv
    refine gw_seq ?_
    refine gw_region ?_
    refine wl_ov (ov_lss rfl rfl) rfl ?_
    refine wl_nil ?_
    refine nx_then ?_
    refine gw_seq ?_
    refine gw_cond rfl (fun hh => ?_) (fun hh => ?_)
    · have hk : ((k : Nat) : Int) < ((n : Nat) : Int) := by simpa using hh
      clear hh
      refine gw_skip ?_
      refine nx_then ?_
      refine gw_seq ?_
      refine gw_block ?_
      refine gw_seq ?_
      refine gw_region ?_
      obtain ⟨b, off, hA, _, _⟩ := hl.get (by omega)
      subst hA
      obtain ⟨x, hx⟩ : ∃ x, l[k]? = some x := ⟨_, List.getElem?_eq_getElem (by omega)⟩
      obtain ⟨ke, bo, fm, tt⟩ := x
      have hat := scanE_at drE l k _ hx
      have hk1 : ke.size ≤ 1000000 := hok _ (List.mem_of_getElem? hx)
      refine wl_ov (ov_move rfl) rfl ?_
      refine wl_ov (ov_index (j := k) es73 rfl rfl (by omega)) rfl ?_
      refine wl_ov (ov_elem rz83 rfl (fun _ hm => (hm.fact 0 rfl).1) hx rfl rfl) rfl ?_
      refine wl_alloc zc83 rfl fun g1 => ?_
      refine wl_ov (ov_assign rfl) rfl ?_
      refine wl_stores (cs' := [.string ke, .int .i64 bo, .int .i64 fm, .int .i64 tt]) 0 rz83 rfl rfl rfl rfl rfl rfl rfl rfl ?_
      refine wl_nil ?_
      refine nx_then ?_
      refine gw_block ?_
      refine gw_seq ?_
      refine gw_region ?_
      refine wl_ov (ov_field fo83_0 rfl rfl) rfl ?_
      refine wl_ov (ov_load sc9 rfl (fun _ hm => hm.blkI 0 rfl) rfl) rfl ?_
      refine wl_callw rfl cb115 rfl rfl (fun wx hm => (isKey_any _ wx (by omega))) ?_
      refine wl_ov (ov_un_not rfl) rfl ?_
      refine wl_ov (ov_assign rfl) rfl ?_
      refine wl_nil ?_
      refine nx_then ?_
      refine gw_cond rfl (fun hh => ?_) (fun hh => ?_)
      · have h2 : (keyB ke) = false := by simpa using hh
        clear hh
        refine gw_seq ?_
        refine gw_region ?_
        refine wl_ov (ov_assign rfl) rfl ?_
        refine wl_nil ?_
        refine nx_then ?_
        refine gw_ret ?_
        refine nx_blk_ret ?_
        refine nx_blk_ret ?_
        refine nx_then_ret ?_
        refine nx_then_ret ?_
        refine nx_blk_ret ?_
        refine nx_then_ret ?_
        have hE : drE (prevOf l k) ⟨ke, bo, fm, tt⟩ = 5 := by unfold drE; simp [h2]
        refine nx_ret1 rfl rfl fun wx hm => ?_
        exact ⟨ret_int (by rw [hinv.2, hat, if_neg (by rw [hE]; decide), hE]), hm.g⟩
      · have h2 : (keyB ke) = true := by simpa using hh
        clear hh
        refine gw_seq ?_
        by_cases hk0 : k = 0
        · have hO : leD (prevOf l k) ⟨ke, bo, fm, tt⟩ = false := by rw [prevOf_zero hk0]; rfl
          refine gw_draw (fun wz => Blk wz g1 83 [.string ke, .int .i64 bo, .int .i64 fm, .int .i64 tt] ∧ (SlOld drEnc 4 83 w.heap.size none (some ⟨b, off, none⟩) n l) wz ∧ True) mixed ?_
          refine wa_take 0 rfl (by kernel_rfl) (by kernel_rfl) (by kernel_rfl) (listed' := #[true, false, false, false, false, false, false, false, false, false, false, false, false, false]) rfl (fun _ _ _ h => h) (fun _ hm => ⟨hm.blkI 0 rfl, hm.fact 0 rfl, trivial⟩) (ov_move rfl) rfl ?_
          refine wa_take 1 rfl (by kernel_rfl) (by kernel_rfl) (by kernel_rfl) (listed' := #[true, true, false, false, false, false, false, false, false, false, false, false, false, false]) rfl (fun _ _ _ h => h) (fun _ hm => ⟨hm.blkI 0 rfl, hm.fact 0 rfl, trivial⟩) (ov_gtr rfl rfl) rfl ?_
          refine wa_set 22 (v' := .bool false) rfl (congrArg Value.bool (decide_eq_false (by omega))) ?_
          refine wa_take 2 rfl (by kernel_rfl) (by kernel_rfl) (by kernel_rfl) (listed' := #[true, true, true, false, false, false, false, false, false, false, false, false, false, false]) rfl (fun _ _ _ h => h) (fun _ hm => ⟨hm.blkI 0 rfl, hm.fact 0 rfl, trivial⟩) (ov_move rfl) rfl ?_
          refine wa_take_off 3 rfl rfl rfl (by decide) (by kernel_rfl) (by kernel_rfl) (by kernel_rfl) (listed' := #[true, true, true, true, false, false, false, false, false, false, false, false, false, false]) rfl (fun _ _ _ h => h) (fun _ hm => ⟨hm.blkI 0 rfl, hm.fact 0 rfl, trivial⟩) rfl ?_
          refine wa_take_off 4 rfl rfl rfl (by decide) (by kernel_rfl) (by kernel_rfl) (by kernel_rfl) (listed' := #[true, true, true, true, true, false, false, false, false, false, false, false, false, false]) rfl (fun _ _ _ h => h) (fun _ hm => ⟨hm.blkI 0 rfl, hm.fact 0 rfl, trivial⟩) rfl ?_
          refine wa_take_off 5 rfl rfl rfl (by decide) (by kernel_rfl) (by kernel_rfl) (by kernel_rfl) (listed' := #[true, true, true, true, true, true, false, false, false, false, false, false, false, false]) rfl (fun _ _ _ h => h) (fun _ hm => ⟨hm.blkI 0 rfl, hm.fact 0 rfl, trivial⟩) rfl ?_
          refine wa_take_off 6 rfl rfl rfl (by decide) (by kernel_rfl) (by kernel_rfl) (by kernel_rfl) (listed' := #[true, true, true, true, true, true, true, false, false, false, false, false, false, false]) rfl (fun _ _ _ h => h) (fun _ hm => ⟨hm.blkI 0 rfl, hm.fact 0 rfl, trivial⟩) rfl ?_
          refine wa_take_off 7 rfl rfl rfl (by decide) (by kernel_rfl) (by kernel_rfl) (by kernel_rfl) (listed' := #[true, true, true, true, true, true, true, true, false, false, false, false, false, false]) rfl (fun _ _ _ h => h) (fun _ hm => ⟨hm.blkI 0 rfl, hm.fact 0 rfl, trivial⟩) rfl ?_
          refine wa_take_off 8 rfl rfl rfl (by decide) (by kernel_rfl) (by kernel_rfl) (by kernel_rfl) (listed' := #[true, true, true, true, true, true, true, true, true, false, false, false, false, false]) rfl (fun _ _ _ h => h) (fun _ hm => ⟨hm.blkI 0 rfl, hm.fact 0 rfl, trivial⟩) rfl ?_
          refine wa_take_off 9 rfl rfl rfl (by decide) (by kernel_rfl) (by kernel_rfl) (by kernel_rfl) (listed' := #[true, true, true, true, true, true, true, true, true, true, false, false, false, false]) rfl (fun _ _ _ h => h) (fun _ hm => ⟨hm.blkI 0 rfl, hm.fact 0 rfl, trivial⟩) rfl ?_
          refine wa_take_off 10 rfl rfl rfl (by decide) (by kernel_rfl) (by kernel_rfl) (by kernel_rfl) (listed' := #[true, true, true, true, true, true, true, true, true, true, true, false, false, false]) rfl (fun _ _ _ h => h) (fun _ hm => ⟨hm.blkI 0 rfl, hm.fact 0 rfl, trivial⟩) rfl ?_
          refine wa_take_off 11 rfl rfl rfl (by decide) (by kernel_rfl) (by kernel_rfl) (by kernel_rfl) (listed' := #[true, true, true, true, true, true, true, true, true, true, true, true, false, false]) rfl (fun _ _ _ h => h) (fun _ hm => ⟨hm.blkI 0 rfl, hm.fact 0 rfl, trivial⟩) rfl ?_
          refine wa_take 12 rfl (by kernel_rfl) (by kernel_rfl) (by kernel_rfl) (listed' := #[true, true, true, true, true, true, true, true, true, true, true, true, true, false]) rfl (fun _ _ _ h => h) (fun _ hm => ⟨hm.blkI 0 rfl, hm.fact 0 rfl, trivial⟩) (ov_pick_f rfl rfl) rfl ?_
          refine wa_take 13 rfl (by kernel_rfl) (by kernel_rfl) (by kernel_rfl) (listed' := #[true, true, true, true, true, true, true, true, true, true, true, true, true, true]) rfl (fun _ _ _ h => h) (fun _ hm => ⟨hm.blkI 0 rfl, hm.fact 0 rfl, trivial⟩) (ov_assign rfl) rfl ?_
          refine wa_done (by kernel_rfl) ?_
          refine nx_then ?_
          refine gw_cond rfl (fun hh => by cases hh) (fun _ => ?_)
          refine gw_seq ?_
          refine gw_region ?_
          refine wl_ov (ov_field fo83_1 rfl rfl) rfl ?_
          refine wl_ov (ov_load sc3 rfl (fun _ hm => hm.blkI 0 rfl) rfl) rfl ?_
          refine wl_callw rfl cb99 rfl rfl (fun wx hm => (in_any _ _ _ wx)) ?_
          refine wl_ov (ov_un_not rfl) rfl ?_
          refine wl_ov (ov_move rfl) rfl ?_
          rcases Bool.eq_false_or_eq_true (!(inB bo (-50000) 4000)) with h4 | h4
          · refine wl_set 39 rfl (congrArg Value.bool h4) ?_
            refine wl_guard_off rfl rfl rfl (by decide) rfl ?_
            refine wl_guard_off rfl rfl rfl (by decide) rfl ?_
            refine wl_guard_off rfl rfl rfl (by decide) rfl ?_
            refine wl_guard_off rfl rfl rfl (by decide) rfl ?_
            refine wl_guard_off rfl rfl rfl (by decide) rfl ?_
            refine wl_guard_off rfl rfl rfl (by decide) rfl ?_
            refine wl_ov (ov_pick_t rfl rfl) rfl ?_
            refine wl_ov (ov_move rfl) rfl ?_
            refine wl_guard_off rfl rfl rfl (by decide) rfl ?_
            refine wl_guard_off rfl rfl rfl (by decide) rfl ?_
            refine wl_guard_off rfl rfl rfl (by decide) rfl ?_
            refine wl_ov (ov_pick_t rfl rfl) rfl ?_
            refine wl_ov (ov_assign rfl) rfl ?_
            refine wl_nil ?_
            refine nx_then ?_
            refine gw_cond rfl (fun _ => ?_) (fun hh => by cases hh)
            refine gw_seq ?_
            refine gw_region ?_
            refine wl_ov (ov_assign rfl) rfl ?_
            refine wl_nil ?_
            refine nx_then ?_
            refine gw_ret ?_
            refine nx_blk_ret ?_
            refine nx_blk_ret ?_
            refine nx_then_ret ?_
            refine nx_then_ret ?_
            refine nx_blk_ret ?_
            refine nx_then_ret ?_
            have hE : drE (prevOf l k) ⟨ke, bo, fm, tt⟩ = 1 := by unfold drE; simp [h2, hO, h4]
            refine nx_ret1 rfl rfl fun wx hm => ?_
            exact ⟨ret_int (by rw [hinv.2, hat, if_neg (by rw [hE]; decide), hE]), hm.g⟩
          · refine wl_set 39 rfl (congrArg Value.bool h4) ?_
            refine wl_guard_on rfl rfl rfl ?_
            refine wl_ov (ov_field fo83_2 rfl rfl) rfl ?_
            refine wl_guard_on rfl rfl rfl ?_
            refine wl_ov (ov_load sc3 rfl (fun _ hm => hm.blkI 0 rfl) rfl) rfl ?_
            refine wl_guard_on rfl rfl rfl ?_
            refine wl_ov (ov_field fo83_3 rfl rfl) rfl ?_
            refine wl_guard_on rfl rfl rfl ?_
            refine wl_ov (ov_load sc3 rfl (fun _ hm => hm.blkI 0 rfl) rfl) rfl ?_
            refine wl_guard_on rfl rfl rfl ?_
            refine wl_callw rfl cb99 rfl rfl (fun wx hm => (in_any _ _ _ wx)) ?_
            refine wl_guard_on rfl rfl rfl ?_
            refine wl_ov (ov_un_not rfl) rfl ?_
            refine wl_ov (ov_pick_f rfl rfl) rfl ?_
            refine wl_ov (ov_move rfl) rfl ?_
            rcases Bool.eq_false_or_eq_true (!(inB fm (-50000) tt)) with h5 | h5
            · refine wl_set 47 rfl (congrArg Value.bool h5) ?_
              refine wl_guard_off rfl rfl rfl (by decide) rfl ?_
              refine wl_guard_off rfl rfl rfl (by decide) rfl ?_
              refine wl_guard_off rfl rfl rfl (by decide) rfl ?_
              refine wl_ov (ov_pick_t rfl rfl) rfl ?_
              refine wl_ov (ov_assign rfl) rfl ?_
              refine wl_nil ?_
              refine nx_then ?_
              refine gw_cond rfl (fun _ => ?_) (fun hh => by cases hh)
              refine gw_seq ?_
              refine gw_region ?_
              refine wl_ov (ov_assign rfl) rfl ?_
              refine wl_nil ?_
              refine nx_then ?_
              refine gw_ret ?_
              refine nx_blk_ret ?_
              refine nx_blk_ret ?_
              refine nx_then_ret ?_
              refine nx_then_ret ?_
              refine nx_blk_ret ?_
              refine nx_then_ret ?_
              have hE : drE (prevOf l k) ⟨ke, bo, fm, tt⟩ = 1 := by unfold drE; simp [h2, hO, h4, h5]
              refine nx_ret1 rfl rfl fun wx hm => ?_
              exact ⟨ret_int (by rw [hinv.2, hat, if_neg (by rw [hE]; decide), hE]), hm.g⟩
            · refine wl_set 47 rfl (congrArg Value.bool h5) ?_
              refine wl_guard_on rfl rfl rfl ?_
              refine wl_ov (ov_field fo83_3 rfl rfl) rfl ?_
              refine wl_guard_on rfl rfl rfl ?_
              refine wl_ov (ov_load sc3 rfl (fun _ hm => hm.blkI 0 rfl) rfl) rfl ?_
              refine wl_guard_on rfl rfl rfl ?_
              refine wl_ov (ov_gtr rfl rfl) rfl ?_
              refine wl_ov (ov_pick_f rfl rfl) rfl ?_
              refine wl_ov (ov_assign rfl) rfl ?_
              refine wl_nil ?_
              refine nx_then ?_
              refine gw_cond rfl (fun hh => ?_) (fun hh => ?_)
              · have h6 : 50000 < tt := by simpa using hh
                clear hh
                refine gw_seq ?_
                refine gw_region ?_
                refine wl_ov (ov_assign rfl) rfl ?_
                refine wl_nil ?_
                refine nx_then ?_
                refine gw_ret ?_
                refine nx_blk_ret ?_
                refine nx_blk_ret ?_
                refine nx_then_ret ?_
                refine nx_then_ret ?_
                refine nx_blk_ret ?_
                refine nx_then_ret ?_
                have hE : drE (prevOf l k) ⟨ke, bo, fm, tt⟩ = 1 := by unfold drE; simp [h2, hO, h4, h5, h6]
                refine nx_ret1 rfl rfl fun wx hm => ?_
                exact ⟨ret_int (by rw [hinv.2, hat, if_neg (by rw [hE]; decide), hE]), hm.g⟩
              · have h6 : ¬ (50000 < tt) := by simpa using hh
                clear hh
                refine gw_skip ?_
                refine nx_blk_nrm ?_
                refine nx_blk_nrm ?_
                refine nx_then ?_
                refine gw_region ?_
                have hE : drE (prevOf l k) ⟨ke, bo, fm, tt⟩ = 0 := by unfold drE; simp [h2, hO, h4, h5, h6]
                refine wl_ov (ov_add rfl rfl (by omega) (by omega)) rfl ?_
                refine wl_ov (ov_move rfl) rfl ?_
                refine wl_nil ?_
                exact nx_round (k + 1) ⟨by omega, by rw [hinv.2, hat, if_pos hE]⟩ (by omega) ⟨rfl, rfl, rfl, (some_int (by omega)), trivial⟩ (fun _ hm => hm.pick [] [] [0] rfl rfl)
        · obtain ⟨y, hy⟩ : ∃ x, l[k - 1]? = some x := ⟨_, List.getElem?_eq_getElem (by omega)⟩
          obtain ⟨p0, p1, p2, p3⟩ := y
          refine gw_draw (fun wz => Blk wz g1 83 [.string ke, .int .i64 bo, .int .i64 fm, .int .i64 tt] ∧ (SlOld drEnc 4 83 w.heap.size none (some ⟨b, off, none⟩) n l) wz ∧ True) mixed ?_
          refine wa_take 0 rfl (by kernel_rfl) (by kernel_rfl) (by kernel_rfl) (listed' := #[true, false, false, false, false, false, false, false, false, false, false, false, false, false]) rfl (fun _ _ _ h => h) (fun _ hm => ⟨hm.blkI 0 rfl, hm.fact 0 rfl, trivial⟩) (ov_move rfl) rfl ?_
          refine wa_take 1 rfl (by kernel_rfl) (by kernel_rfl) (by kernel_rfl) (listed' := #[true, true, false, false, false, false, false, false, false, false, false, false, false, false]) rfl (fun _ _ _ h => h) (fun _ hm => ⟨hm.blkI 0 rfl, hm.fact 0 rfl, trivial⟩) (ov_gtr rfl rfl) rfl ?_
          refine wa_set 22 (v' := .bool true) rfl (congrArg Value.bool (decide_eq_true (by omega))) ?_
          refine wa_take 2 rfl (by kernel_rfl) (by kernel_rfl) (by kernel_rfl) (listed' := #[true, true, true, false, false, false, false, false, false, false, false, false, false, false]) rfl (fun _ _ _ h => h) (fun _ hm => ⟨hm.blkI 0 rfl, hm.fact 0 rfl, trivial⟩) (ov_move rfl) rfl ?_
          refine wa_take_on 3 rfl rfl rfl (by kernel_rfl) (by kernel_rfl) (by kernel_rfl) (listed' := #[true, true, true, true, false, false, false, false, false, false, false, false, false, false]) rfl (fun _ _ _ h => h) (fun _ hm => ⟨hm.blkI 0 rfl, hm.fact 0 rfl, trivial⟩) (ov_field fo83_0 rfl rfl) rfl ?_
          refine wa_take_on 4 rfl rfl rfl (by kernel_rfl) (by kernel_rfl) (by kernel_rfl) (listed' := #[true, true, true, true, true, false, false, false, false, false, false, false, false, false]) rfl (fun _ _ _ h => h) (fun _ hm => ⟨hm.blkI 0 rfl, hm.fact 0 rfl, trivial⟩) (ov_load sc9 rfl (fun _ hm => hm.1) rfl) rfl ?_
          refine wa_take_on 5 rfl rfl rfl (by kernel_rfl) (by kernel_rfl) (by kernel_rfl) (listed' := #[true, true, true, true, true, true, false, false, false, false, false, false, false, false]) rfl (fun _ _ _ h => h) (fun _ hm => ⟨hm.blkI 0 rfl, hm.fact 0 rfl, trivial⟩) (ov_move rfl) rfl ?_
          refine wa_take_on 6 rfl rfl rfl (by kernel_rfl) (by kernel_rfl) (by kernel_rfl) (listed' := #[true, true, true, true, true, true, true, false, false, false, false, false, false, false]) rfl (fun _ _ _ h => h) (fun _ hm => ⟨hm.blkI 0 rfl, hm.fact 0 rfl, trivial⟩) (ov_move rfl) rfl ?_
          refine wa_take_on 7 rfl rfl rfl (by kernel_rfl) (by kernel_rfl) (by kernel_rfl) (listed' := #[true, true, true, true, true, true, true, true, false, false, false, false, false, false]) rfl (fun _ _ _ h => h) (fun _ hm => ⟨hm.blkI 0 rfl, hm.fact 0 rfl, trivial⟩) (ov_sub rfl rfl (by omega) (by omega)) rfl ?_
          refine wa_set 28 (v' := .int .i64 ((k - 1 : Nat) : Int)) rfl (congrArg (Value.int .i64) (by omega)) ?_
          refine wa_take_on 8 rfl rfl rfl (by kernel_rfl) (by kernel_rfl) (by kernel_rfl) (listed' := #[true, true, true, true, true, true, true, true, true, false, false, false, false, false]) rfl (fun _ _ _ h => h) (fun _ hm => ⟨hm.blkI 0 rfl, hm.fact 0 rfl, trivial⟩) (ov_index (j := k - 1) es73 rfl rfl (by omega)) rfl ?_
          refine wa_take_on 9 rfl rfl rfl (by kernel_rfl) (by kernel_rfl) (by kernel_rfl) (listed' := #[true, true, true, true, true, true, true, true, true, true, false, false, false, false]) rfl (fun _ _ _ h => h) (fun _ hm => ⟨hm.blkI 0 rfl, hm.fact 0 rfl, trivial⟩) (ov_field fo83_0 rfl rfl) rfl ?_
          refine wa_take_on 10 rfl rfl rfl (by kernel_rfl) (by kernel_rfl) (by kernel_rfl) (listed' := #[true, true, true, true, true, true, true, true, true, true, true, false, false, false]) rfl (fun _ _ _ h => h) (fun _ hm => ⟨hm.blkI 0 rfl, hm.fact 0 rfl, trivial⟩) (ov_elem1 (k := 0) sc9 rfl (fun _ hm => (hm.2.1).1) hy rfl rfl) rfl ?_
          refine wa_take_on 11 rfl rfl rfl (by kernel_rfl) (by kernel_rfl) (by kernel_rfl) (listed' := #[true, true, true, true, true, true, true, true, true, true, true, true, false, false]) rfl (fun _ _ _ h => h) (fun _ hm => ⟨hm.blkI 0 rfl, hm.fact 0 rfl, trivial⟩) (ov_sleq rfl rfl) rfl ?_
          refine wa_take 12 rfl (by kernel_rfl) (by kernel_rfl) (by kernel_rfl) (listed' := #[true, true, true, true, true, true, true, true, true, true, true, true, true, false]) rfl (fun _ _ _ h => h) (fun _ hm => ⟨hm.blkI 0 rfl, hm.fact 0 rfl, trivial⟩) (ov_pick_t rfl rfl) rfl ?_
          refine wa_take 13 rfl (by kernel_rfl) (by kernel_rfl) (by kernel_rfl) (listed' := #[true, true, true, true, true, true, true, true, true, true, true, true, true, true]) rfl (fun _ _ _ h => h) (fun _ hm => ⟨hm.blkI 0 rfl, hm.fact 0 rfl, trivial⟩) (ov_assign rfl) rfl ?_
          refine wa_done (by kernel_rfl) ?_
          refine nx_then ?_
          refine gw_cond rfl (fun hh => ?_) (fun hh => ?_)
          · have h9 : (Op.bytesLess ke.toList p0.toList || ke.toList == p0.toList) = true := by simpa using hh
            clear hh
            refine gw_seq ?_
            refine gw_region ?_
            have hO : leD (prevOf l k) ⟨ke, bo, fm, tt⟩ = true := by rw [prevOf_pos hk0 hy]; exact h9
            refine wl_ov (ov_assign rfl) rfl ?_
            refine wl_nil ?_
            refine nx_then ?_
            refine gw_ret ?_
            refine nx_blk_ret ?_
            refine nx_blk_ret ?_
            refine nx_then_ret ?_
            refine nx_then_ret ?_
            refine nx_blk_ret ?_
            refine nx_then_ret ?_
            have hE : drE (prevOf l k) ⟨ke, bo, fm, tt⟩ = 7 := by unfold drE; simp [h2, hO]
            refine nx_ret1 rfl rfl fun wx hm => ?_
            exact ⟨ret_int (by rw [hinv.2, hat, if_neg (by rw [hE]; decide), hE]), hm.g⟩
          · have h9 : (Op.bytesLess ke.toList p0.toList || ke.toList == p0.toList) = false := by simpa using hh
            clear hh
            refine gw_seq ?_
            refine gw_region ?_
            have hO : leD (prevOf l k) ⟨ke, bo, fm, tt⟩ = false := by rw [prevOf_pos hk0 hy]; exact h9
            refine wl_ov (ov_field fo83_1 rfl rfl) rfl ?_
            refine wl_ov (ov_load sc3 rfl (fun _ hm => hm.blkI 0 rfl) rfl) rfl ?_
            refine wl_callw rfl cb99 rfl rfl (fun wx hm => (in_any _ _ _ wx)) ?_
            refine wl_ov (ov_un_not rfl) rfl ?_
            refine wl_ov (ov_move rfl) rfl ?_
            rcases Bool.eq_false_or_eq_true (!(inB bo (-50000) 4000)) with h4 | h4
            · refine wl_set 39 rfl (congrArg Value.bool h4) ?_
              refine wl_guard_off rfl rfl rfl (by decide) rfl ?_
              refine wl_guard_off rfl rfl rfl (by decide) rfl ?_
              refine wl_guard_off rfl rfl rfl (by decide) rfl ?_
              refine wl_guard_off rfl rfl rfl (by decide) rfl ?_
              refine wl_guard_off rfl rfl rfl (by decide) rfl ?_
              refine wl_guard_off rfl rfl rfl (by decide) rfl ?_
              refine wl_ov (ov_pick_t rfl rfl) rfl ?_
              refine wl_ov (ov_move rfl) rfl ?_
              refine wl_guard_off rfl rfl rfl (by decide) rfl ?_
              refine wl_guard_off rfl rfl rfl (by decide) rfl ?_
              refine wl_guard_off rfl rfl rfl (by decide) rfl ?_
              refine wl_ov (ov_pick_t rfl rfl) rfl ?_
              refine wl_ov (ov_assign rfl) rfl ?_
              refine wl_nil ?_
              refine nx_then ?_
              refine gw_cond rfl (fun _ => ?_) (fun hh => by cases hh)
              refine gw_seq ?_
              refine gw_region ?_
              refine wl_ov (ov_assign rfl) rfl ?_
              refine wl_nil ?_
              refine nx_then ?_
              refine gw_ret ?_
              refine nx_blk_ret ?_
              refine nx_blk_ret ?_
              refine nx_then_ret ?_
              refine nx_then_ret ?_
              refine nx_blk_ret ?_
              refine nx_then_ret ?_
              have hE : drE (prevOf l k) ⟨ke, bo, fm, tt⟩ = 1 := by unfold drE; simp [h2, hO, h4]
              refine nx_ret1 rfl rfl fun wx hm => ?_
              exact ⟨ret_int (by rw [hinv.2, hat, if_neg (by rw [hE]; decide), hE]), hm.g⟩
            · refine wl_set 39 rfl (congrArg Value.bool h4) ?_
              refine wl_guard_on rfl rfl rfl ?_
              refine wl_ov (ov_field fo83_2 rfl rfl) rfl ?_
              refine wl_guard_on rfl rfl rfl ?_
              refine wl_ov (ov_load sc3 rfl (fun _ hm => hm.blkI 0 rfl) rfl) rfl ?_
              refine wl_guard_on rfl rfl rfl ?_
              refine wl_ov (ov_field fo83_3 rfl rfl) rfl ?_
              refine wl_guard_on rfl rfl rfl ?_
              refine wl_ov (ov_load sc3 rfl (fun _ hm => hm.blkI 0 rfl) rfl) rfl ?_
              refine wl_guard_on rfl rfl rfl ?_
              refine wl_callw rfl cb99 rfl rfl (fun wx hm => (in_any _ _ _ wx)) ?_
              refine wl_guard_on rfl rfl rfl ?_
              refine wl_ov (ov_un_not rfl) rfl ?_
              refine wl_ov (ov_pick_f rfl rfl) rfl ?_
              refine wl_ov (ov_move rfl) rfl ?_
              rcases Bool.eq_false_or_eq_true (!(inB fm (-50000) tt)) with h5 | h5
              · refine wl_set 47 rfl (congrArg Value.bool h5) ?_
                refine wl_guard_off rfl rfl rfl (by decide) rfl ?_
                refine wl_guard_off rfl rfl rfl (by decide) rfl ?_
                refine wl_guard_off rfl rfl rfl (by decide) rfl ?_
                refine wl_ov (ov_pick_t rfl rfl) rfl ?_
                refine wl_ov (ov_assign rfl) rfl ?_
                refine wl_nil ?_
                refine nx_then ?_
                refine gw_cond rfl (fun _ => ?_) (fun hh => by cases hh)
                refine gw_seq ?_
                refine gw_region ?_
                refine wl_ov (ov_assign rfl) rfl ?_
                refine wl_nil ?_
                refine nx_then ?_
                refine gw_ret ?_
                refine nx_blk_ret ?_
                refine nx_blk_ret ?_
                refine nx_then_ret ?_
                refine nx_then_ret ?_
                refine nx_blk_ret ?_
                refine nx_then_ret ?_
                have hE : drE (prevOf l k) ⟨ke, bo, fm, tt⟩ = 1 := by unfold drE; simp [h2, hO, h4, h5]
                refine nx_ret1 rfl rfl fun wx hm => ?_
                exact ⟨ret_int (by rw [hinv.2, hat, if_neg (by rw [hE]; decide), hE]), hm.g⟩
              · refine wl_set 47 rfl (congrArg Value.bool h5) ?_
                refine wl_guard_on rfl rfl rfl ?_
                refine wl_ov (ov_field fo83_3 rfl rfl) rfl ?_
                refine wl_guard_on rfl rfl rfl ?_
                refine wl_ov (ov_load sc3 rfl (fun _ hm => hm.blkI 0 rfl) rfl) rfl ?_
                refine wl_guard_on rfl rfl rfl ?_
                refine wl_ov (ov_gtr rfl rfl) rfl ?_
                refine wl_ov (ov_pick_f rfl rfl) rfl ?_
                refine wl_ov (ov_assign rfl) rfl ?_
                refine wl_nil ?_
                refine nx_then ?_
                refine gw_cond rfl (fun hh => ?_) (fun hh => ?_)
                · have h6 : 50000 < tt := by simpa using hh
                  clear hh
                  refine gw_seq ?_
                  refine gw_region ?_
                  refine wl_ov (ov_assign rfl) rfl ?_
                  refine wl_nil ?_
                  refine nx_then ?_
                  refine gw_ret ?_
                  refine nx_blk_ret ?_
                  refine nx_blk_ret ?_
                  refine nx_then_ret ?_
                  refine nx_then_ret ?_
                  refine nx_blk_ret ?_
                  refine nx_then_ret ?_
                  have hE : drE (prevOf l k) ⟨ke, bo, fm, tt⟩ = 1 := by unfold drE; simp [h2, hO, h4, h5, h6]
                  refine nx_ret1 rfl rfl fun wx hm => ?_
                  exact ⟨ret_int (by rw [hinv.2, hat, if_neg (by rw [hE]; decide), hE]), hm.g⟩
                · have h6 : ¬ (50000 < tt) := by simpa using hh
                  clear hh
                  refine gw_skip ?_
                  refine nx_blk_nrm ?_
                  refine nx_blk_nrm ?_
                  refine nx_then ?_
                  refine gw_region ?_
                  have hE : drE (prevOf l k) ⟨ke, bo, fm, tt⟩ = 0 := by unfold drE; simp [h2, hO, h4, h5, h6]
                  refine wl_ov (ov_add rfl rfl (by omega) (by omega)) rfl ?_
                  refine wl_ov (ov_move rfl) rfl ?_
                  refine wl_nil ?_
                  exact nx_round (k + 1) ⟨by omega, by rw [hinv.2, hat, if_pos hE]⟩ (by omega) ⟨rfl, rfl, rfl, (some_int (by omega)), trivial⟩ (fun _ hm => hm.pick [] [] [0] rfl rfl)
    · have hk : ¬ (((k : Nat) : Int) < ((n : Nat) : Int)) := by simpa using hh
      clear hh
      refine gw_exit ?_
      refine nx_then_exit ?_
      refine nx_then_exit ?_
      refine nx_blk_here ?_
      refine nx_then ?_
      refine gw_seq ?_
      refine gw_region ?_
      refine wl_ov (ov_assign rfl) rfl ?_
      refine wl_nil ?_
      refine nx_then ?_
      refine gw_ret ?_
      refine nx_ret1 rfl rfl fun wx hm => ?_
      exact ⟨ret_int (by rw [hinv.2, scanE_end _ _ _ _ (by omega)]), hm.g⟩

set_option maxRecDepth 100000 in
set_option maxHeartbeats 1000000 in
theorem driversFault_any (l : List Dr) (A : Option Addr) (n c : Nat) (w : World) (hl : SlT drEnc 4 83 w A n l) (hok : ∀ b ∈ l, DrOk b) (hn : n ≤ 1000000) :
    Calls Tryd.prog 46 #[.slice A n c] w (GotE w (driversE l)) := by
  refine gw_enter ⟨46, w, none, []⟩ Tryd.func46 rfl Tryd.ntmps46 rfl (mem0 (X := [SlOld drEnc 4 83 w.heap.size none A n l]) (allF_cons hl.old allF_nil) (allL_cons SlOld.lasts allL_nil)) ?_
  refine gw_seq ?_
  refine gw_region ?_
  have hlen := hl.len
  refine wl_ov (ov_assign rfl) rfl ?_
  refine wl_nil ?_
  refine nx_then ?_
  refine gw_seq ?_
  refine gw_seq ?_
  refine gw_region ?_
  refine wl_ov (ov_move rfl) rfl ?_
  refine wl_ov (ov_len es73 rfl) rfl ?_
  refine wl_ov (ov_gtr rfl rfl) rfl ?_
  refine wl_nil ?_
  refine nx_then ?_
  refine gw_cond rfl (fun hh => ?_) (fun hh => ?_)
  · have h1 : 500 < ((n : Nat) : Int) := by simpa using hh
    clear hh
    refine gw_seq ?_
    refine gw_region ?_
    refine wl_ov (ov_assign rfl) rfl ?_
    refine wl_nil ?_
    refine nx_then ?_
    refine gw_ret ?_
    refine nx_then_ret ?_
    refine nx_ret1 rfl rfl fun wx hm => ?_
    exact ⟨ret_int (by unfold driversE; rw [if_pos (by omega)]), hm.g⟩
  · have h1 : ¬ (500 < ((n : Nat) : Int)) := by simpa using hh
    clear hh
    refine gw_skip ?_
    refine nx_then ?_
    refine gw_seq ?_
    refine gw_region ?_
    refine wl_ov (ov_assign rfl) rfl ?_
    refine wl_nil ?_
    refine nx_then ?_
    refine gw_seq ?_
    refine gw_seq ?_
    refine gw_region ?_
    refine wl_ov (ov_move rfl) rfl ?_
    refine wl_ov (ov_len es73 rfl) rfl ?_
    refine wl_ov (ov_move rfl) rfl ?_
    refine wl_nil ?_
    refine nx_then ?_
    refine gw_block ?_
    refine gw_loop (γ := Nat) (fun (k : Nat) => k ≤ n ∧ driversE l = scanE drE (prevOf l k) (l.drop k)) (fun (k : Nat) => [(3, .string (prevD l k)), (9, .slice A n c), (10, .int .i64 ((n : Nat) : Int)), (11, .int .i64 ((k : Nat) : Int))]) (fun (k : Nat) => fun _ => True) (fun (k : Nat) => []) (fun (k : Nat) => []) (fun (k : Nat) => [SlOld drEnc 4 83 w.heap.size none A n l]) (fun (k : Nat) => n - k) 0 ⟨Nat.zero_le _, by unfold driversE; rw [if_neg (by omega)]; rfl⟩ ⟨rfl, rfl, rfl, rfl, trivial⟩ (fun _ hm => hm.pick [] [] [0] rfl rfl) ?_
    intro k hinv
    replace hinv : k ≤ n ∧ driversE l = scanE drE (prevOf l k) (l.drop k) := hinv
    refine gw_seq ?_
    refine gw_region ?_
    refine wl_ov (ov_lss rfl rfl) rfl ?_
    refine wl_nil ?_
    refine nx_then ?_
    refine gw_seq ?_
    refine gw_cond rfl (fun hh => ?_) (fun hh => ?_)
    · have hk : ((k : Nat) : Int) < ((n : Nat) : Int) := by simpa using hh
      clear hh
      refine gw_skip ?_
      refine nx_then ?_
      refine gw_seq ?_
      refine gw_block ?_
      refine gw_seq ?_
      refine gw_region ?_
      obtain ⟨b, off, hA, _, _⟩ := hl.get (by omega)
      subst hA
      obtain ⟨x, hx⟩ : ∃ x, l[k]? = some x := ⟨_, List.getElem?_eq_getElem (by omega)⟩
      obtain ⟨ke, bo, fm, tt⟩ := x
      have hat := scanE_at drE l k _ hx
      have hk1 : ke.size ≤ 1000000 := hok _ (List.mem_of_getElem? hx)
      refine wl_ov (ov_index (j := k) es73 rfl rfl (by omega)) rfl ?_
      refine wl_ov (ov_elem rz83 rfl (fun _ hm => (hm.fact 0 rfl).1) hx rfl rfl) rfl ?_
      refine wl_alloc zc83 rfl fun g1 => ?_
      refine wl_stores (cs' := [.string ke, .int .i64 bo, .int .i64 fm, .int .i64 tt]) 0 rz83 rfl rfl rfl rfl rfl rfl rfl rfl ?_
      refine wl_nil ?_
      refine nx_then ?_
      refine gw_seq ?_
      refine gw_block ?_
      refine gw_seq ?_
      refine gw_region ?_
      refine wl_ov (ov_field fo83_0 rfl rfl) rfl ?_
      refine wl_ov (ov_load sc9 rfl (fun _ hm => hm.blkI 0 rfl) rfl) rfl ?_
      refine wl_callv rfl cb102 rfl rfl (fun wx hm => (key_any _ wx (by omega))) ?_
      refine wl_ov (ov_un_not rfl) rfl ?_
      refine wl_ov (ov_assign rfl) rfl ?_
      refine wl_nil ?_
      refine nx_then ?_
      refine gw_cond rfl (fun hh => ?_) (fun hh => ?_)
      · have h2 : (keyB ke) = false := by simpa using hh
        clear hh
        refine gw_seq ?_
        refine gw_region ?_
        refine wl_ov (ov_assign rfl) rfl ?_
        refine wl_nil ?_
        refine nx_then ?_
        refine gw_ret ?_
        refine nx_blk_ret ?_
        refine nx_then_ret ?_
        refine nx_blk_ret ?_
        refine nx_then_ret ?_
        refine nx_then_ret ?_
        refine nx_blk_ret ?_
        refine nx_then_ret ?_
        have hE : drE (prevOf l k) ⟨ke, bo, fm, tt⟩ = 5 := by unfold drE; simp [h2]
        refine nx_ret1 rfl rfl fun wx hm => ?_
        exact ⟨ret_int (by rw [hinv.2, hat, if_neg (by rw [hE]; decide), hE]), hm.g⟩
      · have h2 : (keyB ke) = true := by simpa using hh
        clear hh
        refine gw_seq ?_
        refine gw_region ?_
        refine wl_ov (ov_field fo83_0 rfl rfl) rfl ?_
        refine wl_ov (ov_load sc9 rfl (fun _ hm => hm.blkI 0 rfl) rfl) rfl ?_
        refine wl_ov (ov_move rfl) rfl ?_
        refine wl_ov (ov_sleq rfl rfl) rfl ?_
        refine wl_ov (ov_assign rfl) rfl ?_
        refine wl_nil ?_
        refine nx_then ?_
        refine gw_cond rfl (fun hh => ?_) (fun hh => ?_)
        · have h9 : (Op.bytesLess ke.toList (prevD l k).toList || ke.toList == (prevD l k).toList) = true := by simpa using hh
          clear hh
          refine gw_seq ?_
          refine gw_region ?_
          have hO : leD (prevOf l k) ⟨ke, bo, fm, tt⟩ = true := (prevD_le (b := ⟨ke, bo, fm, tt⟩) (by simpa using h2)).symm.trans h9
          refine wl_ov (ov_assign rfl) rfl ?_
          refine wl_nil ?_
          refine nx_then ?_
          refine gw_ret ?_
          refine nx_blk_ret ?_
          refine nx_then_ret ?_
          refine nx_blk_ret ?_
          refine nx_then_ret ?_
          refine nx_then_ret ?_
          refine nx_blk_ret ?_
          refine nx_then_ret ?_
          have hE : drE (prevOf l k) ⟨ke, bo, fm, tt⟩ = 7 := by unfold drE; simp [h2, hO]
          refine nx_ret1 rfl rfl fun wx hm => ?_
          exact ⟨ret_int (by rw [hinv.2, hat, if_neg (by rw [hE]; decide), hE]), hm.g⟩
        · have h9 : (Op.bytesLess ke.toList (prevD l k).toList || ke.toList == (prevD l k).toList) = false := by simpa using hh
          clear hh
          refine gw_seq ?_
          refine gw_region ?_
          have hO : leD (prevOf l k) ⟨ke, bo, fm, tt⟩ = false := (prevD_le (b := ⟨ke, bo, fm, tt⟩) (by simpa using h2)).symm.trans h9
          refine wl_ov (ov_field fo83_1 rfl rfl) rfl ?_
          refine wl_ov (ov_load sc3 rfl (fun _ hm => hm.blkI 0 rfl) rfl) rfl ?_
          refine wl_callw rfl cb101 rfl rfl (fun wx hm => (rin_any _ _ _ wx)) ?_
          refine wl_ov (ov_un_not rfl) rfl ?_
          refine wl_ov (ov_move rfl) rfl ?_
          rcases Bool.eq_false_or_eq_true (!(inB bo (-50000) 4000)) with h4 | h4
          · refine wl_set 30 rfl (congrArg Value.bool h4) ?_
            refine wl_guard_off rfl rfl rfl (by decide) rfl ?_
            refine wl_guard_off rfl rfl rfl (by decide) rfl ?_
            refine wl_guard_off rfl rfl rfl (by decide) rfl ?_
            refine wl_guard_off rfl rfl rfl (by decide) rfl ?_
            refine wl_guard_off rfl rfl rfl (by decide) rfl ?_
            refine wl_guard_off rfl rfl rfl (by decide) rfl ?_
            refine wl_ov (ov_pick_t rfl rfl) rfl ?_
            refine wl_ov (ov_move rfl) rfl ?_
            refine wl_guard_off rfl rfl rfl (by decide) rfl ?_
            refine wl_guard_off rfl rfl rfl (by decide) rfl ?_
            refine wl_guard_off rfl rfl rfl (by decide) rfl ?_
            refine wl_ov (ov_pick_t rfl rfl) rfl ?_
            refine wl_ov (ov_assign rfl) rfl ?_
            refine wl_nil ?_
            refine nx_then ?_
            refine gw_cond rfl (fun _ => ?_) (fun hh => by cases hh)
            refine gw_seq ?_
            refine gw_region ?_
            refine wl_ov (ov_assign rfl) rfl ?_
            refine wl_nil ?_
            refine nx_then ?_
            refine gw_ret ?_
            refine nx_blk_ret ?_
            refine nx_then_ret ?_
            refine nx_blk_ret ?_
            refine nx_then_ret ?_
            refine nx_then_ret ?_
            refine nx_blk_ret ?_
            refine nx_then_ret ?_
            have hE : drE (prevOf l k) ⟨ke, bo, fm, tt⟩ = 1 := by unfold drE; simp [h2, hO, h4]
            refine nx_ret1 rfl rfl fun wx hm => ?_
            exact ⟨ret_int (by rw [hinv.2, hat, if_neg (by rw [hE]; decide), hE]), hm.g⟩
          · refine wl_set 30 rfl (congrArg Value.bool h4) ?_
            refine wl_guard_on rfl rfl rfl ?_
            refine wl_ov (ov_field fo83_2 rfl rfl) rfl ?_
            refine wl_guard_on rfl rfl rfl ?_
            refine wl_ov (ov_load sc3 rfl (fun _ hm => hm.blkI 0 rfl) rfl) rfl ?_
            refine wl_guard_on rfl rfl rfl ?_
            refine wl_ov (ov_field fo83_3 rfl rfl) rfl ?_
            refine wl_guard_on rfl rfl rfl ?_
            refine wl_ov (ov_load sc3 rfl (fun _ hm => hm.blkI 0 rfl) rfl) rfl ?_
            refine wl_guard_on rfl rfl rfl ?_
            refine wl_callw rfl cb101 rfl rfl (fun wx hm => (rin_any _ _ _ wx)) ?_
            refine wl_guard_on rfl rfl rfl ?_
            refine wl_ov (ov_un_not rfl) rfl ?_
            refine wl_ov (ov_pick_f rfl rfl) rfl ?_
            refine wl_ov (ov_move rfl) rfl ?_
            rcases Bool.eq_false_or_eq_true (!(inB fm (-50000) tt)) with h5 | h5
            · refine wl_set 38 rfl (congrArg Value.bool h5) ?_
              refine wl_guard_off rfl rfl rfl (by decide) rfl ?_
              refine wl_guard_off rfl rfl rfl (by decide) rfl ?_
              refine wl_guard_off rfl rfl rfl (by decide) rfl ?_
              refine wl_ov (ov_pick_t rfl rfl) rfl ?_
              refine wl_ov (ov_assign rfl) rfl ?_
              refine wl_nil ?_
              refine nx_then ?_
              refine gw_cond rfl (fun _ => ?_) (fun hh => by cases hh)
              refine gw_seq ?_
              refine gw_region ?_
              refine wl_ov (ov_assign rfl) rfl ?_
              refine wl_nil ?_
              refine nx_then ?_
              refine gw_ret ?_
              refine nx_blk_ret ?_
              refine nx_then_ret ?_
              refine nx_blk_ret ?_
              refine nx_then_ret ?_
              refine nx_then_ret ?_
              refine nx_blk_ret ?_
              refine nx_then_ret ?_
              have hE : drE (prevOf l k) ⟨ke, bo, fm, tt⟩ = 1 := by unfold drE; simp [h2, hO, h4, h5]
              refine nx_ret1 rfl rfl fun wx hm => ?_
              exact ⟨ret_int (by rw [hinv.2, hat, if_neg (by rw [hE]; decide), hE]), hm.g⟩
            · refine wl_set 38 rfl (congrArg Value.bool h5) ?_
              refine wl_guard_on rfl rfl rfl ?_
              refine wl_ov (ov_field fo83_3 rfl rfl) rfl ?_
              refine wl_guard_on rfl rfl rfl ?_
              refine wl_ov (ov_load sc3 rfl (fun _ hm => hm.blkI 0 rfl) rfl) rfl ?_
              refine wl_guard_on rfl rfl rfl ?_
              refine wl_ov (ov_gtr rfl rfl) rfl ?_
              refine wl_ov (ov_pick_f rfl rfl) rfl ?_
              refine wl_ov (ov_assign rfl) rfl ?_
              refine wl_nil ?_
              refine nx_then ?_
              refine gw_cond rfl (fun hh => ?_) (fun hh => ?_)
              · have h6 : 50000 < tt := by simpa using hh
                clear hh
                refine gw_seq ?_
                refine gw_region ?_
                refine wl_ov (ov_assign rfl) rfl ?_
                refine wl_nil ?_
                refine nx_then ?_
                refine gw_ret ?_
                refine nx_blk_ret ?_
                refine nx_then_ret ?_
                refine nx_blk_ret ?_
                refine nx_then_ret ?_
                refine nx_then_ret ?_
                refine nx_blk_ret ?_
                refine nx_then_ret ?_
                have hE : drE (prevOf l k) ⟨ke, bo, fm, tt⟩ = 1 := by unfold drE; simp [h2, hO, h4, h5, h6]
                refine nx_ret1 rfl rfl fun wx hm => ?_
                exact ⟨ret_int (by rw [hinv.2, hat, if_neg (by rw [hE]; decide), hE]), hm.g⟩
              · have h6 : ¬ (50000 < tt) := by simpa using hh
                clear hh
                refine gw_skip ?_
                refine nx_blk_nrm ?_
                refine nx_then ?_
                refine gw_region ?_
                have hE : drE (prevOf l k) ⟨ke, bo, fm, tt⟩ = 0 := by unfold drE; simp [h2, hO, h4, h5, h6]
                refine wl_ov (ov_field fo83_0 rfl rfl) rfl ?_
                refine wl_ov (ov_load sc9 rfl (fun _ hm => hm.blkI 0 rfl) rfl) rfl ?_
                refine wl_ov (ov_assign rfl) rfl ?_
                refine wl_nil ?_
                refine nx_blk_nrm ?_
                refine nx_then ?_
                refine gw_region ?_
                refine wl_ov (ov_add rfl rfl (by omega) (by omega)) rfl ?_
                refine wl_ov (ov_move rfl) rfl ?_
                refine wl_nil ?_
                exact nx_round (k + 1) ⟨by omega, by rw [hinv.2, hat, if_pos hE]⟩ (by omega) ⟨(congrArg (fun z => some (Value.string z)) (prevD_succ hx).symm), rfl, rfl, (some_int (by omega)), trivial⟩ (fun _ hm => hm.pick [] [] [0] rfl rfl)
    · have hk : ¬ (((k : Nat) : Int) < ((n : Nat) : Int)) := by simpa using hh
      clear hh
      refine gw_exit ?_
      refine nx_then_exit ?_
      refine nx_then_exit ?_
      refine nx_blk_here ?_
      refine nx_then ?_
      refine gw_seq ?_
      refine gw_region ?_
      refine wl_ov (ov_assign rfl) rfl ?_
      refine wl_nil ?_
      refine nx_then ?_
      refine gw_ret ?_
      refine nx_ret1 rfl rfl fun wx hm => ?_
      exact ⟨ret_int (by rw [hinv.2, scanE_end _ _ _ _ (by omega)]), hm.g⟩

set_option maxRecDepth 100000 in
set_option maxHeartbeats 1000000 in
theorem checkAges_any (l : List Ag) (A : Option Addr) (n c : Nat) (w : World) (hl : SlT agEnc 2 158 w A n l) (hok : ∀ b ∈ l, AgOk b) (hn : n ≤ 1000000) :
    Calls Tryd.prog 114 #[.slice A n c] w (GotE w (agesE l)) := by
  refine gw_enter ⟨40, w, none, []⟩ Tryd.func114 rfl Tryd.ntmps114 rfl (mem0 (X := [SlOld agEnc 2 158 w.heap.size none A n l]) (allF_cons hl.old allF_nil) (allL_cons SlOld.lasts allL_nil)) ?_
  refine gw_seq ?_
  refine gw_region ?_
  have hlen := hl.len
  refine wl_ov (ov_assign rfl) rfl ?_
  refine wl_nil ?_
  refine nx_then ?_
  refine gw_seq ?_
  refine gw_seq ?_
  refine gw_region ?_
  refine wl_ov (ov_move rfl) rfl ?_
  refine wl_ov (ov_len es75 rfl) rfl ?_
  refine wl_ov (ov_gtr rfl rfl) rfl ?_
  refine wl_nil ?_
  refine nx_then ?_
  refine gw_cond rfl (fun hh => ?_) (fun hh => ?_)
  · have h1 : 30 < ((n : Nat) : Int) := by simpa using hh
    clear hh
    refine gw_seq ?_
    refine gw_region ?_
    refine wl_ov (ov_assign rfl) rfl ?_
    refine wl_nil ?_
    refine nx_then ?_
    refine gw_ret ?_
    refine nx_then_ret ?_
    refine nx_ret1 rfl rfl fun wx hm => ?_
    exact ⟨ret_int (by unfold agesE; rw [if_pos (by omega)]), hm.g⟩
  · have h1 : ¬ (30 < ((n : Nat) : Int)) := by simpa using hh
    clear hh
    refine gw_skip ?_
    refine nx_then ?_
    refine gw_seq ?_
    refine gw_seq ?_
    refine gw_region ?_
    refine wl_ov (ov_move rfl) rfl ?_
    refine wl_ov (ov_len es75 rfl) rfl ?_
    refine wl_ov (ov_move rfl) rfl ?_
    refine wl_nil ?_
    refine nx_then ?_
    refine gw_block ?_
    refine gw_loop (γ := Nat) (fun (k : Nat) => k ≤ n ∧ agesE l = scanE agE (prevOf l k) (l.drop k)) (fun (k : Nat) => [(0, .slice A n c), (8, .slice A n c), (9, .int .i64 ((n : Nat) : Int)), (10, .int .i64 ((k : Nat) : Int))]) (fun (k : Nat) => fun _ => True) (fun (k : Nat) => []) (fun (k : Nat) => []) (fun (k : Nat) => [SlOld agEnc 2 158 w.heap.size none A n l]) (fun (k : Nat) => n - k) 0 ⟨Nat.zero_le _, by unfold agesE; rw [if_neg (by omega)]; rfl⟩ ⟨rfl, rfl, rfl, rfl, trivial⟩ (fun _ hm => hm.pick [] [] [0] rfl rfl) ?_
    intro k hinv
    replace hinv : k ≤ n ∧ agesE l = scanE agE (prevOf l k) (l.drop k) := hinv
    refine gw_seq ?_
    refine gw_region ?_
    refine wl_ov (ov_lss rfl rfl) rfl ?_
    refine wl_nil ?_
    refine nx_then ?_
    refine gw_seq ?_
    refine gw_cond rfl (fun hh => ?_) (fun hh => ?_)
    · have hk : ((k : Nat) : Int) < ((n : Nat) : Int) := by simpa using hh
      clear hh
      refine gw_skip ?_
      refine nx_then ?_
      refine gw_seq ?_
      refine gw_block ?_
      refine gw_seq ?_
      refine gw_region ?_
      obtain ⟨b, off, hA, _, _⟩ := hl.get (by omega)
      subst hA
      obtain ⟨x, hx⟩ : ∃ x, l[k]? = some x := ⟨_, List.getElem?_eq_getElem (by omega)⟩
      obtain ⟨cl, dy⟩ := x
      have hat := scanE_at agE l k _ hx
      have hk1 : cl.size ≤ 1000000 := hok _ (List.mem_of_getElem? hx)
      refine wl_ov (ov_move rfl) rfl ?_
      refine wl_ov (ov_index (j := k) es75 rfl rfl (by omega)) rfl ?_
      refine wl_ov (ov_elem rz158 rfl (fun _ hm => (hm.fact 0 rfl).1) hx rfl rfl) rfl ?_
      refine wl_alloc zc158 rfl fun g1 => ?_
      refine wl_ov (ov_assign rfl) rfl ?_
      refine wl_stores (cs' := [.string cl, .int .i64 dy]) 0 rz158 rfl rfl rfl rfl rfl rfl rfl rfl ?_
      refine wl_nil ?_
      refine nx_then ?_
      refine gw_block ?_
      refine gw_seq ?_
      refine gw_region ?_
      refine wl_ov (ov_field fo158_0 rfl rfl) rfl ?_
      refine wl_ov (ov_load sc9 rfl (fun _ hm => hm.blkI 0 rfl) rfl) rfl ?_
      refine wl_callw rfl cb115 rfl rfl (fun wx hm => (isKey_any _ wx (by omega))) ?_
      refine wl_ov (ov_un_not rfl) rfl ?_
      refine wl_ov (ov_assign rfl) rfl ?_
      refine wl_nil ?_
      refine nx_then ?_
      refine gw_cond rfl (fun hh => ?_) (fun hh => ?_)
      · have h2 : (keyB cl) = false := by simpa using hh
        clear hh
        refine gw_seq ?_
        refine gw_region ?_
        refine wl_ov (ov_assign rfl) rfl ?_
        refine wl_nil ?_
        refine nx_then ?_
        refine gw_ret ?_
        refine nx_blk_ret ?_
        refine nx_blk_ret ?_
        refine nx_then_ret ?_
        refine nx_then_ret ?_
        refine nx_blk_ret ?_
        refine nx_then_ret ?_
        have hE : agE (prevOf l k) ⟨cl, dy⟩ = 5 := by unfold agE; simp [h2]
        refine nx_ret1 rfl rfl fun wx hm => ?_
        exact ⟨ret_int (by rw [hinv.2, hat, if_neg (by rw [hE]; decide), hE]), hm.g⟩
      · have h2 : (keyB cl) = true := by simpa using hh
        clear hh
        refine gw_seq ?_
        by_cases hk0 : k = 0
        · have hO : leG (prevOf l k) ⟨cl, dy⟩ = false := by rw [prevOf_zero hk0]; rfl
          refine gw_draw (fun wz => Blk wz g1 158 [.string cl, .int .i64 dy] ∧ (SlOld agEnc 2 158 w.heap.size none (some ⟨b, off, none⟩) n l) wz ∧ True) mixed ?_
          refine wa_take 0 rfl (by kernel_rfl) (by kernel_rfl) (by kernel_rfl) (listed' := #[true, false, false, false, false, false, false, false, false, false, false, false, false, false]) rfl (fun _ _ _ h => h) (fun _ hm => ⟨hm.blkI 0 rfl, hm.fact 0 rfl, trivial⟩) (ov_move rfl) rfl ?_
          refine wa_take 1 rfl (by kernel_rfl) (by kernel_rfl) (by kernel_rfl) (listed' := #[true, true, false, false, false, false, false, false, false, false, false, false, false, false]) rfl (fun _ _ _ h => h) (fun _ hm => ⟨hm.blkI 0 rfl, hm.fact 0 rfl, trivial⟩) (ov_gtr rfl rfl) rfl ?_
          refine wa_set 22 (v' := .bool false) rfl (congrArg Value.bool (decide_eq_false (by omega))) ?_
          refine wa_take 2 rfl (by kernel_rfl) (by kernel_rfl) (by kernel_rfl) (listed' := #[true, true, true, false, false, false, false, false, false, false, false, false, false, false]) rfl (fun _ _ _ h => h) (fun _ hm => ⟨hm.blkI 0 rfl, hm.fact 0 rfl, trivial⟩) (ov_move rfl) rfl ?_
          refine wa_take_off 3 rfl rfl rfl (by decide) (by kernel_rfl) (by kernel_rfl) (by kernel_rfl) (listed' := #[true, true, true, true, false, false, false, false, false, false, false, false, false, false]) rfl (fun _ _ _ h => h) (fun _ hm => ⟨hm.blkI 0 rfl, hm.fact 0 rfl, trivial⟩) rfl ?_
          refine wa_take_off 4 rfl rfl rfl (by decide) (by kernel_rfl) (by kernel_rfl) (by kernel_rfl) (listed' := #[true, true, true, true, true, false, false, false, false, false, false, false, false, false]) rfl (fun _ _ _ h => h) (fun _ hm => ⟨hm.blkI 0 rfl, hm.fact 0 rfl, trivial⟩) rfl ?_
          refine wa_take_off 5 rfl rfl rfl (by decide) (by kernel_rfl) (by kernel_rfl) (by kernel_rfl) (listed' := #[true, true, true, true, true, true, false, false, false, false, false, false, false, false]) rfl (fun _ _ _ h => h) (fun _ hm => ⟨hm.blkI 0 rfl, hm.fact 0 rfl, trivial⟩) rfl ?_
          refine wa_take_off 6 rfl rfl rfl (by decide) (by kernel_rfl) (by kernel_rfl) (by kernel_rfl) (listed' := #[true, true, true, true, true, true, true, false, false, false, false, false, false, false]) rfl (fun _ _ _ h => h) (fun _ hm => ⟨hm.blkI 0 rfl, hm.fact 0 rfl, trivial⟩) rfl ?_
          refine wa_take_off 7 rfl rfl rfl (by decide) (by kernel_rfl) (by kernel_rfl) (by kernel_rfl) (listed' := #[true, true, true, true, true, true, true, true, false, false, false, false, false, false]) rfl (fun _ _ _ h => h) (fun _ hm => ⟨hm.blkI 0 rfl, hm.fact 0 rfl, trivial⟩) rfl ?_
          refine wa_take_off 8 rfl rfl rfl (by decide) (by kernel_rfl) (by kernel_rfl) (by kernel_rfl) (listed' := #[true, true, true, true, true, true, true, true, true, false, false, false, false, false]) rfl (fun _ _ _ h => h) (fun _ hm => ⟨hm.blkI 0 rfl, hm.fact 0 rfl, trivial⟩) rfl ?_
          refine wa_take_off 9 rfl rfl rfl (by decide) (by kernel_rfl) (by kernel_rfl) (by kernel_rfl) (listed' := #[true, true, true, true, true, true, true, true, true, true, false, false, false, false]) rfl (fun _ _ _ h => h) (fun _ hm => ⟨hm.blkI 0 rfl, hm.fact 0 rfl, trivial⟩) rfl ?_
          refine wa_take_off 10 rfl rfl rfl (by decide) (by kernel_rfl) (by kernel_rfl) (by kernel_rfl) (listed' := #[true, true, true, true, true, true, true, true, true, true, true, false, false, false]) rfl (fun _ _ _ h => h) (fun _ hm => ⟨hm.blkI 0 rfl, hm.fact 0 rfl, trivial⟩) rfl ?_
          refine wa_take_off 11 rfl rfl rfl (by decide) (by kernel_rfl) (by kernel_rfl) (by kernel_rfl) (listed' := #[true, true, true, true, true, true, true, true, true, true, true, true, false, false]) rfl (fun _ _ _ h => h) (fun _ hm => ⟨hm.blkI 0 rfl, hm.fact 0 rfl, trivial⟩) rfl ?_
          refine wa_take 12 rfl (by kernel_rfl) (by kernel_rfl) (by kernel_rfl) (listed' := #[true, true, true, true, true, true, true, true, true, true, true, true, true, false]) rfl (fun _ _ _ h => h) (fun _ hm => ⟨hm.blkI 0 rfl, hm.fact 0 rfl, trivial⟩) (ov_pick_f rfl rfl) rfl ?_
          refine wa_take 13 rfl (by kernel_rfl) (by kernel_rfl) (by kernel_rfl) (listed' := #[true, true, true, true, true, true, true, true, true, true, true, true, true, true]) rfl (fun _ _ _ h => h) (fun _ hm => ⟨hm.blkI 0 rfl, hm.fact 0 rfl, trivial⟩) (ov_assign rfl) rfl ?_
          refine wa_done (by kernel_rfl) ?_
          refine nx_then ?_
          refine gw_cond rfl (fun hh => by cases hh) (fun _ => ?_)
          refine gw_seq ?_
          refine gw_region ?_
          refine wl_ov (ov_field fo158_1 rfl rfl) rfl ?_
          refine wl_ov (ov_load sc3 rfl (fun _ hm => hm.blkI 0 rfl) rfl) rfl ?_
          refine wl_callw rfl cb99 rfl rfl (fun wx hm => (in_any _ _ _ wx)) ?_
          refine wl_ov (ov_un_not rfl) rfl ?_
          refine wl_ov (ov_assign rfl) rfl ?_
          refine wl_nil ?_
          refine nx_then ?_
          refine gw_cond rfl (fun hh => ?_) (fun hh => ?_)
          · have h4 : (inB dy 0 50000) = false := by simpa using hh
            clear hh
            refine gw_seq ?_
            refine gw_region ?_
            refine wl_ov (ov_assign rfl) rfl ?_
            refine wl_nil ?_
            refine nx_then ?_
            refine gw_ret ?_
            refine nx_blk_ret ?_
            refine nx_blk_ret ?_
            refine nx_then_ret ?_
            refine nx_then_ret ?_
            refine nx_blk_ret ?_
            refine nx_then_ret ?_
            have hE : agE (prevOf l k) ⟨cl, dy⟩ = 1 := by unfold agE; simp [h2, hO, h4]
            refine nx_ret1 rfl rfl fun wx hm => ?_
            exact ⟨ret_int (by rw [hinv.2, hat, if_neg (by rw [hE]; decide), hE]), hm.g⟩
          · have h4 : (inB dy 0 50000) = true := by simpa using hh
            clear hh
            refine gw_skip ?_
            refine nx_blk_nrm ?_
            refine nx_blk_nrm ?_
            refine nx_then ?_
            refine gw_region ?_
            have hE : agE (prevOf l k) ⟨cl, dy⟩ = 0 := by unfold agE; simp [h2, hO, h4]
            refine wl_ov (ov_add rfl rfl (by omega) (by omega)) rfl ?_
            refine wl_ov (ov_move rfl) rfl ?_
            refine wl_nil ?_
            exact nx_round (k + 1) ⟨by omega, by rw [hinv.2, hat, if_pos hE]⟩ (by omega) ⟨rfl, rfl, rfl, (some_int (by omega)), trivial⟩ (fun _ hm => hm.pick [] [] [0] rfl rfl)
        · obtain ⟨y, hy⟩ : ∃ x, l[k - 1]? = some x := ⟨_, List.getElem?_eq_getElem (by omega)⟩
          obtain ⟨p0, p1⟩ := y
          refine gw_draw (fun wz => Blk wz g1 158 [.string cl, .int .i64 dy] ∧ (SlOld agEnc 2 158 w.heap.size none (some ⟨b, off, none⟩) n l) wz ∧ True) mixed ?_
          refine wa_take 0 rfl (by kernel_rfl) (by kernel_rfl) (by kernel_rfl) (listed' := #[true, false, false, false, false, false, false, false, false, false, false, false, false, false]) rfl (fun _ _ _ h => h) (fun _ hm => ⟨hm.blkI 0 rfl, hm.fact 0 rfl, trivial⟩) (ov_move rfl) rfl ?_
          refine wa_take 1 rfl (by kernel_rfl) (by kernel_rfl) (by kernel_rfl) (listed' := #[true, true, false, false, false, false, false, false, false, false, false, false, false, false]) rfl (fun _ _ _ h => h) (fun _ hm => ⟨hm.blkI 0 rfl, hm.fact 0 rfl, trivial⟩) (ov_gtr rfl rfl) rfl ?_
          refine wa_set 22 (v' := .bool true) rfl (congrArg Value.bool (decide_eq_true (by omega))) ?_
          refine wa_take 2 rfl (by kernel_rfl) (by kernel_rfl) (by kernel_rfl) (listed' := #[true, true, true, false, false, false, false, false, false, false, false, false, false, false]) rfl (fun _ _ _ h => h) (fun _ hm => ⟨hm.blkI 0 rfl, hm.fact 0 rfl, trivial⟩) (ov_move rfl) rfl ?_
          refine wa_take_on 3 rfl rfl rfl (by kernel_rfl) (by kernel_rfl) (by kernel_rfl) (listed' := #[true, true, true, true, false, false, false, false, false, false, false, false, false, false]) rfl (fun _ _ _ h => h) (fun _ hm => ⟨hm.blkI 0 rfl, hm.fact 0 rfl, trivial⟩) (ov_field fo158_0 rfl rfl) rfl ?_
          refine wa_take_on 4 rfl rfl rfl (by kernel_rfl) (by kernel_rfl) (by kernel_rfl) (listed' := #[true, true, true, true, true, false, false, false, false, false, false, false, false, false]) rfl (fun _ _ _ h => h) (fun _ hm => ⟨hm.blkI 0 rfl, hm.fact 0 rfl, trivial⟩) (ov_load sc9 rfl (fun _ hm => hm.1) rfl) rfl ?_
          refine wa_take_on 5 rfl rfl rfl (by kernel_rfl) (by kernel_rfl) (by kernel_rfl) (listed' := #[true, true, true, true, true, true, false, false, false, false, false, false, false, false]) rfl (fun _ _ _ h => h) (fun _ hm => ⟨hm.blkI 0 rfl, hm.fact 0 rfl, trivial⟩) (ov_move rfl) rfl ?_
          refine wa_take_on 6 rfl rfl rfl (by kernel_rfl) (by kernel_rfl) (by kernel_rfl) (listed' := #[true, true, true, true, true, true, true, false, false, false, false, false, false, false]) rfl (fun _ _ _ h => h) (fun _ hm => ⟨hm.blkI 0 rfl, hm.fact 0 rfl, trivial⟩) (ov_move rfl) rfl ?_
          refine wa_take_on 7 rfl rfl rfl (by kernel_rfl) (by kernel_rfl) (by kernel_rfl) (listed' := #[true, true, true, true, true, true, true, true, false, false, false, false, false, false]) rfl (fun _ _ _ h => h) (fun _ hm => ⟨hm.blkI 0 rfl, hm.fact 0 rfl, trivial⟩) (ov_sub rfl rfl (by omega) (by omega)) rfl ?_
          refine wa_set 28 (v' := .int .i64 ((k - 1 : Nat) : Int)) rfl (congrArg (Value.int .i64) (by omega)) ?_
          refine wa_take_on 8 rfl rfl rfl (by kernel_rfl) (by kernel_rfl) (by kernel_rfl) (listed' := #[true, true, true, true, true, true, true, true, true, false, false, false, false, false]) rfl (fun _ _ _ h => h) (fun _ hm => ⟨hm.blkI 0 rfl, hm.fact 0 rfl, trivial⟩) (ov_index (j := k - 1) es75 rfl rfl (by omega)) rfl ?_
          refine wa_take_on 9 rfl rfl rfl (by kernel_rfl) (by kernel_rfl) (by kernel_rfl) (listed' := #[true, true, true, true, true, true, true, true, true, true, false, false, false, false]) rfl (fun _ _ _ h => h) (fun _ hm => ⟨hm.blkI 0 rfl, hm.fact 0 rfl, trivial⟩) (ov_field fo158_0 rfl rfl) rfl ?_
          refine wa_take_on 10 rfl rfl rfl (by kernel_rfl) (by kernel_rfl) (by kernel_rfl) (listed' := #[true, true, true, true, true, true, true, true, true, true, true, false, false, false]) rfl (fun _ _ _ h => h) (fun _ hm => ⟨hm.blkI 0 rfl, hm.fact 0 rfl, trivial⟩) (ov_elem1 (k := 0) sc9 rfl (fun _ hm => (hm.2.1).1) hy rfl rfl) rfl ?_
          refine wa_take_on 11 rfl rfl rfl (by kernel_rfl) (by kernel_rfl) (by kernel_rfl) (listed' := #[true, true, true, true, true, true, true, true, true, true, true, true, false, false]) rfl (fun _ _ _ h => h) (fun _ hm => ⟨hm.blkI 0 rfl, hm.fact 0 rfl, trivial⟩) (ov_sleq rfl rfl) rfl ?_
          refine wa_take 12 rfl (by kernel_rfl) (by kernel_rfl) (by kernel_rfl) (listed' := #[true, true, true, true, true, true, true, true, true, true, true, true, true, false]) rfl (fun _ _ _ h => h) (fun _ hm => ⟨hm.blkI 0 rfl, hm.fact 0 rfl, trivial⟩) (ov_pick_t rfl rfl) rfl ?_
          refine wa_take 13 rfl (by kernel_rfl) (by kernel_rfl) (by kernel_rfl) (listed' := #[true, true, true, true, true, true, true, true, true, true, true, true, true, true]) rfl (fun _ _ _ h => h) (fun _ hm => ⟨hm.blkI 0 rfl, hm.fact 0 rfl, trivial⟩) (ov_assign rfl) rfl ?_
          refine wa_done (by kernel_rfl) ?_
          refine nx_then ?_
          refine gw_cond rfl (fun hh => ?_) (fun hh => ?_)
          · have h9 : (Op.bytesLess cl.toList p0.toList || cl.toList == p0.toList) = true := by simpa using hh
            clear hh
            refine gw_seq ?_
            refine gw_region ?_
            have hO : leG (prevOf l k) ⟨cl, dy⟩ = true := by rw [prevOf_pos hk0 hy]; exact h9
            refine wl_ov (ov_assign rfl) rfl ?_
            refine wl_nil ?_
            refine nx_then ?_
            refine gw_ret ?_
            refine nx_blk_ret ?_
            refine nx_blk_ret ?_
            refine nx_then_ret ?_
            refine nx_then_ret ?_
            refine nx_blk_ret ?_
            refine nx_then_ret ?_
            have hE : agE (prevOf l k) ⟨cl, dy⟩ = 7 := by unfold agE; simp [h2, hO]
            refine nx_ret1 rfl rfl fun wx hm => ?_
            exact ⟨ret_int (by rw [hinv.2, hat, if_neg (by rw [hE]; decide), hE]), hm.g⟩
          · have h9 : (Op.bytesLess cl.toList p0.toList || cl.toList == p0.toList) = false := by simpa using hh
            clear hh
            refine gw_seq ?_
            refine gw_region ?_
            have hO : leG (prevOf l k) ⟨cl, dy⟩ = false := by rw [prevOf_pos hk0 hy]; exact h9
            refine wl_ov (ov_field fo158_1 rfl rfl) rfl ?_
            refine wl_ov (ov_load sc3 rfl (fun _ hm => hm.blkI 0 rfl) rfl) rfl ?_
            refine wl_callw rfl cb99 rfl rfl (fun wx hm => (in_any _ _ _ wx)) ?_
            refine wl_ov (ov_un_not rfl) rfl ?_
            refine wl_ov (ov_assign rfl) rfl ?_
            refine wl_nil ?_
            refine nx_then ?_
            refine gw_cond rfl (fun hh => ?_) (fun hh => ?_)
            · have h4 : (inB dy 0 50000) = false := by simpa using hh
              clear hh
              refine gw_seq ?_
              refine gw_region ?_
              refine wl_ov (ov_assign rfl) rfl ?_
              refine wl_nil ?_
              refine nx_then ?_
              refine gw_ret ?_
              refine nx_blk_ret ?_
              refine nx_blk_ret ?_
              refine nx_then_ret ?_
              refine nx_then_ret ?_
              refine nx_blk_ret ?_
              refine nx_then_ret ?_
              have hE : agE (prevOf l k) ⟨cl, dy⟩ = 1 := by unfold agE; simp [h2, hO, h4]
              refine nx_ret1 rfl rfl fun wx hm => ?_
              exact ⟨ret_int (by rw [hinv.2, hat, if_neg (by rw [hE]; decide), hE]), hm.g⟩
            · have h4 : (inB dy 0 50000) = true := by simpa using hh
              clear hh
              refine gw_skip ?_
              refine nx_blk_nrm ?_
              refine nx_blk_nrm ?_
              refine nx_then ?_
              refine gw_region ?_
              have hE : agE (prevOf l k) ⟨cl, dy⟩ = 0 := by unfold agE; simp [h2, hO, h4]
              refine wl_ov (ov_add rfl rfl (by omega) (by omega)) rfl ?_
              refine wl_ov (ov_move rfl) rfl ?_
              refine wl_nil ?_
              exact nx_round (k + 1) ⟨by omega, by rw [hinv.2, hat, if_pos hE]⟩ (by omega) ⟨rfl, rfl, rfl, (some_int (by omega)), trivial⟩ (fun _ hm => hm.pick [] [] [0] rfl rfl)
    · have hk : ¬ (((k : Nat) : Int) < ((n : Nat) : Int)) := by simpa using hh
      clear hh
      refine gw_exit ?_
      refine nx_then_exit ?_
      refine nx_then_exit ?_
      refine nx_blk_here ?_
      refine nx_then ?_
      refine gw_seq ?_
      refine gw_region ?_
      refine wl_ov (ov_assign rfl) rfl ?_
      refine wl_nil ?_
      refine nx_then ?_
      refine gw_ret ?_
      refine nx_ret1 rfl rfl fun wx hm => ?_
      exact ⟨ret_int (by rw [hinv.2, scanE_end _ _ _ _ (by omega)]), hm.g⟩

set_option maxRecDepth 100000 in
set_option maxHeartbeats 1000000 in
theorem agesFault_any (l : List Ag) (A : Option Addr) (n c : Nat) (w : World) (hl : SlT agEnc 2 158 w A n l) (hok : ∀ b ∈ l, AgOk b) (hn : n ≤ 1000000) :
    Calls Tryd.prog 50 #[.slice A n c] w (GotE w (agesE l)) := by
  refine gw_enter ⟨33, w, none, []⟩ Tryd.func50 rfl Tryd.ntmps50 rfl (mem0 (X := [SlOld agEnc 2 158 w.heap.size none A n l]) (allF_cons hl.old allF_nil) (allL_cons SlOld.lasts allL_nil)) ?_
  refine gw_seq ?_
  refine gw_region ?_
  have hlen := hl.len
  refine wl_ov (ov_assign rfl) rfl ?_
  refine wl_nil ?_
  refine nx_then ?_
  refine gw_seq ?_
  refine gw_seq ?_
  refine gw_region ?_
  refine wl_ov (ov_move rfl) rfl ?_
  refine wl_ov (ov_len es75 rfl) rfl ?_
  refine wl_ov (ov_gtr rfl rfl) rfl ?_
  refine wl_nil ?_
  refine nx_then ?_
  refine gw_cond rfl (fun hh => ?_) (fun hh => ?_)
  · have h1 : 30 < ((n : Nat) : Int) := by simpa using hh
    clear hh
    refine gw_seq ?_
    refine gw_region ?_
    refine wl_ov (ov_assign rfl) rfl ?_
    refine wl_nil ?_
    refine nx_then ?_
    refine gw_ret ?_
    refine nx_then_ret ?_
    refine nx_ret1 rfl rfl fun wx hm => ?_
    exact ⟨ret_int (by unfold agesE; rw [if_pos (by omega)]), hm.g⟩
  · have h1 : ¬ (30 < ((n : Nat) : Int)) := by simpa using hh
    clear hh
    refine gw_skip ?_
    refine nx_then ?_
    refine gw_seq ?_
    refine gw_region ?_
    refine wl_ov (ov_assign rfl) rfl ?_
    refine wl_nil ?_
    refine nx_then ?_
    refine gw_seq ?_
    refine gw_seq ?_
    refine gw_region ?_
    refine wl_ov (ov_move rfl) rfl ?_
    refine wl_ov (ov_len es75 rfl) rfl ?_
    refine wl_ov (ov_move rfl) rfl ?_
    refine wl_nil ?_
    refine nx_then ?_
    refine gw_block ?_
    refine gw_loop (γ := Nat) (fun (k : Nat) => k ≤ n ∧ agesE l = scanE agE (prevOf l k) (l.drop k)) (fun (k : Nat) => [(3, .string (prevG l k)), (9, .slice A n c), (10, .int .i64 ((n : Nat) : Int)), (11, .int .i64 ((k : Nat) : Int))]) (fun (k : Nat) => fun _ => True) (fun (k : Nat) => []) (fun (k : Nat) => []) (fun (k : Nat) => [SlOld agEnc 2 158 w.heap.size none A n l]) (fun (k : Nat) => n - k) 0 ⟨Nat.zero_le _, by unfold agesE; rw [if_neg (by omega)]; rfl⟩ ⟨rfl, rfl, rfl, rfl, trivial⟩ (fun _ hm => hm.pick [] [] [0] rfl rfl) ?_
    intro k hinv
    replace hinv : k ≤ n ∧ agesE l = scanE agE (prevOf l k) (l.drop k) := hinv
    refine gw_seq ?_
    refine gw_region ?_
    refine wl_ov (ov_lss rfl rfl) rfl ?_
    refine wl_nil ?_
    refine nx_then ?_
    refine gw_seq ?_
    refine gw_cond rfl (fun hh => ?_) (fun hh => ?_)
    · have hk : ((k : Nat) : Int) < ((n : Nat) : Int) := by simpa using hh
      clear hh
      refine gw_skip ?_
      refine nx_then ?_
      refine gw_seq ?_
      refine gw_block ?_
      refine gw_seq ?_
      refine gw_region ?_
      obtain ⟨b, off, hA, _, _⟩ := hl.get (by omega)
      subst hA
      obtain ⟨x, hx⟩ : ∃ x, l[k]? = some x := ⟨_, List.getElem?_eq_getElem (by omega)⟩
      obtain ⟨cl, dy⟩ := x
      have hat := scanE_at agE l k _ hx
      have hk1 : cl.size ≤ 1000000 := hok _ (List.mem_of_getElem? hx)
      refine wl_ov (ov_index (j := k) es75 rfl rfl (by omega)) rfl ?_
      refine wl_ov (ov_elem rz158 rfl (fun _ hm => (hm.fact 0 rfl).1) hx rfl rfl) rfl ?_
      refine wl_alloc zc158 rfl fun g1 => ?_
      refine wl_stores (cs' := [.string cl, .int .i64 dy]) 0 rz158 rfl rfl rfl rfl rfl rfl rfl rfl ?_
      refine wl_nil ?_
      refine nx_then ?_
      refine gw_seq ?_
      refine gw_block ?_
      refine gw_seq ?_
      refine gw_region ?_
      refine wl_ov (ov_field fo158_0 rfl rfl) rfl ?_
      refine wl_ov (ov_load sc9 rfl (fun _ hm => hm.blkI 0 rfl) rfl) rfl ?_
      refine wl_callv rfl cb102 rfl rfl (fun wx hm => (key_any _ wx (by omega))) ?_
      refine wl_ov (ov_un_not rfl) rfl ?_
      refine wl_ov (ov_assign rfl) rfl ?_
      refine wl_nil ?_
      refine nx_then ?_
      refine gw_cond rfl (fun hh => ?_) (fun hh => ?_)
      · have h2 : (keyB cl) = false := by simpa using hh
        clear hh
        refine gw_seq ?_
        refine gw_region ?_
        refine wl_ov (ov_assign rfl) rfl ?_
        refine wl_nil ?_
        refine nx_then ?_
        refine gw_ret ?_
        refine nx_blk_ret ?_
        refine nx_then_ret ?_
        refine nx_blk_ret ?_
        refine nx_then_ret ?_
        refine nx_then_ret ?_
        refine nx_blk_ret ?_
        refine nx_then_ret ?_
        have hE : agE (prevOf l k) ⟨cl, dy⟩ = 5 := by unfold agE; simp [h2]
        refine nx_ret1 rfl rfl fun wx hm => ?_
        exact ⟨ret_int (by rw [hinv.2, hat, if_neg (by rw [hE]; decide), hE]), hm.g⟩
      · have h2 : (keyB cl) = true := by simpa using hh
        clear hh
        refine gw_seq ?_
        refine gw_region ?_
        refine wl_ov (ov_field fo158_0 rfl rfl) rfl ?_
        refine wl_ov (ov_load sc9 rfl (fun _ hm => hm.blkI 0 rfl) rfl) rfl ?_
        refine wl_ov (ov_move rfl) rfl ?_
        refine wl_ov (ov_sleq rfl rfl) rfl ?_
        refine wl_ov (ov_assign rfl) rfl ?_
        refine wl_nil ?_
        refine nx_then ?_
        refine gw_cond rfl (fun hh => ?_) (fun hh => ?_)
        · have h9 : (Op.bytesLess cl.toList (prevG l k).toList || cl.toList == (prevG l k).toList) = true := by simpa using hh
          clear hh
          refine gw_seq ?_
          refine gw_region ?_
          have hO : leG (prevOf l k) ⟨cl, dy⟩ = true := (prevG_le (b := ⟨cl, dy⟩) (by simpa using h2)).symm.trans h9
          refine wl_ov (ov_assign rfl) rfl ?_
          refine wl_nil ?_
          refine nx_then ?_
          refine gw_ret ?_
          refine nx_blk_ret ?_
          refine nx_then_ret ?_
          refine nx_blk_ret ?_
          refine nx_then_ret ?_
          refine nx_then_ret ?_
          refine nx_blk_ret ?_
          refine nx_then_ret ?_
          have hE : agE (prevOf l k) ⟨cl, dy⟩ = 7 := by unfold agE; simp [h2, hO]
          refine nx_ret1 rfl rfl fun wx hm => ?_
          exact ⟨ret_int (by rw [hinv.2, hat, if_neg (by rw [hE]; decide), hE]), hm.g⟩
        · have h9 : (Op.bytesLess cl.toList (prevG l k).toList || cl.toList == (prevG l k).toList) = false := by simpa using hh
          clear hh
          refine gw_seq ?_
          refine gw_region ?_
          have hO : leG (prevOf l k) ⟨cl, dy⟩ = false := (prevG_le (b := ⟨cl, dy⟩) (by simpa using h2)).symm.trans h9
          refine wl_ov (ov_field fo158_1 rfl rfl) rfl ?_
          refine wl_ov (ov_load sc3 rfl (fun _ hm => hm.blkI 0 rfl) rfl) rfl ?_
          refine wl_callw rfl cb101 rfl rfl (fun wx hm => (rin_any _ _ _ wx)) ?_
          refine wl_ov (ov_un_not rfl) rfl ?_
          refine wl_ov (ov_assign rfl) rfl ?_
          refine wl_nil ?_
          refine nx_then ?_
          refine gw_cond rfl (fun hh => ?_) (fun hh => ?_)
          · have h4 : (inB dy 0 50000) = false := by simpa using hh
            clear hh
            refine gw_seq ?_
            refine gw_region ?_
            refine wl_ov (ov_assign rfl) rfl ?_
            refine wl_nil ?_
            refine nx_then ?_
            refine gw_ret ?_
            refine nx_blk_ret ?_
            refine nx_then_ret ?_
            refine nx_blk_ret ?_
            refine nx_then_ret ?_
            refine nx_then_ret ?_
            refine nx_blk_ret ?_
            refine nx_then_ret ?_
            have hE : agE (prevOf l k) ⟨cl, dy⟩ = 1 := by unfold agE; simp [h2, hO, h4]
            refine nx_ret1 rfl rfl fun wx hm => ?_
            exact ⟨ret_int (by rw [hinv.2, hat, if_neg (by rw [hE]; decide), hE]), hm.g⟩
          · have h4 : (inB dy 0 50000) = true := by simpa using hh
            clear hh
            refine gw_skip ?_
            refine nx_blk_nrm ?_
            refine nx_then ?_
            refine gw_region ?_
            have hE : agE (prevOf l k) ⟨cl, dy⟩ = 0 := by unfold agE; simp [h2, hO, h4]
            refine wl_ov (ov_field fo158_0 rfl rfl) rfl ?_
            refine wl_ov (ov_load sc9 rfl (fun _ hm => hm.blkI 0 rfl) rfl) rfl ?_
            refine wl_ov (ov_assign rfl) rfl ?_
            refine wl_nil ?_
            refine nx_blk_nrm ?_
            refine nx_then ?_
            refine gw_region ?_
            refine wl_ov (ov_add rfl rfl (by omega) (by omega)) rfl ?_
            refine wl_ov (ov_move rfl) rfl ?_
            refine wl_nil ?_
            exact nx_round (k + 1) ⟨by omega, by rw [hinv.2, hat, if_pos hE]⟩ (by omega) ⟨(congrArg (fun z => some (Value.string z)) (prevG_succ hx).symm), rfl, rfl, (some_int (by omega)), trivial⟩ (fun _ hm => hm.pick [] [] [0] rfl rfl)
    · have hk : ¬ (((k : Nat) : Int) < ((n : Nat) : Int)) := by simpa using hh
      clear hh
      refine gw_exit ?_
      refine nx_then_exit ?_
      refine nx_then_exit ?_
      refine nx_blk_here ?_
      refine nx_then ?_
      refine gw_seq ?_
      refine gw_region ?_
      refine wl_ov (ov_assign rfl) rfl ?_
      refine wl_nil ?_
      refine nx_then ?_
      refine gw_ret ?_
      refine nx_ret1 rfl rfl fun wx hm => ?_
      exact ⟨ret_int (by rw [hinv.2, scanE_end _ _ _ _ (by omega)]), hm.g⟩

set_option maxRecDepth 100000 in
set_option maxHeartbeats 400000 in
theorem keyFault_any (key : ByteArray) (w : World) (hk : key.size ≤ 1000000) : Calls Tryd.prog 51 #[.string key] w (GotE w (whenE (!keyB key) 5)) := by
  refine gw_enter ⟨7, w, none, []⟩ Tryd.func51 rfl Tryd.ntmps51 rfl (mem0 (X := []) allF_nil allL_nil) ?_
  refine gw_seq ?_
  refine gw_region ?_
  refine wl_ov (ov_assign rfl) rfl ?_
  refine wl_nil ?_
  refine nx_then ?_
  refine gw_seq ?_
  refine gw_region ?_
  refine wl_ov (ov_move rfl) rfl ?_
  refine wl_callv rfl cb102 rfl rfl (fun wx hm => (key_any _ wx (by omega))) ?_
  refine wl_ov (ov_un_not rfl) rfl ?_
  refine wl_callw rfl cb29 rfl rfl (fun wx hm => (rwhen_any _ _ wx)) ?_
  refine wl_ov (ov_assign rfl) rfl ?_
  refine wl_nil ?_
  refine nx_then ?_
  refine gw_ret ?_
  refine nx_ret1 rfl rfl fun wx hm => ?_
  exact ⟨rfl, hm.g⟩

end Go.Proofs.YtljnekobfjpfaaaDoor
/- With and Overdue over hires. -/
namespace Go.Proofs.YtljnekobfjpfaaaDoor
open Go.RowKit

theorem leg_times {h : Hr} (h0 : hireE h = 0) : ∀ g ∈ h.legs, (0 ≤ g.out.at_ ∧ g.out.at_ ≤ 5761439) ∧ (g.inn.at_ = -1 ∨ (g.out.at_ < g.inn.at_ ∧ g.inn.at_ ≤ 5761439)) := by
  obtain ⟨key, driver, fr, to_, l⟩ := h
  have hk := hireE_ok h0
  have hall := legs_all hk.2.2.2
  intro g hg
  obtain ⟨k, hkl, hk2⟩ := List.getElem_of_mem hg
  have hgk : l[k]? = some g := by rw [List.getElem?_eq_getElem hkl, hk2]
  have hle := firstE_all (hall k g hgk)
  have h2 := readingE_ok (hle _ (List.mem_cons_of_mem _ (List.mem_cons_self ..)))
  have h4 := hle _ (List.mem_cons_of_mem _ (List.mem_cons_of_mem _ (List.mem_cons_of_mem _ (List.mem_singleton.2 rfl))))
  refine ⟨h2.1, ?_⟩
  unfold legInE at h4
  by_cases hin : g.inn.at_ = -1
  · exact .inl hin
  · rw [if_neg hin] at h4
    have h6 := readingE_ok (firstE_all h4 _ (List.mem_cons_self ..))
    have h7 := of_decide_eq_false (whenE_ok (by decide) (firstE_all h4 _ (List.mem_cons_of_mem _ (List.mem_singleton.2 rfl))))
    exact .inr ⟨by omega, h6.1.2⟩
theorem last_times {h : Hr} (h0 : hireE h = 0) : ∀ g ∈ h.legs, (0 ≤ lastA g ∧ lastA g ≤ 5761439) ∧ lastA g < lastB g ∧ lastB g ≤ 5761440 := fun g hg => by
  have ht := leg_times h0 g hg
  unfold lastA lastB
  by_cases hi : g.inn.at_ = -1
  · rw [if_pos hi]; omega
  · rw [if_neg hi]; rcases ht.2 with h | h
    · exact absurd h hi
    · omega
theorem hiresE_ok {l : List Hs} (h : hiresE l = 0) : l.length ≤ 500 ∧ ∀ x ∈ l, hireE x.hr = 0 := by
  unfold hiresE at h
  split at h
  · cases h
  · refine ⟨by omega, fun x hx => ?_⟩
    obtain ⟨q, hq⟩ := scanE_all h x hx
    unfold hsE at hq
    by_cases h0 : hireE x.hr = 0
    · exact h0
    · rw [if_neg h0] at hq; exact absurd hq h0
def legAt (v : ByteArray) (mo : Int) (g : Lg) : Bool := (g.veh.toList == v.toList) && decide (lastA g ≤ mo) && decide (mo < lastB g)
def withV (v : ByteArray) (mo : Int) : List Hs → ByteArray × Bool
  | [] => (⟨#[]⟩, false)
  | h :: r => if h.legs.any (legAt v mo) then (h.key, true) else withV v mo r
theorem withV_at {l : List Hs} {v : ByteArray} {mo : Int} {k : Nat} {x : Hs} (h : l[k]? = some x) : withV v mo (l.drop k) = if x.legs.any (legAt v mo) then (x.key, true) else withV v mo (l.drop (k + 1)) := by
  obtain ⟨hk, rfl⟩ := List.getElem?_eq_some_iff.1 h
  rw [List.drop_eq_getElem_cons hk]; rfl
theorem any_at {α : Type} {p : α → Bool} {l : List α} {k : Nat} {x : α} (h : l[k]? = some x) : (l.drop k).any p = (p x || (l.drop (k + 1)).any p) := by
  obtain ⟨hk, rfl⟩ := List.getElem?_eq_some_iff.1 h
  rw [List.drop_eq_getElem_cons hk]; rfl
theorem legAt_in {v : ByteArray} {mo : Int} {g : Lg} (h : (g.veh.toList == v.toList) = true) : legAt v mo g = inB mo (lastA g) (lastB g - 1) := by
  unfold legAt inB
  rw [h, Bool.true_and]
  congr 1
  exact decide_eq_decide.2 (by omega)
def isOver (mo : Int) (h : Hs) : Bool := openB h.legs && decide (h.to_ ≤ mo)
def overL (mo : Int) (l : List Hs) : List ByteArray := (l.filter (isOver mo)).map Hs.key
theorem overL_take {l : List Hs} {mo : Int} {k : Nat} {x : Hs} (h : l[k]? = some x) : overL mo (l.take (k + 1)) = overL mo (l.take k) ++ (if isOver mo x then [x.key] else []) := by
  obtain ⟨hk, rfl⟩ := List.getElem?_eq_some_iff.1 h
  unfold overL
  rw [List.take_add_one, List.getElem?_eq_getElem hk, List.filter_append, List.map_append]
  congr 1
  simp only [Option.toList]
  cases hb : isOver mo l[k] <;> simp [List.filter, hb]
theorem overL_len (mo : Int) (l : List Hs) : (overL mo l).length ≤ l.length := by unfold overL; rw [List.length_map]; exact List.length_filter_le _ _
theorem some_b {a b : Bool} (h : a = b) : some (Value.bool a) = some (Value.bool b) := by rw [h]

def withE (hs : List Hs) (veh : ByteArray) (mo : Int) : Int := firstE [hiresE hs, whenE (!keyB veh) 5, momentE mo]
set_option maxRecDepth 100000 in
set_option maxHeartbeats 1000000 in
theorem with_any (hs : List Hs) (A : Option Addr) (n c : Nat) (veh : ByteArray) (mo : Int) (w : World) (hl : SlT hsEnc 5 36 w A n hs) (hg : Legs hs w) (hok : ∀ h ∈ hs, HsOk h) (hn : n ≤ 1000000) (hvz : veh.size ≤ 1000000) :
    Calls Tryd.prog 69 #[.slice A n c, .string veh, .int .i64 mo] w (fun e w' => e = .returned (.tuple #[.string (if withE hs veh mo = 0 then withV veh mo hs else (⟨#[]⟩, false)).1, .bool (if withE hs veh mo = 0 then withV veh mo hs else (⟨#[]⟩, false)).2, .int .i64 (withE hs veh mo)]) ∧ w.grownBy w' none) := by
  refine gw_enter ⟨63, w, none, []⟩ Tryd.func69 rfl Tryd.ntmps69 rfl (mem0 (X := [SlOld hsEnc 5 36 w.heap.size none A n hs, LegsOld w.heap.size none hs]) (allF_cons hl.old (allF_cons hg.old allF_nil)) (allL_cons SlOld.lasts (allL_cons LegsOld.lasts allL_nil))) ?_
  refine gw_seq ?_
  refine gw_region ?_
  have hlen := hl.len
  refine wl_ov (ov_assign rfl) rfl ?_
  refine wl_ov (ov_assign rfl) rfl ?_
  refine wl_ov (ov_assign rfl) rfl ?_
  refine wl_nil ?_
  refine nx_then ?_
  refine gw_seq ?_
  refine gw_seq ?_
  refine gw_region ?_
  refine wl_ov (ov_move rfl) rfl ?_
  refine wl_callv rfl cb82 rfl rfl (fun wx hm => (checkAll_any hs A n c wx (hm.fact 0 rfl).1 (fun h hh => ((hm.fact 1 rfl) h hh).1) hok (by omega))) ?_
  refine wl_ov (ov_move rfl) rfl ?_
  refine wl_callw rfl cb115 rfl rfl (fun wx hm => (isKey_any _ wx (by omega))) ?_
  refine wl_ov (ov_un_not rfl) rfl ?_
  refine wl_callw rfl cb98 rfl rfl (fun wx hm => (when_any _ _ wx)) ?_
  refine wl_ov (ov_move rfl) rfl ?_
  refine wl_callw rfl cb100 rfl rfl (fun wx hm => (moment_any _ wx)) ?_
  refine wl_buildSlice (e := 37) (cs := [.int .i64 (hiresE hs), .int .i64 (whenE (!(keyB veh)) 5), .int .i64 (momentE mo)]) rfl (by kernel_rfl) rfl fun g1 => ?_
  refine wl_callw rfl cb96 rfl rfl (fun wx hm => (first_any [hiresE hs, whenE (!(keyB veh)) 5, momentE mo] _ _ _ wx (hm.blkI 0 rfl) (by simp))) ?_
  refine wl_ov (ov_assign rfl) rfl ?_
  refine wl_nil ?_
  refine nx_then ?_
  refine gw_seq ?_
  refine gw_region ?_
  refine wl_ov (ov_move rfl) rfl ?_
  refine wl_ov (ov_neq rfl rfl) rfl ?_
  refine wl_nil ?_
  refine nx_then ?_
  refine gw_cond rfl (fun hh => ?_) (fun hh => ?_)
  · have hE : ¬ (firstE [hiresE hs, whenE (!(keyB veh)) 5, momentE mo] = 0) := by simpa using hh
    clear hh
    refine gw_seq ?_
    refine gw_region ?_
    refine wl_ov (ov_move rfl) rfl ?_
    refine wl_ov (ov_assign rfl) rfl ?_
    refine wl_ov (ov_assign rfl) rfl ?_
    refine wl_ov (ov_assign rfl) rfl ?_
    refine wl_nil ?_
    refine nx_then ?_
    refine gw_ret ?_
    refine nx_then_ret ?_
    refine nx_ret3 rfl rfl rfl rfl fun wx hm => ?_
    exact ⟨by rw [if_neg (show ¬ withE hs veh mo = 0 from hE)]; rfl, hm.g⟩
  · have hE : firstE [hiresE hs, whenE (!(keyB veh)) 5, momentE mo] = 0 := by simpa using hh
    clear hh
    refine gw_skip ?_
    refine nx_then ?_
    refine gw_seq ?_
    refine gw_seq ?_
    refine gw_region ?_
    have hz := firstE_all hE
    have hhr := hiresE_ok (hz (hiresE hs) (by simp))
    obtain ⟨WV, hWV⟩ : ∃ W, W = withV veh mo hs := ⟨_, rfl⟩
    refine wl_ov (ov_move rfl) rfl ?_
    refine wl_ov (ov_len es99 rfl) rfl ?_
    refine wl_ov (ov_move rfl) rfl ?_
    refine wl_nil ?_
    refine nx_then ?_
    refine gw_block ?_
    refine gw_loop (γ := Nat) (fun (k : Nat) => k ≤ n ∧ WV = withV veh mo (hs.drop k)) (fun (k : Nat) => [(1, .string veh), (2, .int .i64 mo), (28, .slice A n c), (29, .int .i64 ((n : Nat) : Int)), (30, .int .i64 ((k : Nat) : Int))]) (fun (k : Nat) => fun _ => True) (fun (k : Nat) => [(g1, 37, [.int .i64 (hiresE hs), .int .i64 (whenE (!(keyB veh)) 5), .int .i64 (momentE mo)])]) (fun (k : Nat) => []) (fun (k : Nat) => [SlOld hsEnc 5 36 w.heap.size none A n hs, LegsOld w.heap.size none hs]) (fun (k : Nat) => n - k) 0 ⟨Nat.zero_le _, hWV⟩ ⟨rfl, rfl, rfl, rfl, rfl, trivial⟩ (fun _ hm => hm.pick [0] [] [0, 1] rfl rfl) ?_
    intro k hinv
    replace hinv : k ≤ n ∧ WV = withV veh mo (hs.drop k) := hinv
    refine gw_seq ?_
    refine gw_region ?_
    refine wl_ov (ov_lss rfl rfl) rfl ?_
    refine wl_nil ?_
    refine nx_then ?_
    refine gw_seq ?_
    refine gw_cond rfl (fun hh => ?_) (fun hh => ?_)
    · have hk : ((k : Nat) : Int) < ((n : Nat) : Int) := by simpa using hh
      clear hh
      refine gw_skip ?_
      refine nx_then ?_
      refine gw_seq ?_
      refine gw_block ?_
      refine gw_seq ?_
      refine gw_region ?_
      obtain ⟨b, off, hA, _, _⟩ := hl.get (by omega)
      subst hA
      obtain ⟨x, hx⟩ : ∃ x, hs[k]? = some x := ⟨_, List.getElem?_eq_getElem (by omega)⟩
      obtain ⟨key, driver, fr, to_, Ah, nh, ch, lh⟩ := x
      have hat := withV_at (v := veh) (mo := mo) hx
      obtain ⟨hho, hhn⟩ := hok _ (List.mem_of_getElem? hx)
      have hho : HrOk key driver lh := hho
      have hhn : nh ≤ 1000 := hhn
      have hlt := last_times (hhr.2 _ (List.mem_of_getElem? hx))
      have hlt : ∀ g ∈ lh, (0 ≤ lastA g ∧ lastA g ≤ 5761439) ∧ lastA g < lastB g ∧ lastB g ≤ 5761440 := hlt
      have hout := hinv
      refine wl_also (Y := SlOld lgEnc 9 138 w.heap.size none Ah nh lh) (SlOld.lasts) (fun wx hm => (hm.fact 1 rfl) _ (List.mem_of_getElem? hx)) ?_
      refine wl_look (R := lh.length = nh) (fun wx hm => ((hm.fact 0 rfl)).1.len) ?_
      intro hlh
      refine wl_ov (ov_index (j := k) es99 rfl rfl (by omega)) rfl ?_
      refine wl_ov (ov_elem rz36 rfl (fun _ hm => (hm.fact 1 rfl).1) hx rfl rfl) rfl ?_
      refine wl_alloc zc36 rfl fun g2 => ?_
      refine wl_stores (cs' := [.string key, .string driver, .int .i64 fr, .int .i64 to_, .slice Ah nh ch]) 0 rz36 rfl rfl rfl rfl rfl rfl rfl rfl ?_
      refine wl_nil ?_
      refine nx_then ?_
      refine gw_seq ?_
      refine gw_region ?_
      refine wl_ov (ov_field fo36_3 rfl rfl) rfl ?_
      refine wl_ov (ov_load sc34 rfl (fun _ hm => hm.blkI 0 rfl) rfl) rfl ?_
      refine wl_ov (ov_len es34 rfl) rfl ?_
      refine wl_ov (ov_move rfl) rfl ?_
      refine wl_nil ?_
      refine nx_then ?_
      refine gw_block ?_
      refine gw_loop (γ := Nat) (fun (j : Nat) => j ≤ nh ∧ lh.any (legAt veh mo) = (lh.drop j).any (legAt veh mo)) (fun (j : Nat) => [(1, .string veh), (2, .int .i64 mo), (11, .pointer (some ⟨g2, 0, none⟩)), (28, .slice (some ⟨b, off, none⟩) n c), (29, .int .i64 ((n : Nat) : Int)), (30, .int .i64 ((k : Nat) : Int)), (35, .slice Ah nh ch), (36, .int .i64 ((nh : Nat) : Int)), (37, .int .i64 ((j : Nat) : Int))]) (fun (j : Nat) => fun _ => True) (fun (j : Nat) => [(g2, 36, [.string key, .string driver, .int .i64 fr, .int .i64 to_, .slice Ah nh ch]), (g1, 37, [.int .i64 (hiresE hs), .int .i64 (whenE (!(keyB veh)) 5), .int .i64 (momentE mo)])]) (fun (j : Nat) => []) (fun (j : Nat) => [SlOld lgEnc 9 138 w.heap.size none Ah nh lh, SlOld hsEnc 5 36 w.heap.size none (some ⟨b, off, none⟩) n hs, LegsOld w.heap.size none hs]) (fun (j : Nat) => nh - j) 0 ⟨Nat.zero_le _, rfl⟩ ⟨rfl, rfl, rfl, rfl, rfl, rfl, rfl, rfl, rfl, trivial⟩ (fun _ hm => hm.pick [0, 1] [] [0, 1, 2] rfl rfl) ?_
      intro j hinv
      replace hinv : j ≤ nh ∧ lh.any (legAt veh mo) = (lh.drop j).any (legAt veh mo) := hinv
      refine gw_seq ?_
      refine gw_region ?_
      have hin := hinv
      refine wl_ov (ov_lss rfl rfl) rfl ?_
      refine wl_nil ?_
      refine nx_then ?_
      refine gw_seq ?_
      refine gw_cond rfl (fun hh => ?_) (fun hh => ?_)
      · have hj : ((j : Nat) : Int) < ((nh : Nat) : Int) := by simpa using hh
        clear hh
        refine gw_skip ?_
        refine nx_then ?_
        refine gw_seq ?_
        refine gw_block ?_
        refine gw_seq ?_
        refine gw_region ?_
        refine wl_look (R := ∃ b off, Ah = some ⟨b, off, none⟩) (fun wx hm => by obtain ⟨b, off, h, _, _⟩ := SlT.get ((hm.fact 0 rfl)).1 (by omega : 0 < nh); exact ⟨b, off, h⟩) ?_
        rintro ⟨b2, o2, rfl⟩
        obtain ⟨y, hy⟩ : ∃ x, lh[j]? = some x := ⟨_, List.getElem?_eq_getElem (by omega)⟩
        obtain ⟨gv, ⟨oa, os, om, of⟩, ⟨ia, is_, im, if_⟩⟩ := y
        have han := any_at (p := legAt veh mo) hy
        have hlg := hlt _ (List.mem_of_getElem? hy)
        refine wl_ov (ov_index (j := j) es34 rfl rfl (by omega)) rfl ?_
        refine wl_ov (ov_elem rz138 rfl (fun _ hm => (hm.fact 0 rfl).1) hy rfl rfl) rfl ?_
        refine wl_alloc zc138 rfl fun g3 => ?_
        refine wl_stores (cs' := [.string gv, .int .i64 oa, .string os, .int .i64 om, .int .i64 of, .int .i64 ia, .string is_, .int .i64 im, .int .i64 if_]) 0 rz138 rfl rfl rfl rfl rfl rfl rfl rfl ?_
        refine wl_nil ?_
        refine nx_then ?_
        refine gw_seq ?_
        refine gw_region ?_
        refine wl_ov (ov_loads rz138 rfl (fun _ hm => hm.blkI 0 rfl) rfl rfl) rfl ?_
        refine wl_callv rfl cb126 rfl rfl (fun wx hm => (lasts_any gv oa os om of ia is_ im if_ wx)) ?_
        obtain ⟨P, hP⟩ : ∃ P, P = legAt veh mo ⟨gv, ⟨oa, os, om, of⟩, ⟨ia, is_, im, if_⟩⟩ := ⟨_, rfl⟩
        rw [← hP] at han
        refine wl_alloc zc28 rfl fun g4 => ?_
        refine wl_stores (cs' := [.int .i64 (lastA ⟨gv, ⟨oa, os, om, of⟩, ⟨ia, is_, im, if_⟩⟩), .int .i64 (lastB ⟨gv, ⟨oa, os, om, of⟩, ⟨ia, is_, im, if_⟩⟩)]) 0 rz28 rfl rfl rfl rfl rfl rfl rfl rfl ?_
        refine wl_nil ?_
        refine nx_then ?_
        refine gw_seq ?_
        refine gw_region ?_
        refine wl_ov (ov_field fo138_0 rfl rfl) rfl ?_
        refine wl_ov (ov_load sc9 rfl (fun _ hm => hm.blkI 1 rfl) rfl) rfl ?_
        refine wl_ov (ov_move rfl) rfl ?_
        refine wl_ov (ov_seql rfl rfl) rfl ?_
        refine wl_ov (ov_move rfl) rfl ?_
        rcases Bool.eq_false_or_eq_true (gv.toList == veh.toList) with h1 | h1
        · refine wl_set 47 rfl (congrArg Value.bool h1) ?_
          refine wl_guard_on rfl rfl rfl ?_
          refine wl_ov (ov_field fo28_0 rfl rfl) rfl ?_
          refine wl_guard_on rfl rfl rfl ?_
          refine wl_ov (ov_load sc3 rfl (fun _ hm => hm.blkI 0 rfl) rfl) rfl ?_
          refine wl_guard_on rfl rfl rfl ?_
          refine wl_ov (ov_move rfl) rfl ?_
          refine wl_guard_on rfl rfl rfl ?_
          refine wl_ov (ov_leq rfl rfl) rfl ?_
          refine wl_ov (ov_pick_t rfl rfl) rfl ?_
          refine wl_ov (ov_move rfl) rfl ?_
          rcases Bool.eq_false_or_eq_true (decide (lastA ⟨gv, ⟨oa, os, om, of⟩, ⟨ia, is_, im, if_⟩⟩ ≤ mo)) with h2 | h2
          · refine wl_set 53 rfl (congrArg Value.bool h2) ?_
            refine wl_guard_on rfl rfl rfl ?_
            refine wl_ov (ov_move rfl) rfl ?_
            refine wl_guard_on rfl rfl rfl ?_
            refine wl_ov (ov_field fo28_1 rfl rfl) rfl ?_
            refine wl_guard_on rfl rfl rfl ?_
            refine wl_ov (ov_load sc3 rfl (fun _ hm => hm.blkI 0 rfl) rfl) rfl ?_
            refine wl_guard_on rfl rfl rfl ?_
            refine wl_ov (ov_lss rfl rfl) rfl ?_
            refine wl_ov (ov_pick_t rfl rfl) rfl ?_
            refine wl_nil ?_
            refine nx_then ?_
            refine gw_cond rfl (fun hh => ?_) (fun hh => ?_)
            · have h3 : mo < lastB ⟨gv, ⟨oa, os, om, of⟩, ⟨ia, is_, im, if_⟩⟩ := by simpa using hh
              clear hh
              refine gw_seq ?_
              refine gw_region ?_
              refine wl_ov (ov_field fo36_0 rfl rfl) rfl ?_
              refine wl_ov (ov_load sc9 rfl (fun _ hm => hm.blkI 2 rfl) rfl) rfl ?_
              refine wl_ov (ov_assign rfl) rfl ?_
              refine wl_ov (ov_assign rfl) rfl ?_
              refine wl_ov (ov_assign rfl) rfl ?_
              refine wl_nil ?_
              refine nx_then ?_
              refine gw_ret ?_
              refine nx_blk_ret ?_
              refine nx_then_ret ?_
              refine nx_then_ret ?_
              refine nx_blk_ret ?_
              refine nx_blk_ret ?_
              refine nx_then_ret ?_
              refine nx_then_ret ?_
              refine nx_blk_ret ?_
              refine nx_then_ret ?_
              have hPt : P = true := by rw [hP]; unfold legAt; simp only [h1, h2]; simpa using h3
              have hW : WV = (key, true) := by rw [hout.2, hat, if_pos (show lh.any (legAt veh mo) = true by rw [hin.2, han, hPt]; rfl)]
              refine nx_ret3 rfl rfl rfl rfl fun wx hm => ?_
              exact ⟨by rw [if_pos (show withE hs veh mo = 0 from hE), ← hWV, hW]; rw [show withE hs veh mo = 0 from hE], hm.g⟩
            · have h3 : ¬ (mo < lastB ⟨gv, ⟨oa, os, om, of⟩, ⟨ia, is_, im, if_⟩⟩) := by simpa using hh
              clear hh
              refine gw_skip ?_
              refine nx_blk_nrm ?_
              refine nx_then ?_
              refine gw_region ?_
              refine wl_ov (ov_add rfl rfl (by omega) (by omega)) rfl ?_
              refine wl_ov (ov_move rfl) rfl ?_
              refine wl_nil ?_
              have hPf : P = false := by rw [hP]; unfold legAt; simp only [h1, h2]; simpa using h3
              exact nx_round (j + 1) ⟨by omega, by rw [hin.2, han, hPf]; rfl⟩ (by omega) ⟨rfl, rfl, rfl, rfl, rfl, rfl, rfl, rfl, (some_int (by omega)), trivial⟩ (fun _ hm => hm.pick [2, 3] [] [0, 1, 2] rfl rfl)
          · refine wl_set 53 rfl (congrArg Value.bool h2) ?_
            refine wl_guard_off rfl rfl rfl (by decide) rfl ?_
            refine wl_guard_off rfl rfl rfl (by decide) rfl ?_
            refine wl_guard_off rfl rfl rfl (by decide) rfl ?_
            refine wl_guard_off rfl rfl rfl (by decide) rfl ?_
            refine wl_ov (ov_pick_f rfl rfl) rfl ?_
            refine wl_nil ?_
            refine nx_then ?_
            refine gw_cond rfl (fun hh => by cases hh) (fun _ => ?_)
            refine gw_skip ?_
            refine nx_blk_nrm ?_
            refine nx_then ?_
            refine gw_region ?_
            refine wl_ov (ov_add rfl rfl (by omega) (by omega)) rfl ?_
            refine wl_ov (ov_move rfl) rfl ?_
            refine wl_nil ?_
            have hPf : P = false := by rw [hP]; unfold legAt; simp only [h1, h2]; rfl
            exact nx_round (j + 1) ⟨by omega, by rw [hin.2, han, hPf]; rfl⟩ (by omega) ⟨rfl, rfl, rfl, rfl, rfl, rfl, rfl, rfl, (some_int (by omega)), trivial⟩ (fun _ hm => hm.pick [2, 3] [] [0, 1, 2] rfl rfl)
        · refine wl_set 47 rfl (congrArg Value.bool h1) ?_
          refine wl_guard_off rfl rfl rfl (by decide) rfl ?_
          refine wl_guard_off rfl rfl rfl (by decide) rfl ?_
          refine wl_guard_off rfl rfl rfl (by decide) rfl ?_
          refine wl_guard_off rfl rfl rfl (by decide) rfl ?_
          refine wl_ov (ov_pick_f rfl rfl) rfl ?_
          refine wl_ov (ov_move rfl) rfl ?_
          refine wl_guard_off rfl rfl rfl (by decide) rfl ?_
          refine wl_guard_off rfl rfl rfl (by decide) rfl ?_
          refine wl_guard_off rfl rfl rfl (by decide) rfl ?_
          refine wl_guard_off rfl rfl rfl (by decide) rfl ?_
          refine wl_ov (ov_pick_f rfl rfl) rfl ?_
          refine wl_nil ?_
          refine nx_then ?_
          refine gw_cond rfl (fun hh => by cases hh) (fun _ => ?_)
          refine gw_skip ?_
          refine nx_blk_nrm ?_
          refine nx_then ?_
          refine gw_region ?_
          refine wl_ov (ov_add rfl rfl (by omega) (by omega)) rfl ?_
          refine wl_ov (ov_move rfl) rfl ?_
          refine wl_nil ?_
          have hPf : P = false := by rw [hP]; unfold legAt; simp only [h1]; rfl
          exact nx_round (j + 1) ⟨by omega, by rw [hin.2, han, hPf]; rfl⟩ (by omega) ⟨rfl, rfl, rfl, rfl, rfl, rfl, rfl, rfl, (some_int (by omega)), trivial⟩ (fun _ hm => hm.pick [2, 3] [] [0, 1, 2] rfl rfl)
      · have hj : ¬ (((j : Nat) : Int) < ((nh : Nat) : Int)) := by simpa using hh
        clear hh
        refine gw_exit ?_
        refine nx_then_exit ?_
        refine nx_then_exit ?_
        refine nx_blk_here ?_
        refine nx_blk_nrm ?_
        refine nx_then ?_
        refine gw_region ?_
        have hNo : lh.any (legAt veh mo) = false := by rw [hin.2, List.drop_eq_nil_of_le (by omega)]; rfl
        refine wl_ov (ov_add rfl rfl (by omega) (by omega)) rfl ?_
        refine wl_ov (ov_move rfl) rfl ?_
        refine wl_nil ?_
        exact nx_round (k + 1) ⟨by omega, by rw [hout.2, hat, if_neg (show ¬ lh.any (legAt veh mo) = true by rw [hNo]; decide)]⟩ (by omega) ⟨rfl, rfl, rfl, rfl, (some_int (by omega)), trivial⟩ (fun _ hm => hm.pick [1] [] [1, 2] rfl rfl)
    · have hk : ¬ (((k : Nat) : Int) < ((n : Nat) : Int)) := by simpa using hh
      clear hh
      refine gw_exit ?_
      refine nx_then_exit ?_
      refine nx_then_exit ?_
      refine nx_blk_here ?_
      refine nx_then ?_
      refine gw_seq ?_
      refine gw_region ?_
      refine wl_ov (ov_assign rfl) rfl ?_
      refine wl_ov (ov_assign rfl) rfl ?_
      refine wl_ov (ov_assign rfl) rfl ?_
      refine wl_nil ?_
      refine nx_then ?_
      refine gw_ret ?_
      have hW : WV = (⟨#[]⟩, false) := by rw [hinv.2, List.drop_eq_nil_of_le (by omega)]; rfl
      refine nx_ret3 rfl rfl rfl rfl fun wx hm => ?_
      exact ⟨by rw [if_pos (show withE hs veh mo = 0 from hE), ← hWV, hW]; rw [show withE hs veh mo = 0 from hE], hm.g⟩

set_option maxRecDepth 100000 in
set_option maxHeartbeats 1000000 in
theorem hireWith_any (hs : List Hs) (A : Option Addr) (n c : Nat) (veh : ByteArray) (mo : Int) (w : World) (hl : SlT hsEnc 5 36 w A n hs) (hg : Legs hs w) (hok : ∀ h ∈ hs, HsOk h) (hhr : hs.length ≤ 500 ∧ ∀ x ∈ hs, hireE x.hr = 0) :
    Calls Tryd.prog 74 #[.slice A n c, .string veh, .int .i64 mo] w (fun e w' => e = .returned (.tuple #[.string (withV veh mo hs).1, .bool (withV veh mo hs).2]) ∧ w.grownBy w' none) := by
  refine gw_enter ⟨45, w, none, []⟩ Tryd.func74 rfl Tryd.ntmps74 rfl (mem0 (X := [SlOld hsEnc 5 36 w.heap.size none A n hs, LegsOld w.heap.size none hs]) (allF_cons hl.old (allF_cons hg.old allF_nil)) (allL_cons SlOld.lasts (allL_cons LegsOld.lasts allL_nil))) ?_
  refine gw_seq ?_
  refine gw_region ?_
  have hlen := hl.len
  obtain ⟨WV, hWV⟩ : ∃ W, W = withV veh mo hs := ⟨_, rfl⟩
  refine wl_ov (ov_assign rfl) rfl ?_
  refine wl_ov (ov_assign rfl) rfl ?_
  refine wl_nil ?_
  refine nx_then ?_
  refine gw_seq ?_
  refine gw_seq ?_
  refine gw_region ?_
  refine wl_ov (ov_move rfl) rfl ?_
  refine wl_ov (ov_len es99 rfl) rfl ?_
  refine wl_ov (ov_move rfl) rfl ?_
  refine wl_nil ?_
  refine nx_then ?_
  refine gw_block ?_
  refine gw_loop (γ := Nat) (fun (k : Nat) => k ≤ n ∧ WV = withV veh mo (hs.drop k)) (fun (k : Nat) => [(1, .string veh), (2, .int .i64 mo), (13, .slice A n c), (14, .int .i64 ((n : Nat) : Int)), (15, .int .i64 ((k : Nat) : Int))]) (fun (k : Nat) => fun _ => True) (fun (k : Nat) => []) (fun (k : Nat) => []) (fun (k : Nat) => [SlOld hsEnc 5 36 w.heap.size none A n hs, LegsOld w.heap.size none hs]) (fun (k : Nat) => n - k) 0 ⟨Nat.zero_le _, hWV⟩ ⟨rfl, rfl, rfl, rfl, rfl, trivial⟩ (fun _ hm => hm.pick [] [] [0, 1] rfl rfl) ?_
  intro k hinv
  replace hinv : k ≤ n ∧ WV = withV veh mo (hs.drop k) := hinv
  refine gw_seq ?_
  refine gw_region ?_
  refine wl_ov (ov_lss rfl rfl) rfl ?_
  refine wl_nil ?_
  refine nx_then ?_
  refine gw_seq ?_
  refine gw_cond rfl (fun hh => ?_) (fun hh => ?_)
  · have hk : ((k : Nat) : Int) < ((n : Nat) : Int) := by simpa using hh
    clear hh
    refine gw_skip ?_
    refine nx_then ?_
    refine gw_seq ?_
    refine gw_block ?_
    refine gw_seq ?_
    refine gw_region ?_
    obtain ⟨b, off, hA, _, _⟩ := hl.get (by omega)
    subst hA
    obtain ⟨x, hx⟩ : ∃ x, hs[k]? = some x := ⟨_, List.getElem?_eq_getElem (by omega)⟩
    obtain ⟨key, driver, fr, to_, Ah, nh, ch, lh⟩ := x
    have hat := withV_at (v := veh) (mo := mo) hx
    obtain ⟨hho, hhn⟩ := hok _ (List.mem_of_getElem? hx)
    have hho : HrOk key driver lh := hho
    have hhn : nh ≤ 1000 := hhn
    have hlt := last_times (hhr.2 _ (List.mem_of_getElem? hx))
    have hlt : ∀ g ∈ lh, (0 ≤ lastA g ∧ lastA g ≤ 5761439) ∧ lastA g < lastB g ∧ lastB g ≤ 5761440 := hlt
    have hout := hinv
    refine wl_also (Y := SlOld lgEnc 9 138 w.heap.size none Ah nh lh) (SlOld.lasts) (fun wx hm => (hm.fact 1 rfl) _ (List.mem_of_getElem? hx)) ?_
    refine wl_look (R := lh.length = nh) (fun wx hm => ((hm.fact 0 rfl)).1.len) ?_
    intro hlh
    refine wl_ov (ov_index (j := k) es99 rfl rfl (by omega)) rfl ?_
    refine wl_ov (ov_elem rz36 rfl (fun _ hm => (hm.fact 1 rfl).1) hx rfl rfl) rfl ?_
    refine wl_alloc zc36 rfl fun g1 => ?_
    refine wl_stores (cs' := [.string key, .string driver, .int .i64 fr, .int .i64 to_, .slice Ah nh ch]) 0 rz36 rfl rfl rfl rfl rfl rfl rfl rfl ?_
    refine wl_nil ?_
    refine nx_then ?_
    refine gw_seq ?_
    refine gw_region ?_
    refine wl_ov (ov_field fo36_3 rfl rfl) rfl ?_
    refine wl_ov (ov_load sc34 rfl (fun _ hm => hm.blkI 0 rfl) rfl) rfl ?_
    refine wl_ov (ov_len es34 rfl) rfl ?_
    refine wl_ov (ov_move rfl) rfl ?_
    refine wl_nil ?_
    refine nx_then ?_
    refine gw_block ?_
    refine gw_loop (γ := Nat) (fun (j : Nat) => j ≤ nh ∧ lh.any (legAt veh mo) = (lh.drop j).any (legAt veh mo)) (fun (j : Nat) => [(1, .string veh), (2, .int .i64 mo), (9, .pointer (some ⟨g1, 0, none⟩)), (13, .slice (some ⟨b, off, none⟩) n c), (14, .int .i64 ((n : Nat) : Int)), (15, .int .i64 ((k : Nat) : Int)), (20, .slice Ah nh ch), (21, .int .i64 ((nh : Nat) : Int)), (22, .int .i64 ((j : Nat) : Int))]) (fun (j : Nat) => fun _ => True) (fun (j : Nat) => [(g1, 36, [.string key, .string driver, .int .i64 fr, .int .i64 to_, .slice Ah nh ch])]) (fun (j : Nat) => []) (fun (j : Nat) => [SlOld lgEnc 9 138 w.heap.size none Ah nh lh, SlOld hsEnc 5 36 w.heap.size none (some ⟨b, off, none⟩) n hs, LegsOld w.heap.size none hs]) (fun (j : Nat) => nh - j) 0 ⟨Nat.zero_le _, rfl⟩ ⟨rfl, rfl, rfl, rfl, rfl, rfl, rfl, rfl, rfl, trivial⟩ (fun _ hm => hm.pick [0] [] [0, 1, 2] rfl rfl) ?_
    intro j hinv
    replace hinv : j ≤ nh ∧ lh.any (legAt veh mo) = (lh.drop j).any (legAt veh mo) := hinv
    refine gw_seq ?_
    refine gw_region ?_
    have hin := hinv
    refine wl_ov (ov_lss rfl rfl) rfl ?_
    refine wl_nil ?_
    refine nx_then ?_
    refine gw_seq ?_
    refine gw_cond rfl (fun hh => ?_) (fun hh => ?_)
    · have hj : ((j : Nat) : Int) < ((nh : Nat) : Int) := by simpa using hh
      clear hh
      refine gw_skip ?_
      refine nx_then ?_
      refine gw_seq ?_
      refine gw_block ?_
      refine gw_seq ?_
      refine gw_region ?_
      refine wl_look (R := ∃ b off, Ah = some ⟨b, off, none⟩) (fun wx hm => by obtain ⟨b, off, h, _, _⟩ := SlT.get ((hm.fact 0 rfl)).1 (by omega : 0 < nh); exact ⟨b, off, h⟩) ?_
      rintro ⟨b2, o2, rfl⟩
      obtain ⟨y, hy⟩ : ∃ x, lh[j]? = some x := ⟨_, List.getElem?_eq_getElem (by omega)⟩
      obtain ⟨gv, ⟨oa, os, om, of⟩, ⟨ia, is_, im, if_⟩⟩ := y
      have han := any_at (p := legAt veh mo) hy
      have hlg := hlt _ (List.mem_of_getElem? hy)
      refine wl_ov (ov_index (j := j) es34 rfl rfl (by omega)) rfl ?_
      refine wl_ov (ov_elem rz138 rfl (fun _ hm => (hm.fact 0 rfl).1) hy rfl rfl) rfl ?_
      refine wl_alloc zc138 rfl fun g2 => ?_
      refine wl_stores (cs' := [.string gv, .int .i64 oa, .string os, .int .i64 om, .int .i64 of, .int .i64 ia, .string is_, .int .i64 im, .int .i64 if_]) 0 rz138 rfl rfl rfl rfl rfl rfl rfl rfl ?_
      refine wl_nil ?_
      refine nx_then ?_
      refine gw_seq ?_
      refine gw_region ?_
      refine wl_ov (ov_loads rz138 rfl (fun _ hm => hm.blkI 0 rfl) rfl rfl) rfl ?_
      refine wl_callv rfl cb128 rfl rfl (fun wx hm => (rlasts_any gv oa os om of ia is_ im if_ wx)) ?_
      obtain ⟨P, hP⟩ : ∃ P, P = legAt veh mo ⟨gv, ⟨oa, os, om, of⟩, ⟨ia, is_, im, if_⟩⟩ := ⟨_, rfl⟩
      rw [← hP] at han
      refine wl_alloc zc28 rfl fun g3 => ?_
      refine wl_stores (cs' := [.int .i64 (lastA ⟨gv, ⟨oa, os, om, of⟩, ⟨ia, is_, im, if_⟩⟩), .int .i64 (lastB ⟨gv, ⟨oa, os, om, of⟩, ⟨ia, is_, im, if_⟩⟩)]) 0 rz28 rfl rfl rfl rfl rfl rfl rfl rfl ?_
      refine wl_nil ?_
      refine nx_then ?_
      refine gw_seq ?_
      refine gw_region ?_
      refine wl_ov (ov_field fo138_0 rfl rfl) rfl ?_
      refine wl_ov (ov_load sc9 rfl (fun _ hm => hm.blkI 1 rfl) rfl) rfl ?_
      refine wl_ov (ov_move rfl) rfl ?_
      refine wl_ov (ov_seql rfl rfl) rfl ?_
      refine wl_ov (ov_move rfl) rfl ?_
      rcases Bool.eq_false_or_eq_true (gv.toList == veh.toList) with h1 | h1
      · refine wl_set 32 rfl (congrArg Value.bool h1) ?_
        refine wl_guard_on rfl rfl rfl ?_
        refine wl_ov (ov_move rfl) rfl ?_
        refine wl_guard_on rfl rfl rfl ?_
        refine wl_ov (ov_field fo28_0 rfl rfl) rfl ?_
        refine wl_guard_on rfl rfl rfl ?_
        refine wl_ov (ov_load sc3 rfl (fun _ hm => hm.blkI 0 rfl) rfl) rfl ?_
        refine wl_guard_on rfl rfl rfl ?_
        refine wl_ov (ov_field fo28_1 rfl rfl) rfl ?_
        refine wl_guard_on rfl rfl rfl ?_
        refine wl_ov (ov_load sc3 rfl (fun _ hm => hm.blkI 0 rfl) rfl) rfl ?_
        refine wl_guard_on rfl rfl rfl ?_
        refine wl_ov (ov_sub rfl rfl (by omega) (by omega)) rfl ?_
        refine wl_guard_on rfl rfl rfl ?_
        refine wl_callw rfl cb101 rfl rfl (fun wx hm => (rin_any _ _ _ wx)) ?_
        refine wl_ov (ov_pick_t rfl rfl) rfl ?_
        refine wl_nil ?_
        refine nx_then ?_
        refine gw_cond rfl (fun hh => ?_) (fun hh => ?_)
        · have h2 : (inB mo (lastA ⟨gv, ⟨oa, os, om, of⟩, ⟨ia, is_, im, if_⟩⟩) ((lastB ⟨gv, ⟨oa, os, om, of⟩, ⟨ia, is_, im, if_⟩⟩) - 1)) = true := by simpa using hh
          clear hh
          refine gw_seq ?_
          refine gw_region ?_
          refine wl_ov (ov_field fo36_0 rfl rfl) rfl ?_
          refine wl_ov (ov_load sc9 rfl (fun _ hm => hm.blkI 2 rfl) rfl) rfl ?_
          refine wl_ov (ov_assign rfl) rfl ?_
          refine wl_ov (ov_assign rfl) rfl ?_
          refine wl_nil ?_
          refine nx_then ?_
          refine gw_ret ?_
          refine nx_blk_ret ?_
          refine nx_then_ret ?_
          refine nx_then_ret ?_
          refine nx_blk_ret ?_
          refine nx_blk_ret ?_
          refine nx_then_ret ?_
          refine nx_then_ret ?_
          refine nx_blk_ret ?_
          refine nx_then_ret ?_
          have hPt : P = true := by rw [hP]; rw [legAt_in h1]; exact h2
          have hW : WV = (key, true) := by rw [hout.2, hat, if_pos (show lh.any (legAt veh mo) = true by rw [hin.2, han, hPt]; rfl)]
          refine nx_ret2 rfl rfl rfl fun wx hm => ?_
          exact ⟨by rw [← hWV, hW], hm.g⟩
        · have h2 : (inB mo (lastA ⟨gv, ⟨oa, os, om, of⟩, ⟨ia, is_, im, if_⟩⟩) ((lastB ⟨gv, ⟨oa, os, om, of⟩, ⟨ia, is_, im, if_⟩⟩) - 1)) = false := by simpa using hh
          clear hh
          refine gw_skip ?_
          refine nx_blk_nrm ?_
          refine nx_then ?_
          refine gw_region ?_
          refine wl_ov (ov_add rfl rfl (by omega) (by omega)) rfl ?_
          refine wl_ov (ov_move rfl) rfl ?_
          refine wl_nil ?_
          have hPf : P = false := by rw [hP]; rw [legAt_in h1]; exact h2
          exact nx_round (j + 1) ⟨by omega, by rw [hin.2, han, hPf]; rfl⟩ (by omega) ⟨rfl, rfl, rfl, rfl, rfl, rfl, rfl, rfl, (some_int (by omega)), trivial⟩ (fun _ hm => hm.pick [2] [] [0, 1, 2] rfl rfl)
      · refine wl_set 32 rfl (congrArg Value.bool h1) ?_
        refine wl_guard_off rfl rfl rfl (by decide) rfl ?_
        refine wl_guard_off rfl rfl rfl (by decide) rfl ?_
        refine wl_guard_off rfl rfl rfl (by decide) rfl ?_
        refine wl_guard_off rfl rfl rfl (by decide) rfl ?_
        refine wl_guard_off rfl rfl rfl (by decide) rfl ?_
        refine wl_guard_off rfl rfl rfl (by decide) rfl ?_
        refine wl_guard_off rfl rfl rfl (by decide) rfl ?_
        refine wl_ov (ov_pick_f rfl rfl) rfl ?_
        refine wl_nil ?_
        refine nx_then ?_
        refine gw_cond rfl (fun hh => by cases hh) (fun _ => ?_)
        refine gw_skip ?_
        refine nx_blk_nrm ?_
        refine nx_then ?_
        refine gw_region ?_
        refine wl_ov (ov_add rfl rfl (by omega) (by omega)) rfl ?_
        refine wl_ov (ov_move rfl) rfl ?_
        refine wl_nil ?_
        have hPf : P = false := by rw [hP]; unfold legAt; simp only [h1]; rfl
        exact nx_round (j + 1) ⟨by omega, by rw [hin.2, han, hPf]; rfl⟩ (by omega) ⟨rfl, rfl, rfl, rfl, rfl, rfl, rfl, rfl, (some_int (by omega)), trivial⟩ (fun _ hm => hm.pick [2] [] [0, 1, 2] rfl rfl)
    · have hj : ¬ (((j : Nat) : Int) < ((nh : Nat) : Int)) := by simpa using hh
      clear hh
      refine gw_exit ?_
      refine nx_then_exit ?_
      refine nx_then_exit ?_
      refine nx_blk_here ?_
      refine nx_blk_nrm ?_
      refine nx_then ?_
      refine gw_region ?_
      have hNo : lh.any (legAt veh mo) = false := by rw [hin.2, List.drop_eq_nil_of_le (by omega)]; rfl
      refine wl_ov (ov_add rfl rfl (by omega) (by omega)) rfl ?_
      refine wl_ov (ov_move rfl) rfl ?_
      refine wl_nil ?_
      exact nx_round (k + 1) ⟨by omega, by rw [hout.2, hat, if_neg (show ¬ lh.any (legAt veh mo) = true by rw [hNo]; decide)]⟩ (by omega) ⟨rfl, rfl, rfl, rfl, (some_int (by omega)), trivial⟩ (fun _ hm => hm.pick [] [] [1, 2] rfl rfl)
  · have hk : ¬ (((k : Nat) : Int) < ((n : Nat) : Int)) := by simpa using hh
    clear hh
    refine gw_exit ?_
    refine nx_then_exit ?_
    refine nx_then_exit ?_
    refine nx_blk_here ?_
    refine nx_then ?_
    refine gw_seq ?_
    refine gw_region ?_
    refine wl_ov (ov_assign rfl) rfl ?_
    refine wl_ov (ov_assign rfl) rfl ?_
    refine wl_nil ?_
    refine nx_then ?_
    refine gw_ret ?_
    have hW : WV = (⟨#[]⟩, false) := by rw [hinv.2, List.drop_eq_nil_of_le (by omega)]; rfl
    refine nx_ret2 rfl rfl rfl fun wx hm => ?_
    exact ⟨by rw [← hWV, hW], hm.g⟩

end Go.Proofs.YtljnekobfjpfaaaDoor
/- The generator Hires. -/
namespace Go.Proofs.YtljnekobfjpfaaaDoor
open Go.RowKit

theorem mem_key {xs : List ByteArray} {v : ByteArray} (hv : v ∈ xs) (h : ∀ x ∈ xs, keyB x = true) : keyB v = true := h v hv
theorem legs_nil {w : World} : Legs [] w := fun _ h => by cases h

set_option maxRecDepth 100000 in
set_option maxHeartbeats 1000000 in
theorem ghires_any (q : Nat) (w : World) (B sb m : Nat) (hS : Strm 25 w B sb m) (hm : m ≤ 100000000) (hq : q ≤ 4) :
    Calls Tryd.prog 67 #[.pointer (some ⟨sb, 0, none⟩), .int .i64 ((q : Nat) : Int)] w (fun e w' => ∃ (A : Option Addr) (n c : Nat) (hs : List Hs), e = .returned (.slice A n c) ∧ SlT hsEnc 5 36 w' A n hs ∧ Legs hs w' ∧ (∀ h ∈ hs, HsOk h) ∧ n ≤ 5 ∧ n ≤ c ∧ Strm 25 w' B sb (m + 20000) ∧ w.grownBy w' (some sb)) := by
  refine gw_enter ⟨35, w, (some sb), [138]⟩ Tryd.func67 rfl Tryd.ntmps67 rfl (memS (X := []) hS allF_nil allL_nil) ?_
  refine gw_seq ?_
  refine gw_region ?_
  refine wl_nilOwn 36 5 ?_
  refine wl_ov (ov_assign rfl) rfl ?_
  refine wl_nil ?_
  refine nx_then ?_
  refine gw_seq ?_
  refine gw_region ?_
  refine wl_ov (ov_assign rfl) rfl ?_
  refine wl_nil ?_
  refine nx_then ?_
  refine gw_seq ?_
  refine gw_seq ?_
  refine gw_region ?_
  refine wl_buildSlice (e := 9) (cs := [.string ⟨#[104, 49]⟩, .string ⟨#[104, 50]⟩, .string ⟨#[104, 51]⟩, .string ⟨#[104, 52]⟩]) rfl (by kernel_rfl) rfl fun g1 => ?_
  refine wl_ov (ov_move rfl) rfl ?_
  refine wl_ov (ov_min rfl rfl) rfl ?_
  refine wl_set 10 (v' := .int .i64 ((q : Nat) : Int)) rfl (congrArg (Value.int .i64) (by omega)) ?_
  refine wl_ov (ov_sliceHi (hi := q) es103 rfl rfl rfl (by omega)) rfl ?_
  refine wl_ov (ov_len es103 rfl) rfl ?_
  refine wl_ov (ov_move rfl) rfl ?_
  refine wl_nil ?_
  refine nx_then ?_
  refine gw_block ?_
  refine gw_also (Y := fun wy => Legs [] wy) (Legs.lasts rfl) (fun wx hm => legs_nil) ?_
  refine gw_loop (γ := Nat × Value × List Hs × List Value) (fun (g : Nat × Value × List Hs × List Value) => g.1 ≤ q ∧ g.2.2.1.length = g.1 ∧ (∀ x ∈ g.2.2.1, HsOk x) ∧ g.2.2.2 = g.2.2.1.flatMap hsEnc) (fun (g : Nat × Value × List Hs × List Value) => [(0, .pointer (some ⟨sb, 0, none⟩)), (4, .slice none 0 0), (5, g.2.1), (11, .slice (some ⟨g1, 0, none⟩) q 4), (12, .int .i64 ((q : Nat) : Int)), (13, .int .i64 ((g.1 : Nat) : Int))]) (fun (g : Nat × Value × List Hs × List Value) => fun w => Strm 25 w B sb (m + 2000 * g.1)) (fun (g : Nat × Value × List Hs × List Value) => [(g1, 9, [.string ⟨#[104, 49]⟩, .string ⟨#[104, 50]⟩, .string ⟨#[104, 51]⟩, .string ⟨#[104, 52]⟩])]) (fun (g : Nat × Value × List Hs × List Value) => [⟨g.2.1, 36, 5, g.1, g.2.2.2⟩]) (fun (g : Nat × Value × List Hs × List Value) => [fun wy => Legs g.2.2.1 wy]) (fun (g : Nat × Value × List Hs × List Value) => q - g.1) (0, .slice none 0 0, [], []) ⟨Nat.zero_le _, rfl, (fun _ h => by cases h), rfl⟩ ⟨rfl, rfl, rfl, rfl, rfl, rfl, trivial⟩ (fun _ hm => (hm.more rfl (by first | omega | (dsimp only; omega))).pick [0] [0] [0] rfl rfl) ?_
  rintro ⟨k, v, hs, xs⟩ hinv
  replace hinv : k ≤ q ∧ hs.length = k ∧ (∀ x ∈ hs, HsOk x) ∧ xs = hs.flatMap hsEnc := hinv
  dsimp only
  refine gw_seq ?_
  refine gw_region ?_
  obtain ⟨hi0, hi2, hi3, rfl⟩ := hinv
  refine wl_ov (ov_lss rfl rfl) rfl ?_
  refine wl_nil ?_
  refine nx_then ?_
  refine gw_seq ?_
  refine gw_cond rfl (fun hh => ?_) (fun hh => ?_)
  · have hk : ((k : Nat) : Int) < ((q : Nat) : Int) := by simpa using hh
    clear hh
    refine gw_skip ?_
    refine nx_then ?_
    refine gw_seq ?_
    refine gw_block ?_
    refine gw_seq ?_
    refine gw_region ?_
    obtain ⟨nm, hx⟩ : ∃ x, ([⟨#[104, 49]⟩, ⟨#[104, 50]⟩, ⟨#[104, 51]⟩, ⟨#[104, 52]⟩] : List ByteArray)[k]? = some x := ⟨_, List.getElem?_eq_getElem (by simp; omega)⟩
    have hnm : nm.size ≤ 100 := mem_sz (List.mem_of_getElem? hx) (by decide)
    have hnk : keyB nm = true := mem_key (List.mem_of_getElem? hx) (by decide +kernel)
    refine wl_ov (ov_index (j := k) es103 rfl rfl (by omega)) rfl ?_
    refine wl_ov (ov_elem1 (k := 0) sc9 rfl (fun _ hm => (SlT.ofBlk (l := [⟨#[104, 49]⟩, ⟨#[104, 50]⟩, ⟨#[104, 51]⟩, ⟨#[104, 52]⟩]) stEnc1_len (hm.blkI 0 rfl))) hx rfl rfl) rfl ?_
    refine wl_ov (ov_assign rfl) rfl ?_
    refine wl_nil ?_
    refine nx_then ?_
    refine gw_region ?_
    refine wl_ov (ov_move rfl) rfl ?_
    refine wl_ov (ov_move rfl) rfl ?_
    refine wl_ov (ov_move rfl) rfl ?_
    refine wl_ov (ov_move rfl) rfl ?_
    refine wl_buildSlice (e := 3) (cs := [.int .i64 0, .int .i64 50, .int .i64 100, .int .i64 100, .int .i64 300, .int .i64 1000]) rfl (by kernel_rfl) rfl fun g2 => ?_
    refine wl_got (γ := Int) (val := fun v => .int .i64 v) (φ := fun v => v ∈ ([0, 50, 100, 100, 300, 1000] : List Int)) rfl cb15 rfl rfl rfl rfl (fun wx hm => (pick_any [0, 50, 100, 100, 300, 1000] _ _ _ wx B sb _ hm.k (by omega) (by simp) (by simp) (hm.blkI 0 rfl) (hm.neRow 0 rfl rfl))) fun v3 hv3 => ?_
    have bv3 : 0 ≤ v3 ∧ v3 ≤ 1000 := mem_rng hv3 (by decide)
    have bv30 := bv3.1
    have bv31 := bv3.2
    clear bv3
    refine wl_calls (γ := ByteArray × ByteArray × Int × Int × Option Addr × Nat × Nat × List Lg) (val := (fun (g : ByteArray × ByteArray × Int × Int × Option Addr × Nat × Nat × List Lg) => .agg #[.string g.1, .string g.2.1, .int .i64 g.2.2.1, .int .i64 g.2.2.2.1, .slice g.2.2.2.2.1 g.2.2.2.2.2.1 g.2.2.2.2.2.2.1])) (φ := (fun (g : ByteArray × ByteArray × Int × Int × Option Addr × Nat × Nat × List Lg) => HrOk g.1 g.2.1 g.2.2.2.2.2.2.2 ∧ g.2.2.2.2.2.1 ≤ 4)) (Y := (fun (g : ByteArray × ByteArray × Int × Int × Option Addr × Nat × Nat × List Lg) => fun wy => SlT lgEnc 9 138 wy g.2.2.2.2.1 g.2.2.2.2.2.1 g.2.2.2.2.2.2.2)) (m' := m + 2000 * k + 1 + 1500) rfl cb117 rfl rfl rfl rfl (fun wx hm => (rightHire_any nm v3 wx B sb _ hm.k (by omega) hnm hnk (by omega) (by omega)).mono fun _ _ ⟨k, d, f, t, A, n, c, l, he, hsl, hok, _, hn4, hS, hg⟩ => ⟨(k, d, f, t, A, n, c, l), he, ⟨hok, hn4⟩, hS, hg, hsl⟩) (fun _ => SlT.lasts2 rfl) ?_
    rintro ⟨key, dr, fr, tt, A1, n1, c1, l1⟩ hh
    dsimp only at hh ⊢
    refine wl_buildSlice (e := 36) (cs := [.string key, .string dr, .int .i64 fr, .int .i64 tt, .slice A1 n1 c1]) rfl (by kernel_rfl) rfl fun g4 => ?_
    refine wl_append (news := [.string key, .string dr, .int .i64 fr, .int .i64 tt, .slice A1 n1 c1]) 0 0 ap99 rfl rfl rfl rfl rfl rfl rfl (by omega) (by unfold maxLen; omega) rfl rfl fun v2 hv2 => ?_
    refine wl_also (Y := fun wy => Legs (hs ++ [⟨key, dr, fr, tt, A1, n1, c1, l1⟩]) wy) (Legs.lasts rfl) (fun wx hm => Legs.snoc (hm.fact 1 rfl) (hm.fact 0 rfl)) ?_
    refine wl_ov (ov_assign rfl) rfl ?_
    refine wl_nil ?_
    refine nx_blk_nrm ?_
    refine nx_then ?_
    refine gw_region ?_
    refine wl_ov (ov_add rfl rfl (by omega) (by omega)) rfl ?_
    refine wl_ov (ov_move rfl) rfl ?_
    refine wl_nil ?_
    exact nx_round (k + 1, v2, hs ++ [⟨key, dr, fr, tt, A1, n1, c1, l1⟩], hs.flatMap hsEnc ++ ([.string key, .string dr, .int .i64 fr, .int .i64 tt, .slice A1 n1 c1] : List Value)) ⟨by dsimp only; omega, by simp [hi2], hs_snoc hi3 hh.1 (show n1 ≤ 1000 by omega), by simp [hsEnc]⟩ (by dsimp only; omega) ⟨rfl, rfl, rfl, rfl, rfl, (some_int (by omega)), trivial⟩ (fun _ hm => (hm.more rfl (by first | omega | (dsimp only; omega))).pick [2] [0] [0] rfl rfl)
  · have hk : ¬ (((k : Nat) : Int) < ((q : Nat) : Int)) := by simpa using hh
    clear hh
    refine gw_exit ?_
    refine nx_then_exit ?_
    refine nx_then_exit ?_
    refine nx_blk_here ?_
    refine nx_then ?_
    refine gw_seq ?_
    refine gw_seq ?_
    refine gw_region ?_
    refine wl_ov (ov_move rfl) rfl ?_
    refine wl_got (γ := Bool) (val := fun v => .bool v) (φ := fun v => True) rfl cb23 rfl rfl rfl rfl (fun wx hm => ((flip_any _ wx B sb _ hm.k (by omega) (by omega) (by omega)).mono fun _ _ ⟨v, he, hS, hg⟩ => ⟨v, trivial, he, hS, hg⟩)) fun f5 _ => ?_
    refine wl_nil ?_
    refine nx_then ?_
    refine gw_cond rfl (fun hh => ?_) (fun hh => ?_)
    · have hf : f5 = true := by simpa using hh
      clear hh
      refine gw_region ?_
      refine wl_ov (ov_move rfl) rfl ?_
      refine wl_ov (ov_move rfl) rfl ?_
      refine wl_calls (γ := ByteArray × ByteArray × Int × Int × Option Addr × Nat × Nat × List Lg) (val := (fun (g : ByteArray × ByteArray × Int × Int × Option Addr × Nat × Nat × List Lg) => .agg #[.string g.1, .string g.2.1, .int .i64 g.2.2.1, .int .i64 g.2.2.2.1, .slice g.2.2.2.2.1 g.2.2.2.2.2.1 g.2.2.2.2.2.2.1])) (φ := (fun (g : ByteArray × ByteArray × Int × Int × Option Addr × Nat × Nat × List Lg) => HrOk g.1 g.2.1 g.2.2.2.2.2.2.2 ∧ g.2.2.2.2.2.1 ≤ 4)) (Y := (fun (g : ByteArray × ByteArray × Int × Int × Option Addr × Nat × Nat × List Lg) => fun wy => SlT lgEnc 9 138 wy g.2.2.2.2.1 g.2.2.2.2.2.1 g.2.2.2.2.2.2.2)) (m' := m + 2000 * k + 1 + 2000) rfl cb55 rfl rfl rfl rfl (fun wx hm => (ghire_any wx B sb _ hm.k (by omega)).mono fun _ _ ⟨k, d, f, t, A, n, c, l, he, hsl, hok, hn4, hS, hg⟩ => ⟨(k, d, f, t, A, n, c, l), he, ⟨hok, hn4⟩, hS, hg, hsl⟩) (fun _ => SlT.lasts2 rfl) ?_
      rintro ⟨key, dr, fr, tt, A1, n1, c1, l1⟩ hh
      dsimp only at hh ⊢
      refine wl_buildSlice (e := 36) (cs := [.string key, .string dr, .int .i64 fr, .int .i64 tt, .slice A1 n1 c1]) rfl (by kernel_rfl) rfl fun g6 => ?_
      refine wl_append (news := [.string key, .string dr, .int .i64 fr, .int .i64 tt, .slice A1 n1 c1]) 0 0 ap99 rfl rfl rfl rfl rfl rfl rfl (by omega) (by unfold maxLen; omega) rfl rfl fun v2 hv2 => ?_
      refine wl_also (Y := fun wy => Legs (hs ++ [⟨key, dr, fr, tt, A1, n1, c1, l1⟩]) wy) (Legs.lasts rfl) (fun wx hm => Legs.snoc (hm.fact 1 rfl) (hm.fact 0 rfl)) ?_
      refine wl_look (R := ∃ A cc, v2 = .slice A (k + 1) cc) (fun wx hm => own_slice (hm.ownI 0 rfl)) ?_
      rintro ⟨A, c, rfl⟩
      refine wl_ov (ov_assign rfl) rfl ?_
      refine wl_nil ?_
      refine nx_then ?_
      refine gw_seq ?_
      refine gw_region ?_
      refine wl_ov (ov_move rfl) rfl ?_
      refine wl_ov (ov_assign rfl) rfl ?_
      refine wl_nil ?_
      refine nx_then ?_
      refine gw_ret ?_
      have hxs : hs.flatMap hsEnc ++ ([.string key, .string dr, .int .i64 fr, .int .i64 tt, .slice A1 n1 c1] : List Value) = (hs ++ ([⟨key, dr, fr, tt, A1, n1, c1, l1⟩] : List Hs)).flatMap hsEnc := by simp [hsEnc]
      refine nx_ret1 rfl rfl fun wx hm => ?_
      exact ⟨A, k + 1, c, hs ++ [⟨key, dr, fr, tt, A1, n1, c1, l1⟩], rfl, SlT.ofOwn hs_len (hxs ▸ hm.ownI 0 rfl) (by simp [hi2]), (hm.fact 0 rfl), hs_snoc hi3 hh.1 (show n1 ≤ 1000 by omega), by omega, own_cap (hm.ownI 0 rfl), hm.k.more (by omega), hm.g⟩
    · have hf : f5 = false := by simpa using hh
      clear hh
      refine gw_skip ?_
      refine nx_then ?_
      refine gw_seq ?_
      refine gw_region ?_
      refine wl_look (R := ∃ A cc, v = .slice A k cc) (fun wx hm => own_slice (hm.ownI 0 rfl)) ?_
      rintro ⟨A, c, rfl⟩
      refine wl_ov (ov_move rfl) rfl ?_
      refine wl_ov (ov_assign rfl) rfl ?_
      refine wl_nil ?_
      refine nx_then ?_
      refine gw_ret ?_
      refine nx_ret1 rfl rfl fun wx hm => ?_
      exact ⟨A, k, c, hs, rfl, SlT.ofOwn hs_len (hm.ownI 0 rfl) hi2, (hm.fact 0 rfl), hi3, by omega, own_cap (hm.ownI 0 rfl), hm.k.more (by omega), hm.g⟩

end Go.Proofs.YtljnekobfjpfaaaDoor
/- When two hires are under way at once: together, meet. -/
namespace Go.Proofs.YtljnekobfjpfaaaDoor
open Go.RowKit

theorem SlOld.dropS {α : Type} {enc : α → List Value} {k : Nat} {T : TypeId} {N : Nat} {row : Option Nat} {A : Option Addr} {n c : Nat} {l : List α} {w : World} (h : SlOld enc k T N row A n l w) (lo : Nat) (hlo : lo ≤ n) (hc : n ≤ c) : SlOld enc k T N row (if c = lo then A else A.map (·.add (lo * k))) (n - lo) (l.drop lo) w :=
  ⟨h.1.dropS lo hlo hc, fun b off e hn => by
    rw [if_neg (show ¬ c = lo by omega)] at e
    obtain ⟨b', off', eA, _, _⟩ := h.1.get (by omega)
    have h2 := h.2 b' off' eA (by omega)
    rw [eA] at e
    simp only [Option.map_some, Option.some.injEq] at e
    have hb : b' = b := by
      have h3 := congrArg Addr.block e
      have h4 : ((⟨b', off', none⟩ : Addr).add (lo * k)).block = b' := by unfold Addr.add; split <;> rfl
      rw [h4] at h3; exact h3
    subst hb; exact h2⟩
def startP (g h : Lg) : Int := max (lastA g) (lastA h)
def okP (fl : Bool) (g h : Lg) : Bool := (!fl || (g.veh.toList == h.veh.toList)) && decide (startP g h < min (lastB g) (lastB h))
def stp (fl : Bool) (g h : Lg) (a : Int) : Int := if okP fl g h then min a (startP g h) else a
def inF (fl : Bool) (g : Lg) (l : List Lg) (a : Int) : Int := l.foldl (fun a h => stp fl g h a) a
def outF (fl : Bool) (la lb : List Lg) : Int := la.foldl (fun a g => inF fl g lb a) 5761440
/-- The first moment at which both have a car, or -1. -/
def repr (a : Int) : Int := if a < 5761440 then a else -1
theorem foldl_take {α β : Type} {f : β → α → β} {a : β} {l : List α} {k : Nat} {x : α} (h : l[k]? = some x) : (l.take (k + 1)).foldl f a = f ((l.take k).foldl f a) x := by
  obtain ⟨hk, rfl⟩ := List.getElem?_eq_some_iff.1 h
  rw [List.take_add_one, List.getElem?_eq_getElem hk, List.foldl_append]; rfl
def Tm (l : List Lg) : Prop := ∀ g ∈ l, (0 ≤ lastA g ∧ lastA g ≤ 5761439) ∧ lastA g < lastB g ∧ lastB g ≤ 5761440
theorem stp_bound {fl : Bool} {g h : Lg} {a : Int} (hg : 0 ≤ lastA g ∧ lastA g ≤ 5761439) (hh : 0 ≤ lastA h ∧ lastA h ≤ 5761439) (ha : 0 ≤ a ∧ a ≤ 5761440) : 0 ≤ stp fl g h a ∧ stp fl g h a ≤ 5761440 := by
  unfold stp startP; split <;> omega
theorem inF_bound {fl : Bool} {g : Lg} (hg : 0 ≤ lastA g ∧ lastA g ≤ 5761439) : ∀ {l : List Lg} {a : Int}, Tm l → (0 ≤ a ∧ a ≤ 5761440) → 0 ≤ inF fl g l a ∧ inF fl g l a ≤ 5761440
  | [], _, _, ha => ha
  | h :: t, a, hl, ha => by
    have h1 := stp_bound (fl := fl) (g := g) (h := h) hg (hl h (List.mem_cons_self ..)).1 ha
    exact inF_bound hg (l := t) (a := stp fl g h a) (fun x hx => hl x (List.mem_cons_of_mem _ hx)) h1
theorem outF_bound {fl : Bool} {lb : List Lg} (hb : Tm lb) {la : List Lg} (hl : Tm la) : 0 ≤ outF fl la lb ∧ outF fl la lb ≤ 5761440 := by
  have key : ∀ (la : List Lg) (a : Int), Tm la → (0 ≤ a ∧ a ≤ 5761440) → 0 ≤ la.foldl (fun a g => inF fl g lb a) a ∧ la.foldl (fun a g => inF fl g lb a) a ≤ 5761440 := by
    intro la
    induction la with
    | nil => exact fun a _ h => h
    | cons y t ih =>
      intro a h ha
      rw [List.foldl_cons]
      exact ih _ (fun x hx => h x (List.mem_cons_of_mem _ hx)) (inF_bound (h y (List.mem_cons_self ..)).1 hb ha)
  exact key la 5761440 hl (by omega)
theorem tm_take {l : List Lg} {k : Nat} (h : Tm l) : Tm (l.take k) := fun g hg => h g (List.mem_of_mem_take hg)
/-- A step of together. -/
theorem repr_stp {fl : Bool} {g h : Lg} {a : Int} (hg : 0 ≤ lastA g ∧ lastA g ≤ 5761439) (hh : 0 ≤ lastA h ∧ lastA h ≤ 5761439) (ha : 0 ≤ a ∧ a ≤ 5761440) :
    repr (stp fl g h a) = if okP fl g h = true ∧ (repr a < 0 ∨ startP g h < repr a) then startP g h else repr a := by
  unfold repr stp
  have hs : 0 ≤ startP g h ∧ startP g h ≤ 5761439 := by unfold startP; omega
  by_cases ho : okP fl g h = true
  · simp only [ho, if_true, true_and]
    by_cases h1 : a < 5761440
    · rw [if_pos h1]; split <;> split <;> omega
    · rw [if_neg h1]; split <;> split <;> omega
  · simp only [ho, if_false, false_and, Bool.false_eq_true]

set_option maxRecDepth 100000 in
set_option maxHeartbeats 2000000 in
theorem together_true (k1 d1 : ByteArray) (f1 t1 : Int) (l1 : List Lg) (A1 : Option Addr) (n1 c1 : Nat) (k2 d2 : ByteArray) (f2 t2 : Int) (l2 : List Lg) (A2 : Option Addr) (n2 c2 : Nat) (w : World) (h1 : SlT lgEnc 9 138 w A1 n1 l1) (h2 : SlT lgEnc 9 138 w A2 n2 l2) (hn1 : n1 ≤ 1000000) (hn2 : n2 ≤ 1000000) (ht1 : Tm l1) (ht2 : Tm l2) :
    Calls Tryd.prog 133 #[.agg #[.string k1, .string d1, .int .i64 f1, .int .i64 t1, .slice A1 n1 c1], .agg #[.string k2, .string d2, .int .i64 f2, .int .i64 t2, .slice A2 n2 c2], .bool true] w (GotE w (repr (outF true l1 l2))) := by
  refine gw_enter ⟨69, w, none, []⟩ Tryd.func133 rfl Tryd.ntmps133 rfl (mem0 (X := [SlOld lgEnc 9 138 w.heap.size none A1 n1 l1, SlOld lgEnc 9 138 w.heap.size none A2 n2 l2]) (allF_cons h1.old (allF_cons h2.old allF_nil)) (allL_cons SlOld.lasts (allL_cons SlOld.lasts allL_nil))) ?_
  refine gw_seq ?_
  refine gw_region ?_
  have hlen1 := h1.len
  have hlen2 := h2.len
  refine wl_box rfl rfl rfl fun g1 => ?_
  refine wl_box rfl rfl rfl fun g2 => ?_
  refine wl_ov (ov_assign rfl) rfl ?_
  refine wl_nil ?_
  refine nx_then ?_
  refine gw_seq ?_
  refine gw_region ?_
  refine wl_ov (ov_assign rfl) rfl ?_
  refine wl_set 7 (v' := .int .i64 (-1)) rfl rfl ?_
  refine wl_nil ?_
  refine nx_then ?_
  refine gw_seq ?_
  refine gw_seq ?_
  refine gw_region ?_
  refine wl_ov (ov_field fo36_3 rfl rfl) rfl ?_
  refine wl_ov (ov_load sc34 rfl (fun _ hm => hm.blkI 1 rfl) rfl) rfl ?_
  refine wl_ov (ov_len es34 rfl) rfl ?_
  refine wl_ov (ov_move rfl) rfl ?_
  refine wl_nil ?_
  refine nx_then ?_
  refine gw_block ?_
  refine gw_loop (γ := Nat) (fun (k : Nat) => k ≤ n1) (fun (k : Nat) => [(2, .bool true), (4, .pointer (some ⟨g2, 0, none⟩)), (6, .int .i64 0), (7, .int .i64 (repr (outF true (l1.take k) l2))), (16, .slice A1 n1 c1), (17, .int .i64 ((n1 : Nat) : Int)), (18, .int .i64 ((k : Nat) : Int))]) (fun (k : Nat) => fun _ => True) (fun (k : Nat) => [(g2, 36, [.string k2, .string d2, .int .i64 f2, .int .i64 t2, .slice A2 n2 c2]), (g1, 36, [.string k1, .string d1, .int .i64 f1, .int .i64 t1, .slice A1 n1 c1])]) (fun (k : Nat) => []) (fun (k : Nat) => [SlOld lgEnc 9 138 w.heap.size none A1 n1 l1, SlOld lgEnc 9 138 w.heap.size none A2 n2 l2]) (fun (k : Nat) => n1 - k) 0 (Nat.zero_le _) ⟨rfl, rfl, rfl, rfl, rfl, rfl, rfl, trivial⟩ (fun _ hm => hm.pick [0, 1] [] [0, 1] rfl rfl) ?_
  intro k hinv
  replace hinv : k ≤ n1 := hinv
  refine gw_seq ?_
  refine gw_region ?_
  refine wl_ov (ov_lss rfl rfl) rfl ?_
  refine wl_nil ?_
  refine nx_then ?_
  refine gw_seq ?_
  refine gw_cond rfl (fun hh => ?_) (fun hh => ?_)
  · have hk : ((k : Nat) : Int) < ((n1 : Nat) : Int) := by simpa using hh
    clear hh
    refine gw_skip ?_
    refine nx_then ?_
    refine gw_seq ?_
    refine gw_block ?_
    refine gw_seq ?_
    refine gw_region ?_
    obtain ⟨b1, o1, hA, _, _⟩ := h1.get (by omega)
    subst hA
    obtain ⟨x, hx⟩ : ∃ x, l1[k]? = some x := ⟨_, List.getElem?_eq_getElem (by omega)⟩
    obtain ⟨gv, ⟨oa, os, om, of⟩, ⟨ia, is_, im, if_⟩⟩ := x
    have hga := ht1 _ (List.mem_of_getElem? hx)
    obtain ⟨Y, hY⟩ : ∃ Y, Y = outF true (l1.take k) l2 := ⟨_, rfl⟩
    have hYb : 0 ≤ Y ∧ Y ≤ 5761440 := by rw [hY]; exact outF_bound ht2 (tm_take ht1)
    have hYn : outF true (l1.take (k + 1)) l2 = inF true ⟨gv, ⟨oa, os, om, of⟩, ⟨ia, is_, im, if_⟩⟩ l2 Y := by rw [hY]; exact foldl_take hx
    refine wl_set 7 (v' := .int .i64 (repr Y)) rfl (congrArg (fun z => Value.int .i64 (repr z)) hY.symm) ?_
    refine wl_ov (ov_index (j := k) es34 rfl rfl (by omega)) rfl ?_
    refine wl_ov (ov_elem rz138 rfl (fun _ hm => (hm.fact 0 rfl).1) hx rfl rfl) rfl ?_
    refine wl_alloc zc138 rfl fun g3 => ?_
    refine wl_stores (cs' := [.string gv, .int .i64 oa, .string os, .int .i64 om, .int .i64 of, .int .i64 ia, .string is_, .int .i64 im, .int .i64 if_]) 0 rz138 rfl rfl rfl rfl rfl rfl rfl rfl ?_
    refine wl_nil ?_
    refine nx_then ?_
    refine gw_seq ?_
    refine gw_region ?_
    refine wl_ov (ov_field fo36_3 rfl rfl) rfl ?_
    refine wl_ov (ov_load sc34 rfl (fun _ hm => hm.blkI 1 rfl) rfl) rfl ?_
    refine wl_ov (ov_len es34 rfl) rfl ?_
    refine wl_ov (ov_move rfl) rfl ?_
    refine wl_nil ?_
    refine nx_then ?_
    refine gw_block ?_
    refine gw_loop (γ := Nat) (fun (j : Nat) => j ≤ n2) (fun (j : Nat) => [(2, .bool true), (4, .pointer (some ⟨g2, 0, none⟩)), (6, .int .i64 0), (7, .int .i64 (repr (inF true ⟨gv, ⟨oa, os, om, of⟩, ⟨ia, is_, im, if_⟩⟩ (l2.take j) Y))), (9, .pointer (some ⟨g3, 0, none⟩)), (16, .slice (some ⟨b1, o1, none⟩) n1 c1), (17, .int .i64 ((n1 : Nat) : Int)), (18, .int .i64 ((k : Nat) : Int)), (23, .slice A2 n2 c2), (24, .int .i64 ((n2 : Nat) : Int)), (25, .int .i64 ((j : Nat) : Int))]) (fun (j : Nat) => fun _ => True) (fun (j : Nat) => [(g3, 138, [.string gv, .int .i64 oa, .string os, .int .i64 om, .int .i64 of, .int .i64 ia, .string is_, .int .i64 im, .int .i64 if_]), (g2, 36, [.string k2, .string d2, .int .i64 f2, .int .i64 t2, .slice A2 n2 c2]), (g1, 36, [.string k1, .string d1, .int .i64 f1, .int .i64 t1, .slice (some ⟨b1, o1, none⟩) n1 c1])]) (fun (j : Nat) => []) (fun (j : Nat) => [SlOld lgEnc 9 138 w.heap.size none (some ⟨b1, o1, none⟩) n1 l1, SlOld lgEnc 9 138 w.heap.size none A2 n2 l2]) (fun (j : Nat) => n2 - j) 0 (Nat.zero_le _) ⟨rfl, rfl, rfl, rfl, rfl, rfl, rfl, rfl, rfl, rfl, rfl, trivial⟩ (fun _ hm => hm.pick [0, 1, 2] [] [0, 1] rfl rfl) ?_
    intro j hinv
    replace hinv : j ≤ n2 := hinv
    refine gw_seq ?_
    refine gw_region ?_
    refine wl_ov (ov_lss rfl rfl) rfl ?_
    refine wl_nil ?_
    refine nx_then ?_
    refine gw_seq ?_
    refine gw_cond rfl (fun hh => ?_) (fun hh => ?_)
    · have hj : ((j : Nat) : Int) < ((n2 : Nat) : Int) := by simpa using hh
      clear hh
      refine gw_skip ?_
      refine nx_then ?_
      refine gw_seq ?_
      refine gw_block ?_
      refine gw_seq ?_
      refine gw_region ?_
      refine wl_look (R := ∃ b off, A2 = some ⟨b, off, none⟩) (fun wx hm => by obtain ⟨b, off, h, _, _⟩ := SlT.get ((hm.fact 1 rfl)).1 (by omega : 0 < n2); exact ⟨b, off, h⟩) ?_
      rintro ⟨b2, o2, rfl⟩
      obtain ⟨y, hy⟩ : ∃ x, l2[j]? = some x := ⟨_, List.getElem?_eq_getElem (by omega)⟩
      obtain ⟨hv, ⟨pa, ps, pm, pf⟩, ⟨ja, js, jm, jf⟩⟩ := y
      have hgb := ht2 _ (List.mem_of_getElem? hy)
      obtain ⟨Q, hQ⟩ : ∃ Q, Q = inF true ⟨gv, ⟨oa, os, om, of⟩, ⟨ia, is_, im, if_⟩⟩ (l2.take j) Y := ⟨_, rfl⟩
      have hQb : 0 ≤ Q ∧ Q ≤ 5761440 := by rw [hQ]; exact inF_bound hga.1 (tm_take ht2) hYb
      have hQn : inF true ⟨gv, ⟨oa, os, om, of⟩, ⟨ia, is_, im, if_⟩⟩ (l2.take (j + 1)) Y = stp true ⟨gv, ⟨oa, os, om, of⟩, ⟨ia, is_, im, if_⟩⟩ ⟨hv, ⟨pa, ps, pm, pf⟩, ⟨ja, js, jm, jf⟩⟩ Q := by rw [hQ]; exact foldl_take hy
      have hrs := repr_stp (fl := true) (g := ⟨gv, ⟨oa, os, om, of⟩, ⟨ia, is_, im, if_⟩⟩) (h := ⟨hv, ⟨pa, ps, pm, pf⟩, ⟨ja, js, jm, jf⟩⟩) hga.1 hgb.1 hQb
      obtain ⟨RQ, hRQ⟩ : ∃ R, R = repr Q := ⟨_, rfl⟩
      rw [← hRQ] at hrs
      refine wl_set 7 (v' := .int .i64 RQ) rfl (congrArg (Value.int .i64) (by rw [hRQ, hQ])) ?_
      refine wl_ov (ov_index (j := j) es34 rfl rfl (by omega)) rfl ?_
      refine wl_ov (ov_elem rz138 rfl (fun _ hm => (hm.fact 1 rfl).1) hy rfl rfl) rfl ?_
      refine wl_alloc zc138 rfl fun g4 => ?_
      refine wl_stores (cs' := [.string hv, .int .i64 pa, .string ps, .int .i64 pm, .int .i64 pf, .int .i64 ja, .string js, .int .i64 jm, .int .i64 jf]) 0 rz138 rfl rfl rfl rfl rfl rfl rfl rfl ?_
      refine wl_nil ?_
      refine nx_then ?_
      refine gw_cut (γ := Nat × Nat) (I := (fun (g : Nat × Nat) => True)) (S' := (fun (g : Nat × Nat) => [(2, .bool true), (4, .pointer (some ⟨g2, 0, none⟩)), (6, .int .i64 0), (7, .int .i64 RQ), (9, .pointer (some ⟨g3, 0, none⟩)), (11, .pointer (some ⟨g4, 0, none⟩)), (12, .pointer (some ⟨g.1, 0, none⟩)), (13, .pointer (some ⟨g.2, 0, none⟩)), (16, .slice (some ⟨b1, o1, none⟩) n1 c1), (17, .int .i64 ((n1 : Nat) : Int)), (18, .int .i64 ((k : Nat) : Int)), (23, .slice (some ⟨b2, o2, none⟩) n2 c2), (24, .int .i64 ((n2 : Nat) : Int)), (25, .int .i64 ((j : Nat) : Int))])) (K' := (fun (g : Nat × Nat) => fun _ => True)) (L' := (fun (g : Nat × Nat) => [(g4, 138, [.string hv, .int .i64 pa, .string ps, .int .i64 pm, .int .i64 pf, .int .i64 ja, .string js, .int .i64 jm, .int .i64 jf]), (g3, 138, [.string gv, .int .i64 oa, .string os, .int .i64 om, .int .i64 of, .int .i64 ia, .string is_, .int .i64 im, .int .i64 if_]), (g2, 36, [.string k2, .string d2, .int .i64 f2, .int .i64 t2, .slice (some ⟨b2, o2, none⟩) n2 c2]), (g1, 36, [.string k1, .string d1, .int .i64 f1, .int .i64 t1, .slice (some ⟨b1, o1, none⟩) n1 c1]), (g.1, 28, [.int .i64 (lastA ⟨gv, ⟨oa, os, om, of⟩, ⟨ia, is_, im, if_⟩⟩), .int .i64 (lastB ⟨gv, ⟨oa, os, om, of⟩, ⟨ia, is_, im, if_⟩⟩)]), (g.2, 28, [.int .i64 (lastA ⟨hv, ⟨pa, ps, pm, pf⟩, ⟨ja, js, jm, jf⟩⟩), .int .i64 (lastB ⟨hv, ⟨pa, ps, pm, pf⟩, ⟨ja, js, jm, jf⟩⟩)])])) (O' := (fun (g : Nat × Nat) => [])) (X' := (fun (g : Nat × Nat) => [SlOld lgEnc 9 138 w.heap.size none (some ⟨b1, o1, none⟩) n1 l1, SlOld lgEnc 9 138 w.heap.size none (some ⟨b2, o2, none⟩) n2 l2])) ?_ ?_
      · refine gw_draw (fun wz => Blk wz g4 138 [.string hv, .int .i64 pa, .string ps, .int .i64 pm, .int .i64 pf, .int .i64 ja, .string js, .int .i64 jm, .int .i64 jf] ∧ Blk wz g3 138 [.string gv, .int .i64 oa, .string os, .int .i64 om, .int .i64 of, .int .i64 ia, .string is_, .int .i64 im, .int .i64 if_] ∧ Blk wz g2 36 [.string k2, .string d2, .int .i64 f2, .int .i64 t2, .slice (some ⟨b2, o2, none⟩) n2 c2] ∧ Blk wz g1 36 [.string k1, .string d1, .int .i64 f1, .int .i64 t1, .slice (some ⟨b1, o1, none⟩) n1 c1] ∧ (SlOld lgEnc 9 138 w.heap.size none (some ⟨b1, o1, none⟩) n1 l1) wz ∧ (SlOld lgEnc 9 138 w.heap.size none (some ⟨b2, o2, none⟩) n2 l2) wz ∧ True) mixed ?_
        refine wa_take 0 rfl (by kernel_rfl) (by kernel_rfl) (by kernel_rfl) (listed' := #[true, false, false, false, false, false, false, false]) rfl (fun _ _ _ h => h) (fun _ hm => ⟨hm.blkI 0 rfl, hm.blkI 1 rfl, hm.blkI 2 rfl, hm.blkI 3 rfl, hm.fact 0 rfl, hm.fact 1 rfl, trivial⟩) (ov_loads rz138 rfl (fun _ hm => hm.2.1) rfl rfl) rfl ?_
        refine wa_take 2 rfl (by kernel_rfl) (by kernel_rfl) (by kernel_rfl) (listed' := #[true, false, true, false, false, false, false, false]) rfl (fun _ _ _ h => h) (fun _ hm => ⟨hm.blkI 0 rfl, hm.blkI 1 rfl, hm.blkI 2 rfl, hm.blkI 3 rfl, hm.fact 0 rfl, hm.fact 1 rfl, trivial⟩) (ov_loads rz138 rfl (fun _ hm => hm.1) rfl rfl) rfl ?_
        refine wa_all [1, 4, 5] (by kernel_rfl) rfl ⟨⟨_, rfl, ?_⟩, ⟨_, rfl, ?_⟩, ⟨_, rfl, ?_⟩, trivial⟩
        · refine wl_callv rfl cb126 rfl rfl (fun wx hm => (lasts_any gv oa os om of ia is_ im if_ wx)) ?_
          refine wl_nil ?_
          refine nx_wa0 (listed' := #[true, true, true, false, false, false, false, false]) rfl (fun _ hm => ⟨hm.blkI 0 rfl, hm.blkI 1 rfl, hm.blkI 2 rfl, hm.blkI 3 rfl, hm.fact 0 rfl, hm.fact 1 rfl, trivial⟩) ?_
          refine wa_all [3, 4, 5] (by kernel_rfl) rfl ⟨⟨_, rfl, ?_⟩, ⟨_, rfl, ?_⟩, ⟨_, rfl, ?_⟩, trivial⟩
          · refine wl_callv rfl cb126 rfl rfl (fun wx hm => (lasts_any hv pa ps pm pf ja js jm jf wx)) ?_
            refine wl_nil ?_
            refine nx_wa0 (listed' := #[true, true, true, true, false, false, false, false]) rfl (fun _ hm => ⟨hm.blkI 0 rfl, hm.blkI 1 rfl, hm.blkI 2 rfl, hm.blkI 3 rfl, hm.fact 0 rfl, hm.fact 1 rfl, trivial⟩) ?_
            refine wa_all [4, 5] (by kernel_rfl) rfl ⟨⟨_, rfl, ?_⟩, ⟨_, rfl, ?_⟩, trivial⟩
            · refine wl_alloc zc28 rfl fun g5 => ?_
              refine wl_nil ?_
              refine nx_wa0 (listed' := #[true, true, true, true, true, false, false, false]) rfl (fun _ hm => ⟨hm.blkI 1 rfl, hm.blkI 2 rfl, hm.blkI 3 rfl, hm.blkI 4 rfl, hm.fact 0 rfl, hm.fact 1 rfl, trivial⟩) ?_
              refine wa_all [5] (by kernel_rfl) rfl ⟨⟨_, rfl, ?_⟩, trivial⟩
              refine wl_alloc zc28 rfl fun g6 => ?_
              refine wl_nil ?_
              refine nx_wa0 (listed' := #[true, true, true, true, true, true, false, false]) rfl (fun _ hm => ⟨hm.blkI 2 rfl, hm.blkI 3 rfl, hm.blkI 4 rfl, hm.blkI 5 rfl, hm.fact 0 rfl, hm.fact 1 rfl, trivial⟩) ?_
              refine wa_all [6] (by kernel_rfl) rfl ⟨⟨_, rfl, ?_⟩, trivial⟩
              refine wl_stores (cs' := [.int .i64 (lastA ⟨gv, ⟨oa, os, om, of⟩, ⟨ia, is_, im, if_⟩⟩), .int .i64 (lastB ⟨gv, ⟨oa, os, om, of⟩, ⟨ia, is_, im, if_⟩⟩)]) 1 rz28 rfl rfl rfl rfl rfl rfl rfl rfl ?_
              refine wl_nil ?_
              refine nx_wa0 (listed' := #[true, true, true, true, true, true, true, false]) rfl (fun _ hm => ⟨hm.blkI 2 rfl, hm.blkI 3 rfl, hm.blkI 4 rfl, hm.blkI 5 rfl, hm.fact 0 rfl, hm.fact 1 rfl, trivial⟩) ?_
              refine wa_all [7] (by kernel_rfl) rfl ⟨⟨_, rfl, ?_⟩, trivial⟩
              refine wl_stores (cs' := [.int .i64 (lastA ⟨hv, ⟨pa, ps, pm, pf⟩, ⟨ja, js, jm, jf⟩⟩), .int .i64 (lastB ⟨hv, ⟨pa, ps, pm, pf⟩, ⟨ja, js, jm, jf⟩⟩)]) 0 rz28 rfl rfl rfl rfl rfl rfl rfl rfl ?_
              refine wl_nil ?_
              refine nx_wa0 (listed' := #[true, true, true, true, true, true, true, true]) rfl (fun _ hm => ⟨hm.blkI 2 rfl, hm.blkI 3 rfl, hm.blkI 4 rfl, hm.blkI 5 rfl, hm.fact 0 rfl, hm.fact 1 rfl, trivial⟩) ?_
              refine wa_done (by kernel_rfl) ?_
              exact nx_meet (g5, g6) trivial ⟨rfl, rfl, rfl, rfl, rfl, rfl, rfl, rfl, rfl, rfl, rfl, rfl, rfl, rfl, trivial⟩ (fun _ hm => hm.pick [2, 3, 4, 5, 1, 0] [] [0, 1] rfl rfl)
            · refine wl_alloc zc28 rfl fun g7 => ?_
              refine wl_nil ?_
              refine nx_wa0 (listed' := #[true, true, true, true, false, true, false, false]) rfl (fun _ hm => ⟨hm.blkI 1 rfl, hm.blkI 2 rfl, hm.blkI 3 rfl, hm.blkI 4 rfl, hm.fact 0 rfl, hm.fact 1 rfl, trivial⟩) ?_
              refine wa_all [4] (by kernel_rfl) rfl ⟨⟨_, rfl, ?_⟩, trivial⟩
              refine wl_alloc zc28 rfl fun g8 => ?_
              refine wl_nil ?_
              refine nx_wa0 (listed' := #[true, true, true, true, true, true, false, false]) rfl (fun _ hm => ⟨hm.blkI 2 rfl, hm.blkI 3 rfl, hm.blkI 4 rfl, hm.blkI 5 rfl, hm.fact 0 rfl, hm.fact 1 rfl, trivial⟩) ?_
              refine wa_all [6] (by kernel_rfl) rfl ⟨⟨_, rfl, ?_⟩, trivial⟩
              refine wl_stores (cs' := [.int .i64 (lastA ⟨gv, ⟨oa, os, om, of⟩, ⟨ia, is_, im, if_⟩⟩), .int .i64 (lastB ⟨gv, ⟨oa, os, om, of⟩, ⟨ia, is_, im, if_⟩⟩)]) 0 rz28 rfl rfl rfl rfl rfl rfl rfl rfl ?_
              refine wl_nil ?_
              refine nx_wa0 (listed' := #[true, true, true, true, true, true, true, false]) rfl (fun _ hm => ⟨hm.blkI 2 rfl, hm.blkI 3 rfl, hm.blkI 4 rfl, hm.blkI 5 rfl, hm.fact 0 rfl, hm.fact 1 rfl, trivial⟩) ?_
              refine wa_all [7] (by kernel_rfl) rfl ⟨⟨_, rfl, ?_⟩, trivial⟩
              refine wl_stores (cs' := [.int .i64 (lastA ⟨hv, ⟨pa, ps, pm, pf⟩, ⟨ja, js, jm, jf⟩⟩), .int .i64 (lastB ⟨hv, ⟨pa, ps, pm, pf⟩, ⟨ja, js, jm, jf⟩⟩)]) 1 rz28 rfl rfl rfl rfl rfl rfl rfl rfl ?_
              refine wl_nil ?_
              refine nx_wa0 (listed' := #[true, true, true, true, true, true, true, true]) rfl (fun _ hm => ⟨hm.blkI 2 rfl, hm.blkI 3 rfl, hm.blkI 4 rfl, hm.blkI 5 rfl, hm.fact 0 rfl, hm.fact 1 rfl, trivial⟩) ?_
              refine wa_done (by kernel_rfl) ?_
              exact nx_meet (g8, g7) trivial ⟨rfl, rfl, rfl, rfl, rfl, rfl, rfl, rfl, rfl, rfl, rfl, rfl, rfl, rfl, trivial⟩ (fun _ hm => hm.pick [2, 3, 4, 5, 0, 1] [] [0, 1] rfl rfl)
          · refine wl_alloc zc28 rfl fun g9 => ?_
            refine wl_nil ?_
            refine nx_wa0 (listed' := #[true, true, true, false, true, false, false, false]) rfl (fun _ hm => ⟨hm.blkI 1 rfl, hm.blkI 2 rfl, hm.blkI 3 rfl, hm.blkI 4 rfl, hm.fact 0 rfl, hm.fact 1 rfl, trivial⟩) ?_
            refine wa_all [3, 5] (by kernel_rfl) rfl ⟨⟨_, rfl, ?_⟩, ⟨_, rfl, ?_⟩, trivial⟩
            · refine wl_callv rfl cb126 rfl rfl (fun wx hm => (lasts_any hv pa ps pm pf ja js jm jf wx)) ?_
              refine wl_nil ?_
              refine nx_wa0 (listed' := #[true, true, true, true, true, false, false, false]) rfl (fun _ hm => ⟨hm.blkI 1 rfl, hm.blkI 2 rfl, hm.blkI 3 rfl, hm.blkI 4 rfl, hm.fact 0 rfl, hm.fact 1 rfl, trivial⟩) ?_
              refine wa_all [5] (by kernel_rfl) rfl ⟨⟨_, rfl, ?_⟩, trivial⟩
              refine wl_alloc zc28 rfl fun g10 => ?_
              refine wl_nil ?_
              refine nx_wa0 (listed' := #[true, true, true, true, true, true, false, false]) rfl (fun _ hm => ⟨hm.blkI 2 rfl, hm.blkI 3 rfl, hm.blkI 4 rfl, hm.blkI 5 rfl, hm.fact 0 rfl, hm.fact 1 rfl, trivial⟩) ?_
              refine wa_all [6] (by kernel_rfl) rfl ⟨⟨_, rfl, ?_⟩, trivial⟩
              refine wl_stores (cs' := [.int .i64 (lastA ⟨gv, ⟨oa, os, om, of⟩, ⟨ia, is_, im, if_⟩⟩), .int .i64 (lastB ⟨gv, ⟨oa, os, om, of⟩, ⟨ia, is_, im, if_⟩⟩)]) 1 rz28 rfl rfl rfl rfl rfl rfl rfl rfl ?_
              refine wl_nil ?_
              refine nx_wa0 (listed' := #[true, true, true, true, true, true, true, false]) rfl (fun _ hm => ⟨hm.blkI 2 rfl, hm.blkI 3 rfl, hm.blkI 4 rfl, hm.blkI 5 rfl, hm.fact 0 rfl, hm.fact 1 rfl, trivial⟩) ?_
              refine wa_all [7] (by kernel_rfl) rfl ⟨⟨_, rfl, ?_⟩, trivial⟩
              refine wl_stores (cs' := [.int .i64 (lastA ⟨hv, ⟨pa, ps, pm, pf⟩, ⟨ja, js, jm, jf⟩⟩), .int .i64 (lastB ⟨hv, ⟨pa, ps, pm, pf⟩, ⟨ja, js, jm, jf⟩⟩)]) 0 rz28 rfl rfl rfl rfl rfl rfl rfl rfl ?_
              refine wl_nil ?_
              refine nx_wa0 (listed' := #[true, true, true, true, true, true, true, true]) rfl (fun _ hm => ⟨hm.blkI 2 rfl, hm.blkI 3 rfl, hm.blkI 4 rfl, hm.blkI 5 rfl, hm.fact 0 rfl, hm.fact 1 rfl, trivial⟩) ?_
              refine wa_done (by kernel_rfl) ?_
              exact nx_meet (g9, g10) trivial ⟨rfl, rfl, rfl, rfl, rfl, rfl, rfl, rfl, rfl, rfl, rfl, rfl, rfl, rfl, trivial⟩ (fun _ hm => hm.pick [2, 3, 4, 5, 1, 0] [] [0, 1] rfl rfl)
            · refine wl_alloc zc28 rfl fun g11 => ?_
              refine wl_nil ?_
              refine nx_wa0 (listed' := #[true, true, true, false, true, true, false, false]) rfl (fun _ hm => ⟨hm.blkI 2 rfl, hm.blkI 3 rfl, hm.blkI 4 rfl, hm.blkI 5 rfl, hm.fact 0 rfl, hm.fact 1 rfl, trivial⟩) ?_
              refine wa_all [3] (by kernel_rfl) rfl ⟨⟨_, rfl, ?_⟩, trivial⟩
              refine wl_callv rfl cb126 rfl rfl (fun wx hm => (lasts_any hv pa ps pm pf ja js jm jf wx)) ?_
              refine wl_nil ?_
              refine nx_wa0 (listed' := #[true, true, true, true, true, true, false, false]) rfl (fun _ hm => ⟨hm.blkI 2 rfl, hm.blkI 3 rfl, hm.blkI 4 rfl, hm.blkI 5 rfl, hm.fact 0 rfl, hm.fact 1 rfl, trivial⟩) ?_
              refine wa_all [6] (by kernel_rfl) rfl ⟨⟨_, rfl, ?_⟩, trivial⟩
              refine wl_stores (cs' := [.int .i64 (lastA ⟨gv, ⟨oa, os, om, of⟩, ⟨ia, is_, im, if_⟩⟩), .int .i64 (lastB ⟨gv, ⟨oa, os, om, of⟩, ⟨ia, is_, im, if_⟩⟩)]) 1 rz28 rfl rfl rfl rfl rfl rfl rfl rfl ?_
              refine wl_nil ?_
              refine nx_wa0 (listed' := #[true, true, true, true, true, true, true, false]) rfl (fun _ hm => ⟨hm.blkI 2 rfl, hm.blkI 3 rfl, hm.blkI 4 rfl, hm.blkI 5 rfl, hm.fact 0 rfl, hm.fact 1 rfl, trivial⟩) ?_
              refine wa_all [7] (by kernel_rfl) rfl ⟨⟨_, rfl, ?_⟩, trivial⟩
              refine wl_stores (cs' := [.int .i64 (lastA ⟨hv, ⟨pa, ps, pm, pf⟩, ⟨ja, js, jm, jf⟩⟩), .int .i64 (lastB ⟨hv, ⟨pa, ps, pm, pf⟩, ⟨ja, js, jm, jf⟩⟩)]) 0 rz28 rfl rfl rfl rfl rfl rfl rfl rfl ?_
              refine wl_nil ?_
              refine nx_wa0 (listed' := #[true, true, true, true, true, true, true, true]) rfl (fun _ hm => ⟨hm.blkI 2 rfl, hm.blkI 3 rfl, hm.blkI 4 rfl, hm.blkI 5 rfl, hm.fact 0 rfl, hm.fact 1 rfl, trivial⟩) ?_
              refine wa_done (by kernel_rfl) ?_
              exact nx_meet (g9, g11) trivial ⟨rfl, rfl, rfl, rfl, rfl, rfl, rfl, rfl, rfl, rfl, rfl, rfl, rfl, rfl, trivial⟩ (fun _ hm => hm.pick [2, 3, 4, 5, 1, 0] [] [0, 1] rfl rfl)
          · refine wl_alloc zc28 rfl fun g12 => ?_
            refine wl_nil ?_
            refine nx_wa0 (listed' := #[true, true, true, false, false, true, false, false]) rfl (fun _ hm => ⟨hm.blkI 1 rfl, hm.blkI 2 rfl, hm.blkI 3 rfl, hm.blkI 4 rfl, hm.fact 0 rfl, hm.fact 1 rfl, trivial⟩) ?_
            refine wa_all [3, 4] (by kernel_rfl) rfl ⟨⟨_, rfl, ?_⟩, ⟨_, rfl, ?_⟩, trivial⟩
            · refine wl_callv rfl cb126 rfl rfl (fun wx hm => (lasts_any hv pa ps pm pf ja js jm jf wx)) ?_
              refine wl_nil ?_
              refine nx_wa0 (listed' := #[true, true, true, true, false, true, false, false]) rfl (fun _ hm => ⟨hm.blkI 1 rfl, hm.blkI 2 rfl, hm.blkI 3 rfl, hm.blkI 4 rfl, hm.fact 0 rfl, hm.fact 1 rfl, trivial⟩) ?_
              refine wa_all [4] (by kernel_rfl) rfl ⟨⟨_, rfl, ?_⟩, trivial⟩
              refine wl_alloc zc28 rfl fun g13 => ?_
              refine wl_nil ?_
              refine nx_wa0 (listed' := #[true, true, true, true, true, true, false, false]) rfl (fun _ hm => ⟨hm.blkI 2 rfl, hm.blkI 3 rfl, hm.blkI 4 rfl, hm.blkI 5 rfl, hm.fact 0 rfl, hm.fact 1 rfl, trivial⟩) ?_
              refine wa_all [6] (by kernel_rfl) rfl ⟨⟨_, rfl, ?_⟩, trivial⟩
              refine wl_stores (cs' := [.int .i64 (lastA ⟨gv, ⟨oa, os, om, of⟩, ⟨ia, is_, im, if_⟩⟩), .int .i64 (lastB ⟨gv, ⟨oa, os, om, of⟩, ⟨ia, is_, im, if_⟩⟩)]) 0 rz28 rfl rfl rfl rfl rfl rfl rfl rfl ?_
              refine wl_nil ?_
              refine nx_wa0 (listed' := #[true, true, true, true, true, true, true, false]) rfl (fun _ hm => ⟨hm.blkI 2 rfl, hm.blkI 3 rfl, hm.blkI 4 rfl, hm.blkI 5 rfl, hm.fact 0 rfl, hm.fact 1 rfl, trivial⟩) ?_
              refine wa_all [7] (by kernel_rfl) rfl ⟨⟨_, rfl, ?_⟩, trivial⟩
              refine wl_stores (cs' := [.int .i64 (lastA ⟨hv, ⟨pa, ps, pm, pf⟩, ⟨ja, js, jm, jf⟩⟩), .int .i64 (lastB ⟨hv, ⟨pa, ps, pm, pf⟩, ⟨ja, js, jm, jf⟩⟩)]) 1 rz28 rfl rfl rfl rfl rfl rfl rfl rfl ?_
              refine wl_nil ?_
              refine nx_wa0 (listed' := #[true, true, true, true, true, true, true, true]) rfl (fun _ hm => ⟨hm.blkI 2 rfl, hm.blkI 3 rfl, hm.blkI 4 rfl, hm.blkI 5 rfl, hm.fact 0 rfl, hm.fact 1 rfl, trivial⟩) ?_
              refine wa_done (by kernel_rfl) ?_
              exact nx_meet (g13, g12) trivial ⟨rfl, rfl, rfl, rfl, rfl, rfl, rfl, rfl, rfl, rfl, rfl, rfl, rfl, rfl, trivial⟩ (fun _ hm => hm.pick [2, 3, 4, 5, 0, 1] [] [0, 1] rfl rfl)
            · refine wl_alloc zc28 rfl fun g14 => ?_
              refine wl_nil ?_
              refine nx_wa0 (listed' := #[true, true, true, false, true, true, false, false]) rfl (fun _ hm => ⟨hm.blkI 2 rfl, hm.blkI 3 rfl, hm.blkI 4 rfl, hm.blkI 5 rfl, hm.fact 0 rfl, hm.fact 1 rfl, trivial⟩) ?_
              refine wa_all [3] (by kernel_rfl) rfl ⟨⟨_, rfl, ?_⟩, trivial⟩
              refine wl_callv rfl cb126 rfl rfl (fun wx hm => (lasts_any hv pa ps pm pf ja js jm jf wx)) ?_
              refine wl_nil ?_
              refine nx_wa0 (listed' := #[true, true, true, true, true, true, false, false]) rfl (fun _ hm => ⟨hm.blkI 2 rfl, hm.blkI 3 rfl, hm.blkI 4 rfl, hm.blkI 5 rfl, hm.fact 0 rfl, hm.fact 1 rfl, trivial⟩) ?_
              refine wa_all [6] (by kernel_rfl) rfl ⟨⟨_, rfl, ?_⟩, trivial⟩
              refine wl_stores (cs' := [.int .i64 (lastA ⟨gv, ⟨oa, os, om, of⟩, ⟨ia, is_, im, if_⟩⟩), .int .i64 (lastB ⟨gv, ⟨oa, os, om, of⟩, ⟨ia, is_, im, if_⟩⟩)]) 0 rz28 rfl rfl rfl rfl rfl rfl rfl rfl ?_
              refine wl_nil ?_
              refine nx_wa0 (listed' := #[true, true, true, true, true, true, true, false]) rfl (fun _ hm => ⟨hm.blkI 2 rfl, hm.blkI 3 rfl, hm.blkI 4 rfl, hm.blkI 5 rfl, hm.fact 0 rfl, hm.fact 1 rfl, trivial⟩) ?_
              refine wa_all [7] (by kernel_rfl) rfl ⟨⟨_, rfl, ?_⟩, trivial⟩
              refine wl_stores (cs' := [.int .i64 (lastA ⟨hv, ⟨pa, ps, pm, pf⟩, ⟨ja, js, jm, jf⟩⟩), .int .i64 (lastB ⟨hv, ⟨pa, ps, pm, pf⟩, ⟨ja, js, jm, jf⟩⟩)]) 1 rz28 rfl rfl rfl rfl rfl rfl rfl rfl ?_
              refine wl_nil ?_
              refine nx_wa0 (listed' := #[true, true, true, true, true, true, true, true]) rfl (fun _ hm => ⟨hm.blkI 2 rfl, hm.blkI 3 rfl, hm.blkI 4 rfl, hm.blkI 5 rfl, hm.fact 0 rfl, hm.fact 1 rfl, trivial⟩) ?_
              refine wa_done (by kernel_rfl) ?_
              exact nx_meet (g14, g12) trivial ⟨rfl, rfl, rfl, rfl, rfl, rfl, rfl, rfl, rfl, rfl, rfl, rfl, rfl, rfl, trivial⟩ (fun _ hm => hm.pick [2, 3, 4, 5, 0, 1] [] [0, 1] rfl rfl)
        · refine wl_alloc zc28 rfl fun g15 => ?_
          refine wl_nil ?_
          refine nx_wa0 (listed' := #[true, false, true, false, true, false, false, false]) rfl (fun _ hm => ⟨hm.blkI 1 rfl, hm.blkI 2 rfl, hm.blkI 3 rfl, hm.blkI 4 rfl, hm.fact 0 rfl, hm.fact 1 rfl, trivial⟩) ?_
          refine wa_all [1, 5] (by kernel_rfl) rfl ⟨⟨_, rfl, ?_⟩, ⟨_, rfl, ?_⟩, trivial⟩
          · refine wl_callv rfl cb126 rfl rfl (fun wx hm => (lasts_any gv oa os om of ia is_ im if_ wx)) ?_
            refine wl_nil ?_
            refine nx_wa0 (listed' := #[true, true, true, false, true, false, false, false]) rfl (fun _ hm => ⟨hm.blkI 1 rfl, hm.blkI 2 rfl, hm.blkI 3 rfl, hm.blkI 4 rfl, hm.fact 0 rfl, hm.fact 1 rfl, trivial⟩) ?_
            refine wa_all [3, 5] (by kernel_rfl) rfl ⟨⟨_, rfl, ?_⟩, ⟨_, rfl, ?_⟩, trivial⟩
            · refine wl_callv rfl cb126 rfl rfl (fun wx hm => (lasts_any hv pa ps pm pf ja js jm jf wx)) ?_
              refine wl_nil ?_
              refine nx_wa0 (listed' := #[true, true, true, true, true, false, false, false]) rfl (fun _ hm => ⟨hm.blkI 1 rfl, hm.blkI 2 rfl, hm.blkI 3 rfl, hm.blkI 4 rfl, hm.fact 0 rfl, hm.fact 1 rfl, trivial⟩) ?_
              refine wa_all [5] (by kernel_rfl) rfl ⟨⟨_, rfl, ?_⟩, trivial⟩
              refine wl_alloc zc28 rfl fun g16 => ?_
              refine wl_nil ?_
              refine nx_wa0 (listed' := #[true, true, true, true, true, true, false, false]) rfl (fun _ hm => ⟨hm.blkI 2 rfl, hm.blkI 3 rfl, hm.blkI 4 rfl, hm.blkI 5 rfl, hm.fact 0 rfl, hm.fact 1 rfl, trivial⟩) ?_
              refine wa_all [6] (by kernel_rfl) rfl ⟨⟨_, rfl, ?_⟩, trivial⟩
              refine wl_stores (cs' := [.int .i64 (lastA ⟨gv, ⟨oa, os, om, of⟩, ⟨ia, is_, im, if_⟩⟩), .int .i64 (lastB ⟨gv, ⟨oa, os, om, of⟩, ⟨ia, is_, im, if_⟩⟩)]) 1 rz28 rfl rfl rfl rfl rfl rfl rfl rfl ?_
              refine wl_nil ?_
              refine nx_wa0 (listed' := #[true, true, true, true, true, true, true, false]) rfl (fun _ hm => ⟨hm.blkI 2 rfl, hm.blkI 3 rfl, hm.blkI 4 rfl, hm.blkI 5 rfl, hm.fact 0 rfl, hm.fact 1 rfl, trivial⟩) ?_
              refine wa_all [7] (by kernel_rfl) rfl ⟨⟨_, rfl, ?_⟩, trivial⟩
              refine wl_stores (cs' := [.int .i64 (lastA ⟨hv, ⟨pa, ps, pm, pf⟩, ⟨ja, js, jm, jf⟩⟩), .int .i64 (lastB ⟨hv, ⟨pa, ps, pm, pf⟩, ⟨ja, js, jm, jf⟩⟩)]) 0 rz28 rfl rfl rfl rfl rfl rfl rfl rfl ?_
              refine wl_nil ?_
              refine nx_wa0 (listed' := #[true, true, true, true, true, true, true, true]) rfl (fun _ hm => ⟨hm.blkI 2 rfl, hm.blkI 3 rfl, hm.blkI 4 rfl, hm.blkI 5 rfl, hm.fact 0 rfl, hm.fact 1 rfl, trivial⟩) ?_
              refine wa_done (by kernel_rfl) ?_
              exact nx_meet (g15, g16) trivial ⟨rfl, rfl, rfl, rfl, rfl, rfl, rfl, rfl, rfl, rfl, rfl, rfl, rfl, rfl, trivial⟩ (fun _ hm => hm.pick [2, 3, 4, 5, 1, 0] [] [0, 1] rfl rfl)
            · refine wl_alloc zc28 rfl fun g17 => ?_
              refine wl_nil ?_
              refine nx_wa0 (listed' := #[true, true, true, false, true, true, false, false]) rfl (fun _ hm => ⟨hm.blkI 2 rfl, hm.blkI 3 rfl, hm.blkI 4 rfl, hm.blkI 5 rfl, hm.fact 0 rfl, hm.fact 1 rfl, trivial⟩) ?_
              refine wa_all [3] (by kernel_rfl) rfl ⟨⟨_, rfl, ?_⟩, trivial⟩
              refine wl_callv rfl cb126 rfl rfl (fun wx hm => (lasts_any hv pa ps pm pf ja js jm jf wx)) ?_
              refine wl_nil ?_
              refine nx_wa0 (listed' := #[true, true, true, true, true, true, false, false]) rfl (fun _ hm => ⟨hm.blkI 2 rfl, hm.blkI 3 rfl, hm.blkI 4 rfl, hm.blkI 5 rfl, hm.fact 0 rfl, hm.fact 1 rfl, trivial⟩) ?_
              refine wa_all [6] (by kernel_rfl) rfl ⟨⟨_, rfl, ?_⟩, trivial⟩
              refine wl_stores (cs' := [.int .i64 (lastA ⟨gv, ⟨oa, os, om, of⟩, ⟨ia, is_, im, if_⟩⟩), .int .i64 (lastB ⟨gv, ⟨oa, os, om, of⟩, ⟨ia, is_, im, if_⟩⟩)]) 1 rz28 rfl rfl rfl rfl rfl rfl rfl rfl ?_
              refine wl_nil ?_
              refine nx_wa0 (listed' := #[true, true, true, true, true, true, true, false]) rfl (fun _ hm => ⟨hm.blkI 2 rfl, hm.blkI 3 rfl, hm.blkI 4 rfl, hm.blkI 5 rfl, hm.fact 0 rfl, hm.fact 1 rfl, trivial⟩) ?_
              refine wa_all [7] (by kernel_rfl) rfl ⟨⟨_, rfl, ?_⟩, trivial⟩
              refine wl_stores (cs' := [.int .i64 (lastA ⟨hv, ⟨pa, ps, pm, pf⟩, ⟨ja, js, jm, jf⟩⟩), .int .i64 (lastB ⟨hv, ⟨pa, ps, pm, pf⟩, ⟨ja, js, jm, jf⟩⟩)]) 0 rz28 rfl rfl rfl rfl rfl rfl rfl rfl ?_
              refine wl_nil ?_
              refine nx_wa0 (listed' := #[true, true, true, true, true, true, true, true]) rfl (fun _ hm => ⟨hm.blkI 2 rfl, hm.blkI 3 rfl, hm.blkI 4 rfl, hm.blkI 5 rfl, hm.fact 0 rfl, hm.fact 1 rfl, trivial⟩) ?_
              refine wa_done (by kernel_rfl) ?_
              exact nx_meet (g15, g17) trivial ⟨rfl, rfl, rfl, rfl, rfl, rfl, rfl, rfl, rfl, rfl, rfl, rfl, rfl, rfl, trivial⟩ (fun _ hm => hm.pick [2, 3, 4, 5, 1, 0] [] [0, 1] rfl rfl)
          · refine wl_alloc zc28 rfl fun g18 => ?_
            refine wl_nil ?_
            refine nx_wa0 (listed' := #[true, false, true, false, true, true, false, false]) rfl (fun _ hm => ⟨hm.blkI 2 rfl, hm.blkI 3 rfl, hm.blkI 4 rfl, hm.blkI 5 rfl, hm.fact 0 rfl, hm.fact 1 rfl, trivial⟩) ?_
            refine wa_all [1] (by kernel_rfl) rfl ⟨⟨_, rfl, ?_⟩, trivial⟩
            refine wl_callv rfl cb126 rfl rfl (fun wx hm => (lasts_any gv oa os om of ia is_ im if_ wx)) ?_
            refine wl_nil ?_
            refine nx_wa0 (listed' := #[true, true, true, false, true, true, false, false]) rfl (fun _ hm => ⟨hm.blkI 2 rfl, hm.blkI 3 rfl, hm.blkI 4 rfl, hm.blkI 5 rfl, hm.fact 0 rfl, hm.fact 1 rfl, trivial⟩) ?_
            refine wa_all [3] (by kernel_rfl) rfl ⟨⟨_, rfl, ?_⟩, trivial⟩
            refine wl_callv rfl cb126 rfl rfl (fun wx hm => (lasts_any hv pa ps pm pf ja js jm jf wx)) ?_
            refine wl_nil ?_
            refine nx_wa0 (listed' := #[true, true, true, true, true, true, false, false]) rfl (fun _ hm => ⟨hm.blkI 2 rfl, hm.blkI 3 rfl, hm.blkI 4 rfl, hm.blkI 5 rfl, hm.fact 0 rfl, hm.fact 1 rfl, trivial⟩) ?_
            refine wa_all [6] (by kernel_rfl) rfl ⟨⟨_, rfl, ?_⟩, trivial⟩
            refine wl_stores (cs' := [.int .i64 (lastA ⟨gv, ⟨oa, os, om, of⟩, ⟨ia, is_, im, if_⟩⟩), .int .i64 (lastB ⟨gv, ⟨oa, os, om, of⟩, ⟨ia, is_, im, if_⟩⟩)]) 1 rz28 rfl rfl rfl rfl rfl rfl rfl rfl ?_
            refine wl_nil ?_
            refine nx_wa0 (listed' := #[true, true, true, true, true, true, true, false]) rfl (fun _ hm => ⟨hm.blkI 2 rfl, hm.blkI 3 rfl, hm.blkI 4 rfl, hm.blkI 5 rfl, hm.fact 0 rfl, hm.fact 1 rfl, trivial⟩) ?_
            refine wa_all [7] (by kernel_rfl) rfl ⟨⟨_, rfl, ?_⟩, trivial⟩
            refine wl_stores (cs' := [.int .i64 (lastA ⟨hv, ⟨pa, ps, pm, pf⟩, ⟨ja, js, jm, jf⟩⟩), .int .i64 (lastB ⟨hv, ⟨pa, ps, pm, pf⟩, ⟨ja, js, jm, jf⟩⟩)]) 0 rz28 rfl rfl rfl rfl rfl rfl rfl rfl ?_
            refine wl_nil ?_
            refine nx_wa0 (listed' := #[true, true, true, true, true, true, true, true]) rfl (fun _ hm => ⟨hm.blkI 2 rfl, hm.blkI 3 rfl, hm.blkI 4 rfl, hm.blkI 5 rfl, hm.fact 0 rfl, hm.fact 1 rfl, trivial⟩) ?_
            refine wa_done (by kernel_rfl) ?_
            exact nx_meet (g15, g18) trivial ⟨rfl, rfl, rfl, rfl, rfl, rfl, rfl, rfl, rfl, rfl, rfl, rfl, rfl, rfl, trivial⟩ (fun _ hm => hm.pick [2, 3, 4, 5, 1, 0] [] [0, 1] rfl rfl)
        · refine wl_alloc zc28 rfl fun g19 => ?_
          refine wl_nil ?_
          refine nx_wa0 (listed' := #[true, false, true, false, false, true, false, false]) rfl (fun _ hm => ⟨hm.blkI 1 rfl, hm.blkI 2 rfl, hm.blkI 3 rfl, hm.blkI 4 rfl, hm.fact 0 rfl, hm.fact 1 rfl, trivial⟩) ?_
          refine wa_all [1, 4] (by kernel_rfl) rfl ⟨⟨_, rfl, ?_⟩, ⟨_, rfl, ?_⟩, trivial⟩
          · refine wl_callv rfl cb126 rfl rfl (fun wx hm => (lasts_any gv oa os om of ia is_ im if_ wx)) ?_
            refine wl_nil ?_
            refine nx_wa0 (listed' := #[true, true, true, false, false, true, false, false]) rfl (fun _ hm => ⟨hm.blkI 1 rfl, hm.blkI 2 rfl, hm.blkI 3 rfl, hm.blkI 4 rfl, hm.fact 0 rfl, hm.fact 1 rfl, trivial⟩) ?_
            refine wa_all [3, 4] (by kernel_rfl) rfl ⟨⟨_, rfl, ?_⟩, ⟨_, rfl, ?_⟩, trivial⟩
            · refine wl_callv rfl cb126 rfl rfl (fun wx hm => (lasts_any hv pa ps pm pf ja js jm jf wx)) ?_
              refine wl_nil ?_
              refine nx_wa0 (listed' := #[true, true, true, true, false, true, false, false]) rfl (fun _ hm => ⟨hm.blkI 1 rfl, hm.blkI 2 rfl, hm.blkI 3 rfl, hm.blkI 4 rfl, hm.fact 0 rfl, hm.fact 1 rfl, trivial⟩) ?_
              refine wa_all [4] (by kernel_rfl) rfl ⟨⟨_, rfl, ?_⟩, trivial⟩
              refine wl_alloc zc28 rfl fun g20 => ?_
              refine wl_nil ?_
              refine nx_wa0 (listed' := #[true, true, true, true, true, true, false, false]) rfl (fun _ hm => ⟨hm.blkI 2 rfl, hm.blkI 3 rfl, hm.blkI 4 rfl, hm.blkI 5 rfl, hm.fact 0 rfl, hm.fact 1 rfl, trivial⟩) ?_
              refine wa_all [6] (by kernel_rfl) rfl ⟨⟨_, rfl, ?_⟩, trivial⟩
              refine wl_stores (cs' := [.int .i64 (lastA ⟨gv, ⟨oa, os, om, of⟩, ⟨ia, is_, im, if_⟩⟩), .int .i64 (lastB ⟨gv, ⟨oa, os, om, of⟩, ⟨ia, is_, im, if_⟩⟩)]) 0 rz28 rfl rfl rfl rfl rfl rfl rfl rfl ?_
              refine wl_nil ?_
              refine nx_wa0 (listed' := #[true, true, true, true, true, true, true, false]) rfl (fun _ hm => ⟨hm.blkI 2 rfl, hm.blkI 3 rfl, hm.blkI 4 rfl, hm.blkI 5 rfl, hm.fact 0 rfl, hm.fact 1 rfl, trivial⟩) ?_
              refine wa_all [7] (by kernel_rfl) rfl ⟨⟨_, rfl, ?_⟩, trivial⟩
              refine wl_stores (cs' := [.int .i64 (lastA ⟨hv, ⟨pa, ps, pm, pf⟩, ⟨ja, js, jm, jf⟩⟩), .int .i64 (lastB ⟨hv, ⟨pa, ps, pm, pf⟩, ⟨ja, js, jm, jf⟩⟩)]) 1 rz28 rfl rfl rfl rfl rfl rfl rfl rfl ?_
              refine wl_nil ?_
              refine nx_wa0 (listed' := #[true, true, true, true, true, true, true, true]) rfl (fun _ hm => ⟨hm.blkI 2 rfl, hm.blkI 3 rfl, hm.blkI 4 rfl, hm.blkI 5 rfl, hm.fact 0 rfl, hm.fact 1 rfl, trivial⟩) ?_
              refine wa_done (by kernel_rfl) ?_
              exact nx_meet (g20, g19) trivial ⟨rfl, rfl, rfl, rfl, rfl, rfl, rfl, rfl, rfl, rfl, rfl, rfl, rfl, rfl, trivial⟩ (fun _ hm => hm.pick [2, 3, 4, 5, 0, 1] [] [0, 1] rfl rfl)
            · refine wl_alloc zc28 rfl fun g21 => ?_
              refine wl_nil ?_
              refine nx_wa0 (listed' := #[true, true, true, false, true, true, false, false]) rfl (fun _ hm => ⟨hm.blkI 2 rfl, hm.blkI 3 rfl, hm.blkI 4 rfl, hm.blkI 5 rfl, hm.fact 0 rfl, hm.fact 1 rfl, trivial⟩) ?_
              refine wa_all [3] (by kernel_rfl) rfl ⟨⟨_, rfl, ?_⟩, trivial⟩
              refine wl_callv rfl cb126 rfl rfl (fun wx hm => (lasts_any hv pa ps pm pf ja js jm jf wx)) ?_
              refine wl_nil ?_
              refine nx_wa0 (listed' := #[true, true, true, true, true, true, false, false]) rfl (fun _ hm => ⟨hm.blkI 2 rfl, hm.blkI 3 rfl, hm.blkI 4 rfl, hm.blkI 5 rfl, hm.fact 0 rfl, hm.fact 1 rfl, trivial⟩) ?_
              refine wa_all [6] (by kernel_rfl) rfl ⟨⟨_, rfl, ?_⟩, trivial⟩
              refine wl_stores (cs' := [.int .i64 (lastA ⟨gv, ⟨oa, os, om, of⟩, ⟨ia, is_, im, if_⟩⟩), .int .i64 (lastB ⟨gv, ⟨oa, os, om, of⟩, ⟨ia, is_, im, if_⟩⟩)]) 0 rz28 rfl rfl rfl rfl rfl rfl rfl rfl ?_
              refine wl_nil ?_
              refine nx_wa0 (listed' := #[true, true, true, true, true, true, true, false]) rfl (fun _ hm => ⟨hm.blkI 2 rfl, hm.blkI 3 rfl, hm.blkI 4 rfl, hm.blkI 5 rfl, hm.fact 0 rfl, hm.fact 1 rfl, trivial⟩) ?_
              refine wa_all [7] (by kernel_rfl) rfl ⟨⟨_, rfl, ?_⟩, trivial⟩
              refine wl_stores (cs' := [.int .i64 (lastA ⟨hv, ⟨pa, ps, pm, pf⟩, ⟨ja, js, jm, jf⟩⟩), .int .i64 (lastB ⟨hv, ⟨pa, ps, pm, pf⟩, ⟨ja, js, jm, jf⟩⟩)]) 1 rz28 rfl rfl rfl rfl rfl rfl rfl rfl ?_
              refine wl_nil ?_
              refine nx_wa0 (listed' := #[true, true, true, true, true, true, true, true]) rfl (fun _ hm => ⟨hm.blkI 2 rfl, hm.blkI 3 rfl, hm.blkI 4 rfl, hm.blkI 5 rfl, hm.fact 0 rfl, hm.fact 1 rfl, trivial⟩) ?_
              refine wa_done (by kernel_rfl) ?_
              exact nx_meet (g21, g19) trivial ⟨rfl, rfl, rfl, rfl, rfl, rfl, rfl, rfl, rfl, rfl, rfl, rfl, rfl, rfl, trivial⟩ (fun _ hm => hm.pick [2, 3, 4, 5, 0, 1] [] [0, 1] rfl rfl)
          · refine wl_alloc zc28 rfl fun g22 => ?_
            refine wl_nil ?_
            refine nx_wa0 (listed' := #[true, false, true, false, true, true, false, false]) rfl (fun _ hm => ⟨hm.blkI 2 rfl, hm.blkI 3 rfl, hm.blkI 4 rfl, hm.blkI 5 rfl, hm.fact 0 rfl, hm.fact 1 rfl, trivial⟩) ?_
            refine wa_all [1] (by kernel_rfl) rfl ⟨⟨_, rfl, ?_⟩, trivial⟩
            refine wl_callv rfl cb126 rfl rfl (fun wx hm => (lasts_any gv oa os om of ia is_ im if_ wx)) ?_
            refine wl_nil ?_
            refine nx_wa0 (listed' := #[true, true, true, false, true, true, false, false]) rfl (fun _ hm => ⟨hm.blkI 2 rfl, hm.blkI 3 rfl, hm.blkI 4 rfl, hm.blkI 5 rfl, hm.fact 0 rfl, hm.fact 1 rfl, trivial⟩) ?_
            refine wa_all [3] (by kernel_rfl) rfl ⟨⟨_, rfl, ?_⟩, trivial⟩
            refine wl_callv rfl cb126 rfl rfl (fun wx hm => (lasts_any hv pa ps pm pf ja js jm jf wx)) ?_
            refine wl_nil ?_
            refine nx_wa0 (listed' := #[true, true, true, true, true, true, false, false]) rfl (fun _ hm => ⟨hm.blkI 2 rfl, hm.blkI 3 rfl, hm.blkI 4 rfl, hm.blkI 5 rfl, hm.fact 0 rfl, hm.fact 1 rfl, trivial⟩) ?_
            refine wa_all [6] (by kernel_rfl) rfl ⟨⟨_, rfl, ?_⟩, trivial⟩
            refine wl_stores (cs' := [.int .i64 (lastA ⟨gv, ⟨oa, os, om, of⟩, ⟨ia, is_, im, if_⟩⟩), .int .i64 (lastB ⟨gv, ⟨oa, os, om, of⟩, ⟨ia, is_, im, if_⟩⟩)]) 0 rz28 rfl rfl rfl rfl rfl rfl rfl rfl ?_
            refine wl_nil ?_
            refine nx_wa0 (listed' := #[true, true, true, true, true, true, true, false]) rfl (fun _ hm => ⟨hm.blkI 2 rfl, hm.blkI 3 rfl, hm.blkI 4 rfl, hm.blkI 5 rfl, hm.fact 0 rfl, hm.fact 1 rfl, trivial⟩) ?_
            refine wa_all [7] (by kernel_rfl) rfl ⟨⟨_, rfl, ?_⟩, trivial⟩
            refine wl_stores (cs' := [.int .i64 (lastA ⟨hv, ⟨pa, ps, pm, pf⟩, ⟨ja, js, jm, jf⟩⟩), .int .i64 (lastB ⟨hv, ⟨pa, ps, pm, pf⟩, ⟨ja, js, jm, jf⟩⟩)]) 1 rz28 rfl rfl rfl rfl rfl rfl rfl rfl ?_
            refine wl_nil ?_
            refine nx_wa0 (listed' := #[true, true, true, true, true, true, true, true]) rfl (fun _ hm => ⟨hm.blkI 2 rfl, hm.blkI 3 rfl, hm.blkI 4 rfl, hm.blkI 5 rfl, hm.fact 0 rfl, hm.fact 1 rfl, trivial⟩) ?_
            refine wa_done (by kernel_rfl) ?_
            exact nx_meet (g22, g19) trivial ⟨rfl, rfl, rfl, rfl, rfl, rfl, rfl, rfl, rfl, rfl, rfl, rfl, rfl, rfl, trivial⟩ (fun _ hm => hm.pick [2, 3, 4, 5, 0, 1] [] [0, 1] rfl rfl)
      · rintro ⟨gwa, gwb⟩ hinv
        replace hinv : True := hinv
        dsimp only
        refine gw_seq ?_
        refine gw_region ?_
        clear hinv
        obtain ⟨SP, hSP⟩ : ∃ S, S = startP ⟨gv, ⟨oa, os, om, of⟩, ⟨ia, is_, im, if_⟩⟩ ⟨hv, ⟨pa, ps, pm, pf⟩, ⟨ja, js, jm, jf⟩⟩ := ⟨_, rfl⟩
        rw [← hSP] at hrs
        refine wl_ov (ov_field fo28_0 rfl rfl) rfl ?_
        refine wl_ov (ov_load sc3 rfl (fun _ hm => hm.blkI 4 rfl) rfl) rfl ?_
        refine wl_ov (ov_field fo28_0 rfl rfl) rfl ?_
        refine wl_ov (ov_load sc3 rfl (fun _ hm => hm.blkI 5 rfl) rfl) rfl ?_
        refine wl_ov (ov_max rfl rfl) rfl ?_
        refine wl_set 37 (v' := .int .i64 SP) rfl (congrArg (Value.int .i64) hSP.symm) ?_
        refine wl_ov (ov_assign rfl) rfl ?_
        refine wl_nil ?_
        refine nx_then ?_
        refine gw_seq ?_
        refine gw_region ?_
        refine wl_ov (ov_move rfl) rfl ?_
        refine wl_ov (ov_un_not rfl) rfl ?_
        refine wl_set 39 (v' := .bool false) rfl (congrArg Value.bool (by decide)) ?_
        refine wl_ov (ov_move rfl) rfl ?_
        refine wl_guard_on rfl rfl rfl ?_
        refine wl_ov (ov_field fo138_0 rfl rfl) rfl ?_
        refine wl_guard_on rfl rfl rfl ?_
        refine wl_ov (ov_load sc9 rfl (fun _ hm => hm.blkI 1 rfl) rfl) rfl ?_
        refine wl_guard_on rfl rfl rfl ?_
        refine wl_ov (ov_field fo138_0 rfl rfl) rfl ?_
        refine wl_guard_on rfl rfl rfl ?_
        refine wl_ov (ov_load sc9 rfl (fun _ hm => hm.blkI 0 rfl) rfl) rfl ?_
        refine wl_guard_on rfl rfl rfl ?_
        refine wl_ov (ov_seql rfl rfl) rfl ?_
        refine wl_ov (ov_pick_f rfl rfl) rfl ?_
        refine wl_ov (ov_move rfl) rfl ?_
        rcases Bool.eq_false_or_eq_true (gv.toList == hv.toList) with hq | hq
        · refine wl_set 47 rfl (congrArg Value.bool hq) ?_
          refine wl_guard_on rfl rfl rfl ?_
          refine wl_ov (ov_move rfl) rfl ?_
          refine wl_guard_on rfl rfl rfl ?_
          refine wl_ov (ov_field fo28_1 rfl rfl) rfl ?_
          refine wl_guard_on rfl rfl rfl ?_
          refine wl_ov (ov_load sc3 rfl (fun _ hm => hm.blkI 4 rfl) rfl) rfl ?_
          refine wl_guard_on rfl rfl rfl ?_
          refine wl_ov (ov_field fo28_1 rfl rfl) rfl ?_
          refine wl_guard_on rfl rfl rfl ?_
          refine wl_ov (ov_load sc3 rfl (fun _ hm => hm.blkI 5 rfl) rfl) rfl ?_
          refine wl_guard_on rfl rfl rfl ?_
          refine wl_ov (ov_min rfl rfl) rfl ?_
          refine wl_guard_on rfl rfl rfl ?_
          refine wl_ov (ov_lss rfl rfl) rfl ?_
          refine wl_ov (ov_pick_t rfl rfl) rfl ?_
          refine wl_ov (ov_move rfl) rfl ?_
          rcases Bool.eq_false_or_eq_true (decide (SP < min (lastB ⟨gv, ⟨oa, os, om, of⟩, ⟨ia, is_, im, if_⟩⟩) (lastB ⟨hv, ⟨pa, ps, pm, pf⟩, ⟨ja, js, jm, jf⟩⟩))) with h2 | h2
          · refine wl_set 56 rfl (congrArg Value.bool h2) ?_
            replace h2 := of_decide_eq_true h2
            refine wl_guard_on rfl rfl rfl ?_
            refine wl_ov (ov_move rfl) rfl ?_
            refine wl_guard_on rfl rfl rfl ?_
            refine wl_ov (ov_lss rfl rfl) rfl ?_
            refine wl_guard_on rfl rfl rfl ?_
            refine wl_ov (ov_move rfl) rfl ?_
            rcases Bool.eq_false_or_eq_true (decide (RQ < 0)) with h3 | h3
            · refine wl_set 59 rfl (congrArg Value.bool h3) ?_
              replace h3 := of_decide_eq_true h3
              refine wl_guard_off rfl rfl rfl (by decide) rfl ?_
              refine wl_guard_off rfl rfl rfl (by decide) rfl ?_
              refine wl_guard_off rfl rfl rfl (by decide) rfl ?_
              refine wl_guard_on rfl rfl rfl ?_
              refine wl_ov (ov_pick_t rfl rfl) rfl ?_
              refine wl_ov (ov_pick_t rfl rfl) rfl ?_
              refine wl_nil ?_
              refine nx_then ?_
              refine gw_cond rfl (fun _ => ?_) (fun hh => by cases hh)
              refine gw_region ?_
              refine wl_ov (ov_move rfl) rfl ?_
              refine wl_ov (ov_assign rfl) rfl ?_
              refine wl_nil ?_
              refine nx_blk_nrm ?_
              refine nx_then ?_
              refine gw_region ?_
              refine wl_ov (ov_add rfl rfl (by omega) (by omega)) rfl ?_
              refine wl_ov (ov_move rfl) rfl ?_
              refine wl_nil ?_
              have hok : okP true ⟨gv, ⟨oa, os, om, of⟩, ⟨ia, is_, im, if_⟩⟩ ⟨hv, ⟨pa, ps, pm, pf⟩, ⟨ja, js, jm, jf⟩⟩ = true := by unfold okP; rw [← hSP]; rw [decide_eq_true (show SP < min (lastB ⟨gv, ⟨oa, os, om, of⟩, ⟨ia, is_, im, if_⟩⟩) (lastB ⟨hv, ⟨pa, ps, pm, pf⟩, ⟨ja, js, jm, jf⟩⟩) from h2)]; simp only [hq]; rfl
              rw [hok] at hrs
              have hv : repr (inF true ⟨gv, ⟨oa, os, om, of⟩, ⟨ia, is_, im, if_⟩⟩ (l2.take (j + 1)) Y) = SP := by rw [hQn, hrs]; rw [if_pos ⟨rfl, .inl h3⟩]
              exact nx_round (j + 1) (by omega) (by omega) ⟨rfl, rfl, rfl, (some_int hv.symm), rfl, rfl, rfl, rfl, rfl, rfl, (some_int (by omega)), trivial⟩ (fun _ hm => hm.pick [1, 2, 3] [] [0, 1] rfl rfl)
            · refine wl_set 59 rfl (congrArg Value.bool h3) ?_
              replace h3 := of_decide_eq_false h3
              refine wl_guard_on rfl rfl rfl ?_
              refine wl_ov (ov_move rfl) rfl ?_
              refine wl_guard_on rfl rfl rfl ?_
              refine wl_ov (ov_move rfl) rfl ?_
              refine wl_guard_on rfl rfl rfl ?_
              refine wl_ov (ov_lss rfl rfl) rfl ?_
              refine wl_guard_on rfl rfl rfl ?_
              refine wl_ov (ov_pick_f rfl rfl) rfl ?_
              refine wl_ov (ov_pick_t rfl rfl) rfl ?_
              refine wl_nil ?_
              refine nx_then ?_
              refine gw_cond rfl (fun hh => ?_) (fun hh => ?_)
              · have h4 : SP < RQ := by simpa using hh
                clear hh
                refine gw_region ?_
                refine wl_ov (ov_move rfl) rfl ?_
                refine wl_ov (ov_assign rfl) rfl ?_
                refine wl_nil ?_
                refine nx_blk_nrm ?_
                refine nx_then ?_
                refine gw_region ?_
                refine wl_ov (ov_add rfl rfl (by omega) (by omega)) rfl ?_
                refine wl_ov (ov_move rfl) rfl ?_
                refine wl_nil ?_
                have hok : okP true ⟨gv, ⟨oa, os, om, of⟩, ⟨ia, is_, im, if_⟩⟩ ⟨hv, ⟨pa, ps, pm, pf⟩, ⟨ja, js, jm, jf⟩⟩ = true := by unfold okP; rw [← hSP]; rw [decide_eq_true (show SP < min (lastB ⟨gv, ⟨oa, os, om, of⟩, ⟨ia, is_, im, if_⟩⟩) (lastB ⟨hv, ⟨pa, ps, pm, pf⟩, ⟨ja, js, jm, jf⟩⟩) from h2)]; simp only [hq]; rfl
                rw [hok] at hrs
                have hv : repr (inF true ⟨gv, ⟨oa, os, om, of⟩, ⟨ia, is_, im, if_⟩⟩ (l2.take (j + 1)) Y) = SP := by rw [hQn, hrs]; rw [if_pos ⟨rfl, .inr h4⟩]
                exact nx_round (j + 1) (by omega) (by omega) ⟨rfl, rfl, rfl, (some_int hv.symm), rfl, rfl, rfl, rfl, rfl, rfl, (some_int (by omega)), trivial⟩ (fun _ hm => hm.pick [1, 2, 3] [] [0, 1] rfl rfl)
              · have h4 : ¬ (SP < RQ) := by simpa using hh
                clear hh
                refine gw_skip ?_
                refine nx_blk_nrm ?_
                refine nx_then ?_
                refine gw_region ?_
                refine wl_ov (ov_add rfl rfl (by omega) (by omega)) rfl ?_
                refine wl_ov (ov_move rfl) rfl ?_
                refine wl_nil ?_
                have hok : okP true ⟨gv, ⟨oa, os, om, of⟩, ⟨ia, is_, im, if_⟩⟩ ⟨hv, ⟨pa, ps, pm, pf⟩, ⟨ja, js, jm, jf⟩⟩ = true := by unfold okP; rw [← hSP]; rw [decide_eq_true (show SP < min (lastB ⟨gv, ⟨oa, os, om, of⟩, ⟨ia, is_, im, if_⟩⟩) (lastB ⟨hv, ⟨pa, ps, pm, pf⟩, ⟨ja, js, jm, jf⟩⟩) from h2)]; simp only [hq]; rfl
                rw [hok] at hrs
                have hv : repr (inF true ⟨gv, ⟨oa, os, om, of⟩, ⟨ia, is_, im, if_⟩⟩ (l2.take (j + 1)) Y) = RQ := by rw [hQn, hrs]; rw [if_neg (fun h => h.2.elim h3 h4)]
                exact nx_round (j + 1) (by omega) (by omega) ⟨rfl, rfl, rfl, (some_int hv.symm), rfl, rfl, rfl, rfl, rfl, rfl, (some_int (by omega)), trivial⟩ (fun _ hm => hm.pick [1, 2, 3] [] [0, 1] rfl rfl)
          · refine wl_set 56 rfl (congrArg Value.bool h2) ?_
            replace h2 := of_decide_eq_false h2
            refine wl_guard_off rfl rfl rfl (by decide) rfl ?_
            refine wl_guard_off rfl rfl rfl (by decide) rfl ?_
            refine wl_guard_off rfl rfl rfl (by decide) rfl ?_
            refine wl_guard_undef rfl rfl rfl rfl ?_
            refine wl_guard_undef rfl rfl rfl rfl ?_
            refine wl_guard_undef rfl rfl rfl rfl ?_
            refine wl_guard_off rfl rfl rfl (by decide) rfl ?_
            refine wl_ov (ov_pick_f rfl rfl) rfl ?_
            refine wl_nil ?_
            refine nx_then ?_
            refine gw_cond rfl (fun hh => by cases hh) (fun _ => ?_)
            refine gw_skip ?_
            refine nx_blk_nrm ?_
            refine nx_then ?_
            refine gw_region ?_
            refine wl_ov (ov_add rfl rfl (by omega) (by omega)) rfl ?_
            refine wl_ov (ov_move rfl) rfl ?_
            refine wl_nil ?_
            have hok : okP true ⟨gv, ⟨oa, os, om, of⟩, ⟨ia, is_, im, if_⟩⟩ ⟨hv, ⟨pa, ps, pm, pf⟩, ⟨ja, js, jm, jf⟩⟩ = false := by unfold okP; rw [← hSP]; rw [decide_eq_false (show ¬ SP < min (lastB ⟨gv, ⟨oa, os, om, of⟩, ⟨ia, is_, im, if_⟩⟩) (lastB ⟨hv, ⟨pa, ps, pm, pf⟩, ⟨ja, js, jm, jf⟩⟩) from h2)]; simp
            rw [hok] at hrs
            have hv : repr (inF true ⟨gv, ⟨oa, os, om, of⟩, ⟨ia, is_, im, if_⟩⟩ (l2.take (j + 1)) Y) = RQ := by rw [hQn, hrs]; simp
            exact nx_round (j + 1) (by omega) (by omega) ⟨rfl, rfl, rfl, (some_int hv.symm), rfl, rfl, rfl, rfl, rfl, rfl, (some_int (by omega)), trivial⟩ (fun _ hm => hm.pick [1, 2, 3] [] [0, 1] rfl rfl)
        · refine wl_set 47 rfl (congrArg Value.bool hq) ?_
          refine wl_guard_off rfl rfl rfl (by decide) rfl ?_
          refine wl_guard_off rfl rfl rfl (by decide) rfl ?_
          refine wl_guard_off rfl rfl rfl (by decide) rfl ?_
          refine wl_guard_off rfl rfl rfl (by decide) rfl ?_
          refine wl_guard_off rfl rfl rfl (by decide) rfl ?_
          refine wl_guard_off rfl rfl rfl (by decide) rfl ?_
          refine wl_guard_off rfl rfl rfl (by decide) rfl ?_
          refine wl_ov (ov_pick_f rfl rfl) rfl ?_
          refine wl_ov (ov_move rfl) rfl ?_
          refine wl_guard_off rfl rfl rfl (by decide) rfl ?_
          refine wl_guard_off rfl rfl rfl (by decide) rfl ?_
          refine wl_guard_off rfl rfl rfl (by decide) rfl ?_
          refine wl_guard_undef rfl rfl rfl rfl ?_
          refine wl_guard_undef rfl rfl rfl rfl ?_
          refine wl_guard_undef rfl rfl rfl rfl ?_
          refine wl_guard_off rfl rfl rfl (by decide) rfl ?_
          refine wl_ov (ov_pick_f rfl rfl) rfl ?_
          refine wl_nil ?_
          refine nx_then ?_
          refine gw_cond rfl (fun hh => by cases hh) (fun _ => ?_)
          refine gw_skip ?_
          refine nx_blk_nrm ?_
          refine nx_then ?_
          refine gw_region ?_
          refine wl_ov (ov_add rfl rfl (by omega) (by omega)) rfl ?_
          refine wl_ov (ov_move rfl) rfl ?_
          refine wl_nil ?_
          have hok : okP true ⟨gv, ⟨oa, os, om, of⟩, ⟨ia, is_, im, if_⟩⟩ ⟨hv, ⟨pa, ps, pm, pf⟩, ⟨ja, js, jm, jf⟩⟩ = false := by unfold okP; rw [← hSP]; simp only [hq]; rfl
          rw [hok] at hrs
          have hv : repr (inF true ⟨gv, ⟨oa, os, om, of⟩, ⟨ia, is_, im, if_⟩⟩ (l2.take (j + 1)) Y) = RQ := by rw [hQn, hrs]; simp
          exact nx_round (j + 1) (by omega) (by omega) ⟨rfl, rfl, rfl, (some_int hv.symm), rfl, rfl, rfl, rfl, rfl, rfl, (some_int (by omega)), trivial⟩ (fun _ hm => hm.pick [1, 2, 3] [] [0, 1] rfl rfl)
    · have hj : ¬ (((j : Nat) : Int) < ((n2 : Nat) : Int)) := by simpa using hh
      clear hh
      refine gw_exit ?_
      refine nx_then_exit ?_
      refine nx_then_exit ?_
      refine nx_blk_here ?_
      refine nx_blk_nrm ?_
      refine nx_then ?_
      refine gw_region ?_
      have hjn : l2.take j = l2 := List.take_of_length_le (by omega)
      refine wl_ov (ov_add rfl rfl (by omega) (by omega)) rfl ?_
      refine wl_ov (ov_move rfl) rfl ?_
      refine wl_nil ?_
      exact nx_round (k + 1) (by omega) (by omega) ⟨rfl, rfl, rfl, (some_int (by rw [hYn, hjn])), rfl, rfl, (some_int (by omega)), trivial⟩ (fun _ hm => hm.pick [1, 2] [] [0, 1] rfl rfl)
  · have hk : ¬ (((k : Nat) : Int) < ((n1 : Nat) : Int)) := by simpa using hh
    clear hh
    refine gw_exit ?_
    refine nx_then_exit ?_
    refine nx_then_exit ?_
    refine nx_blk_here ?_
    refine nx_then ?_
    refine gw_seq ?_
    refine gw_region ?_
    have hkn : l1.take k = l1 := List.take_of_length_le (by omega)
    refine wl_ov (ov_move rfl) rfl ?_
    refine wl_ov (ov_assign rfl) rfl ?_
    refine wl_nil ?_
    refine nx_then ?_
    refine gw_ret ?_
    refine nx_ret1 rfl rfl fun wx hm => ?_
    exact ⟨ret_int (by rw [hkn]), hm.g⟩

set_option maxRecDepth 100000 in
set_option maxHeartbeats 2000000 in
theorem together_false (k1 d1 : ByteArray) (f1 t1 : Int) (l1 : List Lg) (A1 : Option Addr) (n1 c1 : Nat) (k2 d2 : ByteArray) (f2 t2 : Int) (l2 : List Lg) (A2 : Option Addr) (n2 c2 : Nat) (w : World) (h1 : SlT lgEnc 9 138 w A1 n1 l1) (h2 : SlT lgEnc 9 138 w A2 n2 l2) (hn1 : n1 ≤ 1000000) (hn2 : n2 ≤ 1000000) (ht1 : Tm l1) (ht2 : Tm l2) :
    Calls Tryd.prog 133 #[.agg #[.string k1, .string d1, .int .i64 f1, .int .i64 t1, .slice A1 n1 c1], .agg #[.string k2, .string d2, .int .i64 f2, .int .i64 t2, .slice A2 n2 c2], .bool false] w (GotE w (repr (outF false l1 l2))) := by
  refine gw_enter ⟨69, w, none, []⟩ Tryd.func133 rfl Tryd.ntmps133 rfl (mem0 (X := [SlOld lgEnc 9 138 w.heap.size none A1 n1 l1, SlOld lgEnc 9 138 w.heap.size none A2 n2 l2]) (allF_cons h1.old (allF_cons h2.old allF_nil)) (allL_cons SlOld.lasts (allL_cons SlOld.lasts allL_nil))) ?_
  refine gw_seq ?_
  refine gw_region ?_
  have hlen1 := h1.len
  have hlen2 := h2.len
  refine wl_box rfl rfl rfl fun g1 => ?_
  refine wl_box rfl rfl rfl fun g2 => ?_
  refine wl_ov (ov_assign rfl) rfl ?_
  refine wl_nil ?_
  refine nx_then ?_
  refine gw_seq ?_
  refine gw_region ?_
  refine wl_ov (ov_assign rfl) rfl ?_
  refine wl_set 7 (v' := .int .i64 (-1)) rfl rfl ?_
  refine wl_nil ?_
  refine nx_then ?_
  refine gw_seq ?_
  refine gw_seq ?_
  refine gw_region ?_
  refine wl_ov (ov_field fo36_3 rfl rfl) rfl ?_
  refine wl_ov (ov_load sc34 rfl (fun _ hm => hm.blkI 1 rfl) rfl) rfl ?_
  refine wl_ov (ov_len es34 rfl) rfl ?_
  refine wl_ov (ov_move rfl) rfl ?_
  refine wl_nil ?_
  refine nx_then ?_
  refine gw_block ?_
  refine gw_loop (γ := Nat) (fun (k : Nat) => k ≤ n1) (fun (k : Nat) => [(2, .bool false), (4, .pointer (some ⟨g2, 0, none⟩)), (6, .int .i64 0), (7, .int .i64 (repr (outF false (l1.take k) l2))), (16, .slice A1 n1 c1), (17, .int .i64 ((n1 : Nat) : Int)), (18, .int .i64 ((k : Nat) : Int))]) (fun (k : Nat) => fun _ => True) (fun (k : Nat) => [(g2, 36, [.string k2, .string d2, .int .i64 f2, .int .i64 t2, .slice A2 n2 c2]), (g1, 36, [.string k1, .string d1, .int .i64 f1, .int .i64 t1, .slice A1 n1 c1])]) (fun (k : Nat) => []) (fun (k : Nat) => [SlOld lgEnc 9 138 w.heap.size none A1 n1 l1, SlOld lgEnc 9 138 w.heap.size none A2 n2 l2]) (fun (k : Nat) => n1 - k) 0 (Nat.zero_le _) ⟨rfl, rfl, rfl, rfl, rfl, rfl, rfl, trivial⟩ (fun _ hm => hm.pick [0, 1] [] [0, 1] rfl rfl) ?_
  intro k hinv
  replace hinv : k ≤ n1 := hinv
  refine gw_seq ?_
  refine gw_region ?_
  refine wl_ov (ov_lss rfl rfl) rfl ?_
  refine wl_nil ?_
  refine nx_then ?_
  refine gw_seq ?_
  refine gw_cond rfl (fun hh => ?_) (fun hh => ?_)
  · have hk : ((k : Nat) : Int) < ((n1 : Nat) : Int) := by simpa using hh
    clear hh
    refine gw_skip ?_
    refine nx_then ?_
    refine gw_seq ?_
    refine gw_block ?_
    refine gw_seq ?_
    refine gw_region ?_
    obtain ⟨b1, o1, hA, _, _⟩ := h1.get (by omega)
    subst hA
    obtain ⟨x, hx⟩ : ∃ x, l1[k]? = some x := ⟨_, List.getElem?_eq_getElem (by omega)⟩
    obtain ⟨gv, ⟨oa, os, om, of⟩, ⟨ia, is_, im, if_⟩⟩ := x
    have hga := ht1 _ (List.mem_of_getElem? hx)
    obtain ⟨Y, hY⟩ : ∃ Y, Y = outF false (l1.take k) l2 := ⟨_, rfl⟩
    have hYb : 0 ≤ Y ∧ Y ≤ 5761440 := by rw [hY]; exact outF_bound ht2 (tm_take ht1)
    have hYn : outF false (l1.take (k + 1)) l2 = inF false ⟨gv, ⟨oa, os, om, of⟩, ⟨ia, is_, im, if_⟩⟩ l2 Y := by rw [hY]; exact foldl_take hx
    refine wl_set 7 (v' := .int .i64 (repr Y)) rfl (congrArg (fun z => Value.int .i64 (repr z)) hY.symm) ?_
    refine wl_ov (ov_index (j := k) es34 rfl rfl (by omega)) rfl ?_
    refine wl_ov (ov_elem rz138 rfl (fun _ hm => (hm.fact 0 rfl).1) hx rfl rfl) rfl ?_
    refine wl_alloc zc138 rfl fun g3 => ?_
    refine wl_stores (cs' := [.string gv, .int .i64 oa, .string os, .int .i64 om, .int .i64 of, .int .i64 ia, .string is_, .int .i64 im, .int .i64 if_]) 0 rz138 rfl rfl rfl rfl rfl rfl rfl rfl ?_
    refine wl_nil ?_
    refine nx_then ?_
    refine gw_seq ?_
    refine gw_region ?_
    refine wl_ov (ov_field fo36_3 rfl rfl) rfl ?_
    refine wl_ov (ov_load sc34 rfl (fun _ hm => hm.blkI 1 rfl) rfl) rfl ?_
    refine wl_ov (ov_len es34 rfl) rfl ?_
    refine wl_ov (ov_move rfl) rfl ?_
    refine wl_nil ?_
    refine nx_then ?_
    refine gw_block ?_
    refine gw_loop (γ := Nat) (fun (j : Nat) => j ≤ n2) (fun (j : Nat) => [(2, .bool false), (4, .pointer (some ⟨g2, 0, none⟩)), (6, .int .i64 0), (7, .int .i64 (repr (inF false ⟨gv, ⟨oa, os, om, of⟩, ⟨ia, is_, im, if_⟩⟩ (l2.take j) Y))), (9, .pointer (some ⟨g3, 0, none⟩)), (16, .slice (some ⟨b1, o1, none⟩) n1 c1), (17, .int .i64 ((n1 : Nat) : Int)), (18, .int .i64 ((k : Nat) : Int)), (23, .slice A2 n2 c2), (24, .int .i64 ((n2 : Nat) : Int)), (25, .int .i64 ((j : Nat) : Int))]) (fun (j : Nat) => fun _ => True) (fun (j : Nat) => [(g3, 138, [.string gv, .int .i64 oa, .string os, .int .i64 om, .int .i64 of, .int .i64 ia, .string is_, .int .i64 im, .int .i64 if_]), (g2, 36, [.string k2, .string d2, .int .i64 f2, .int .i64 t2, .slice A2 n2 c2]), (g1, 36, [.string k1, .string d1, .int .i64 f1, .int .i64 t1, .slice (some ⟨b1, o1, none⟩) n1 c1])]) (fun (j : Nat) => []) (fun (j : Nat) => [SlOld lgEnc 9 138 w.heap.size none (some ⟨b1, o1, none⟩) n1 l1, SlOld lgEnc 9 138 w.heap.size none A2 n2 l2]) (fun (j : Nat) => n2 - j) 0 (Nat.zero_le _) ⟨rfl, rfl, rfl, rfl, rfl, rfl, rfl, rfl, rfl, rfl, rfl, trivial⟩ (fun _ hm => hm.pick [0, 1, 2] [] [0, 1] rfl rfl) ?_
    intro j hinv
    replace hinv : j ≤ n2 := hinv
    refine gw_seq ?_
    refine gw_region ?_
    refine wl_ov (ov_lss rfl rfl) rfl ?_
    refine wl_nil ?_
    refine nx_then ?_
    refine gw_seq ?_
    refine gw_cond rfl (fun hh => ?_) (fun hh => ?_)
    · have hj : ((j : Nat) : Int) < ((n2 : Nat) : Int) := by simpa using hh
      clear hh
      refine gw_skip ?_
      refine nx_then ?_
      refine gw_seq ?_
      refine gw_block ?_
      refine gw_seq ?_
      refine gw_region ?_
      refine wl_look (R := ∃ b off, A2 = some ⟨b, off, none⟩) (fun wx hm => by obtain ⟨b, off, h, _, _⟩ := SlT.get ((hm.fact 1 rfl)).1 (by omega : 0 < n2); exact ⟨b, off, h⟩) ?_
      rintro ⟨b2, o2, rfl⟩
      obtain ⟨y, hy⟩ : ∃ x, l2[j]? = some x := ⟨_, List.getElem?_eq_getElem (by omega)⟩
      obtain ⟨hv, ⟨pa, ps, pm, pf⟩, ⟨ja, js, jm, jf⟩⟩ := y
      have hgb := ht2 _ (List.mem_of_getElem? hy)
      obtain ⟨Q, hQ⟩ : ∃ Q, Q = inF false ⟨gv, ⟨oa, os, om, of⟩, ⟨ia, is_, im, if_⟩⟩ (l2.take j) Y := ⟨_, rfl⟩
      have hQb : 0 ≤ Q ∧ Q ≤ 5761440 := by rw [hQ]; exact inF_bound hga.1 (tm_take ht2) hYb
      have hQn : inF false ⟨gv, ⟨oa, os, om, of⟩, ⟨ia, is_, im, if_⟩⟩ (l2.take (j + 1)) Y = stp false ⟨gv, ⟨oa, os, om, of⟩, ⟨ia, is_, im, if_⟩⟩ ⟨hv, ⟨pa, ps, pm, pf⟩, ⟨ja, js, jm, jf⟩⟩ Q := by rw [hQ]; exact foldl_take hy
      have hrs := repr_stp (fl := false) (g := ⟨gv, ⟨oa, os, om, of⟩, ⟨ia, is_, im, if_⟩⟩) (h := ⟨hv, ⟨pa, ps, pm, pf⟩, ⟨ja, js, jm, jf⟩⟩) hga.1 hgb.1 hQb
      obtain ⟨RQ, hRQ⟩ : ∃ R, R = repr Q := ⟨_, rfl⟩
      rw [← hRQ] at hrs
      refine wl_set 7 (v' := .int .i64 RQ) rfl (congrArg (Value.int .i64) (by rw [hRQ, hQ])) ?_
      refine wl_ov (ov_index (j := j) es34 rfl rfl (by omega)) rfl ?_
      refine wl_ov (ov_elem rz138 rfl (fun _ hm => (hm.fact 1 rfl).1) hy rfl rfl) rfl ?_
      refine wl_alloc zc138 rfl fun g4 => ?_
      refine wl_stores (cs' := [.string hv, .int .i64 pa, .string ps, .int .i64 pm, .int .i64 pf, .int .i64 ja, .string js, .int .i64 jm, .int .i64 jf]) 0 rz138 rfl rfl rfl rfl rfl rfl rfl rfl ?_
      refine wl_nil ?_
      refine nx_then ?_
      refine gw_cut (γ := Nat × Nat) (I := (fun (g : Nat × Nat) => True)) (S' := (fun (g : Nat × Nat) => [(2, .bool false), (4, .pointer (some ⟨g2, 0, none⟩)), (6, .int .i64 0), (7, .int .i64 RQ), (9, .pointer (some ⟨g3, 0, none⟩)), (11, .pointer (some ⟨g4, 0, none⟩)), (12, .pointer (some ⟨g.1, 0, none⟩)), (13, .pointer (some ⟨g.2, 0, none⟩)), (16, .slice (some ⟨b1, o1, none⟩) n1 c1), (17, .int .i64 ((n1 : Nat) : Int)), (18, .int .i64 ((k : Nat) : Int)), (23, .slice (some ⟨b2, o2, none⟩) n2 c2), (24, .int .i64 ((n2 : Nat) : Int)), (25, .int .i64 ((j : Nat) : Int))])) (K' := (fun (g : Nat × Nat) => fun _ => True)) (L' := (fun (g : Nat × Nat) => [(g4, 138, [.string hv, .int .i64 pa, .string ps, .int .i64 pm, .int .i64 pf, .int .i64 ja, .string js, .int .i64 jm, .int .i64 jf]), (g3, 138, [.string gv, .int .i64 oa, .string os, .int .i64 om, .int .i64 of, .int .i64 ia, .string is_, .int .i64 im, .int .i64 if_]), (g2, 36, [.string k2, .string d2, .int .i64 f2, .int .i64 t2, .slice (some ⟨b2, o2, none⟩) n2 c2]), (g1, 36, [.string k1, .string d1, .int .i64 f1, .int .i64 t1, .slice (some ⟨b1, o1, none⟩) n1 c1]), (g.1, 28, [.int .i64 (lastA ⟨gv, ⟨oa, os, om, of⟩, ⟨ia, is_, im, if_⟩⟩), .int .i64 (lastB ⟨gv, ⟨oa, os, om, of⟩, ⟨ia, is_, im, if_⟩⟩)]), (g.2, 28, [.int .i64 (lastA ⟨hv, ⟨pa, ps, pm, pf⟩, ⟨ja, js, jm, jf⟩⟩), .int .i64 (lastB ⟨hv, ⟨pa, ps, pm, pf⟩, ⟨ja, js, jm, jf⟩⟩)])])) (O' := (fun (g : Nat × Nat) => [])) (X' := (fun (g : Nat × Nat) => [SlOld lgEnc 9 138 w.heap.size none (some ⟨b1, o1, none⟩) n1 l1, SlOld lgEnc 9 138 w.heap.size none (some ⟨b2, o2, none⟩) n2 l2])) ?_ ?_
      · refine gw_draw (fun wz => Blk wz g4 138 [.string hv, .int .i64 pa, .string ps, .int .i64 pm, .int .i64 pf, .int .i64 ja, .string js, .int .i64 jm, .int .i64 jf] ∧ Blk wz g3 138 [.string gv, .int .i64 oa, .string os, .int .i64 om, .int .i64 of, .int .i64 ia, .string is_, .int .i64 im, .int .i64 if_] ∧ Blk wz g2 36 [.string k2, .string d2, .int .i64 f2, .int .i64 t2, .slice (some ⟨b2, o2, none⟩) n2 c2] ∧ Blk wz g1 36 [.string k1, .string d1, .int .i64 f1, .int .i64 t1, .slice (some ⟨b1, o1, none⟩) n1 c1] ∧ (SlOld lgEnc 9 138 w.heap.size none (some ⟨b1, o1, none⟩) n1 l1) wz ∧ (SlOld lgEnc 9 138 w.heap.size none (some ⟨b2, o2, none⟩) n2 l2) wz ∧ True) mixed ?_
        refine wa_take 0 rfl (by kernel_rfl) (by kernel_rfl) (by kernel_rfl) (listed' := #[true, false, false, false, false, false, false, false]) rfl (fun _ _ _ h => h) (fun _ hm => ⟨hm.blkI 0 rfl, hm.blkI 1 rfl, hm.blkI 2 rfl, hm.blkI 3 rfl, hm.fact 0 rfl, hm.fact 1 rfl, trivial⟩) (ov_loads rz138 rfl (fun _ hm => hm.2.1) rfl rfl) rfl ?_
        refine wa_take 2 rfl (by kernel_rfl) (by kernel_rfl) (by kernel_rfl) (listed' := #[true, false, true, false, false, false, false, false]) rfl (fun _ _ _ h => h) (fun _ hm => ⟨hm.blkI 0 rfl, hm.blkI 1 rfl, hm.blkI 2 rfl, hm.blkI 3 rfl, hm.fact 0 rfl, hm.fact 1 rfl, trivial⟩) (ov_loads rz138 rfl (fun _ hm => hm.1) rfl rfl) rfl ?_
        refine wa_all [1, 4, 5] (by kernel_rfl) rfl ⟨⟨_, rfl, ?_⟩, ⟨_, rfl, ?_⟩, ⟨_, rfl, ?_⟩, trivial⟩
        · refine wl_callv rfl cb126 rfl rfl (fun wx hm => (lasts_any gv oa os om of ia is_ im if_ wx)) ?_
          refine wl_nil ?_
          refine nx_wa0 (listed' := #[true, true, true, false, false, false, false, false]) rfl (fun _ hm => ⟨hm.blkI 0 rfl, hm.blkI 1 rfl, hm.blkI 2 rfl, hm.blkI 3 rfl, hm.fact 0 rfl, hm.fact 1 rfl, trivial⟩) ?_
          refine wa_all [3, 4, 5] (by kernel_rfl) rfl ⟨⟨_, rfl, ?_⟩, ⟨_, rfl, ?_⟩, ⟨_, rfl, ?_⟩, trivial⟩
          · refine wl_callv rfl cb126 rfl rfl (fun wx hm => (lasts_any hv pa ps pm pf ja js jm jf wx)) ?_
            refine wl_nil ?_
            refine nx_wa0 (listed' := #[true, true, true, true, false, false, false, false]) rfl (fun _ hm => ⟨hm.blkI 0 rfl, hm.blkI 1 rfl, hm.blkI 2 rfl, hm.blkI 3 rfl, hm.fact 0 rfl, hm.fact 1 rfl, trivial⟩) ?_
            refine wa_all [4, 5] (by kernel_rfl) rfl ⟨⟨_, rfl, ?_⟩, ⟨_, rfl, ?_⟩, trivial⟩
            · refine wl_alloc zc28 rfl fun g5 => ?_
              refine wl_nil ?_
              refine nx_wa0 (listed' := #[true, true, true, true, true, false, false, false]) rfl (fun _ hm => ⟨hm.blkI 1 rfl, hm.blkI 2 rfl, hm.blkI 3 rfl, hm.blkI 4 rfl, hm.fact 0 rfl, hm.fact 1 rfl, trivial⟩) ?_
              refine wa_all [5] (by kernel_rfl) rfl ⟨⟨_, rfl, ?_⟩, trivial⟩
              refine wl_alloc zc28 rfl fun g6 => ?_
              refine wl_nil ?_
              refine nx_wa0 (listed' := #[true, true, true, true, true, true, false, false]) rfl (fun _ hm => ⟨hm.blkI 2 rfl, hm.blkI 3 rfl, hm.blkI 4 rfl, hm.blkI 5 rfl, hm.fact 0 rfl, hm.fact 1 rfl, trivial⟩) ?_
              refine wa_all [6] (by kernel_rfl) rfl ⟨⟨_, rfl, ?_⟩, trivial⟩
              refine wl_stores (cs' := [.int .i64 (lastA ⟨gv, ⟨oa, os, om, of⟩, ⟨ia, is_, im, if_⟩⟩), .int .i64 (lastB ⟨gv, ⟨oa, os, om, of⟩, ⟨ia, is_, im, if_⟩⟩)]) 1 rz28 rfl rfl rfl rfl rfl rfl rfl rfl ?_
              refine wl_nil ?_
              refine nx_wa0 (listed' := #[true, true, true, true, true, true, true, false]) rfl (fun _ hm => ⟨hm.blkI 2 rfl, hm.blkI 3 rfl, hm.blkI 4 rfl, hm.blkI 5 rfl, hm.fact 0 rfl, hm.fact 1 rfl, trivial⟩) ?_
              refine wa_all [7] (by kernel_rfl) rfl ⟨⟨_, rfl, ?_⟩, trivial⟩
              refine wl_stores (cs' := [.int .i64 (lastA ⟨hv, ⟨pa, ps, pm, pf⟩, ⟨ja, js, jm, jf⟩⟩), .int .i64 (lastB ⟨hv, ⟨pa, ps, pm, pf⟩, ⟨ja, js, jm, jf⟩⟩)]) 0 rz28 rfl rfl rfl rfl rfl rfl rfl rfl ?_
              refine wl_nil ?_
              refine nx_wa0 (listed' := #[true, true, true, true, true, true, true, true]) rfl (fun _ hm => ⟨hm.blkI 2 rfl, hm.blkI 3 rfl, hm.blkI 4 rfl, hm.blkI 5 rfl, hm.fact 0 rfl, hm.fact 1 rfl, trivial⟩) ?_
              refine wa_done (by kernel_rfl) ?_
              exact nx_meet (g5, g6) trivial ⟨rfl, rfl, rfl, rfl, rfl, rfl, rfl, rfl, rfl, rfl, rfl, rfl, rfl, rfl, trivial⟩ (fun _ hm => hm.pick [2, 3, 4, 5, 1, 0] [] [0, 1] rfl rfl)
            · refine wl_alloc zc28 rfl fun g7 => ?_
              refine wl_nil ?_
              refine nx_wa0 (listed' := #[true, true, true, true, false, true, false, false]) rfl (fun _ hm => ⟨hm.blkI 1 rfl, hm.blkI 2 rfl, hm.blkI 3 rfl, hm.blkI 4 rfl, hm.fact 0 rfl, hm.fact 1 rfl, trivial⟩) ?_
              refine wa_all [4] (by kernel_rfl) rfl ⟨⟨_, rfl, ?_⟩, trivial⟩
              refine wl_alloc zc28 rfl fun g8 => ?_
              refine wl_nil ?_
              refine nx_wa0 (listed' := #[true, true, true, true, true, true, false, false]) rfl (fun _ hm => ⟨hm.blkI 2 rfl, hm.blkI 3 rfl, hm.blkI 4 rfl, hm.blkI 5 rfl, hm.fact 0 rfl, hm.fact 1 rfl, trivial⟩) ?_
              refine wa_all [6] (by kernel_rfl) rfl ⟨⟨_, rfl, ?_⟩, trivial⟩
              refine wl_stores (cs' := [.int .i64 (lastA ⟨gv, ⟨oa, os, om, of⟩, ⟨ia, is_, im, if_⟩⟩), .int .i64 (lastB ⟨gv, ⟨oa, os, om, of⟩, ⟨ia, is_, im, if_⟩⟩)]) 0 rz28 rfl rfl rfl rfl rfl rfl rfl rfl ?_
              refine wl_nil ?_
              refine nx_wa0 (listed' := #[true, true, true, true, true, true, true, false]) rfl (fun _ hm => ⟨hm.blkI 2 rfl, hm.blkI 3 rfl, hm.blkI 4 rfl, hm.blkI 5 rfl, hm.fact 0 rfl, hm.fact 1 rfl, trivial⟩) ?_
              refine wa_all [7] (by kernel_rfl) rfl ⟨⟨_, rfl, ?_⟩, trivial⟩
              refine wl_stores (cs' := [.int .i64 (lastA ⟨hv, ⟨pa, ps, pm, pf⟩, ⟨ja, js, jm, jf⟩⟩), .int .i64 (lastB ⟨hv, ⟨pa, ps, pm, pf⟩, ⟨ja, js, jm, jf⟩⟩)]) 1 rz28 rfl rfl rfl rfl rfl rfl rfl rfl ?_
              refine wl_nil ?_
              refine nx_wa0 (listed' := #[true, true, true, true, true, true, true, true]) rfl (fun _ hm => ⟨hm.blkI 2 rfl, hm.blkI 3 rfl, hm.blkI 4 rfl, hm.blkI 5 rfl, hm.fact 0 rfl, hm.fact 1 rfl, trivial⟩) ?_
              refine wa_done (by kernel_rfl) ?_
              exact nx_meet (g8, g7) trivial ⟨rfl, rfl, rfl, rfl, rfl, rfl, rfl, rfl, rfl, rfl, rfl, rfl, rfl, rfl, trivial⟩ (fun _ hm => hm.pick [2, 3, 4, 5, 0, 1] [] [0, 1] rfl rfl)
          · refine wl_alloc zc28 rfl fun g9 => ?_
            refine wl_nil ?_
            refine nx_wa0 (listed' := #[true, true, true, false, true, false, false, false]) rfl (fun _ hm => ⟨hm.blkI 1 rfl, hm.blkI 2 rfl, hm.blkI 3 rfl, hm.blkI 4 rfl, hm.fact 0 rfl, hm.fact 1 rfl, trivial⟩) ?_
            refine wa_all [3, 5] (by kernel_rfl) rfl ⟨⟨_, rfl, ?_⟩, ⟨_, rfl, ?_⟩, trivial⟩
            · refine wl_callv rfl cb126 rfl rfl (fun wx hm => (lasts_any hv pa ps pm pf ja js jm jf wx)) ?_
              refine wl_nil ?_
              refine nx_wa0 (listed' := #[true, true, true, true, true, false, false, false]) rfl (fun _ hm => ⟨hm.blkI 1 rfl, hm.blkI 2 rfl, hm.blkI 3 rfl, hm.blkI 4 rfl, hm.fact 0 rfl, hm.fact 1 rfl, trivial⟩) ?_
              refine wa_all [5] (by kernel_rfl) rfl ⟨⟨_, rfl, ?_⟩, trivial⟩
              refine wl_alloc zc28 rfl fun g10 => ?_
              refine wl_nil ?_
              refine nx_wa0 (listed' := #[true, true, true, true, true, true, false, false]) rfl (fun _ hm => ⟨hm.blkI 2 rfl, hm.blkI 3 rfl, hm.blkI 4 rfl, hm.blkI 5 rfl, hm.fact 0 rfl, hm.fact 1 rfl, trivial⟩) ?_
              refine wa_all [6] (by kernel_rfl) rfl ⟨⟨_, rfl, ?_⟩, trivial⟩
              refine wl_stores (cs' := [.int .i64 (lastA ⟨gv, ⟨oa, os, om, of⟩, ⟨ia, is_, im, if_⟩⟩), .int .i64 (lastB ⟨gv, ⟨oa, os, om, of⟩, ⟨ia, is_, im, if_⟩⟩)]) 1 rz28 rfl rfl rfl rfl rfl rfl rfl rfl ?_
              refine wl_nil ?_
              refine nx_wa0 (listed' := #[true, true, true, true, true, true, true, false]) rfl (fun _ hm => ⟨hm.blkI 2 rfl, hm.blkI 3 rfl, hm.blkI 4 rfl, hm.blkI 5 rfl, hm.fact 0 rfl, hm.fact 1 rfl, trivial⟩) ?_
              refine wa_all [7] (by kernel_rfl) rfl ⟨⟨_, rfl, ?_⟩, trivial⟩
              refine wl_stores (cs' := [.int .i64 (lastA ⟨hv, ⟨pa, ps, pm, pf⟩, ⟨ja, js, jm, jf⟩⟩), .int .i64 (lastB ⟨hv, ⟨pa, ps, pm, pf⟩, ⟨ja, js, jm, jf⟩⟩)]) 0 rz28 rfl rfl rfl rfl rfl rfl rfl rfl ?_
              refine wl_nil ?_
              refine nx_wa0 (listed' := #[true, true, true, true, true, true, true, true]) rfl (fun _ hm => ⟨hm.blkI 2 rfl, hm.blkI 3 rfl, hm.blkI 4 rfl, hm.blkI 5 rfl, hm.fact 0 rfl, hm.fact 1 rfl, trivial⟩) ?_
              refine wa_done (by kernel_rfl) ?_
              exact nx_meet (g9, g10) trivial ⟨rfl, rfl, rfl, rfl, rfl, rfl, rfl, rfl, rfl, rfl, rfl, rfl, rfl, rfl, trivial⟩ (fun _ hm => hm.pick [2, 3, 4, 5, 1, 0] [] [0, 1] rfl rfl)
            · refine wl_alloc zc28 rfl fun g11 => ?_
              refine wl_nil ?_
              refine nx_wa0 (listed' := #[true, true, true, false, true, true, false, false]) rfl (fun _ hm => ⟨hm.blkI 2 rfl, hm.blkI 3 rfl, hm.blkI 4 rfl, hm.blkI 5 rfl, hm.fact 0 rfl, hm.fact 1 rfl, trivial⟩) ?_
              refine wa_all [3] (by kernel_rfl) rfl ⟨⟨_, rfl, ?_⟩, trivial⟩
              refine wl_callv rfl cb126 rfl rfl (fun wx hm => (lasts_any hv pa ps pm pf ja js jm jf wx)) ?_
              refine wl_nil ?_
              refine nx_wa0 (listed' := #[true, true, true, true, true, true, false, false]) rfl (fun _ hm => ⟨hm.blkI 2 rfl, hm.blkI 3 rfl, hm.blkI 4 rfl, hm.blkI 5 rfl, hm.fact 0 rfl, hm.fact 1 rfl, trivial⟩) ?_
              refine wa_all [6] (by kernel_rfl) rfl ⟨⟨_, rfl, ?_⟩, trivial⟩
              refine wl_stores (cs' := [.int .i64 (lastA ⟨gv, ⟨oa, os, om, of⟩, ⟨ia, is_, im, if_⟩⟩), .int .i64 (lastB ⟨gv, ⟨oa, os, om, of⟩, ⟨ia, is_, im, if_⟩⟩)]) 1 rz28 rfl rfl rfl rfl rfl rfl rfl rfl ?_
              refine wl_nil ?_
              refine nx_wa0 (listed' := #[true, true, true, true, true, true, true, false]) rfl (fun _ hm => ⟨hm.blkI 2 rfl, hm.blkI 3 rfl, hm.blkI 4 rfl, hm.blkI 5 rfl, hm.fact 0 rfl, hm.fact 1 rfl, trivial⟩) ?_
              refine wa_all [7] (by kernel_rfl) rfl ⟨⟨_, rfl, ?_⟩, trivial⟩
              refine wl_stores (cs' := [.int .i64 (lastA ⟨hv, ⟨pa, ps, pm, pf⟩, ⟨ja, js, jm, jf⟩⟩), .int .i64 (lastB ⟨hv, ⟨pa, ps, pm, pf⟩, ⟨ja, js, jm, jf⟩⟩)]) 0 rz28 rfl rfl rfl rfl rfl rfl rfl rfl ?_
              refine wl_nil ?_
              refine nx_wa0 (listed' := #[true, true, true, true, true, true, true, true]) rfl (fun _ hm => ⟨hm.blkI 2 rfl, hm.blkI 3 rfl, hm.blkI 4 rfl, hm.blkI 5 rfl, hm.fact 0 rfl, hm.fact 1 rfl, trivial⟩) ?_
              refine wa_done (by kernel_rfl) ?_
              exact nx_meet (g9, g11) trivial ⟨rfl, rfl, rfl, rfl, rfl, rfl, rfl, rfl, rfl, rfl, rfl, rfl, rfl, rfl, trivial⟩ (fun _ hm => hm.pick [2, 3, 4, 5, 1, 0] [] [0, 1] rfl rfl)
          · refine wl_alloc zc28 rfl fun g12 => ?_
            refine wl_nil ?_
            refine nx_wa0 (listed' := #[true, true, true, false, false, true, false, false]) rfl (fun _ hm => ⟨hm.blkI 1 rfl, hm.blkI 2 rfl, hm.blkI 3 rfl, hm.blkI 4 rfl, hm.fact 0 rfl, hm.fact 1 rfl, trivial⟩) ?_
            refine wa_all [3, 4] (by kernel_rfl) rfl ⟨⟨_, rfl, ?_⟩, ⟨_, rfl, ?_⟩, trivial⟩
            · refine wl_callv rfl cb126 rfl rfl (fun wx hm => (lasts_any hv pa ps pm pf ja js jm jf wx)) ?_
              refine wl_nil ?_
              refine nx_wa0 (listed' := #[true, true, true, true, false, true, false, false]) rfl (fun _ hm => ⟨hm.blkI 1 rfl, hm.blkI 2 rfl, hm.blkI 3 rfl, hm.blkI 4 rfl, hm.fact 0 rfl, hm.fact 1 rfl, trivial⟩) ?_
              refine wa_all [4] (by kernel_rfl) rfl ⟨⟨_, rfl, ?_⟩, trivial⟩
              refine wl_alloc zc28 rfl fun g13 => ?_
              refine wl_nil ?_
              refine nx_wa0 (listed' := #[true, true, true, true, true, true, false, false]) rfl (fun _ hm => ⟨hm.blkI 2 rfl, hm.blkI 3 rfl, hm.blkI 4 rfl, hm.blkI 5 rfl, hm.fact 0 rfl, hm.fact 1 rfl, trivial⟩) ?_
              refine wa_all [6] (by kernel_rfl) rfl ⟨⟨_, rfl, ?_⟩, trivial⟩
              refine wl_stores (cs' := [.int .i64 (lastA ⟨gv, ⟨oa, os, om, of⟩, ⟨ia, is_, im, if_⟩⟩), .int .i64 (lastB ⟨gv, ⟨oa, os, om, of⟩, ⟨ia, is_, im, if_⟩⟩)]) 0 rz28 rfl rfl rfl rfl rfl rfl rfl rfl ?_
              refine wl_nil ?_
              refine nx_wa0 (listed' := #[true, true, true, true, true, true, true, false]) rfl (fun _ hm => ⟨hm.blkI 2 rfl, hm.blkI 3 rfl, hm.blkI 4 rfl, hm.blkI 5 rfl, hm.fact 0 rfl, hm.fact 1 rfl, trivial⟩) ?_
              refine wa_all [7] (by kernel_rfl) rfl ⟨⟨_, rfl, ?_⟩, trivial⟩
              refine wl_stores (cs' := [.int .i64 (lastA ⟨hv, ⟨pa, ps, pm, pf⟩, ⟨ja, js, jm, jf⟩⟩), .int .i64 (lastB ⟨hv, ⟨pa, ps, pm, pf⟩, ⟨ja, js, jm, jf⟩⟩)]) 1 rz28 rfl rfl rfl rfl rfl rfl rfl rfl ?_
              refine wl_nil ?_
              refine nx_wa0 (listed' := #[true, true, true, true, true, true, true, true]) rfl (fun _ hm => ⟨hm.blkI 2 rfl, hm.blkI 3 rfl, hm.blkI 4 rfl, hm.blkI 5 rfl, hm.fact 0 rfl, hm.fact 1 rfl, trivial⟩) ?_
              refine wa_done (by kernel_rfl) ?_
              exact nx_meet (g13, g12) trivial ⟨rfl, rfl, rfl, rfl, rfl, rfl, rfl, rfl, rfl, rfl, rfl, rfl, rfl, rfl, trivial⟩ (fun _ hm => hm.pick [2, 3, 4, 5, 0, 1] [] [0, 1] rfl rfl)
            · refine wl_alloc zc28 rfl fun g14 => ?_
              refine wl_nil ?_
              refine nx_wa0 (listed' := #[true, true, true, false, true, true, false, false]) rfl (fun _ hm => ⟨hm.blkI 2 rfl, hm.blkI 3 rfl, hm.blkI 4 rfl, hm.blkI 5 rfl, hm.fact 0 rfl, hm.fact 1 rfl, trivial⟩) ?_
              refine wa_all [3] (by kernel_rfl) rfl ⟨⟨_, rfl, ?_⟩, trivial⟩
              refine wl_callv rfl cb126 rfl rfl (fun wx hm => (lasts_any hv pa ps pm pf ja js jm jf wx)) ?_
              refine wl_nil ?_
              refine nx_wa0 (listed' := #[true, true, true, true, true, true, false, false]) rfl (fun _ hm => ⟨hm.blkI 2 rfl, hm.blkI 3 rfl, hm.blkI 4 rfl, hm.blkI 5 rfl, hm.fact 0 rfl, hm.fact 1 rfl, trivial⟩) ?_
              refine wa_all [6] (by kernel_rfl) rfl ⟨⟨_, rfl, ?_⟩, trivial⟩
              refine wl_stores (cs' := [.int .i64 (lastA ⟨gv, ⟨oa, os, om, of⟩, ⟨ia, is_, im, if_⟩⟩), .int .i64 (lastB ⟨gv, ⟨oa, os, om, of⟩, ⟨ia, is_, im, if_⟩⟩)]) 0 rz28 rfl rfl rfl rfl rfl rfl rfl rfl ?_
              refine wl_nil ?_
              refine nx_wa0 (listed' := #[true, true, true, true, true, true, true, false]) rfl (fun _ hm => ⟨hm.blkI 2 rfl, hm.blkI 3 rfl, hm.blkI 4 rfl, hm.blkI 5 rfl, hm.fact 0 rfl, hm.fact 1 rfl, trivial⟩) ?_
              refine wa_all [7] (by kernel_rfl) rfl ⟨⟨_, rfl, ?_⟩, trivial⟩
              refine wl_stores (cs' := [.int .i64 (lastA ⟨hv, ⟨pa, ps, pm, pf⟩, ⟨ja, js, jm, jf⟩⟩), .int .i64 (lastB ⟨hv, ⟨pa, ps, pm, pf⟩, ⟨ja, js, jm, jf⟩⟩)]) 1 rz28 rfl rfl rfl rfl rfl rfl rfl rfl ?_
              refine wl_nil ?_
              refine nx_wa0 (listed' := #[true, true, true, true, true, true, true, true]) rfl (fun _ hm => ⟨hm.blkI 2 rfl, hm.blkI 3 rfl, hm.blkI 4 rfl, hm.blkI 5 rfl, hm.fact 0 rfl, hm.fact 1 rfl, trivial⟩) ?_
              refine wa_done (by kernel_rfl) ?_
              exact nx_meet (g14, g12) trivial ⟨rfl, rfl, rfl, rfl, rfl, rfl, rfl, rfl, rfl, rfl, rfl, rfl, rfl, rfl, trivial⟩ (fun _ hm => hm.pick [2, 3, 4, 5, 0, 1] [] [0, 1] rfl rfl)
        · refine wl_alloc zc28 rfl fun g15 => ?_
          refine wl_nil ?_
          refine nx_wa0 (listed' := #[true, false, true, false, true, false, false, false]) rfl (fun _ hm => ⟨hm.blkI 1 rfl, hm.blkI 2 rfl, hm.blkI 3 rfl, hm.blkI 4 rfl, hm.fact 0 rfl, hm.fact 1 rfl, trivial⟩) ?_
          refine wa_all [1, 5] (by kernel_rfl) rfl ⟨⟨_, rfl, ?_⟩, ⟨_, rfl, ?_⟩, trivial⟩
          · refine wl_callv rfl cb126 rfl rfl (fun wx hm => (lasts_any gv oa os om of ia is_ im if_ wx)) ?_
            refine wl_nil ?_
            refine nx_wa0 (listed' := #[true, true, true, false, true, false, false, false]) rfl (fun _ hm => ⟨hm.blkI 1 rfl, hm.blkI 2 rfl, hm.blkI 3 rfl, hm.blkI 4 rfl, hm.fact 0 rfl, hm.fact 1 rfl, trivial⟩) ?_
            refine wa_all [3, 5] (by kernel_rfl) rfl ⟨⟨_, rfl, ?_⟩, ⟨_, rfl, ?_⟩, trivial⟩
            · refine wl_callv rfl cb126 rfl rfl (fun wx hm => (lasts_any hv pa ps pm pf ja js jm jf wx)) ?_
              refine wl_nil ?_
              refine nx_wa0 (listed' := #[true, true, true, true, true, false, false, false]) rfl (fun _ hm => ⟨hm.blkI 1 rfl, hm.blkI 2 rfl, hm.blkI 3 rfl, hm.blkI 4 rfl, hm.fact 0 rfl, hm.fact 1 rfl, trivial⟩) ?_
              refine wa_all [5] (by kernel_rfl) rfl ⟨⟨_, rfl, ?_⟩, trivial⟩
              refine wl_alloc zc28 rfl fun g16 => ?_
              refine wl_nil ?_
              refine nx_wa0 (listed' := #[true, true, true, true, true, true, false, false]) rfl (fun _ hm => ⟨hm.blkI 2 rfl, hm.blkI 3 rfl, hm.blkI 4 rfl, hm.blkI 5 rfl, hm.fact 0 rfl, hm.fact 1 rfl, trivial⟩) ?_
              refine wa_all [6] (by kernel_rfl) rfl ⟨⟨_, rfl, ?_⟩, trivial⟩
              refine wl_stores (cs' := [.int .i64 (lastA ⟨gv, ⟨oa, os, om, of⟩, ⟨ia, is_, im, if_⟩⟩), .int .i64 (lastB ⟨gv, ⟨oa, os, om, of⟩, ⟨ia, is_, im, if_⟩⟩)]) 1 rz28 rfl rfl rfl rfl rfl rfl rfl rfl ?_
              refine wl_nil ?_
              refine nx_wa0 (listed' := #[true, true, true, true, true, true, true, false]) rfl (fun _ hm => ⟨hm.blkI 2 rfl, hm.blkI 3 rfl, hm.blkI 4 rfl, hm.blkI 5 rfl, hm.fact 0 rfl, hm.fact 1 rfl, trivial⟩) ?_
              refine wa_all [7] (by kernel_rfl) rfl ⟨⟨_, rfl, ?_⟩, trivial⟩
              refine wl_stores (cs' := [.int .i64 (lastA ⟨hv, ⟨pa, ps, pm, pf⟩, ⟨ja, js, jm, jf⟩⟩), .int .i64 (lastB ⟨hv, ⟨pa, ps, pm, pf⟩, ⟨ja, js, jm, jf⟩⟩)]) 0 rz28 rfl rfl rfl rfl rfl rfl rfl rfl ?_
              refine wl_nil ?_
              refine nx_wa0 (listed' := #[true, true, true, true, true, true, true, true]) rfl (fun _ hm => ⟨hm.blkI 2 rfl, hm.blkI 3 rfl, hm.blkI 4 rfl, hm.blkI 5 rfl, hm.fact 0 rfl, hm.fact 1 rfl, trivial⟩) ?_
              refine wa_done (by kernel_rfl) ?_
              exact nx_meet (g15, g16) trivial ⟨rfl, rfl, rfl, rfl, rfl, rfl, rfl, rfl, rfl, rfl, rfl, rfl, rfl, rfl, trivial⟩ (fun _ hm => hm.pick [2, 3, 4, 5, 1, 0] [] [0, 1] rfl rfl)
            · refine wl_alloc zc28 rfl fun g17 => ?_
              refine wl_nil ?_
              refine nx_wa0 (listed' := #[true, true, true, false, true, true, false, false]) rfl (fun _ hm => ⟨hm.blkI 2 rfl, hm.blkI 3 rfl, hm.blkI 4 rfl, hm.blkI 5 rfl, hm.fact 0 rfl, hm.fact 1 rfl, trivial⟩) ?_
              refine wa_all [3] (by kernel_rfl) rfl ⟨⟨_, rfl, ?_⟩, trivial⟩
              refine wl_callv rfl cb126 rfl rfl (fun wx hm => (lasts_any hv pa ps pm pf ja js jm jf wx)) ?_
              refine wl_nil ?_
              refine nx_wa0 (listed' := #[true, true, true, true, true, true, false, false]) rfl (fun _ hm => ⟨hm.blkI 2 rfl, hm.blkI 3 rfl, hm.blkI 4 rfl, hm.blkI 5 rfl, hm.fact 0 rfl, hm.fact 1 rfl, trivial⟩) ?_
              refine wa_all [6] (by kernel_rfl) rfl ⟨⟨_, rfl, ?_⟩, trivial⟩
              refine wl_stores (cs' := [.int .i64 (lastA ⟨gv, ⟨oa, os, om, of⟩, ⟨ia, is_, im, if_⟩⟩), .int .i64 (lastB ⟨gv, ⟨oa, os, om, of⟩, ⟨ia, is_, im, if_⟩⟩)]) 1 rz28 rfl rfl rfl rfl rfl rfl rfl rfl ?_
              refine wl_nil ?_
              refine nx_wa0 (listed' := #[true, true, true, true, true, true, true, false]) rfl (fun _ hm => ⟨hm.blkI 2 rfl, hm.blkI 3 rfl, hm.blkI 4 rfl, hm.blkI 5 rfl, hm.fact 0 rfl, hm.fact 1 rfl, trivial⟩) ?_
              refine wa_all [7] (by kernel_rfl) rfl ⟨⟨_, rfl, ?_⟩, trivial⟩
              refine wl_stores (cs' := [.int .i64 (lastA ⟨hv, ⟨pa, ps, pm, pf⟩, ⟨ja, js, jm, jf⟩⟩), .int .i64 (lastB ⟨hv, ⟨pa, ps, pm, pf⟩, ⟨ja, js, jm, jf⟩⟩)]) 0 rz28 rfl rfl rfl rfl rfl rfl rfl rfl ?_
              refine wl_nil ?_
              refine nx_wa0 (listed' := #[true, true, true, true, true, true, true, true]) rfl (fun _ hm => ⟨hm.blkI 2 rfl, hm.blkI 3 rfl, hm.blkI 4 rfl, hm.blkI 5 rfl, hm.fact 0 rfl, hm.fact 1 rfl, trivial⟩) ?_
              refine wa_done (by kernel_rfl) ?_
              exact nx_meet (g15, g17) trivial ⟨rfl, rfl, rfl, rfl, rfl, rfl, rfl, rfl, rfl, rfl, rfl, rfl, rfl, rfl, trivial⟩ (fun _ hm => hm.pick [2, 3, 4, 5, 1, 0] [] [0, 1] rfl rfl)
          · refine wl_alloc zc28 rfl fun g18 => ?_
            refine wl_nil ?_
            refine nx_wa0 (listed' := #[true, false, true, false, true, true, false, false]) rfl (fun _ hm => ⟨hm.blkI 2 rfl, hm.blkI 3 rfl, hm.blkI 4 rfl, hm.blkI 5 rfl, hm.fact 0 rfl, hm.fact 1 rfl, trivial⟩) ?_
            refine wa_all [1] (by kernel_rfl) rfl ⟨⟨_, rfl, ?_⟩, trivial⟩
            refine wl_callv rfl cb126 rfl rfl (fun wx hm => (lasts_any gv oa os om of ia is_ im if_ wx)) ?_
            refine wl_nil ?_
            refine nx_wa0 (listed' := #[true, true, true, false, true, true, false, false]) rfl (fun _ hm => ⟨hm.blkI 2 rfl, hm.blkI 3 rfl, hm.blkI 4 rfl, hm.blkI 5 rfl, hm.fact 0 rfl, hm.fact 1 rfl, trivial⟩) ?_
            refine wa_all [3] (by kernel_rfl) rfl ⟨⟨_, rfl, ?_⟩, trivial⟩
            refine wl_callv rfl cb126 rfl rfl (fun wx hm => (lasts_any hv pa ps pm pf ja js jm jf wx)) ?_
            refine wl_nil ?_
            refine nx_wa0 (listed' := #[true, true, true, true, true, true, false, false]) rfl (fun _ hm => ⟨hm.blkI 2 rfl, hm.blkI 3 rfl, hm.blkI 4 rfl, hm.blkI 5 rfl, hm.fact 0 rfl, hm.fact 1 rfl, trivial⟩) ?_
            refine wa_all [6] (by kernel_rfl) rfl ⟨⟨_, rfl, ?_⟩, trivial⟩
            refine wl_stores (cs' := [.int .i64 (lastA ⟨gv, ⟨oa, os, om, of⟩, ⟨ia, is_, im, if_⟩⟩), .int .i64 (lastB ⟨gv, ⟨oa, os, om, of⟩, ⟨ia, is_, im, if_⟩⟩)]) 1 rz28 rfl rfl rfl rfl rfl rfl rfl rfl ?_
            refine wl_nil ?_
            refine nx_wa0 (listed' := #[true, true, true, true, true, true, true, false]) rfl (fun _ hm => ⟨hm.blkI 2 rfl, hm.blkI 3 rfl, hm.blkI 4 rfl, hm.blkI 5 rfl, hm.fact 0 rfl, hm.fact 1 rfl, trivial⟩) ?_
            refine wa_all [7] (by kernel_rfl) rfl ⟨⟨_, rfl, ?_⟩, trivial⟩
            refine wl_stores (cs' := [.int .i64 (lastA ⟨hv, ⟨pa, ps, pm, pf⟩, ⟨ja, js, jm, jf⟩⟩), .int .i64 (lastB ⟨hv, ⟨pa, ps, pm, pf⟩, ⟨ja, js, jm, jf⟩⟩)]) 0 rz28 rfl rfl rfl rfl rfl rfl rfl rfl ?_
            refine wl_nil ?_
            refine nx_wa0 (listed' := #[true, true, true, true, true, true, true, true]) rfl (fun _ hm => ⟨hm.blkI 2 rfl, hm.blkI 3 rfl, hm.blkI 4 rfl, hm.blkI 5 rfl, hm.fact 0 rfl, hm.fact 1 rfl, trivial⟩) ?_
            refine wa_done (by kernel_rfl) ?_
            exact nx_meet (g15, g18) trivial ⟨rfl, rfl, rfl, rfl, rfl, rfl, rfl, rfl, rfl, rfl, rfl, rfl, rfl, rfl, trivial⟩ (fun _ hm => hm.pick [2, 3, 4, 5, 1, 0] [] [0, 1] rfl rfl)
        · refine wl_alloc zc28 rfl fun g19 => ?_
          refine wl_nil ?_
          refine nx_wa0 (listed' := #[true, false, true, false, false, true, false, false]) rfl (fun _ hm => ⟨hm.blkI 1 rfl, hm.blkI 2 rfl, hm.blkI 3 rfl, hm.blkI 4 rfl, hm.fact 0 rfl, hm.fact 1 rfl, trivial⟩) ?_
          refine wa_all [1, 4] (by kernel_rfl) rfl ⟨⟨_, rfl, ?_⟩, ⟨_, rfl, ?_⟩, trivial⟩
          · refine wl_callv rfl cb126 rfl rfl (fun wx hm => (lasts_any gv oa os om of ia is_ im if_ wx)) ?_
            refine wl_nil ?_
            refine nx_wa0 (listed' := #[true, true, true, false, false, true, false, false]) rfl (fun _ hm => ⟨hm.blkI 1 rfl, hm.blkI 2 rfl, hm.blkI 3 rfl, hm.blkI 4 rfl, hm.fact 0 rfl, hm.fact 1 rfl, trivial⟩) ?_
            refine wa_all [3, 4] (by kernel_rfl) rfl ⟨⟨_, rfl, ?_⟩, ⟨_, rfl, ?_⟩, trivial⟩
            · refine wl_callv rfl cb126 rfl rfl (fun wx hm => (lasts_any hv pa ps pm pf ja js jm jf wx)) ?_
              refine wl_nil ?_
              refine nx_wa0 (listed' := #[true, true, true, true, false, true, false, false]) rfl (fun _ hm => ⟨hm.blkI 1 rfl, hm.blkI 2 rfl, hm.blkI 3 rfl, hm.blkI 4 rfl, hm.fact 0 rfl, hm.fact 1 rfl, trivial⟩) ?_
              refine wa_all [4] (by kernel_rfl) rfl ⟨⟨_, rfl, ?_⟩, trivial⟩
              refine wl_alloc zc28 rfl fun g20 => ?_
              refine wl_nil ?_
              refine nx_wa0 (listed' := #[true, true, true, true, true, true, false, false]) rfl (fun _ hm => ⟨hm.blkI 2 rfl, hm.blkI 3 rfl, hm.blkI 4 rfl, hm.blkI 5 rfl, hm.fact 0 rfl, hm.fact 1 rfl, trivial⟩) ?_
              refine wa_all [6] (by kernel_rfl) rfl ⟨⟨_, rfl, ?_⟩, trivial⟩
              refine wl_stores (cs' := [.int .i64 (lastA ⟨gv, ⟨oa, os, om, of⟩, ⟨ia, is_, im, if_⟩⟩), .int .i64 (lastB ⟨gv, ⟨oa, os, om, of⟩, ⟨ia, is_, im, if_⟩⟩)]) 0 rz28 rfl rfl rfl rfl rfl rfl rfl rfl ?_
              refine wl_nil ?_
              refine nx_wa0 (listed' := #[true, true, true, true, true, true, true, false]) rfl (fun _ hm => ⟨hm.blkI 2 rfl, hm.blkI 3 rfl, hm.blkI 4 rfl, hm.blkI 5 rfl, hm.fact 0 rfl, hm.fact 1 rfl, trivial⟩) ?_
              refine wa_all [7] (by kernel_rfl) rfl ⟨⟨_, rfl, ?_⟩, trivial⟩
              refine wl_stores (cs' := [.int .i64 (lastA ⟨hv, ⟨pa, ps, pm, pf⟩, ⟨ja, js, jm, jf⟩⟩), .int .i64 (lastB ⟨hv, ⟨pa, ps, pm, pf⟩, ⟨ja, js, jm, jf⟩⟩)]) 1 rz28 rfl rfl rfl rfl rfl rfl rfl rfl ?_
              refine wl_nil ?_
              refine nx_wa0 (listed' := #[true, true, true, true, true, true, true, true]) rfl (fun _ hm => ⟨hm.blkI 2 rfl, hm.blkI 3 rfl, hm.blkI 4 rfl, hm.blkI 5 rfl, hm.fact 0 rfl, hm.fact 1 rfl, trivial⟩) ?_
              refine wa_done (by kernel_rfl) ?_
              exact nx_meet (g20, g19) trivial ⟨rfl, rfl, rfl, rfl, rfl, rfl, rfl, rfl, rfl, rfl, rfl, rfl, rfl, rfl, trivial⟩ (fun _ hm => hm.pick [2, 3, 4, 5, 0, 1] [] [0, 1] rfl rfl)
            · refine wl_alloc zc28 rfl fun g21 => ?_
              refine wl_nil ?_
              refine nx_wa0 (listed' := #[true, true, true, false, true, true, false, false]) rfl (fun _ hm => ⟨hm.blkI 2 rfl, hm.blkI 3 rfl, hm.blkI 4 rfl, hm.blkI 5 rfl, hm.fact 0 rfl, hm.fact 1 rfl, trivial⟩) ?_
              refine wa_all [3] (by kernel_rfl) rfl ⟨⟨_, rfl, ?_⟩, trivial⟩
              refine wl_callv rfl cb126 rfl rfl (fun wx hm => (lasts_any hv pa ps pm pf ja js jm jf wx)) ?_
              refine wl_nil ?_
              refine nx_wa0 (listed' := #[true, true, true, true, true, true, false, false]) rfl (fun _ hm => ⟨hm.blkI 2 rfl, hm.blkI 3 rfl, hm.blkI 4 rfl, hm.blkI 5 rfl, hm.fact 0 rfl, hm.fact 1 rfl, trivial⟩) ?_
              refine wa_all [6] (by kernel_rfl) rfl ⟨⟨_, rfl, ?_⟩, trivial⟩
              refine wl_stores (cs' := [.int .i64 (lastA ⟨gv, ⟨oa, os, om, of⟩, ⟨ia, is_, im, if_⟩⟩), .int .i64 (lastB ⟨gv, ⟨oa, os, om, of⟩, ⟨ia, is_, im, if_⟩⟩)]) 0 rz28 rfl rfl rfl rfl rfl rfl rfl rfl ?_
              refine wl_nil ?_
              refine nx_wa0 (listed' := #[true, true, true, true, true, true, true, false]) rfl (fun _ hm => ⟨hm.blkI 2 rfl, hm.blkI 3 rfl, hm.blkI 4 rfl, hm.blkI 5 rfl, hm.fact 0 rfl, hm.fact 1 rfl, trivial⟩) ?_
              refine wa_all [7] (by kernel_rfl) rfl ⟨⟨_, rfl, ?_⟩, trivial⟩
              refine wl_stores (cs' := [.int .i64 (lastA ⟨hv, ⟨pa, ps, pm, pf⟩, ⟨ja, js, jm, jf⟩⟩), .int .i64 (lastB ⟨hv, ⟨pa, ps, pm, pf⟩, ⟨ja, js, jm, jf⟩⟩)]) 1 rz28 rfl rfl rfl rfl rfl rfl rfl rfl ?_
              refine wl_nil ?_
              refine nx_wa0 (listed' := #[true, true, true, true, true, true, true, true]) rfl (fun _ hm => ⟨hm.blkI 2 rfl, hm.blkI 3 rfl, hm.blkI 4 rfl, hm.blkI 5 rfl, hm.fact 0 rfl, hm.fact 1 rfl, trivial⟩) ?_
              refine wa_done (by kernel_rfl) ?_
              exact nx_meet (g21, g19) trivial ⟨rfl, rfl, rfl, rfl, rfl, rfl, rfl, rfl, rfl, rfl, rfl, rfl, rfl, rfl, trivial⟩ (fun _ hm => hm.pick [2, 3, 4, 5, 0, 1] [] [0, 1] rfl rfl)
          · refine wl_alloc zc28 rfl fun g22 => ?_
            refine wl_nil ?_
            refine nx_wa0 (listed' := #[true, false, true, false, true, true, false, false]) rfl (fun _ hm => ⟨hm.blkI 2 rfl, hm.blkI 3 rfl, hm.blkI 4 rfl, hm.blkI 5 rfl, hm.fact 0 rfl, hm.fact 1 rfl, trivial⟩) ?_
            refine wa_all [1] (by kernel_rfl) rfl ⟨⟨_, rfl, ?_⟩, trivial⟩
            refine wl_callv rfl cb126 rfl rfl (fun wx hm => (lasts_any gv oa os om of ia is_ im if_ wx)) ?_
            refine wl_nil ?_
            refine nx_wa0 (listed' := #[true, true, true, false, true, true, false, false]) rfl (fun _ hm => ⟨hm.blkI 2 rfl, hm.blkI 3 rfl, hm.blkI 4 rfl, hm.blkI 5 rfl, hm.fact 0 rfl, hm.fact 1 rfl, trivial⟩) ?_
            refine wa_all [3] (by kernel_rfl) rfl ⟨⟨_, rfl, ?_⟩, trivial⟩
            refine wl_callv rfl cb126 rfl rfl (fun wx hm => (lasts_any hv pa ps pm pf ja js jm jf wx)) ?_
            refine wl_nil ?_
            refine nx_wa0 (listed' := #[true, true, true, true, true, true, false, false]) rfl (fun _ hm => ⟨hm.blkI 2 rfl, hm.blkI 3 rfl, hm.blkI 4 rfl, hm.blkI 5 rfl, hm.fact 0 rfl, hm.fact 1 rfl, trivial⟩) ?_
            refine wa_all [6] (by kernel_rfl) rfl ⟨⟨_, rfl, ?_⟩, trivial⟩
            refine wl_stores (cs' := [.int .i64 (lastA ⟨gv, ⟨oa, os, om, of⟩, ⟨ia, is_, im, if_⟩⟩), .int .i64 (lastB ⟨gv, ⟨oa, os, om, of⟩, ⟨ia, is_, im, if_⟩⟩)]) 0 rz28 rfl rfl rfl rfl rfl rfl rfl rfl ?_
            refine wl_nil ?_
            refine nx_wa0 (listed' := #[true, true, true, true, true, true, true, false]) rfl (fun _ hm => ⟨hm.blkI 2 rfl, hm.blkI 3 rfl, hm.blkI 4 rfl, hm.blkI 5 rfl, hm.fact 0 rfl, hm.fact 1 rfl, trivial⟩) ?_
            refine wa_all [7] (by kernel_rfl) rfl ⟨⟨_, rfl, ?_⟩, trivial⟩
            refine wl_stores (cs' := [.int .i64 (lastA ⟨hv, ⟨pa, ps, pm, pf⟩, ⟨ja, js, jm, jf⟩⟩), .int .i64 (lastB ⟨hv, ⟨pa, ps, pm, pf⟩, ⟨ja, js, jm, jf⟩⟩)]) 1 rz28 rfl rfl rfl rfl rfl rfl rfl rfl ?_
            refine wl_nil ?_
            refine nx_wa0 (listed' := #[true, true, true, true, true, true, true, true]) rfl (fun _ hm => ⟨hm.blkI 2 rfl, hm.blkI 3 rfl, hm.blkI 4 rfl, hm.blkI 5 rfl, hm.fact 0 rfl, hm.fact 1 rfl, trivial⟩) ?_
            refine wa_done (by kernel_rfl) ?_
            exact nx_meet (g22, g19) trivial ⟨rfl, rfl, rfl, rfl, rfl, rfl, rfl, rfl, rfl, rfl, rfl, rfl, rfl, rfl, trivial⟩ (fun _ hm => hm.pick [2, 3, 4, 5, 0, 1] [] [0, 1] rfl rfl)
      · rintro ⟨gwa, gwb⟩ hinv
        replace hinv : True := hinv
        dsimp only
        refine gw_seq ?_
        refine gw_region ?_
        clear hinv
        obtain ⟨SP, hSP⟩ : ∃ S, S = startP ⟨gv, ⟨oa, os, om, of⟩, ⟨ia, is_, im, if_⟩⟩ ⟨hv, ⟨pa, ps, pm, pf⟩, ⟨ja, js, jm, jf⟩⟩ := ⟨_, rfl⟩
        rw [← hSP] at hrs
        refine wl_ov (ov_field fo28_0 rfl rfl) rfl ?_
        refine wl_ov (ov_load sc3 rfl (fun _ hm => hm.blkI 4 rfl) rfl) rfl ?_
        refine wl_ov (ov_field fo28_0 rfl rfl) rfl ?_
        refine wl_ov (ov_load sc3 rfl (fun _ hm => hm.blkI 5 rfl) rfl) rfl ?_
        refine wl_ov (ov_max rfl rfl) rfl ?_
        refine wl_set 37 (v' := .int .i64 SP) rfl (congrArg (Value.int .i64) hSP.symm) ?_
        refine wl_ov (ov_assign rfl) rfl ?_
        refine wl_nil ?_
        refine nx_then ?_
        refine gw_seq ?_
        refine gw_region ?_
        refine wl_ov (ov_move rfl) rfl ?_
        refine wl_ov (ov_un_not rfl) rfl ?_
        refine wl_set 39 (v' := .bool true) rfl (congrArg Value.bool (by decide)) ?_
        refine wl_ov (ov_move rfl) rfl ?_
        refine wl_guard_off rfl rfl rfl (by decide) rfl ?_
        refine wl_guard_off rfl rfl rfl (by decide) rfl ?_
        refine wl_guard_off rfl rfl rfl (by decide) rfl ?_
        refine wl_guard_off rfl rfl rfl (by decide) rfl ?_
        refine wl_guard_off rfl rfl rfl (by decide) rfl ?_
        refine wl_ov (ov_pick_t rfl rfl) rfl ?_
        refine wl_ov (ov_move rfl) rfl ?_
        refine wl_guard_on rfl rfl rfl ?_
        refine wl_ov (ov_move rfl) rfl ?_
        refine wl_guard_on rfl rfl rfl ?_
        refine wl_ov (ov_field fo28_1 rfl rfl) rfl ?_
        refine wl_guard_on rfl rfl rfl ?_
        refine wl_ov (ov_load sc3 rfl (fun _ hm => hm.blkI 4 rfl) rfl) rfl ?_
        refine wl_guard_on rfl rfl rfl ?_
        refine wl_ov (ov_field fo28_1 rfl rfl) rfl ?_
        refine wl_guard_on rfl rfl rfl ?_
        refine wl_ov (ov_load sc3 rfl (fun _ hm => hm.blkI 5 rfl) rfl) rfl ?_
        refine wl_guard_on rfl rfl rfl ?_
        refine wl_ov (ov_min rfl rfl) rfl ?_
        refine wl_guard_on rfl rfl rfl ?_
        refine wl_ov (ov_lss rfl rfl) rfl ?_
        refine wl_ov (ov_pick_t rfl rfl) rfl ?_
        refine wl_ov (ov_move rfl) rfl ?_
        rcases Bool.eq_false_or_eq_true (decide (SP < min (lastB ⟨gv, ⟨oa, os, om, of⟩, ⟨ia, is_, im, if_⟩⟩) (lastB ⟨hv, ⟨pa, ps, pm, pf⟩, ⟨ja, js, jm, jf⟩⟩))) with h2 | h2
        · refine wl_set 56 rfl (congrArg Value.bool h2) ?_
          replace h2 := of_decide_eq_true h2
          refine wl_guard_on rfl rfl rfl ?_
          refine wl_ov (ov_move rfl) rfl ?_
          refine wl_guard_on rfl rfl rfl ?_
          refine wl_ov (ov_lss rfl rfl) rfl ?_
          refine wl_guard_on rfl rfl rfl ?_
          refine wl_ov (ov_move rfl) rfl ?_
          rcases Bool.eq_false_or_eq_true (decide (RQ < 0)) with h3 | h3
          · refine wl_set 59 rfl (congrArg Value.bool h3) ?_
            replace h3 := of_decide_eq_true h3
            refine wl_guard_off rfl rfl rfl (by decide) rfl ?_
            refine wl_guard_off rfl rfl rfl (by decide) rfl ?_
            refine wl_guard_off rfl rfl rfl (by decide) rfl ?_
            refine wl_guard_on rfl rfl rfl ?_
            refine wl_ov (ov_pick_t rfl rfl) rfl ?_
            refine wl_ov (ov_pick_t rfl rfl) rfl ?_
            refine wl_nil ?_
            refine nx_then ?_
            refine gw_cond rfl (fun _ => ?_) (fun hh => by cases hh)
            refine gw_region ?_
            refine wl_ov (ov_move rfl) rfl ?_
            refine wl_ov (ov_assign rfl) rfl ?_
            refine wl_nil ?_
            refine nx_blk_nrm ?_
            refine nx_then ?_
            refine gw_region ?_
            refine wl_ov (ov_add rfl rfl (by omega) (by omega)) rfl ?_
            refine wl_ov (ov_move rfl) rfl ?_
            refine wl_nil ?_
            have hok : okP false ⟨gv, ⟨oa, os, om, of⟩, ⟨ia, is_, im, if_⟩⟩ ⟨hv, ⟨pa, ps, pm, pf⟩, ⟨ja, js, jm, jf⟩⟩ = true := by unfold okP; rw [← hSP]; rw [decide_eq_true (show SP < min (lastB ⟨gv, ⟨oa, os, om, of⟩, ⟨ia, is_, im, if_⟩⟩) (lastB ⟨hv, ⟨pa, ps, pm, pf⟩, ⟨ja, js, jm, jf⟩⟩) from h2)]; rfl
            rw [hok] at hrs
            have hv : repr (inF false ⟨gv, ⟨oa, os, om, of⟩, ⟨ia, is_, im, if_⟩⟩ (l2.take (j + 1)) Y) = SP := by rw [hQn, hrs]; rw [if_pos ⟨rfl, .inl h3⟩]
            exact nx_round (j + 1) (by omega) (by omega) ⟨rfl, rfl, rfl, (some_int hv.symm), rfl, rfl, rfl, rfl, rfl, rfl, (some_int (by omega)), trivial⟩ (fun _ hm => hm.pick [1, 2, 3] [] [0, 1] rfl rfl)
          · refine wl_set 59 rfl (congrArg Value.bool h3) ?_
            replace h3 := of_decide_eq_false h3
            refine wl_guard_on rfl rfl rfl ?_
            refine wl_ov (ov_move rfl) rfl ?_
            refine wl_guard_on rfl rfl rfl ?_
            refine wl_ov (ov_move rfl) rfl ?_
            refine wl_guard_on rfl rfl rfl ?_
            refine wl_ov (ov_lss rfl rfl) rfl ?_
            refine wl_guard_on rfl rfl rfl ?_
            refine wl_ov (ov_pick_f rfl rfl) rfl ?_
            refine wl_ov (ov_pick_t rfl rfl) rfl ?_
            refine wl_nil ?_
            refine nx_then ?_
            refine gw_cond rfl (fun hh => ?_) (fun hh => ?_)
            · have h4 : SP < RQ := by simpa using hh
              clear hh
              refine gw_region ?_
              refine wl_ov (ov_move rfl) rfl ?_
              refine wl_ov (ov_assign rfl) rfl ?_
              refine wl_nil ?_
              refine nx_blk_nrm ?_
              refine nx_then ?_
              refine gw_region ?_
              refine wl_ov (ov_add rfl rfl (by omega) (by omega)) rfl ?_
              refine wl_ov (ov_move rfl) rfl ?_
              refine wl_nil ?_
              have hok : okP false ⟨gv, ⟨oa, os, om, of⟩, ⟨ia, is_, im, if_⟩⟩ ⟨hv, ⟨pa, ps, pm, pf⟩, ⟨ja, js, jm, jf⟩⟩ = true := by unfold okP; rw [← hSP]; rw [decide_eq_true (show SP < min (lastB ⟨gv, ⟨oa, os, om, of⟩, ⟨ia, is_, im, if_⟩⟩) (lastB ⟨hv, ⟨pa, ps, pm, pf⟩, ⟨ja, js, jm, jf⟩⟩) from h2)]; rfl
              rw [hok] at hrs
              have hv : repr (inF false ⟨gv, ⟨oa, os, om, of⟩, ⟨ia, is_, im, if_⟩⟩ (l2.take (j + 1)) Y) = SP := by rw [hQn, hrs]; rw [if_pos ⟨rfl, .inr h4⟩]
              exact nx_round (j + 1) (by omega) (by omega) ⟨rfl, rfl, rfl, (some_int hv.symm), rfl, rfl, rfl, rfl, rfl, rfl, (some_int (by omega)), trivial⟩ (fun _ hm => hm.pick [1, 2, 3] [] [0, 1] rfl rfl)
            · have h4 : ¬ (SP < RQ) := by simpa using hh
              clear hh
              refine gw_skip ?_
              refine nx_blk_nrm ?_
              refine nx_then ?_
              refine gw_region ?_
              refine wl_ov (ov_add rfl rfl (by omega) (by omega)) rfl ?_
              refine wl_ov (ov_move rfl) rfl ?_
              refine wl_nil ?_
              have hok : okP false ⟨gv, ⟨oa, os, om, of⟩, ⟨ia, is_, im, if_⟩⟩ ⟨hv, ⟨pa, ps, pm, pf⟩, ⟨ja, js, jm, jf⟩⟩ = true := by unfold okP; rw [← hSP]; rw [decide_eq_true (show SP < min (lastB ⟨gv, ⟨oa, os, om, of⟩, ⟨ia, is_, im, if_⟩⟩) (lastB ⟨hv, ⟨pa, ps, pm, pf⟩, ⟨ja, js, jm, jf⟩⟩) from h2)]; rfl
              rw [hok] at hrs
              have hv : repr (inF false ⟨gv, ⟨oa, os, om, of⟩, ⟨ia, is_, im, if_⟩⟩ (l2.take (j + 1)) Y) = RQ := by rw [hQn, hrs]; rw [if_neg (fun h => h.2.elim h3 h4)]
              exact nx_round (j + 1) (by omega) (by omega) ⟨rfl, rfl, rfl, (some_int hv.symm), rfl, rfl, rfl, rfl, rfl, rfl, (some_int (by omega)), trivial⟩ (fun _ hm => hm.pick [1, 2, 3] [] [0, 1] rfl rfl)
        · refine wl_set 56 rfl (congrArg Value.bool h2) ?_
          replace h2 := of_decide_eq_false h2
          refine wl_guard_off rfl rfl rfl (by decide) rfl ?_
          refine wl_guard_off rfl rfl rfl (by decide) rfl ?_
          refine wl_guard_off rfl rfl rfl (by decide) rfl ?_
          refine wl_guard_undef rfl rfl rfl rfl ?_
          refine wl_guard_undef rfl rfl rfl rfl ?_
          refine wl_guard_undef rfl rfl rfl rfl ?_
          refine wl_guard_off rfl rfl rfl (by decide) rfl ?_
          refine wl_ov (ov_pick_f rfl rfl) rfl ?_
          refine wl_nil ?_
          refine nx_then ?_
          refine gw_cond rfl (fun hh => by cases hh) (fun _ => ?_)
          refine gw_skip ?_
          refine nx_blk_nrm ?_
          refine nx_then ?_
          refine gw_region ?_
          refine wl_ov (ov_add rfl rfl (by omega) (by omega)) rfl ?_
          refine wl_ov (ov_move rfl) rfl ?_
          refine wl_nil ?_
          have hok : okP false ⟨gv, ⟨oa, os, om, of⟩, ⟨ia, is_, im, if_⟩⟩ ⟨hv, ⟨pa, ps, pm, pf⟩, ⟨ja, js, jm, jf⟩⟩ = false := by unfold okP; rw [← hSP]; rw [decide_eq_false (show ¬ SP < min (lastB ⟨gv, ⟨oa, os, om, of⟩, ⟨ia, is_, im, if_⟩⟩) (lastB ⟨hv, ⟨pa, ps, pm, pf⟩, ⟨ja, js, jm, jf⟩⟩) from h2)]; simp
          rw [hok] at hrs
          have hv : repr (inF false ⟨gv, ⟨oa, os, om, of⟩, ⟨ia, is_, im, if_⟩⟩ (l2.take (j + 1)) Y) = RQ := by rw [hQn, hrs]; simp
          exact nx_round (j + 1) (by omega) (by omega) ⟨rfl, rfl, rfl, (some_int hv.symm), rfl, rfl, rfl, rfl, rfl, rfl, (some_int (by omega)), trivial⟩ (fun _ hm => hm.pick [1, 2, 3] [] [0, 1] rfl rfl)
    · have hj : ¬ (((j : Nat) : Int) < ((n2 : Nat) : Int)) := by simpa using hh
      clear hh
      refine gw_exit ?_
      refine nx_then_exit ?_
      refine nx_then_exit ?_
      refine nx_blk_here ?_
      refine nx_blk_nrm ?_
      refine nx_then ?_
      refine gw_region ?_
      have hjn : l2.take j = l2 := List.take_of_length_le (by omega)
      refine wl_ov (ov_add rfl rfl (by omega) (by omega)) rfl ?_
      refine wl_ov (ov_move rfl) rfl ?_
      refine wl_nil ?_
      exact nx_round (k + 1) (by omega) (by omega) ⟨rfl, rfl, rfl, (some_int (by rw [hYn, hjn])), rfl, rfl, (some_int (by omega)), trivial⟩ (fun _ hm => hm.pick [1, 2] [] [0, 1] rfl rfl)
  · have hk : ¬ (((k : Nat) : Int) < ((n1 : Nat) : Int)) := by simpa using hh
    clear hh
    refine gw_exit ?_
    refine nx_then_exit ?_
    refine nx_then_exit ?_
    refine nx_blk_here ?_
    refine nx_then ?_
    refine gw_seq ?_
    refine gw_region ?_
    have hkn : l1.take k = l1 := List.take_of_length_le (by omega)
    refine wl_ov (ov_move rfl) rfl ?_
    refine wl_ov (ov_assign rfl) rfl ?_
    refine wl_nil ?_
    refine nx_then ?_
    refine gw_ret ?_
    refine nx_ret1 rfl rfl fun wx hm => ?_
    exact ⟨ret_int (by rw [hkn]), hm.g⟩

set_option maxRecDepth 100000 in
set_option maxHeartbeats 400000 in
theorem meet_any (a1 b1 a2 b2 : Int) (w : World) : Calls Tryd.prog 134 #[.agg #[.int .i64 a1, .int .i64 b1], .agg #[.int .i64 a2, .int .i64 b2]] w (fun e w' => e = .returned (.bool (decide (max a1 a2 < min b1 b2))) ∧ w.grownBy w' none) := by
  refine gw_enter ⟨16, w, none, []⟩ Tryd.func134 rfl Tryd.ntmps134 rfl (mem0 (X := []) allF_nil allL_nil) ?_
  refine gw_seq ?_
  refine gw_region ?_
  refine wl_box rfl rfl rfl fun g1 => ?_
  refine wl_box rfl rfl rfl fun g2 => ?_
  refine wl_ov (ov_assign rfl) rfl ?_
  refine wl_nil ?_
  refine nx_then ?_
  refine gw_seq ?_
  refine gw_region ?_
  refine wl_ov (ov_field fo28_0 rfl rfl) rfl ?_
  refine wl_ov (ov_load sc3 rfl (fun _ hm => hm.blkI 1 rfl) rfl) rfl ?_
  refine wl_ov (ov_field fo28_0 rfl rfl) rfl ?_
  refine wl_ov (ov_load sc3 rfl (fun _ hm => hm.blkI 0 rfl) rfl) rfl ?_
  refine wl_ov (ov_max rfl rfl) rfl ?_
  refine wl_ov (ov_field fo28_1 rfl rfl) rfl ?_
  refine wl_ov (ov_load sc3 rfl (fun _ hm => hm.blkI 1 rfl) rfl) rfl ?_
  refine wl_ov (ov_field fo28_1 rfl rfl) rfl ?_
  refine wl_ov (ov_load sc3 rfl (fun _ hm => hm.blkI 0 rfl) rfl) rfl ?_
  refine wl_ov (ov_min rfl rfl) rfl ?_
  refine wl_ov (ov_lss rfl rfl) rfl ?_
  refine wl_ov (ov_assign rfl) rfl ?_
  refine wl_nil ?_
  refine nx_then ?_
  refine gw_ret ?_
  refine nx_ret1 rfl rfl fun wx hm => ?_
  exact ⟨rfl, hm.g⟩

end Go.Proofs.YtljnekobfjpfaaaDoor
