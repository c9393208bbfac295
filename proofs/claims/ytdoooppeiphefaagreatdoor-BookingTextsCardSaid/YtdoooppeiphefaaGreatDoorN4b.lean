/- Several texts as one: Fm Gb Bg Xe Xa Rdr Mp Md Xf Srt Xg Xh Xi Sp Bd Xw Twt Xy -/
import Derived.Test.YtdoooppeiphefaaGreatDoorN4a
import Derived.Maps.Own
import Derived.MapKept
import Derived.Lay
import Derived.LaidSub
import Derived.MakeChecks
import Derived.Stop.LaidErr
import Derived.Lib.LaidU8
import Derived.Shelf.Vars
set_option maxRecDepth 100000
set_option maxHeartbeats 4000000
namespace Go.Proofs.YtdoooppeiphefaaGreatDoor
open Go.RowKit
structure Bk where
  key : ByteArray
  cls : ByteArray
  fr : Int
  to_ : Int
  made : Int
  odds : Int
def bkEnc (b : Bk) : List Value := [.string b.key, .string b.cls, .int .i64 b.fr, .int .i64 b.to_, .int .i64 b.made, .int .i64 b.odds]
theorem bk_len (b : Bk) : (bkEnc b).length = 6 := rfl
def BkOk (b : Bk) : Prop := b.key.size ≤ 1000000 ∧ b.cls.size ≤ 1000000
def leO (p : Option Bk) (b : Bk) : Bool := match p with
  | none => false
  | some q => leB b.key q.key
def bookE (p : Option Bk) (b : Bk) : Int :=
  if !keyB b.key then 5 else if !keyB b.cls then 5 else if leO p b then 7 else
  if b.fr < 0 then 1 else if b.to_ ≤ b.fr then 1 else if 5761439 < b.to_ then 1 else if !inB b.made 0 b.fr then 1 else if !inB b.odds 0 100 then 1 else 0
def formE (l : List Bk) : Int := if 500 < l.length then 2 else scanE bookE none l
def prevK (l : List Bk) (k : Nat) : ByteArray := match prevOf l k with
  | none => ⟨#[]⟩
  | some q => q.key
theorem prevK_succ {l : List Bk} {k : Nat} {x : Bk} (h : l[k]? = some x) : prevK l (k + 1) = x.key := by
  unfold prevK prevOf; rw [if_neg (by omega), Nat.add_sub_cancel, h]
theorem leO_prevK {l : List Bk} {k : Nat} {b : Bk} (h : keyB b.key = true) : leB b.key (prevK l k) = leO (prevOf l k) b := by
  unfold prevK leO
  cases prevOf l k with
  | none => exact key_low h
  | some q => rfl
theorem formed_any (l : List Bk) (A : Option Addr) (n c : Nat) (w : World) (hl : SlT bkEnc 6 133 w A n l) (hok : ∀ b ∈ l, BkOk b) (hn : n ≤ 1000000) :
  Calls Tryz.prog 148 #[.slice A n c] w (GotE w (formE l)) := by
 refine gw_enter ⟨75, w, none, []⟩ Tryz.func148 rfl Tryz.ntmps148 rfl (mem0 (X := [SlOld bkEnc 6 133 w.heap.size none A n l]) (allF_cons hl.old allF_nil) (allL_cons SlOld.lasts allL_nil)) ?_
 refine sr_ ?_
 have hlen := hl.len
 refine sg_ rfl (nn_ (gw_seq (sr_ (mv_ rfl (wl_ov (ov_len es110 rfl) rfl ?_)))))
 refine wl_ov (ov_gtr rfl rfl) rfl ?_
 refine nn_ ?_
 refine gw_cond rfl (fun hh => ?_) (fun hh => ?_)
 ·have h1 : 500 < ((n : Nat) : Int) := by simpa using hh
  clear hh
  refine sr_ (sg_ rfl (nn_ ?_))
  refine gw_ret ?_
  refine nx_then_ret ?_
  refine nx_ret1 rfl rfl fun wx hm => ?_
  exact ⟨ret_int (by unfold formE; rw [if_pos (by omega)]), hm.g⟩
 have h1 : ¬ (500 < ((n : Nat) : Int)) := by simpa using hh
 clear hh
 refine gw_skip (nx_then (gw_seq (sr_ (mv_ rfl (wl_ov (ov_len es110 rfl) rfl (mv_ rfl (nn_ (gw_block ?_))))))))
 refine gw_loop (γ := Nat) (fun (k : Nat) => k ≤ n ∧ formE l = scanE bookE (prevOf l k) (l.drop k)) (fun (k : Nat) => [(0, .slice A n c), (8, .slice A n c), (9, .int .i64 ((n : Nat) : Int)), (10, .int .i64 ((k : Nat) : Int))]) (fun (k : Nat) => fun _ => True) (fun (k : Nat) => []) (fun (k : Nat) => []) (fun (k : Nat) => [SlOld bkEnc 6 133 w.heap.size none A n l]) (fun (k : Nat) => n - k) 0 ⟨Nat.zero_le _, by unfold formE; rw [if_neg (by omega)]; rfl⟩ ⟨rfl, rfl, rfl, rfl, trivial⟩ (fun _ hm => hm.pick [] [] [0] rfl rfl) ?_
 intro k hinv
 replace hinv : k ≤ n ∧ formE l = scanE bookE (prevOf l k) (l.drop k) := hinv
 refine sr_ (wl_ov (ov_lss rfl rfl) rfl (nn_ (gw_seq ?_)))
 refine gw_cond rfl (fun hh => ?_) (fun hh => ?_)
 ·have hk : ((k : Nat) : Int) < ((n : Nat) : Int) := by simpa using hh
  clear hh
  refine gw_skip (nx_then (gw_seq (gw_block (sr_ ?_))))
  obtain ⟨b, off, hA, _, _⟩ := hl.get (by omega)
  subst hA
  obtain ⟨x, hx⟩ : ∃ x, l[k]? = some x := ⟨_, List.getElem?_eq_getElem (by omega)⟩
  obtain ⟨ke, cl, fr, tt, ma, od⟩ := x
  have hat := scanE_at bookE l k _ hx
  obtain ⟨hk1, hk2⟩ := hok _ (List.mem_of_getElem? hx)
  have hk1 : ke.size ≤ 1000000 := hk1
  have hk2 : cl.size ≤ 1000000 := hk2
  refine mv_ rfl ?_
  refine wl_ov (ov_index (j := k) es110 rfl rfl (by omega)) rfl ?_
  refine wl_ov (ov_elem (vs := [.string ke, .string cl, .int .i64 fr, .int .i64 tt, .int .i64 ma, .int .i64 od]) rz133 rfl (fun _ hm => (hm.fact 0 rfl).1) hx rfl rfl) rfl ?_
  refine wl_alloc zc133 rfl fun g1 => ?_
  refine sg_ rfl ?_
  refine wl_stores (cs' := [.string ke, .string cl, .int .i64 fr, .int .i64 tt, .int .i64 ma, .int .i64 od]) 0 rz133 rfl rfl rfl rfl rfl rfl rfl rfl ?_
  refine nn_ (gw_block (sr_ (fd_ fo133_0 rfl rfl (lk_ sc9 0 rfl rfl rfl ?_))))
  refine wl_callw rfl cb112 rfl rfl (fun wx hm => (isKey_any _ wx (by omega))) ?_
  refine wl_ov (ov_un_not rfl) rfl (mv_ rfl ?_)
  rcases Bool.eq_false_or_eq_true (!(keyB ke)) with h2 | h2
  ·refine wl_set 20 rfl (congrArg Value.bool h2) ?_
   refine goff rfl rfl rfl (goff rfl rfl rfl (goff rfl rfl rfl (goff rfl rfl rfl (pt_ rfl rfl (sg_ rfl (nn_ (ct_ rfl (sr_ (sg_ rfl (nn_ ?_))))))))))
   refine gw_ret ?_
   refine nx_blk_ret (nx_blk_ret (nx_then_ret (nx_then_ret (nx_blk_ret (nx_then_ret ?_)))))
   have hE : bookE (prevOf l k) ⟨ke, cl, fr, tt, ma, od⟩ = 5 := by unfold bookE; simp [h2]
   refine nx_ret1 rfl rfl fun wx hm => ?_
   exact ⟨ret_int (by rw [hinv.2, hat, if_neg (by rw [hE]; decide), hE]), hm.g⟩
  refine wl_set 20 rfl (congrArg Value.bool h2) ?_
  refine wl_guard_on rfl rfl rfl (fd_ fo133_1 rfl rfl (wl_guard_on rfl rfl rfl (lk_ sc9 0 rfl rfl rfl (wl_guard_on rfl rfl rfl ?_))))
  refine wl_callw rfl cb112 rfl rfl (fun wx hm => (isKey_any _ wx (by omega))) ?_
  refine wl_guard_on rfl rfl rfl (wl_ov (ov_un_not rfl) rfl (pf_ rfl rfl (sg_ rfl (nn_ ?_))))
  refine gw_cond rfl (fun hh => ?_) (fun hh => ?_)
  ·have h3 : (keyB cl) = false := by simpa using hh
   clear hh
   refine sr_ (sg_ rfl (nn_ ?_))
   refine gw_ret ?_
   refine nx_blk_ret (nx_blk_ret (nx_then_ret (nx_then_ret (nx_blk_ret (nx_then_ret ?_)))))
   have hE : bookE (prevOf l k) ⟨ke, cl, fr, tt, ma, od⟩ = 5 := by unfold bookE; simp [h2, h3]
   refine nx_ret1 rfl rfl fun wx hm => ?_
   exact ⟨ret_int (by rw [hinv.2, hat, if_neg (by rw [hE]; decide), hE]), hm.g⟩
  have h3 : (keyB cl) = true := by simpa using hh
  clear hh
  refine gw_seq ?_
  by_cases hk0 : k = 0
  ·have hO : leO (prevOf l k) ⟨ke, cl, fr, tt, ma, od⟩ = false := by rw [prevOf_zero hk0]; rfl
   refine gd (fun wz => Blk wz g1 133 [.string ke, .string cl, .int .i64 fr, .int .i64 tt, .int .i64 ma, .int .i64 od] ∧ (SlOld bkEnc 6 133 w.heap.size none (some ⟨b, off, none⟩) n l) wz ∧ True) mixed (fun _ hm => ⟨hm.bl 0, hm.fa 0, trivial⟩) fun z => ?_
   refine wt 0 14 1 rfl z (ov_move rfl) ?_
   refine wt 1 14 3 rfl z (ov_gtr rfl rfl) ?_
   refine wa_set 28 (v' := .bool false) rfl (congrArg Value.bool (decide_eq_false (by omega))) ?_
   refine wt 2 14 7 rfl z (ov_move rfl) ?_
   refine wtf 3 14 15 rfl rfl rfl z ?_
   refine wtf 4 14 31 rfl rfl rfl z ?_
   refine wtf 5 14 63 rfl rfl rfl z ?_
   refine wtf 6 14 127 rfl rfl rfl z ?_
   refine wtf 7 14 255 rfl rfl rfl z ?_
   refine wtf 8 14 511 rfl rfl rfl z ?_
   refine wtf 9 14 1023 rfl rfl rfl z ?_
   refine wtf 10 14 2047 rfl rfl rfl z ?_
   refine wtf 11 14 4095 rfl rfl rfl z ?_
   refine wt 12 14 8191 rfl z (ov_pick_f rfl rfl) ?_
   refine wt 13 14 16383 rfl z (ov_assign rfl) ?_
   refine wa_done (by kernel_rfl) ?_
   refine nx_then (cf_ rfl (sr_ (fd_ fo133_2 rfl rfl (fd_ fo39_0 rfl rfl (lk_ sc3 0 rfl rfl rfl (wl_ov (ov_lss rfl rfl) rfl (mv_ rfl ?_)))))))
   rcases Bool.eq_false_or_eq_true (decide (fr < 0)) with h4 | h4
   ·refine wl_set 45 rfl (congrArg Value.bool h4) ?_
    replace h4 := of_decide_eq_true h4
    refine goff rfl rfl rfl (goff rfl rfl rfl (goff rfl rfl rfl (goff rfl rfl rfl (goff rfl rfl rfl (goff rfl rfl rfl (goff rfl rfl rfl (pt_ rfl rfl (mv_ rfl (goff rfl rfl rfl (goff rfl rfl rfl (goff rfl rfl rfl (goff rfl rfl rfl (pt_ rfl rfl ?_)))))))))))))
    refine sg_ rfl (nn_ (ct_ rfl (sr_ (sg_ rfl (nn_ ?_)))))
    refine gw_ret ?_
    refine nx_blk_ret (nx_blk_ret (nx_then_ret (nx_then_ret (nx_blk_ret (nx_then_ret ?_)))))
    have hE : bookE (prevOf l k) ⟨ke, cl, fr, tt, ma, od⟩ = 1 := by unfold bookE; simp [h2, h3, hO, h4]
    refine nx_ret1 rfl rfl fun wx hm => ?_
    exact ⟨ret_int (by rw [hinv.2, hat, if_neg (by rw [hE]; decide), hE]), hm.g⟩
   refine wl_set 45 rfl (congrArg Value.bool h4) ?_
   replace h4 := of_decide_eq_false h4
   refine wl_guard_on rfl rfl rfl (fd_ fo133_2 rfl rfl (wl_guard_on rfl rfl rfl (fd_ fo39_0 rfl rfl (wl_guard_on rfl rfl rfl (lk_ sc3 0 rfl rfl rfl (wl_guard_on rfl rfl rfl (fd_ fo133_2 rfl rfl (wl_guard_on rfl rfl rfl (fd_ fo39_1 rfl rfl (wl_guard_on rfl rfl rfl (lk_ sc3 0 rfl rfl rfl (wl_guard_on rfl rfl rfl ?_))))))))))))
   refine wl_ov (ov_geq rfl rfl) rfl ?_
   refine pf_ rfl rfl (mv_ rfl ?_)
   rcases Bool.eq_false_or_eq_true (decide (tt ≤ fr)) with h5 | h5
   ·refine wl_set 54 rfl (congrArg Value.bool h5) ?_
    replace h5 := of_decide_eq_true h5
    refine goff rfl rfl rfl (goff rfl rfl rfl (goff rfl rfl rfl (goff rfl rfl rfl (pt_ rfl rfl (sg_ rfl (nn_ (ct_ rfl (sr_ (sg_ rfl (nn_ ?_))))))))))
    refine gw_ret ?_
    refine nx_blk_ret (nx_blk_ret (nx_then_ret (nx_then_ret (nx_blk_ret (nx_then_ret ?_)))))
    have hE : bookE (prevOf l k) ⟨ke, cl, fr, tt, ma, od⟩ = 1 := by unfold bookE; simp [h2, h3, hO, h4, h5]
    refine nx_ret1 rfl rfl fun wx hm => ?_
    exact ⟨ret_int (by rw [hinv.2, hat, if_neg (by rw [hE]; decide), hE]), hm.g⟩
   refine wl_set 54 rfl (congrArg Value.bool h5) ?_
   replace h5 := of_decide_eq_false h5
   refine wl_guard_on rfl rfl rfl (fd_ fo133_2 rfl rfl (wl_guard_on rfl rfl rfl (fd_ fo39_1 rfl rfl (wl_guard_on rfl rfl rfl (lk_ sc3 0 rfl rfl rfl (wl_guard_on rfl rfl rfl ?_))))))
   refine wl_ov (ov_gtr rfl rfl) rfl ?_
   refine pf_ rfl rfl (sg_ rfl (nn_ ?_))
   refine gw_cond rfl (fun hh => ?_) (fun hh => ?_)
   ·have h6 : 5761439 < tt := by simpa using hh
    clear hh
    refine sr_ (sg_ rfl (nn_ ?_))
    refine gw_ret ?_
    refine nx_blk_ret (nx_blk_ret (nx_then_ret (nx_then_ret (nx_blk_ret (nx_then_ret ?_)))))
    have hE : bookE (prevOf l k) ⟨ke, cl, fr, tt, ma, od⟩ = 1 := by unfold bookE; simp [h2, h3, hO, h4, h5, h6]
    refine nx_ret1 rfl rfl fun wx hm => ?_
    exact ⟨ret_int (by rw [hinv.2, hat, if_neg (by rw [hE]; decide), hE]), hm.g⟩
   have h6 : ¬ (5761439 < tt) := by simpa using hh
   clear hh
   refine sr_ (fd_ fo133_3 rfl rfl (lk_ sc3 0 rfl rfl rfl (fd_ fo133_2 rfl rfl (fd_ fo39_0 rfl rfl (lk_ sc3 0 rfl rfl rfl ?_)))))
   refine wl_callw rfl cb169 rfl rfl (fun wx hm => (in_any _ _ _ wx)) ?_
   refine wl_ov (ov_un_not rfl) rfl (mv_ rfl ?_)
   rcases Bool.eq_false_or_eq_true (!(inB ma 0 fr)) with h7 | h7
   ·refine wl_set 68 rfl (congrArg Value.bool h7) ?_
    refine goff rfl rfl rfl (goff rfl rfl rfl (goff rfl rfl rfl (goff rfl rfl rfl (pt_ rfl rfl (sg_ rfl (nn_ (ct_ rfl (sr_ (sg_ rfl (nn_ ?_))))))))))
    refine gw_ret ?_
    refine nx_blk_ret (nx_blk_ret (nx_then_ret (nx_then_ret (nx_blk_ret (nx_then_ret ?_)))))
    have hE : bookE (prevOf l k) ⟨ke, cl, fr, tt, ma, od⟩ = 1 := by unfold bookE; simp [h2, h3, hO, h4, h5, h6, h7]
    refine nx_ret1 rfl rfl fun wx hm => ?_
    exact ⟨ret_int (by rw [hinv.2, hat, if_neg (by rw [hE]; decide), hE]), hm.g⟩
   refine wl_set 68 rfl (congrArg Value.bool h7) ?_
   refine wl_guard_on rfl rfl rfl (fd_ fo133_4 rfl rfl (wl_guard_on rfl rfl rfl (lk_ sc3 0 rfl rfl rfl (wl_guard_on rfl rfl rfl ?_))))
   refine wl_callw rfl cb169 rfl rfl (fun wx hm => (in_any _ _ _ wx)) ?_
   refine wl_guard_on rfl rfl rfl (wl_ov (ov_un_not rfl) rfl (pf_ rfl rfl (sg_ rfl (nn_ ?_))))
   refine gw_cond rfl (fun hh => ?_) (fun hh => ?_)
   ·have h8 : (inB od 0 100) = false := by simpa using hh
    clear hh
    refine sr_ (sg_ rfl (nn_ ?_))
    refine gw_ret ?_
    refine nx_blk_ret (nx_blk_ret (nx_then_ret (nx_then_ret (nx_blk_ret (nx_then_ret ?_)))))
    have hE : bookE (prevOf l k) ⟨ke, cl, fr, tt, ma, od⟩ = 1 := by unfold bookE; simp [h2, h3, hO, h4, h5, h6, h7, h8]
    refine nx_ret1 rfl rfl fun wx hm => ?_
    exact ⟨ret_int (by rw [hinv.2, hat, if_neg (by rw [hE]; decide), hE]), hm.g⟩
   have h8 : (inB od 0 100) = true := by simpa using hh
   clear hh
   refine gw_skip (nx_blk_nrm (nx_blk_nrm (nx_then (gw_region ?_))))
   have hE : bookE (prevOf l k) ⟨ke, cl, fr, tt, ma, od⟩ = 0 := by unfold bookE; simp [h2, h3, hO, h4, h5, h6, h7, h8]
   refine ad_ rfl rfl (mv_ rfl (wl_nil ?_))
   exact nx_round (k + 1) ⟨by omega, by rw [hinv.2, hat, if_pos hE]⟩ (by omega) ⟨rfl, rfl, rfl, (some_int (by omega)), trivial⟩ (fun _ hm => hm.pick [] [] [0] rfl rfl)
  obtain ⟨y, hy⟩ : ∃ x, l[k - 1]? = some x := ⟨_, List.getElem?_eq_getElem (by omega)⟩
  obtain ⟨pk, p1, p2, p3, p4, p5⟩ := y
  refine gd (fun wz => Blk wz g1 133 [.string ke, .string cl, .int .i64 fr, .int .i64 tt, .int .i64 ma, .int .i64 od] ∧ (SlOld bkEnc 6 133 w.heap.size none (some ⟨b, off, none⟩) n l) wz ∧ True) mixed (fun _ hm => ⟨hm.bl 0, hm.fa 0, trivial⟩) fun z => ?_
  refine wt 0 14 1 rfl z (ov_move rfl) ?_
  refine wt 1 14 3 rfl z (ov_gtr rfl rfl) ?_
  refine wa_set 28 (v' := .bool true) rfl (congrArg Value.bool (decide_eq_true (by omega))) ?_
  refine wt 2 14 7 rfl z (ov_move rfl) ?_
  refine wto 3 14 15 rfl rfl rfl z (ov_field fo133_0 rfl rfl) ?_
  refine wto 4 14 31 rfl rfl rfl z (ov_load sc9 rfl (fun _ hm => hm.1) rfl) ?_
  refine wto 5 14 63 rfl rfl rfl z (ov_move rfl) ?_
  refine wto 6 14 127 rfl rfl rfl z (ov_move rfl) ?_
  refine wto 7 14 255 rfl rfl rfl z (ov_sub rfl rfl (by omega) (by omega)) ?_
  refine wa_set 34 (v' := .int .i64 ((k - 1 : Nat) : Int)) rfl (congrArg (Value.int .i64) (by omega)) ?_
  refine wto 8 14 511 rfl rfl rfl z (ov_index (j := k - 1) es110 rfl rfl (by omega)) ?_
  refine wto 9 14 1023 rfl rfl rfl z (ov_field fo133_0 rfl rfl) ?_
  refine wto 10 14 2047 rfl rfl rfl z (ov_elem1 (k := 0) (v := .string pk) sc9 rfl (fun _ hm => (hm.2.1).1) hy rfl rfl) ?_
  refine wto 11 14 4095 rfl rfl rfl z (ov_sleq rfl rfl) ?_
  refine wt 12 14 8191 rfl z (ov_pick_t rfl rfl) ?_
  refine wt 13 14 16383 rfl z (ov_assign rfl) ?_
  refine wa_done (by kernel_rfl) ?_
  refine nx_then ?_
  refine gw_cond rfl (fun hh => ?_) (fun hh => ?_)
  ·have h9 : (Op.bytesLess ke.toList pk.toList || ke.toList == pk.toList) = true := by simpa using hh
   clear hh
   refine sr_ ?_
   have hO : leO (prevOf l k) ⟨ke, cl, fr, tt, ma, od⟩ = true := by rw [prevOf_pos hk0 hy]; exact h9
   refine sg_ rfl (nn_ ?_)
   refine gw_ret ?_
   refine nx_blk_ret (nx_blk_ret (nx_then_ret (nx_then_ret (nx_blk_ret (nx_then_ret ?_)))))
   have hE : bookE (prevOf l k) ⟨ke, cl, fr, tt, ma, od⟩ = 7 := by unfold bookE; simp [h2, h3, hO]
   refine nx_ret1 rfl rfl fun wx hm => ?_
   exact ⟨ret_int (by rw [hinv.2, hat, if_neg (by rw [hE]; decide), hE]), hm.g⟩
  have h9 : (Op.bytesLess ke.toList pk.toList || ke.toList == pk.toList) = false := by simpa using hh
  clear hh
  refine sr_ ?_
  have hO : leO (prevOf l k) ⟨ke, cl, fr, tt, ma, od⟩ = false := by rw [prevOf_pos hk0 hy]; exact h9
  refine fd_ fo133_2 rfl rfl (fd_ fo39_0 rfl rfl (lk_ sc3 0 rfl rfl rfl (wl_ov (ov_lss rfl rfl) rfl (mv_ rfl ?_))))
  rcases Bool.eq_false_or_eq_true (decide (fr < 0)) with h4 | h4
  ·refine wl_set 45 rfl (congrArg Value.bool h4) ?_
   replace h4 := of_decide_eq_true h4
   refine goff rfl rfl rfl (goff rfl rfl rfl (goff rfl rfl rfl (goff rfl rfl rfl (goff rfl rfl rfl (goff rfl rfl rfl (goff rfl rfl rfl (pt_ rfl rfl (mv_ rfl (goff rfl rfl rfl (goff rfl rfl rfl (goff rfl rfl rfl (goff rfl rfl rfl (pt_ rfl rfl ?_)))))))))))))
   refine sg_ rfl (nn_ (ct_ rfl (sr_ (sg_ rfl (nn_ ?_)))))
   refine gw_ret ?_
   refine nx_blk_ret (nx_blk_ret (nx_then_ret (nx_then_ret (nx_blk_ret (nx_then_ret ?_)))))
   have hE : bookE (prevOf l k) ⟨ke, cl, fr, tt, ma, od⟩ = 1 := by unfold bookE; simp [h2, h3, hO, h4]
   refine nx_ret1 rfl rfl fun wx hm => ?_
   exact ⟨ret_int (by rw [hinv.2, hat, if_neg (by rw [hE]; decide), hE]), hm.g⟩
  refine wl_set 45 rfl (congrArg Value.bool h4) ?_
  replace h4 := of_decide_eq_false h4
  refine wl_guard_on rfl rfl rfl (fd_ fo133_2 rfl rfl (wl_guard_on rfl rfl rfl (fd_ fo39_0 rfl rfl (wl_guard_on rfl rfl rfl (lk_ sc3 0 rfl rfl rfl (wl_guard_on rfl rfl rfl (fd_ fo133_2 rfl rfl (wl_guard_on rfl rfl rfl (fd_ fo39_1 rfl rfl (wl_guard_on rfl rfl rfl (lk_ sc3 0 rfl rfl rfl (wl_guard_on rfl rfl rfl ?_))))))))))))
  refine wl_ov (ov_geq rfl rfl) rfl ?_
  refine pf_ rfl rfl (mv_ rfl ?_)
  rcases Bool.eq_false_or_eq_true (decide (tt ≤ fr)) with h5 | h5
  ·refine wl_set 54 rfl (congrArg Value.bool h5) ?_
   replace h5 := of_decide_eq_true h5
   refine goff rfl rfl rfl (goff rfl rfl rfl (goff rfl rfl rfl (goff rfl rfl rfl (pt_ rfl rfl (sg_ rfl (nn_ (ct_ rfl (sr_ (sg_ rfl (nn_ ?_))))))))))
   refine gw_ret ?_
   refine nx_blk_ret (nx_blk_ret (nx_then_ret (nx_then_ret (nx_blk_ret (nx_then_ret ?_)))))
   have hE : bookE (prevOf l k) ⟨ke, cl, fr, tt, ma, od⟩ = 1 := by unfold bookE; simp [h2, h3, hO, h4, h5]
   refine nx_ret1 rfl rfl fun wx hm => ?_
   exact ⟨ret_int (by rw [hinv.2, hat, if_neg (by rw [hE]; decide), hE]), hm.g⟩
  refine wl_set 54 rfl (congrArg Value.bool h5) ?_
  replace h5 := of_decide_eq_false h5
  refine wl_guard_on rfl rfl rfl (fd_ fo133_2 rfl rfl (wl_guard_on rfl rfl rfl (fd_ fo39_1 rfl rfl (wl_guard_on rfl rfl rfl (lk_ sc3 0 rfl rfl rfl (wl_guard_on rfl rfl rfl ?_))))))
  refine wl_ov (ov_gtr rfl rfl) rfl ?_
  refine pf_ rfl rfl (sg_ rfl (nn_ ?_))
  refine gw_cond rfl (fun hh => ?_) (fun hh => ?_)
  ·have h6 : 5761439 < tt := by simpa using hh
   clear hh
   refine sr_ (sg_ rfl (nn_ ?_))
   refine gw_ret ?_
   refine nx_blk_ret (nx_blk_ret (nx_then_ret (nx_then_ret (nx_blk_ret (nx_then_ret ?_)))))
   have hE : bookE (prevOf l k) ⟨ke, cl, fr, tt, ma, od⟩ = 1 := by unfold bookE; simp [h2, h3, hO, h4, h5, h6]
   refine nx_ret1 rfl rfl fun wx hm => ?_
   exact ⟨ret_int (by rw [hinv.2, hat, if_neg (by rw [hE]; decide), hE]), hm.g⟩
  have h6 : ¬ (5761439 < tt) := by simpa using hh
  clear hh
  refine sr_ (fd_ fo133_3 rfl rfl (lk_ sc3 0 rfl rfl rfl (fd_ fo133_2 rfl rfl (fd_ fo39_0 rfl rfl (lk_ sc3 0 rfl rfl rfl ?_)))))
  refine wl_callw rfl cb169 rfl rfl (fun wx hm => (in_any _ _ _ wx)) ?_
  refine wl_ov (ov_un_not rfl) rfl (mv_ rfl ?_)
  rcases Bool.eq_false_or_eq_true (!(inB ma 0 fr)) with h7 | h7
  ·refine wl_set 68 rfl (congrArg Value.bool h7) ?_
   refine goff rfl rfl rfl (goff rfl rfl rfl (goff rfl rfl rfl (goff rfl rfl rfl (pt_ rfl rfl (sg_ rfl (nn_ (ct_ rfl (sr_ (sg_ rfl (nn_ ?_))))))))))
   refine gw_ret ?_
   refine nx_blk_ret (nx_blk_ret (nx_then_ret (nx_then_ret (nx_blk_ret (nx_then_ret ?_)))))
   have hE : bookE (prevOf l k) ⟨ke, cl, fr, tt, ma, od⟩ = 1 := by unfold bookE; simp [h2, h3, hO, h4, h5, h6, h7]
   refine nx_ret1 rfl rfl fun wx hm => ?_
   exact ⟨ret_int (by rw [hinv.2, hat, if_neg (by rw [hE]; decide), hE]), hm.g⟩
  refine wl_set 68 rfl (congrArg Value.bool h7) ?_
  refine wl_guard_on rfl rfl rfl (fd_ fo133_4 rfl rfl (wl_guard_on rfl rfl rfl (lk_ sc3 0 rfl rfl rfl (wl_guard_on rfl rfl rfl ?_))))
  refine wl_callw rfl cb169 rfl rfl (fun wx hm => (in_any _ _ _ wx)) ?_
  refine wl_guard_on rfl rfl rfl (wl_ov (ov_un_not rfl) rfl (pf_ rfl rfl (sg_ rfl (nn_ ?_))))
  refine gw_cond rfl (fun hh => ?_) (fun hh => ?_)
  ·have h8 : (inB od 0 100) = false := by simpa using hh
   clear hh
   refine sr_ (sg_ rfl (nn_ ?_))
   refine gw_ret ?_
   refine nx_blk_ret (nx_blk_ret (nx_then_ret (nx_then_ret (nx_blk_ret (nx_then_ret ?_)))))
   have hE : bookE (prevOf l k) ⟨ke, cl, fr, tt, ma, od⟩ = 1 := by unfold bookE; simp [h2, h3, hO, h4, h5, h6, h7, h8]
   refine nx_ret1 rfl rfl fun wx hm => ?_
   exact ⟨ret_int (by rw [hinv.2, hat, if_neg (by rw [hE]; decide), hE]), hm.g⟩
  have h8 : (inB od 0 100) = true := by simpa using hh
  clear hh
  refine gw_skip (nx_blk_nrm (nx_blk_nrm (nx_then (gw_region ?_))))
  have hE : bookE (prevOf l k) ⟨ke, cl, fr, tt, ma, od⟩ = 0 := by unfold bookE; simp [h2, h3, hO, h4, h5, h6, h7, h8]
  refine ad_ rfl rfl (mv_ rfl (wl_nil ?_))
  exact nx_round (k + 1) ⟨by omega, by rw [hinv.2, hat, if_pos hE]⟩ (by omega) ⟨rfl, rfl, rfl, (some_int (by omega)), trivial⟩ (fun _ hm => hm.pick [] [] [0] rfl rfl)
 have hk : ¬ (((k : Nat) : Int) < ((n : Nat) : Int)) := by simpa using hh
 clear hh
 refine gw_exit ?_
 refine nx_then_exit (nx_then_exit ?_)
 refine nx_blk_here ?_
 refine nx_then (sr_ (sg_ rfl (nn_ ?_)))
 refine gw_ret ?_
 refine nx_ret1 rfl rfl fun wx hm => ?_
 exact ⟨ret_int (by rw [hinv.2, scanE_end _ _ _ _ (by omega)]), hm.g⟩
theorem bookingForm_any (l : List Bk) (A : Option Addr) (n c : Nat) (w : World) (hl : SlT bkEnc 6 133 w A n l) (hok : ∀ b ∈ l, BkOk b) (hn : n ≤ 1000000) :
  Calls Tryz.prog 54 #[.slice A n c] w (GotE w (formE l)) := by
 refine gw_enter ⟨69, w, none, []⟩ Tryz.func54 rfl Tryz.ntmps54 rfl (mem0 (X := [SlOld bkEnc 6 133 w.heap.size none A n l]) (allF_cons hl.old allF_nil) (allL_cons SlOld.lasts allL_nil)) ?_
 refine sr_ ?_
 have hlen := hl.len
 refine sg_ rfl (nn_ (gw_seq (sr_ (mv_ rfl (wl_ov (ov_len es110 rfl) rfl ?_)))))
 refine wl_ov (ov_gtr rfl rfl) rfl ?_
 refine nn_ ?_
 refine gw_cond rfl (fun hh => ?_) (fun hh => ?_)
 ·have h1 : 500 < ((n : Nat) : Int) := by simpa using hh
  clear hh
  refine sr_ (sg_ rfl (nn_ ?_))
  refine gw_ret ?_
  refine nx_then_ret ?_
  refine nx_ret1 rfl rfl fun wx hm => ?_
  exact ⟨ret_int (by unfold formE; rw [if_pos (by omega)]), hm.g⟩
 have h1 : ¬ (500 < ((n : Nat) : Int)) := by simpa using hh
 clear hh
 refine gw_skip (nx_then (sr_ (sg_ rfl (nn_ (gw_seq (sr_ (mv_ rfl (wl_ov (ov_len es110 rfl) rfl (mv_ rfl (wl_nil ?_))))))))))
 refine nx_then (gw_block ?_)
 refine gw_loop (γ := Nat) (fun (k : Nat) => k ≤ n ∧ formE l = scanE bookE (prevOf l k) (l.drop k)) (fun (k : Nat) => [(3, .string (prevK l k)), (9, .slice A n c), (10, .int .i64 ((n : Nat) : Int)), (11, .int .i64 ((k : Nat) : Int))]) (fun (k : Nat) => fun _ => True) (fun (k : Nat) => []) (fun (k : Nat) => []) (fun (k : Nat) => [SlOld bkEnc 6 133 w.heap.size none A n l]) (fun (k : Nat) => n - k) 0 ⟨Nat.zero_le _, by unfold formE; rw [if_neg (by omega)]; rfl⟩ ⟨rfl, rfl, rfl, rfl, trivial⟩ (fun _ hm => hm.pick [] [] [0] rfl rfl) ?_
 intro k hinv
 replace hinv : k ≤ n ∧ formE l = scanE bookE (prevOf l k) (l.drop k) := hinv
 refine sr_ (wl_ov (ov_lss rfl rfl) rfl (nn_ (gw_seq ?_)))
 refine gw_cond rfl (fun hh => ?_) (fun hh => ?_)
 ·have hk : ((k : Nat) : Int) < ((n : Nat) : Int) := by simpa using hh
  clear hh
  refine gw_skip (nx_then (gw_seq (gw_block (sr_ ?_))))
  obtain ⟨b, off, hA, _, _⟩ := hl.get (by omega)
  subst hA
  obtain ⟨x, hx⟩ : ∃ x, l[k]? = some x := ⟨_, List.getElem?_eq_getElem (by omega)⟩
  obtain ⟨ke, cl, fr, tt, ma, od⟩ := x
  have hat := scanE_at bookE l k _ hx
  obtain ⟨hk1, hk2⟩ := hok _ (List.mem_of_getElem? hx)
  have hk1 : ke.size ≤ 1000000 := hk1
  have hk2 : cl.size ≤ 1000000 := hk2
  refine wl_ov (ov_index (j := k) es110 rfl rfl (by omega)) rfl ?_
  refine wl_ov (ov_elem (vs := [.string ke, .string cl, .int .i64 fr, .int .i64 tt, .int .i64 ma, .int .i64 od]) rz133 rfl (fun _ hm => (hm.fact 0 rfl).1) hx rfl rfl) rfl ?_
  refine wl_alloc zc133 rfl fun g1 => ?_
  refine wl_stores (cs' := [.string ke, .string cl, .int .i64 fr, .int .i64 tt, .int .i64 ma, .int .i64 od]) 0 rz133 rfl rfl rfl rfl rfl rfl rfl rfl ?_
  refine nn_ (gw_seq (gw_block (sr_ (fd_ fo133_0 rfl rfl (lk_ sc9 0 rfl rfl rfl ?_)))))
  refine wl_callv rfl cb153 rfl rfl (fun wx hm => (key_any _ wx (by omega))) ?_
  refine wl_ov (ov_un_not rfl) rfl (mv_ rfl ?_)
  rcases Bool.eq_false_or_eq_true (!(keyB ke)) with h2 | h2
  ·refine wl_set 20 rfl (congrArg Value.bool h2) ?_
   refine goff rfl rfl rfl (goff rfl rfl rfl (goff rfl rfl rfl (goff rfl rfl rfl (pt_ rfl rfl (sg_ rfl (nn_ (ct_ rfl (sr_ (sg_ rfl (nn_ ?_))))))))))
   refine gw_ret ?_
   refine nx_blk_ret (nx_then_ret (nx_blk_ret (nx_then_ret (nx_then_ret (nx_blk_ret (nx_then_ret ?_))))))
   have hE : bookE (prevOf l k) ⟨ke, cl, fr, tt, ma, od⟩ = 5 := by unfold bookE; simp [h2]
   refine nx_ret1 rfl rfl fun wx hm => ?_
   exact ⟨ret_int (by rw [hinv.2, hat, if_neg (by rw [hE]; decide), hE]), hm.g⟩
  refine wl_set 20 rfl (congrArg Value.bool h2) ?_
  refine wl_guard_on rfl rfl rfl (fd_ fo133_1 rfl rfl (wl_guard_on rfl rfl rfl (lk_ sc9 0 rfl rfl rfl (wl_guard_on rfl rfl rfl ?_))))
  refine wl_callv rfl cb153 rfl rfl (fun wx hm => (key_any _ wx (by omega))) ?_
  refine wl_guard_on rfl rfl rfl (wl_ov (ov_un_not rfl) rfl (pf_ rfl rfl (sg_ rfl (nn_ ?_))))
  refine gw_cond rfl (fun hh => ?_) (fun hh => ?_)
  ·have h3 : (keyB cl) = false := by simpa using hh
   clear hh
   refine sr_ (sg_ rfl (nn_ ?_))
   refine gw_ret ?_
   refine nx_blk_ret (nx_then_ret (nx_blk_ret (nx_then_ret (nx_then_ret (nx_blk_ret (nx_then_ret ?_))))))
   have hE : bookE (prevOf l k) ⟨ke, cl, fr, tt, ma, od⟩ = 5 := by unfold bookE; simp [h2, h3]
   refine nx_ret1 rfl rfl fun wx hm => ?_
   exact ⟨ret_int (by rw [hinv.2, hat, if_neg (by rw [hE]; decide), hE]), hm.g⟩
  have h3 : (keyB cl) = true := by simpa using hh
  clear hh
  refine sr_ (fd_ fo133_0 rfl rfl (lk_ sc9 0 rfl rfl rfl (mv_ rfl ?_)))
  refine wl_ov (ov_sleq rfl rfl) rfl ?_
  refine sg_ rfl (nn_ ?_)
  refine gw_cond rfl (fun hh => ?_) (fun hh => ?_)
  ·have h9 : (Op.bytesLess ke.toList (prevK l k).toList || ke.toList == (prevK l k).toList) = true := by simpa using hh
   clear hh
   refine sr_ ?_
   have hO : leO (prevOf l k) ⟨ke, cl, fr, tt, ma, od⟩ = true := (leO_prevK (b := ⟨ke, cl, fr, tt, ma, od⟩) (by simpa using h2)).symm.trans h9
   refine sg_ rfl (nn_ ?_)
   refine gw_ret ?_
   refine nx_blk_ret (nx_then_ret (nx_blk_ret (nx_then_ret (nx_then_ret (nx_blk_ret (nx_then_ret ?_))))))
   have hE : bookE (prevOf l k) ⟨ke, cl, fr, tt, ma, od⟩ = 7 := by unfold bookE; simp [h2, h3, hO]
   refine nx_ret1 rfl rfl fun wx hm => ?_
   exact ⟨ret_int (by rw [hinv.2, hat, if_neg (by rw [hE]; decide), hE]), hm.g⟩
  have h9 : (Op.bytesLess ke.toList (prevK l k).toList || ke.toList == (prevK l k).toList) = false := by simpa using hh
  clear hh
  refine sr_ ?_
  have hO : leO (prevOf l k) ⟨ke, cl, fr, tt, ma, od⟩ = false := (leO_prevK (b := ⟨ke, cl, fr, tt, ma, od⟩) (by simpa using h2)).symm.trans h9
  refine fd_ fo133_2 rfl rfl (fd_ fo39_0 rfl rfl (lk_ sc3 0 rfl rfl rfl (wl_ov (ov_lss rfl rfl) rfl (mv_ rfl ?_))))
  rcases Bool.eq_false_or_eq_true (decide (fr < 0)) with h4 | h4
  ·refine wl_set 36 rfl (congrArg Value.bool h4) ?_
   replace h4 := of_decide_eq_true h4
   refine goff rfl rfl rfl (goff rfl rfl rfl (goff rfl rfl rfl (goff rfl rfl rfl (goff rfl rfl rfl (goff rfl rfl rfl (goff rfl rfl rfl (pt_ rfl rfl (mv_ rfl (goff rfl rfl rfl (goff rfl rfl rfl (goff rfl rfl rfl (goff rfl rfl rfl (pt_ rfl rfl ?_)))))))))))))
   refine mv_ rfl (goff rfl rfl rfl (goff rfl rfl rfl (goff rfl rfl rfl (goff rfl rfl rfl (goff rfl rfl rfl (goff rfl rfl rfl (goff rfl rfl rfl (pt_ rfl rfl (mv_ rfl (goff rfl rfl rfl (goff rfl rfl rfl (goff rfl rfl rfl (goff rfl rfl rfl ?_)))))))))))))
   refine pt_ rfl rfl (sg_ rfl (nn_ (ct_ rfl (sr_ (sg_ rfl (nn_ ?_))))))
   refine gw_ret ?_
   refine nx_blk_ret (nx_then_ret (nx_blk_ret (nx_then_ret (nx_then_ret (nx_blk_ret (nx_then_ret ?_))))))
   have hE : bookE (prevOf l k) ⟨ke, cl, fr, tt, ma, od⟩ = 1 := by unfold bookE; simp [h2, h3, hO, h4]
   refine nx_ret1 rfl rfl fun wx hm => ?_
   exact ⟨ret_int (by rw [hinv.2, hat, if_neg (by rw [hE]; decide), hE]), hm.g⟩
  refine wl_set 36 rfl (congrArg Value.bool h4) ?_
  replace h4 := of_decide_eq_false h4
  refine wl_guard_on rfl rfl rfl (fd_ fo133_2 rfl rfl (wl_guard_on rfl rfl rfl (fd_ fo39_0 rfl rfl (wl_guard_on rfl rfl rfl (lk_ sc3 0 rfl rfl rfl (wl_guard_on rfl rfl rfl (fd_ fo133_2 rfl rfl (wl_guard_on rfl rfl rfl (fd_ fo39_1 rfl rfl (wl_guard_on rfl rfl rfl (lk_ sc3 0 rfl rfl rfl (wl_guard_on rfl rfl rfl ?_))))))))))))
  refine wl_ov (ov_geq rfl rfl) rfl ?_
  refine pf_ rfl rfl (mv_ rfl ?_)
  rcases Bool.eq_false_or_eq_true (decide (tt ≤ fr)) with h5 | h5
  ·refine wl_set 45 rfl (congrArg Value.bool h5) ?_
   replace h5 := of_decide_eq_true h5
   refine goff rfl rfl rfl (goff rfl rfl rfl (goff rfl rfl rfl (goff rfl rfl rfl (pt_ rfl rfl (mv_ rfl (goff rfl rfl rfl (goff rfl rfl rfl (goff rfl rfl rfl (goff rfl rfl rfl (goff rfl rfl rfl (goff rfl rfl rfl (goff rfl rfl rfl (pt_ rfl rfl ?_)))))))))))))
   refine mv_ rfl (goff rfl rfl rfl (goff rfl rfl rfl (goff rfl rfl rfl (goff rfl rfl rfl (pt_ rfl rfl (sg_ rfl (nn_ (ct_ rfl (sr_ (sg_ rfl (wl_nil ?_)))))))))))
   refine nx_then ?_
   refine gw_ret ?_
   refine nx_blk_ret (nx_then_ret (nx_blk_ret (nx_then_ret (nx_then_ret (nx_blk_ret (nx_then_ret ?_))))))
   have hE : bookE (prevOf l k) ⟨ke, cl, fr, tt, ma, od⟩ = 1 := by unfold bookE; simp [h2, h3, hO, h4, h5]
   refine nx_ret1 rfl rfl fun wx hm => ?_
   exact ⟨ret_int (by rw [hinv.2, hat, if_neg (by rw [hE]; decide), hE]), hm.g⟩
  refine wl_set 45 rfl (congrArg Value.bool h5) ?_
  replace h5 := of_decide_eq_false h5
  refine wl_guard_on rfl rfl rfl (fd_ fo133_2 rfl rfl (wl_guard_on rfl rfl rfl (fd_ fo39_1 rfl rfl (wl_guard_on rfl rfl rfl (lk_ sc3 0 rfl rfl rfl (wl_guard_on rfl rfl rfl ?_))))))
  refine wl_ov (ov_gtr rfl rfl) rfl ?_
  refine pf_ rfl rfl (mv_ rfl ?_)
  rcases Bool.eq_false_or_eq_true (decide (5761439 < tt)) with h6 | h6
  ·refine wl_set 51 rfl (congrArg Value.bool h6) ?_
   replace h6 := of_decide_eq_true h6
   refine goff rfl rfl rfl (goff rfl rfl rfl (goff rfl rfl rfl (goff rfl rfl rfl (goff rfl rfl rfl (goff rfl rfl rfl (goff rfl rfl rfl (pt_ rfl rfl (mv_ rfl (goff rfl rfl rfl (goff rfl rfl rfl (goff rfl rfl rfl (goff rfl rfl rfl (pt_ rfl rfl ?_)))))))))))))
   refine sg_ rfl (nn_ (ct_ rfl (sr_ (sg_ rfl (nn_ ?_)))))
   refine gw_ret ?_
   refine nx_blk_ret (nx_then_ret (nx_blk_ret (nx_then_ret (nx_then_ret (nx_blk_ret (nx_then_ret ?_))))))
   have hE : bookE (prevOf l k) ⟨ke, cl, fr, tt, ma, od⟩ = 1 := by unfold bookE; simp [h2, h3, hO, h4, h5, h6]
   refine nx_ret1 rfl rfl fun wx hm => ?_
   exact ⟨ret_int (by rw [hinv.2, hat, if_neg (by rw [hE]; decide), hE]), hm.g⟩
  refine wl_set 51 rfl (congrArg Value.bool h6) ?_
  replace h6 := of_decide_eq_false h6
  refine wl_guard_on rfl rfl rfl (fd_ fo133_3 rfl rfl (wl_guard_on rfl rfl rfl (lk_ sc3 0 rfl rfl rfl (wl_guard_on rfl rfl rfl (fd_ fo133_2 rfl rfl (wl_guard_on rfl rfl rfl (fd_ fo39_0 rfl rfl (wl_guard_on rfl rfl rfl (lk_ sc3 0 rfl rfl rfl (wl_guard_on rfl rfl rfl ?_))))))))))
  refine wl_callw rfl cb75 rfl rfl (fun wx hm => (rin_any _ _ _ wx)) ?_
  refine wl_guard_on rfl rfl rfl (wl_ov (ov_un_not rfl) rfl (pf_ rfl rfl (mv_ rfl ?_)))
  rcases Bool.eq_false_or_eq_true (!(inB ma 0 fr)) with h7 | h7
  ·refine wl_set 60 rfl (congrArg Value.bool h7) ?_
   refine goff rfl rfl rfl (goff rfl rfl rfl (goff rfl rfl rfl (goff rfl rfl rfl (pt_ rfl rfl (sg_ rfl (nn_ (ct_ rfl (sr_ (sg_ rfl (nn_ ?_))))))))))
   refine gw_ret ?_
   refine nx_blk_ret (nx_then_ret (nx_blk_ret (nx_then_ret (nx_then_ret (nx_blk_ret (nx_then_ret ?_))))))
   have hE : bookE (prevOf l k) ⟨ke, cl, fr, tt, ma, od⟩ = 1 := by unfold bookE; simp [h2, h3, hO, h4, h5, h6, h7]
   refine nx_ret1 rfl rfl fun wx hm => ?_
   exact ⟨ret_int (by rw [hinv.2, hat, if_neg (by rw [hE]; decide), hE]), hm.g⟩
  refine wl_set 60 rfl (congrArg Value.bool h7) ?_
  refine wl_guard_on rfl rfl rfl (fd_ fo133_4 rfl rfl (wl_guard_on rfl rfl rfl (lk_ sc3 0 rfl rfl rfl (wl_guard_on rfl rfl rfl ?_))))
  refine wl_callw rfl cb75 rfl rfl (fun wx hm => (rin_any _ _ _ wx)) ?_
  refine wl_guard_on rfl rfl rfl (wl_ov (ov_un_not rfl) rfl (pf_ rfl rfl (sg_ rfl (nn_ ?_))))
  refine gw_cond rfl (fun hh => ?_) (fun hh => ?_)
  ·have h8 : (inB od 0 100) = false := by simpa using hh
   clear hh
   refine sr_ (sg_ rfl (nn_ ?_))
   refine gw_ret ?_
   refine nx_blk_ret (nx_then_ret (nx_blk_ret (nx_then_ret (nx_then_ret (nx_blk_ret (nx_then_ret ?_))))))
   have hE : bookE (prevOf l k) ⟨ke, cl, fr, tt, ma, od⟩ = 1 := by unfold bookE; simp [h2, h3, hO, h4, h5, h6, h7, h8]
   refine nx_ret1 rfl rfl fun wx hm => ?_
   exact ⟨ret_int (by rw [hinv.2, hat, if_neg (by rw [hE]; decide), hE]), hm.g⟩
  have h8 : (inB od 0 100) = true := by simpa using hh
  clear hh
  refine gw_skip (nx_blk_nrm (nx_then (gw_region ?_)))
  have hE : bookE (prevOf l k) ⟨ke, cl, fr, tt, ma, od⟩ = 0 := by unfold bookE; simp [h2, h3, hO, h4, h5, h6, h7, h8]
  refine fd_ fo133_0 rfl rfl (lk_ sc9 0 rfl rfl rfl (sg_ rfl (wl_nil (nx_blk_nrm (nx_then (gw_region (ad_ rfl rfl (mv_ rfl (wl_nil ?_)))))))))
  exact nx_round (k + 1) ⟨by omega, by rw [hinv.2, hat, if_pos hE]⟩ (by omega) ⟨(congrArg (fun z => some (Value.string z)) (prevK_succ hx).symm), rfl, rfl, (some_int (by omega)), trivial⟩ (fun _ hm => hm.pick [] [] [0] rfl rfl)
 have hk : ¬ (((k : Nat) : Int) < ((n : Nat) : Int)) := by simpa using hh
 clear hh
 refine gw_exit ?_
 refine nx_then_exit (nx_then_exit ?_)
 refine nx_blk_here ?_
 refine nx_then (sr_ (sg_ rfl (nn_ ?_)))
 refine gw_ret ?_
 refine nx_ret1 rfl rfl fun wx hm => ?_
 exact ⟨ret_int (by rw [hinv.2, scanE_end _ _ _ _ (by omega)]), hm.g⟩
end Go.Proofs.YtdoooppeiphefaaGreatDoor
namespace Go.Proofs.YtdoooppeiphefaaGreatDoor
open Go.RowKit
theorem isBelow_lt {n v : Int} (h : IsBelow n v) (hn : 1 ≤ n) : 0 ≤ v ∧ v < n := by unfold IsBelow at h; omega
set_option maxHeartbeats 400000 in
theorem range_any (lo hi : Int) (w : World) (B sb m : Nat) (hS : Strm 25 w B sb m) (hm : m ≤ 1000000000000) (h1 : -4611686018427387904 ≤ lo) (h2 : hi ≤ 4611686018427387902) (h3 : lo ≤ 4611686018427387902) (h4 : -4611686018427387904 ≤ hi) :
    Calls Tryz.prog 10 #[.pointer (some ⟨sb, 0, none⟩), .int .i64 lo, .int .i64 hi] w (GotInt 25 w B sb (m + 1) (fun v => lo ≤ v ∧ (v ≤ hi ∨ v = lo))) := by
  by_cases hlt : hi < lo
  · go_enter Tryz.func10, Tryz.ntmps10
    go_wp2_with fail
    go_ret
    exact ⟨lo, ⟨by omega, .inr rfl⟩, rfl, hS.more (by omega), World.grownBy.refl _ _⟩
  · go_enter Tryz.func10, Tryz.ntmps10
    go_wp2_with fail
    refine (next_any _ _ B sb m hS hm (by omega) (by omega)).mono ?_
    rintro e w1 ⟨v, hv, rfl, hS1, hg1⟩
    have hv := isBelow_lt hv (by omega)
    go_wp2_with fail
    go_ret
    exact ⟨lo + v, ⟨by omega, .inl (by omega)⟩, rfl, hS1, hg1⟩
set_option maxHeartbeats 400000 in
theorem flip_any (n : Int) (w : World) (B sb m : Nat) (hS : Strm 25 w B sb m) (hm : m ≤ 1000000000000) (hn1 : -9223372036854775808 ≤ n) (hn2 : n ≤ 9223372036854775807) :
    Calls Tryz.prog 64 #[.pointer (some ⟨sb, 0, none⟩), .int .i64 n] w (GotBool 25 w B sb (m + 1)) := by
  go_enter Tryz.func64, Tryz.ntmps64
  go_wp2_with fail
  refine (next_any _ _ B sb m hS hm hn1 hn2).mono ?_
  rintro e w1 ⟨v, hv, rfl, hS1, hg1⟩
  go_wp2_with fail
  go_ret
  exact ⟨_, rfl, hS1, hg1⟩
set_option maxHeartbeats 400000 in
theorem pick_any (xs : List Int) (g c : Nat) (T : TypeId) (w : World) (B sb m : Nat) (hS : Strm 25 w B sb m) (hm : m ≤ 1000000000000) (hx : 0 < xs.length) (hx2 : xs.length ≤ 1000000) (hg : Blk w g T (xs.map (Value.int .i64))) (hne : g ≠ sb) :
    Calls Tryz.prog 63 #[.pointer (some ⟨sb, 0, none⟩), .slice (some ⟨g, 0, none⟩) xs.length c] w (GotInt 25 w B sb (m + 1) (fun v => v ∈ xs)) := by
  obtain ⟨n, hn⟩ : ∃ n, n = xs.length := ⟨_, rfl⟩
  rw [← hn] at hx hx2 ⊢
  have Hn := Lib.hid hn; clear hn
  go_enter Tryz.func63, Tryz.ntmps63
  go_wp2_with fail
  refine (next_any _ _ B sb m hS hm (by omega) (by omega)).mono ?_
  rintro e w1 ⟨v, hv, rfl, hS1, hg1⟩
  have hv := isBelow_lt hv (by omega)
  obtain ⟨i, rfl⟩ := Int.eq_ofNat_of_zero_le hv.1
  have hi : i < n := by omega
  have hgb := hg.grown hg1 (by simpa using hne)
  obtain ⟨x, hx⟩ : ∃ x, xs[i]? = some x := ⟨_, List.getElem?_eq_getElem (by have := Hn.out; omega)⟩
  have hc : w1.cell? ⟨g, i, none⟩ = some (.int .i64 x) := hgb.cell_of (by simp [hx])
  have hmem : x ∈ xs := List.mem_of_getElem? hx
  clear hx hgb
  go_wp2_with fail
  go_ret
  exact ⟨x, hmem, rfl, hS1, hg1⟩
set_option maxHeartbeats 400000 in
theorem some_any (xs : List ByteArray) (g c : Nat) (T : TypeId) (w : World) (B sb m : Nat) (hS : Strm 25 w B sb m) (hm : m ≤ 1000000000000) (hx : 0 < xs.length) (hx2 : xs.length ≤ 1000000) (hg : Blk w g T (xs.map Value.string)) (hne : g ≠ sb) :
    Calls Tryz.prog 62 #[.pointer (some ⟨sb, 0, none⟩), .slice (some ⟨g, 0, none⟩) xs.length c] w (GotStr 25 w B sb (m + 1) (fun v => v ∈ xs)) := by
  obtain ⟨n, hn⟩ : ∃ n, n = xs.length := ⟨_, rfl⟩
  rw [← hn] at hx hx2 ⊢
  have Hn := Lib.hid hn; clear hn
  go_enter Tryz.func62, Tryz.ntmps62
  go_wp2_with fail
  refine (next_any _ _ B sb m hS hm (by omega) (by omega)).mono ?_
  rintro e w1 ⟨v, hv, rfl, hS1, hg1⟩
  have hv := isBelow_lt hv (by omega)
  obtain ⟨i, rfl⟩ := Int.eq_ofNat_of_zero_le hv.1
  have hi : i < n := by omega
  have hgb := hg.grown hg1 (by simpa using hne)
  obtain ⟨x, hx⟩ : ∃ x, xs[i]? = some x := ⟨_, List.getElem?_eq_getElem (by have := Hn.out; omega)⟩
  have hc : w1.cell? ⟨g, i, none⟩ = some (.string x) := hgb.cell_of (by simp [hx])
  have hmem : x ∈ xs := List.mem_of_getElem? hx
  clear hx hgb
  go_wp2_with fail
  go_ret
  exact ⟨x, hmem, rfl, hS1, hg1⟩
set_option maxHeartbeats 400000 in
theorem odd_any (lo hi : Int) (w : World) (B sb m : Nat) (hS : Strm 25 w B sb m) (hm : m ≤ 900000000000) (h1 : -1000000000000000 ≤ lo) (h2 : hi ≤ 1000000000000000) (h3 : lo ≤ hi) :
    Calls Tryz.prog 65 #[.pointer (some ⟨sb, 0, none⟩), .int .i64 lo, .int .i64 hi] w (GotInt 25 w B sb (m + 2) (fun v => -2000000000000000 ≤ v ∧ v ≤ 2000000000000000)) := by
  go_enter Tryz.func65, Tryz.ntmps65
  go_wp2_with fail
  refine (flip_any _ _ B sb m hS (by omega) (by omega) (by omega)).mono ?_
  rintro e w1 ⟨b, rfl, hS1, hg1⟩
  rcases b with _ | _
  · go_wp2_with fail
    refine (range_any _ _ _ B sb (m + 1) hS1 (by omega) (by omega) (by omega) (by omega) (by omega)).mono ?_
    rintro e w2 ⟨v, hv, rfl, hS2, hg2⟩
    go_wp2_with fail
    go_ret
    exact ⟨v, by omega, rfl, hS2, grow_trans hg1 hg2⟩
  · go_wp2_with fail
    refine (pick_any [lo - 1, hi + 1, lo, hi, -1099511627776, 1099511627776] _ _ _ _ B sb (m + 1) (hS1.alloc _) (by omega) (by simp) (by simp) (Blk.new _ _ _) (by have := hS1.lt; omega)).mono ?_
    rintro e w2 ⟨v, hv, rfl, hS2, hg2⟩
    go_wp2_with fail
    go_ret
    refine ⟨v, by simp at hv; omega, rfl, hS2, grow_trans hg1 (grow_trans (grow_alloc (World.grownBy.refl _ _) _) hg2)⟩
end Go.Proofs.YtdoooppeiphefaaGreatDoor
namespace Go.Proofs.YtdoooppeiphefaaGreatDoor
open Go.RowKit
/-- A booking that the generators draw. -/
def BkB (b : Bk) : Prop := b.key.size ≤ 100 ∧ b.cls.size ≤ 100 ∧ (-2000000000000000 ≤ b.fr ∧ b.fr ≤ 2000000000000000) ∧ (-2000000000000000 ≤ b.to_ ∧ b.to_ ≤ 2000000000000000) ∧ (-2000000000000000 ≤ b.made ∧ b.made ≤ 2000000000000000) ∧ (-2000000000000000 ≤ b.odds ∧ b.odds ≤ 2000000000000000)
theorem bkB_ok {b : Bk} (h : BkB b) : BkOk b := ⟨by have := h.1; omega, by have := h.2.1; omega⟩
theorem bk_snoc {l : List Bk} {x : Bk} (h : ∀ y ∈ l, BkB y) (h1 : BkB x) : ∀ y ∈ l ++ [x], BkB y := fun y hy => by
  rcases List.mem_append.1 hy with hy | hy
  · exact h y hy
  · rw [List.mem_singleton.1 hy]; exact h1
theorem bk_set {l : List Bk} {x : Bk} {j : Nat} (h : ∀ y ∈ l, BkB y) (h1 : BkB x) : ∀ y ∈ l.set j x, BkB y := fun y hy => by
  rcases List.mem_or_eq_of_mem_set hy with hy | rfl
  · exact h y hy
  · exact h1
theorem gbookings_ownB (q : Nat) (w : World) (B sb m : Nat) (hS : Strm 25 w B sb m) (hm : m ≤ 100000000) (hq : q ≤ 9) :
  Calls Tryz.prog 52 #[.pointer (some ⟨sb, 0, none⟩), .int .i64 ((q : Nat) : Int)] w (fun e w' => ∃ (A : Option Addr) (n c : Nat) (l : List Bk), e = .returned (.slice A n c) ∧ w'.ownsRow w.heap.size 133 6 (.slice A n c) n (l.flatMap bkEnc) ∧ l.length = n ∧ (∀ x ∈ l, BkB x) ∧ n ≤ 9 ∧ n ≤ c ∧ Strm 25 w' B sb (m + 1000) ∧ w.grownBy w' (some sb)) := by
 refine gw_enter ⟨99, w, (some sb), []⟩ Tryz.func52 rfl Tryz.ntmps52 rfl (memS (X := []) hS allF_nil allL_nil) ?_
 refine sr_ ?_
 refine wl_nilOwn 133 6 ?_
 refine sg_ rfl (nn_ (sr_ (sg_ rfl (nn_ (gw_seq (sr_ ?_))))))
 refine wl_buildSlice (e := 9) (cs := [.string ⟨#[98, 97]⟩, .string ⟨#[98, 98]⟩, .string ⟨#[98, 99]⟩, .string ⟨#[98, 100]⟩, .string ⟨#[98, 101]⟩, .string ⟨#[98, 102]⟩, .string ⟨#[98, 103]⟩, .string ⟨#[98, 104]⟩, .string ⟨#[98, 105]⟩]) rfl (by kernel_rfl) rfl fun g1 => ?_
 refine mv_ rfl ?_
 refine wl_ov (ov_min rfl rfl) rfl ?_
 refine wl_set 12 (v' := .int .i64 ((q : Nat) : Int)) rfl (congrArg (Value.int .i64) (by omega)) ?_
 refine wl_ov (ov_sliceHi (hi := q) es79 rfl rfl rfl (by omega)) rfl ?_
 refine wl_ov (ov_len es79 rfl) rfl (mv_ rfl (nn_ (gw_block ?_)))
 refine gw_loop (γ := Nat × Value × List Bk × List Value) (fun g => g.1 ≤ q ∧ g.2.2.1.length = g.1 ∧ (∀ x ∈ g.2.2.1, BkB x) ∧ (g.2.1 = .slice none 0 0 ∨ 0 < g.1) ∧ g.2.2.2 = g.2.2.1.flatMap bkEnc) (fun g => [(0, .pointer (some ⟨sb, 0, none⟩)), (4, .slice none 0 0), (5, g.2.1), (13, .slice (some ⟨g1, 0, none⟩) q 9), (14, .int .i64 ((q : Nat) : Int)), (15, .int .i64 ((g.1 : Nat) : Int))]) (fun g => fun w => Strm 25 w B sb (m + 20 * g.1)) (fun g => [(g1, 9, [.string ⟨#[98, 97]⟩, .string ⟨#[98, 98]⟩, .string ⟨#[98, 99]⟩, .string ⟨#[98, 100]⟩, .string ⟨#[98, 101]⟩, .string ⟨#[98, 102]⟩, .string ⟨#[98, 103]⟩, .string ⟨#[98, 104]⟩, .string ⟨#[98, 105]⟩])]) (fun g => [⟨g.2.1, 133, 6, g.1, g.2.2.2⟩]) (fun g => []) (fun g => q - g.1) (0, .slice none 0 0, [], []) ⟨Nat.zero_le _, rfl, (fun _ h => by cases h), .inl rfl, rfl⟩ ⟨rfl, rfl, rfl, rfl, rfl, rfl, trivial⟩ (fun _ hm => (hm.more rfl (by first | omega | (dsimp only; omega))).pick [0] [0] [] rfl rfl) ?_
 rintro ⟨k, v, l, xs⟩ hinv
 replace hinv : k ≤ q ∧ l.length = k ∧ (∀ x ∈ l, BkB x) ∧ (v = .slice none 0 0 ∨ 0 < k) ∧ xs = l.flatMap bkEnc := hinv
 dsimp only
 refine sr_ ?_
 obtain ⟨hi0, hi2, hi3, hi4, rfl⟩ := hinv
 refine wl_ov (ov_lss rfl rfl) rfl (nn_ (gw_seq ?_))
 refine gw_cond rfl (fun hh => ?_) (fun hh => ?_)
 ·have hk : ((k : Nat) : Int) < ((q : Nat) : Int) := by simpa using hh
  clear hh
  refine gw_skip (nx_then (gw_seq (gw_block (sr_ ?_))))
  obtain ⟨nm, hx⟩ : ∃ x, ([⟨#[98, 97]⟩, ⟨#[98, 98]⟩, ⟨#[98, 99]⟩, ⟨#[98, 100]⟩, ⟨#[98, 101]⟩, ⟨#[98, 102]⟩, ⟨#[98, 103]⟩, ⟨#[98, 104]⟩, ⟨#[98, 105]⟩] : List ByteArray)[k]? = some x := ⟨_, List.getElem?_eq_getElem (by simp; omega)⟩
  have hnm : nm.size ≤ 100 := mem_sz (List.mem_of_getElem? hx) (by decide)
  refine wl_ov (ov_index (j := k) es79 rfl rfl (by omega)) rfl ?_
  refine wl_ov (ov_elem1 (k := 0) (v := .string nm) sc9 rfl (fun _ hm => (SlT.ofBlk (l := [⟨#[98, 97]⟩, ⟨#[98, 98]⟩, ⟨#[98, 99]⟩, ⟨#[98, 100]⟩, ⟨#[98, 101]⟩, ⟨#[98, 102]⟩, ⟨#[98, 103]⟩, ⟨#[98, 104]⟩, ⟨#[98, 105]⟩]) sg_len (hm.blkI 0 rfl))) hx rfl rfl) rfl ?_
  refine sg_ rfl (nn_ (sr_ (mv_ rfl ?_)))
  refine wl_buildSlice (e := 3) (cs := [.int .i64 0, .int .i64 10, .int .i64 10, .int .i64 20, .int .i64 25, .int .i64 30, .int .i64 100]) rfl (by kernel_rfl) rfl fun g2 => ?_
  refine wl_got (γ := Int) (val := fun v => .int .i64 v) (φ := fun v => v ∈ ([0, 10, 10, 20, 25, 30, 100] : List Int)) rfl cb63 rfl rfl rfl rfl (fun wx hm => (pick_any [0, 10, 10, 20, 25, 30, 100] _ _ _ wx B sb _ hm.k (by omega) (by simp) (by simp) (hm.blkI 0 rfl) (hm.neRow 0 rfl rfl))) fun v3 hv3 => ?_
  have bv3 : 0 ≤ v3 ∧ v3 ≤ 100 := mem_rng hv3 (by decide)
  have bv30 := bv3.1
  have bv31 := bv3.2
  clear bv3
  refine sg_ rfl (nn_ (gw_region (mv_ rfl (mv_ rfl (mv_ rfl ?_)))))
  refine wl_buildSlice (e := 9) (cs := [.string ⟨#[109, 105, 110, 105]⟩, .string ⟨#[109, 105, 110, 105]⟩, .string ⟨#[109, 105, 100, 105]⟩, .string ⟨#[109, 97, 120, 105]⟩, .string ⟨#[98, 105, 103]⟩]) rfl (by kernel_rfl) rfl fun g4 => ?_
  refine wl_got (γ := ByteArray) (val := fun v => .string v) (φ := fun v => v ∈ ([⟨#[109, 105, 110, 105]⟩, ⟨#[109, 105, 110, 105]⟩, ⟨#[109, 105, 100, 105]⟩, ⟨#[109, 97, 120, 105]⟩, ⟨#[98, 105, 103]⟩] : List ByteArray)) rfl cb62 rfl rfl rfl rfl (fun wx hm => (some_any [⟨#[109, 105, 110, 105]⟩, ⟨#[109, 105, 110, 105]⟩, ⟨#[109, 105, 100, 105]⟩, ⟨#[109, 97, 120, 105]⟩, ⟨#[98, 105, 103]⟩] _ _ _ wx B sb _ hm.k (by omega) (by simp) (by simp) (hm.blkI 0 rfl) (hm.neRow 0 rfl rfl))) fun s5 hs5 => ?_
  have zs5 : s5.size ≤ 100 := mem_sz hs5 (by decide)
  refine mv_ rfl (mv_ rfl (mv_ rfl ?_))
  refine wl_buildSlice (e := 3) (cs := [.int .i64 1, .int .i64 5, .int .i64 10, .int .i64 10, .int .i64 20, .int .i64 100]) rfl (by kernel_rfl) rfl fun g6 => ?_
  refine wl_got (γ := Int) (val := fun v => .int .i64 v) (φ := fun v => v ∈ ([1, 5, 10, 10, 20, 100] : List Int)) rfl cb63 rfl rfl rfl rfl (fun wx hm => (pick_any [1, 5, 10, 10, 20, 100] _ _ _ wx B sb _ hm.k (by omega) (by simp) (by simp) (hm.blkI 0 rfl) (hm.neRow 0 rfl rfl))) fun v7 hv7 => ?_
  have bv7 : 1 ≤ v7 ∧ v7 ≤ 100 := mem_rng hv7 (by decide)
  have bv70 := bv7.1
  have bv71 := bv7.2
  clear bv7
  refine ad_ rfl rfl ?_
  refine wl_ov (ov_build (cs := [.int .i64 v3, .int .i64 (v3 + v7)]) rfl (by kernel_rfl)) rfl ?_
  refine mv_ rfl (mv_ rfl ?_)
  refine wl_ov (ov_min rfl rfl) rfl ?_
  refine wl_got (γ := Int) (val := fun v => .int .i64 v) (φ := fun v => 0 ≤ v ∧ (v ≤ min v3 9 ∨ v = 0)) rfl cb10 rfl rfl rfl rfl (fun wx hm => (range_any _ _ wx B sb _ hm.k (by omega) (by omega) (by omega) (by omega) (by omega))) fun v8 hv8 => ?_
  refine mv_ rfl ?_
  refine wl_buildSlice (e := 3) (cs := [.int .i64 0, .int .i64 10, .int .i64 50, .int .i64 75, .int .i64 90, .int .i64 100]) rfl (by kernel_rfl) rfl fun g9 => ?_
  refine wl_got (γ := Int) (val := fun v => .int .i64 v) (φ := fun v => v ∈ ([0, 10, 50, 75, 90, 100] : List Int)) rfl cb63 rfl rfl rfl rfl (fun wx hm => (pick_any [0, 10, 50, 75, 90, 100] _ _ _ wx B sb _ hm.k (by omega) (by simp) (by simp) (hm.blkI 0 rfl) (hm.neRow 0 rfl rfl))) fun v10 hv10 => ?_
  have bv10 : 0 ≤ v10 ∧ v10 ≤ 100 := mem_rng hv10 (by decide)
  have bv100 := bv10.1
  have bv101 := bv10.2
  clear bv10
  refine wl_ov (ov_build (cs := [.string nm, .string s5, .int .i64 v3, .int .i64 (v3 + v7), .int .i64 v8, .int .i64 v10]) rfl (by kernel_rfl)) rfl ?_
  refine wl_buildSlice (e := 133) (cs := [.string nm, .string s5, .int .i64 v3, .int .i64 (v3 + v7), .int .i64 v8, .int .i64 v10]) rfl (by kernel_rfl) rfl fun g11 => ?_
  refine wl_append (news := [.string nm, .string s5, .int .i64 v3, .int .i64 (v3 + v7), .int .i64 v8, .int .i64 v10]) 0 0 ap110 rfl rfl rfl rfl rfl rfl rfl (by omega) (by unfold maxLen; omega) rfl rfl fun v2 hv2 => ?_
  refine sg_ rfl (wl_nil (nx_blk_nrm (nx_then (gw_region (ad_ rfl rfl (mv_ rfl (wl_nil ?_)))))))
  exact nx_round (k + 1, v2, l ++ [⟨nm, s5, v3, v3 + v7, v8, v10⟩], l.flatMap bkEnc ++ ([.string nm, .string s5, .int .i64 v3, .int .i64 (v3 + v7), .int .i64 v8, .int .i64 v10] : List Value)) ⟨by dsimp only; omega, by simp [hi2], bk_snoc hi3 ⟨by dsimp only; omega, by dsimp only; omega, ⟨by dsimp only; omega, by dsimp only; omega⟩, ⟨by dsimp only; omega, by dsimp only; omega⟩, ⟨by dsimp only; omega, by dsimp only; omega⟩, by dsimp only; omega, by dsimp only; omega⟩, .inr (Nat.succ_pos _), by simp [bkEnc]⟩ (by dsimp only; omega) ⟨rfl, rfl, rfl, rfl, rfl, (some_int (by omega)), trivial⟩ (fun _ hm => (hm.more rfl (by first | omega | (dsimp only; omega))).pick [5] [0] [] rfl rfl)
 have hk : ¬ (((k : Nat) : Int) < ((q : Nat) : Int)) := by simpa using hh
 clear hh
 refine gw_exit ?_
 refine nx_then_exit (nx_then_exit ?_)
 refine nx_blk_here ?_
 refine nx_then (gw_seq (sr_ ?_))
 refine wl_look (R := ∃ A cc, v = .slice A k cc) (fun wx hm => own_slice (hm.ownI 0 rfl)) ?_
 rintro ⟨A, c, rfl⟩
 refine mv_ rfl (wl_ov (ov_len es110 rfl) rfl ?_)
 refine wl_ov (ov_gtr rfl rfl) rfl ?_
 refine mv_ rfl ?_
 rcases Bool.eq_false_or_eq_true (decide (0 < ((k : Nat) : Int))) with hb | hb
 ·refine wl_set 48 rfl (congrArg Value.bool hb) ?_
  have hk0 : 0 < k := by simpa using hb
  refine wl_guard_on rfl rfl rfl (mv_ rfl (wl_guard_on rfl rfl rfl ?_))
  refine wl_got (γ := Bool) (val := fun v => .bool v) (φ := fun v => True) rfl cb64 rfl rfl rfl rfl (fun wx hm => ((flip_any _ wx B sb _ hm.k (by omega) (by omega) (by omega)).mono fun _ _ ⟨v, he, hS, hg⟩ => ⟨v, trivial, he, hS, hg⟩)) fun f12 _ => ?_
  refine pt_ rfl rfl (nn_ ?_)
  refine gw_cond rfl (fun hh => ?_) (fun hh => ?_)
  ·have hf : f12 = true := by simpa using hh
   clear hh
   refine sr_ ?_
   refine wl_look (R := ∃ g, A = some ⟨g, 0, none⟩) (fun wx hm => own_addr (hm.ownI 0 rfl) hk0) ?_
   rintro ⟨bo, rfl⟩
   refine mv_ rfl (mv_ rfl (mv_ rfl (wl_ov (ov_len es110 rfl) rfl ?_)))
   refine wl_got (γ := Int) (val := fun v => .int .i64 v) (φ := fun v => IsBelow ((k : Nat) : Int) v) rfl cb29 rfl rfl rfl rfl (fun wx hm => (next_any _ wx B sb _ hm.k (by omega) (by omega) (by omega))) fun vj hvj => ?_
   have hj := isBelow_lt hvj (by omega)
   obtain ⟨i, rfl⟩ := Int.eq_ofNat_of_zero_le hj.1
   have hij : i < k := by omega
   obtain ⟨y, hy⟩ : ∃ y, l[i]? = some y := ⟨_, List.getElem?_eq_getElem (by omega)⟩
   obtain ⟨y0, y1, y2, y3, y4, y5⟩ := y
   have hyB := hi3 _ (List.mem_of_getElem? hy)
   unfold BkB at hyB
   dsimp only at hyB
   obtain ⟨hy0, hy1, ⟨hy2, hy2b⟩, ⟨hy3, hy3b⟩, ⟨hy4, hy4b⟩, hy5, hy5b⟩ := hyB
   refine wl_ov (ov_index (j := i) es110 rfl rfl (by omega)) rfl ?_
   refine sg_ rfl (nn_ (sr_ (mv_ rfl ?_)))
   refine wl_got (γ := Int) (val := fun v => .int .i64 v) (φ := fun v => IsBelow 5 v) rfl cb29 rfl rfl rfl rfl (fun wx hm => (next_any _ wx B sb _ hm.k (by omega) (by omega) (by omega))) fun vk hvk => ?_
   refine nn_ (gw_block (sr_ (wl_ov (ov_eql rfl rfl) rfl (sg_ rfl (nn_ ?_)))))
   refine gw_cond rfl (fun hh => ?_) (fun hh => ?_)
   ·have hc0 : vk = 0 := by simpa using hh
    clear hh
    refine gw_region (mv_ rfl (mv_ rfl ?_))
    refine wl_buildSlice (e := 9) (cs := [.string ⟨#[]⟩, .string ⟨#[65]⟩, .string ⟨#[98, 97]⟩, .string ⟨#[122, 122]⟩]) rfl (by kernel_rfl) rfl fun g13 => ?_
    refine wl_got (γ := ByteArray) (val := fun v => .string v) (φ := fun v => v ∈ ([⟨#[]⟩, ⟨#[65]⟩, ⟨#[98, 97]⟩, ⟨#[122, 122]⟩] : List ByteArray)) rfl cb62 rfl rfl rfl rfl (fun wx hm => (some_any [⟨#[]⟩, ⟨#[65]⟩, ⟨#[98, 97]⟩, ⟨#[122, 122]⟩] _ _ _ wx B sb _ hm.k (by omega) (by simp) (by simp) (hm.blkI 0 rfl) (hm.neRow 0 rfl rfl))) fun s14 hs14 => ?_
    have zs14 : s14.size ≤ 100 := mem_sz hs14 (by decide)
    refine wl_ov (ov_nilcheck rfl) rfl (fd_ fo133_0 rfl rfl ?_)
    refine wl_storeE (l := l) (j := i) (r := 0) (el := ⟨y0, y1, y2, y3, y4, y5⟩) (el' := ⟨s14, y1, y2, y3, y4, y5⟩) 0 sc9 rfl rfl rfl rfl bk_len rfl hy hi2 (by decide) rfl rfl ?_
    refine wl_nil (nx_blk_nrm (nx_then (sr_ (mv_ rfl (sg_ rfl (nn_ ?_))))))
    refine gw_ret ?_
    refine nx_ret1 rfl rfl fun wx hm => ?_
    exact ⟨some ⟨bo, 0, none⟩, k, c, (l.set i ⟨s14, y1, y2, y3, y4, y5⟩), rfl, hm.ownI 0 rfl, (by simp; exact hi2), bk_set hi3 ⟨by dsimp only; omega, by dsimp only; omega, ⟨by dsimp only; omega, by dsimp only; omega⟩, ⟨by dsimp only; omega, by dsimp only; omega⟩, ⟨by dsimp only; omega, by dsimp only; omega⟩, by dsimp only; omega, by dsimp only; omega⟩, by omega, own_cap (hm.ownI 0 rfl), hm.k.more (by omega), hm.g⟩
   have hc0 : ¬ (vk = 0) := by simpa using hh
   clear hh
   refine sr_ (wl_ov (ov_eql rfl rfl) rfl (sg_ rfl (nn_ ?_)))
   refine gw_cond rfl (fun hh => ?_) (fun hh => ?_)
   ·have hc1 : vk = 1 := by simpa using hh
    clear hh
    refine gw_region (mv_ rfl (mv_ rfl ?_))
    refine wl_buildSlice (e := 9) (cs := [.string ⟨#[110, 111, 110, 101]⟩, .string ⟨#[]⟩, .string ⟨#[65]⟩]) rfl (by kernel_rfl) rfl fun g15 => ?_
    refine wl_got (γ := ByteArray) (val := fun v => .string v) (φ := fun v => v ∈ ([⟨#[110, 111, 110, 101]⟩, ⟨#[]⟩, ⟨#[65]⟩] : List ByteArray)) rfl cb62 rfl rfl rfl rfl (fun wx hm => (some_any [⟨#[110, 111, 110, 101]⟩, ⟨#[]⟩, ⟨#[65]⟩] _ _ _ wx B sb _ hm.k (by omega) (by simp) (by simp) (hm.blkI 0 rfl) (hm.neRow 0 rfl rfl))) fun s16 hs16 => ?_
    have zs16 : s16.size ≤ 100 := mem_sz hs16 (by decide)
    refine wl_ov (ov_nilcheck rfl) rfl (fd_ fo133_1 rfl rfl ?_)
    refine wl_storeE (l := l) (j := i) (r := 1) (el := ⟨y0, y1, y2, y3, y4, y5⟩) (el' := ⟨y0, s16, y2, y3, y4, y5⟩) 0 sc9 rfl rfl rfl rfl bk_len rfl hy hi2 (by decide) rfl rfl ?_
    refine wl_nil (nx_blk_nrm (nx_then (sr_ (mv_ rfl (sg_ rfl (nn_ ?_))))))
    refine gw_ret ?_
    refine nx_ret1 rfl rfl fun wx hm => ?_
    exact ⟨some ⟨bo, 0, none⟩, k, c, (l.set i ⟨y0, s16, y2, y3, y4, y5⟩), rfl, hm.ownI 0 rfl, (by simp; exact hi2), bk_set hi3 ⟨by dsimp only; omega, by dsimp only; omega, ⟨by dsimp only; omega, by dsimp only; omega⟩, ⟨by dsimp only; omega, by dsimp only; omega⟩, ⟨by dsimp only; omega, by dsimp only; omega⟩, by dsimp only; omega, by dsimp only; omega⟩, by omega, own_cap (hm.ownI 0 rfl), hm.k.more (by omega), hm.g⟩
   have hc1 : ¬ (vk = 1) := by simpa using hh
   clear hh
   refine sr_ (wl_ov (ov_eql rfl rfl) rfl (sg_ rfl (nn_ ?_)))
   refine gw_cond rfl (fun hh => ?_) (fun hh => ?_)
   ·have hc2 : vk = 2 := by simpa using hh
    clear hh
    refine gw_region (mv_ rfl (mv_ rfl ?_))
    refine wl_got (γ := Int) (val := fun v => .int .i64 v) (φ := fun v => -2000000000000000 ≤ v ∧ v ≤ 2000000000000000) rfl cb65 rfl rfl rfl rfl (fun wx hm => (odd_any _ _ wx B sb _ hm.k (by omega) (by omega) (by omega) (by omega))) fun v17 hv17 => ?_
    refine mv_ rfl ?_
    refine wl_got (γ := Int) (val := fun v => .int .i64 v) (φ := fun v => -2000000000000000 ≤ v ∧ v ≤ 2000000000000000) rfl cb65 rfl rfl rfl rfl (fun wx hm => (odd_any _ _ wx B sb _ hm.k (by omega) (by omega) (by omega) (by omega))) fun v18 hv18 => ?_
    refine wl_ov (ov_build (cs := [.int .i64 v17, .int .i64 v18]) rfl (by kernel_rfl)) rfl ?_
    refine wl_ov (ov_nilcheck rfl) rfl (fd_ fo133_2 rfl rfl ?_)
    refine wl_storesE (l := l) (j := i) (r := 2) (el := ⟨y0, y1, y2, y3, y4, y5⟩) (el' := ⟨y0, y1, v17, v18, y4, y5⟩) 0 rz39 rfl rfl rfl rfl rfl bk_len rfl hy hi2 (by decide) rfl rfl ?_
    refine wl_nil (nx_blk_nrm (nx_then (sr_ (mv_ rfl (sg_ rfl (nn_ ?_))))))
    refine gw_ret ?_
    refine nx_ret1 rfl rfl fun wx hm => ?_
    exact ⟨some ⟨bo, 0, none⟩, k, c, (l.set i ⟨y0, y1, v17, v18, y4, y5⟩), rfl, hm.ownI 0 rfl, (by simp; exact hi2), bk_set hi3 ⟨by dsimp only; omega, by dsimp only; omega, ⟨by dsimp only; omega, by dsimp only; omega⟩, ⟨by dsimp only; omega, by dsimp only; omega⟩, ⟨by dsimp only; omega, by dsimp only; omega⟩, by dsimp only; omega, by dsimp only; omega⟩, by omega, own_cap (hm.ownI 0 rfl), hm.k.more (by omega), hm.g⟩
   have hc2 : ¬ (vk = 2) := by simpa using hh
   clear hh
   refine sr_ (wl_ov (ov_eql rfl rfl) rfl (sg_ rfl (nn_ ?_)))
   refine gw_cond rfl (fun hh => ?_) (fun hh => ?_)
   ·have hc3 : vk = 3 := by simpa using hh
    clear hh
    refine gw_region (mv_ rfl (mv_ rfl ?_))
    refine wl_got (γ := Int) (val := fun v => .int .i64 v) (φ := fun v => -2000000000000000 ≤ v ∧ v ≤ 2000000000000000) rfl cb65 rfl rfl rfl rfl (fun wx hm => (odd_any _ _ wx B sb _ hm.k (by omega) (by omega) (by omega) (by omega))) fun v19 hv19 => ?_
    refine wl_ov (ov_nilcheck rfl) rfl (fd_ fo133_3 rfl rfl ?_)
    refine wl_storeE (l := l) (j := i) (r := 4) (el := ⟨y0, y1, y2, y3, y4, y5⟩) (el' := ⟨y0, y1, y2, y3, v19, y5⟩) 0 sc3 rfl rfl rfl rfl bk_len rfl hy hi2 (by decide) rfl rfl ?_
    refine wl_nil (nx_blk_nrm (nx_then (sr_ (mv_ rfl (sg_ rfl (nn_ ?_))))))
    refine gw_ret ?_
    refine nx_ret1 rfl rfl fun wx hm => ?_
    exact ⟨some ⟨bo, 0, none⟩, k, c, (l.set i ⟨y0, y1, y2, y3, v19, y5⟩), rfl, hm.ownI 0 rfl, (by simp; exact hi2), bk_set hi3 ⟨by dsimp only; omega, by dsimp only; omega, ⟨by dsimp only; omega, by dsimp only; omega⟩, ⟨by dsimp only; omega, by dsimp only; omega⟩, ⟨by dsimp only; omega, by dsimp only; omega⟩, by dsimp only; omega, by dsimp only; omega⟩, by omega, own_cap (hm.ownI 0 rfl), hm.k.more (by omega), hm.g⟩
   have hc3 : ¬ (vk = 3) := by simpa using hh
   clear hh
   refine gw_region (mv_ rfl (mv_ rfl ?_))
   refine wl_got (γ := Int) (val := fun v => .int .i64 v) (φ := fun v => -2000000000000000 ≤ v ∧ v ≤ 2000000000000000) rfl cb65 rfl rfl rfl rfl (fun wx hm => (odd_any _ _ wx B sb _ hm.k (by omega) (by omega) (by omega) (by omega))) fun v20 hv20 => ?_
   refine wl_ov (ov_nilcheck rfl) rfl (fd_ fo133_4 rfl rfl ?_)
   refine wl_storeE (l := l) (j := i) (r := 5) (el := ⟨y0, y1, y2, y3, y4, y5⟩) (el' := ⟨y0, y1, y2, y3, y4, v20⟩) 0 sc3 rfl rfl rfl rfl bk_len rfl hy hi2 (by decide) rfl rfl ?_
   refine wl_nil (nx_blk_nrm (nx_then (sr_ (mv_ rfl (sg_ rfl (nn_ ?_))))))
   refine gw_ret ?_
   refine nx_ret1 rfl rfl fun wx hm => ?_
   exact ⟨some ⟨bo, 0, none⟩, k, c, (l.set i ⟨y0, y1, y2, y3, y4, v20⟩), rfl, hm.ownI 0 rfl, (by simp; exact hi2), bk_set hi3 ⟨by dsimp only; omega, by dsimp only; omega, ⟨by dsimp only; omega, by dsimp only; omega⟩, ⟨by dsimp only; omega, by dsimp only; omega⟩, ⟨by dsimp only; omega, by dsimp only; omega⟩, by dsimp only; omega, by dsimp only; omega⟩, by omega, own_cap (hm.ownI 0 rfl), hm.k.more (by omega), hm.g⟩
  have hf : f12 = false := by simpa using hh
  clear hh
  refine gw_skip (nx_then (sr_ (mv_ rfl (sg_ rfl (nn_ ?_)))))
  refine gw_ret ?_
  refine nx_ret1 rfl rfl fun wx hm => ?_
  exact ⟨A, k, c, l, rfl, hm.ownI 0 rfl, hi2, hi3, by omega, own_cap (hm.ownI 0 rfl), hm.k.more (by omega), hm.g⟩
 refine wl_set 48 rfl (congrArg Value.bool hb) ?_
 refine goff rfl rfl rfl (goff rfl rfl rfl (pf_ rfl rfl (nn_ (cf_ rfl (gw_skip (nx_then (sr_ (mv_ rfl (sg_ rfl (nn_ ?_))))))))))
 refine gw_ret ?_
 refine nx_ret1 rfl rfl fun wx hm => ?_
 exact ⟨A, k, c, l, rfl, hm.ownI 0 rfl, hi2, hi3, by omega, own_cap (hm.ownI 0 rfl), hm.k.more (by omega), hm.g⟩
end Go.Proofs.YtdoooppeiphefaaGreatDoor
namespace Go.Proofs.YtdoooppeiphefaaGreatDoor
open Go.RowKit
theorem zc235 : zeroCs Tryz.prog 235 = some [.pointer none, .slice none 0 0] := by kernel_rfl
/-- The line of a booking. -/
def bkParts (x : Bk) : List ByteArray := [x.key, x.cls, itoaS x.fr, itoaS x.to_, itoaS x.made, itoaS x.odds]
def lnB (x : Bk) : ByteArray := joinS (bkParts x) ⟨#[32]⟩ ++ (⟨#[10]⟩ : ByteArray)
def txL (l : List Bk) : List UInt8 := l.flatMap fun x => (lnB x).data.toList
def txS (l : List Bk) : ByteArray := ⟨(txL l).toArray⟩
theorem txL_at {l : List Bk} {i : Nat} {x : Bk} (h : l[i]? = some x) : txL (l.take (i + 1)) = txL (l.take i) ++ (lnB x).data.toList := by
  unfold txL
  rw [List.take_add_one, h, Option.toList_some, List.flatMap_append]; simp
theorem txS_at {l : List Bk} {i : Nat} {x : Bk} (h : l[i]? = some x) : txS (l.take (i + 1)) = txS (l.take i) ++ lnB x := by
  have e : ∀ a b : ByteArray, a.data.toList = b.data.toList → a = b := fun a b h => by
    cases a; cases b
    exact congrArg ByteArray.mk (Array.toList_inj.1 h)
  refine e _ _ ?_
  rw [ByteArray.data_append, Array.toList_append]
  unfold txS
  simp [txL_at h]
theorem bk_i64 {x : Bk} (h : BkB x) : (-9223372036854775808 ≤ x.fr ∧ x.fr ≤ 9223372036854775807) ∧ (-9223372036854775808 ≤ x.to_ ∧ x.to_ ≤ 9223372036854775807) ∧ (-9223372036854775808 ≤ x.made ∧ x.made ≤ 9223372036854775807) ∧ (-9223372036854775808 ≤ x.odds ∧ x.odds ≤ 9223372036854775807) := by
  obtain ⟨_, _, h1, h2, h3, h4⟩ := h
  omega
theorem parts_sz {x : Bk} (h : BkB x) : ∀ y ∈ bkParts x, y.size ≤ 100 := fun y hy => by
  obtain ⟨h1, h2, h3, h4⟩ := bk_i64 h
  have e1 := itoa_sz h1
  have e2 := itoa_sz h2
  have e3 := itoa_sz h3
  have e4 := itoa_sz h4
  have e5 := h.1
  have e6 := h.2.1
  unfold bkParts at hy
  simp only [List.mem_cons, List.not_mem_nil, or_false] at hy
  rcases hy with rfl | rfl | rfl | rfl | rfl | rfl <;> omega
theorem join6 {x : Bk} (h : BkB x) : (joinS (bkParts x) ⟨#[32]⟩).size ≤ 606 := by
  have h1 := join_len (sep := ⟨#[32]⟩) (parts_sz h)
  have h2 : (bkParts x).length * ((⟨#[32]⟩ : ByteArray).size + 100) = 606 := by
    show 6 * (1 + 100) = 606
    decide
  omega
theorem lnB_sz {x : Bk} (h : BkB x) : (lnB x).size ≤ 607 := by
  have h1 := join6 h
  unfold lnB
  rw [ByteArray.size_append]
  have h2 : (⟨#[10]⟩ : ByteArray).size = 1 := rfl
  omega
theorem txL_len {l : List Bk} (h : ∀ x ∈ l, BkB x) : (txL l).length ≤ l.length * 607 := by
  induction l with
  | nil => exact Nat.le_refl _
  | cons x r ih =>
    have h1 := ih fun y hy => h y (List.mem_cons_of_mem _ hy)
    have h2 := lnB_sz (h x (List.mem_cons_self ..))
    have e : txL (x :: r) = (lnB x).data.toList ++ txL r := rfl
    rw [e, List.length_append, dl_size, List.length_cons]
    omega
theorem txS_sz {l : List Bk} (h : ∀ x ∈ l, BkB x) : (txS l).size ≤ l.length * 607 := by
  unfold txS; rw [sz_mk]; exact txL_len h
theorem take_all {l : List Bk} (h : ∀ x ∈ l, BkB x) (i : Nat) : ∀ x ∈ l.take i, BkB x := fun x hx => h x (List.mem_of_mem_take hx)
def bkPts (x : Bk) : List Pt := [.s x.key, .s x.cls, .n x.fr, .n x.to_, .n x.made, .n x.odds]
theorem pts_ok {x : Bk} (h : BkB x) : ∀ y ∈ bkPts x, PtOk y := fun y hy => by
  obtain ⟨h1, h2, h3, h4⟩ := bk_i64 h
  have e5 := h.1
  have e6 := h.2.1
  unfold bkPts at hy
  simp only [List.mem_cons, List.not_mem_nil, or_false] at hy
  rcases hy with rfl | rfl | rfl | rfl | rfl | rfl
  · show x.key.size ≤ 1000000; omega
  · show x.cls.size ≤ 1000000; omega
  · exact h1
  · exact h2
  · exact h3
  · exact h4
theorem cells_app {l : List UInt8} {s : ByteArray} : Lib.byteCells l ++ Lib.strCells s = Lib.byteCells (l ++ s.data.toList) := by
  unfold Lib.byteCells Lib.strCells; rw [List.map_append]
theorem bookingLines_any (l : List Bk) (A : Option Addr) (n c : Nat) (w : World) (ht : TxtW w) (hl : SlT bkEnc 6 133 w A n l) (hB : ∀ x ∈ l, BkB x) (hn : n ≤ 10) :
  Calls Tryz.prog 55 #[.slice A n c] w (fun e w' => e = .returned (.string (txS l)) ∧ w.grownBy w' none) := by
 refine gw_enter ⟨42, w, none, []⟩ Tryz.func55 rfl Tryz.ntmps55 rfl (mem0 (X := [SlOld bkEnc 6 133 w.heap.size none A n l, TxtO w.heap.size none]) (allF_cons hl.old (allF_cons ht.old allF_nil)) (allL_cons SlOld.lasts (allL_cons TxtO.lasts allL_nil))) ?_
 refine sr_ ?_
 have hlen := hl.len
 refine sg_ rfl (nn_ (sr_ (sg_ rfl (nn_ (sr_ (sg_ rfl (nn_ (gw_seq ?_))))))))
 refine sr_ (mv_ rfl (wl_ov (ov_len es110 rfl) rfl (mv_ rfl (nn_ (gw_block ?_)))))
 refine gw_loop (γ := Nat) (fun (i : Nat) => i ≤ n) (fun (i : Nat) => [(2, .string ⟨#[]⟩), (3, .func (.func 154) #[] #[]), (4, .string (txS (l.take i))), (7, .slice A n c), (8, .int .i64 ((n : Nat) : Int)), (9, .int .i64 ((i : Nat) : Int))]) (fun (i : Nat) => fun _ => True) (fun (i : Nat) => []) (fun (i : Nat) => []) (fun (i : Nat) => [SlOld bkEnc 6 133 w.heap.size none A n l, TxtO w.heap.size none]) (fun (i : Nat) => n - i) 0 (Nat.zero_le _) ⟨rfl, rfl, rfl, rfl, rfl, rfl, trivial⟩ (fun _ hm => hm.pick [] [] [0, 1] rfl rfl) ?_
 intro i hinv
 replace hinv : i ≤ n := hinv
 refine sr_ ?_
 have hi0 := hinv
 refine wl_ov (ov_lss rfl rfl) rfl (nn_ (gw_seq ?_))
 refine gw_cond rfl (fun hh => ?_) (fun hh => ?_)
 ·have hi : ((i : Nat) : Int) < ((n : Nat) : Int) := by simpa using hh
  clear hh
  refine gw_skip (nx_then (gw_seq (gw_block (sr_ ?_))))
  obtain ⟨b, off, hA, _, _⟩ := hl.get (by omega)
  subst hA
  obtain ⟨x, hx⟩ : ∃ x, l[i]? = some x := ⟨_, List.getElem?_eq_getElem (by omega)⟩
  obtain ⟨k, q, b1, b2, b3, b4⟩ := x
  have hxm := List.mem_of_getElem? hx
  have hxB := hB _ hxm
  obtain ⟨i1, i2, i3, i4⟩ := bk_i64 hxB
  have hj6 := join6 hxB
  have hts := txS_sz (take_all hB i)
  have htl : (l.take i).length ≤ 10 := by rw [List.length_take]; omega
  have h10 : (⟨#[10]⟩ : ByteArray).size = 1 := rfl
  dsimp only at i1 i2 i3 i4
  have hat := txS_at hx
  refine wl_ov (ov_index (j := i) es110 rfl rfl (by omega)) rfl ?_
  refine wl_ov (ov_elem (vs := [.string k, .string q, .int .i64 b1, .int .i64 b2, .int .i64 b3, .int .i64 b4]) rz133 rfl (fun _ hm => (hm.fact 0 rfl).1) hx rfl rfl) rfl ?_
  refine wl_alloc zc133 rfl fun g1 => ?_
  refine wl_stores (cs' := [.string k, .string q, .int .i64 b1, .int .i64 b2, .int .i64 b3, .int .i64 b4]) 0 rz133 rfl rfl rfl rfl rfl rfl rfl rfl ?_
  refine nn_ ?_
  refine gd (fun wz => Blk wz g1 133 [.string k, .string q, .int .i64 b1, .int .i64 b2, .int .i64 b3, .int .i64 b4] ∧ (SlOld bkEnc 6 133 w.heap.size none (some ⟨b, off, none⟩) n l) wz ∧ (TxtO w.heap.size none) wz ∧ True) mixed (fun _ hm => ⟨hm.bl 0, hm.fa 0, hm.fa 1, trivial⟩) fun z => ?_
  refine wt 0 28 1 rfl z (ov_move rfl) ?_
  refine wt 1 28 3 rfl z (ov_field fo133_0 rfl rfl) ?_
  refine wt 2 28 7 rfl z (ov_load sc9 rfl (fun _ hm => hm.1) rfl) ?_
  refine wt 3 28 15 rfl z (ov_field fo133_1 rfl rfl) ?_
  refine wt 4 28 31 rfl z (ov_load sc9 rfl (fun _ hm => hm.1) rfl) ?_
  refine wt 5 28 63 rfl z (ov_move rfl) ?_
  refine wt 6 28 127 rfl z (ov_field fo133_2 rfl rfl) ?_
  refine wt 7 28 255 rfl z (ov_field fo39_0 rfl rfl) ?_
  refine wt 8 28 511 rfl z (ov_load sc3 rfl (fun _ hm => hm.1) rfl) ?_
  refine wt 10 28 1535 rfl z (ov_move rfl) ?_
  refine wt 11 28 3583 rfl z (ov_field fo133_2 rfl rfl) ?_
  refine wt 12 28 7679 rfl z (ov_field fo39_1 rfl rfl) ?_
  refine wt 13 28 15871 rfl z (ov_load sc3 rfl (fun _ hm => hm.1) rfl) ?_
  refine wt 15 28 48639 rfl z (ov_move rfl) ?_
  refine wt 16 28 114175 rfl z (ov_field fo133_3 rfl rfl) ?_
  refine wt 17 28 245247 rfl z (ov_load sc3 rfl (fun _ hm => hm.1) rfl) ?_
  refine wt 19 28 769535 rfl z (ov_move rfl) ?_
  refine wt 20 28 1818111 rfl z (ov_field fo133_4 rfl rfl) ?_
  refine wt 21 28 3915263 rfl z (ov_load sc3 rfl (fun _ hm => hm.1) rfl) ?_
  refine wa1 9 rfl ?_
  refine wl_callv rfl cb154 rfl rfl (fun wx hm => (itoa_any b1 wx (hm.fact 1 rfl).1 i1.1 i1.2)) ?_
  refine wl_nil ?_
  refine nw 28 3915775 (fun _ hm => ⟨hm.bl 0, hm.fa 0, hm.fa 1, trivial⟩) fun z => ?_
  refine wa1 14 rfl ?_
  refine wl_callv rfl cb154 rfl rfl (fun wx hm => (itoa_any b2 wx (hm.fact 1 rfl).1 i2.1 i2.2)) ?_
  refine wl_nil ?_
  refine nw 28 3932159 (fun _ hm => ⟨hm.bl 0, hm.fa 0, hm.fa 1, trivial⟩) fun z => ?_
  refine wa1 18 rfl ?_
  refine wl_callv rfl cb154 rfl rfl (fun wx hm => (itoa_any b3 wx (hm.fact 1 rfl).1 i3.1 i3.2)) ?_
  refine wl_nil ?_
  refine nw 28 4194303 (fun _ hm => ⟨hm.bl 0, hm.fa 0, hm.fa 1, trivial⟩) fun z => ?_
  refine wa1 22 rfl ?_
  refine wl_callv rfl cb154 rfl rfl (fun wx hm => (itoa_any b4 wx (hm.fact 1 rfl).1 i4.1 i4.2)) ?_
  refine wl_nil ?_
  refine nw 28 8388607 (fun _ hm => ⟨hm.bl 0, hm.fa 0, hm.fa 1, trivial⟩) fun z => ?_
  refine wa1 23 rfl ?_
  refine wl_buildSlice (e := 9) (cs := [.string k, .string q, .string (itoaS b1), .string (itoaS b2), .string (itoaS b3), .string (itoaS b4)]) rfl (by kernel_rfl) rfl fun g2 => ?_
  refine wl_nil ?_
  refine nw 28 16777215 (fun _ hm => ⟨hm.bl 1, hm.fa 0, hm.fa 1, trivial⟩) fun z => ?_
  refine wa1 24 rfl ?_
  refine wl_callv rfl cb155 rfl rfl (fun wx hm => (joinS_any (bkParts ⟨k, q, b1, b2, b3, b4⟩) ⟨#[32]⟩ (some ⟨g2, 0, none⟩) 6 6 wx (SlT.ofBlk (l := bkParts ⟨k, q, b1, b2, b3, b4⟩) sg_len (hm.blkI 0 rfl)) (by omega) (by omega) (by omega) (fun y hy => by have := parts_sz hxB y hy; omega) (by decide))) ?_
  refine wl_nil ?_
  refine nw 28 33554431 (fun _ hm => ⟨hm.bl 1, hm.fa 0, hm.fa 1, trivial⟩) fun z => ?_
  refine wt 25 28 67108863 rfl z (ov_sadd rfl rfl (by (try simp only [ByteArray.size_append]); omega)) ?_
  refine wt 26 28 134217727 rfl z (ov_sadd rfl rfl (by (try simp only [ByteArray.size_append]); omega)) ?_
  refine wt 27 28 268435455 rfl z (ov_assign rfl) ?_
  refine wa_done (by kernel_rfl) ?_
  refine nx_blk_nrm (nx_then (gw_region (ad_ rfl rfl (mv_ rfl (wl_nil ?_)))))
  exact nx_round (i + 1) (by omega) (by omega) ⟨rfl, rfl, (congrArg (fun z => some (Value.string z)) hat.symm), rfl, rfl, (some_int (by omega)), trivial⟩ (fun _ hm => hm.pick [] [] [0, 1] rfl rfl)
 have hi : ¬ (((i : Nat) : Int) < ((n : Nat) : Int)) := by simpa using hh
 clear hh
 refine gw_exit ?_
 refine nx_then_exit (nx_then_exit ?_)
 refine nx_blk_here ?_
 refine nx_then (sr_ ?_)
 have hlt : l.take i = l := List.take_of_length_le (by omega)
 rw [hlt]
 refine mv_ rfl (sg_ rfl (nn_ ?_))
 refine gw_ret ?_
 refine nx_ret1 rfl rfl fun wx hm => ?_
 exact ⟨rfl, hm.g⟩
theorem sized_any (t : ByteArray) (w : World) (hz : t.size ≤ 200000) :
  Calls Tryz.prog 151 #[.string t] w (fun e w' => e = .returned (.tuple #[.string t, .int .i64 0]) ∧ w.grownBy w' none) := by
 refine gw_enter ⟨8, w, none, []⟩ Tryz.func151 rfl Tryz.ntmps151 rfl (mem0 (X := []) allF_nil allL_nil) ?_
 refine sr_ (sg_ rfl (sg_ rfl (nn_ (gw_seq (sr_ (mv_ rfl ?_))))))
 refine wl_ov (ov_lens us9 rfl) rfl ?_
 refine wl_ov (ov_gtr rfl rfl) rfl ?_
 refine nn_ ?_
 refine gw_cond rfl (fun hh => ?_) (fun hh => ?_)
 ·have h1 : 200000 < ((t).size : Int) := by simpa using hh
  clear hh
  refine sr_ ?_
  omega
 have h1 : ¬ (200000 < ((t).size : Int)) := by simpa using hh
 clear hh
 refine gw_skip (nx_then (sr_ (mv_ rfl (sg_ rfl (sg_ rfl (nn_ ?_))))))
 refine gw_ret ?_
 refine nx_ret2 rfl rfl rfl fun wx hm => ?_
 exact ⟨rfl, hm.g⟩
theorem bookText_bad (l : List Bk) (A : Option Addr) (n c : Nat) (w : World) (ht : TxtW w) (hl : SlT bkEnc 6 133 w A n l) (hB : ∀ x ∈ l, BkB x) (hn : n ≤ 10) (h0 : formE l ≠ 0) :
  Calls Tryz.prog 53 #[.slice A n c] w (fun e w' => e = .returned (.tuple #[.string ⟨#[]⟩, .int .i64 (formE l)]) ∧ w.grownBy w' none) := by
 refine gw_enter ⟨48, w, none, []⟩ Tryz.func53 rfl Tryz.ntmps53 rfl (mem0 (X := [SlOld bkEnc 6 133 w.heap.size none A n l, TxtO w.heap.size none]) (allF_cons hl.old (allF_cons ht.old allF_nil)) (allL_cons SlOld.lasts (allL_cons TxtO.lasts allL_nil))) ?_
 refine sr_ ?_
 have hlen := hl.len
 obtain ⟨FE, hFE⟩ : ∃ z, z = formE l := ⟨_, rfl⟩
 rw [← hFE] at h0
 rw [← hFE]
 refine sg_ rfl (sg_ rfl (nn_ (gw_seq (sr_ (mv_ rfl ?_)))))
 refine wl_callv (v := .int .i64 FE) rfl cb148 rfl rfl (fun wx hm => (by rw [hFE]; exact formed_any l A n c wx (hm.fact 0 rfl).1 (fun x hx => bkB_ok (hB x hx)) (by omega))) ?_
 refine sg_ rfl (nn_ (sr_ (mv_ rfl (wl_ov (ov_neq rfl rfl) rfl (nn_ ?_)))))
 refine gw_cond rfl (fun hh => ?_) (fun hh => ?_)
 ·have h1 : ¬ (FE = 0) := by simpa using hh
  clear hh
  refine sr_ (mv_ rfl (sg_ rfl (sg_ rfl (nn_ ?_))))
  refine gw_ret ?_
  refine nx_then_ret ?_
  refine nx_ret2 rfl rfl rfl fun wx hm => ?_
  exact ⟨rfl, hm.g⟩
 have h1 : FE = 0 := by simpa using hh
 clear hh
 refine gw_skip (nx_then (sr_ ?_))
 exact absurd (by simpa using h1) h0
theorem bookText_right (l : List Bk) (A : Option Addr) (n c : Nat) (w : World) (ht : TxtW w) (hl : SlT bkEnc 6 133 w A n l) (hB : ∀ x ∈ l, BkB x) (hn : n ≤ 10) (h0 : formE l = 0) :
  Calls Tryz.prog 53 #[.slice A n c] w (fun e w' => e = .returned (.tuple #[.string (txS l), .int .i64 0]) ∧ w.grownBy w' none) := by
 refine gw_enter ⟨48, w, none, []⟩ Tryz.func53 rfl Tryz.ntmps53 rfl (mem0 (X := [SlOld bkEnc 6 133 w.heap.size none A n l, TxtO w.heap.size none]) (allF_cons hl.old (allF_cons ht.old allF_nil)) (allL_cons SlOld.lasts (allL_cons TxtO.lasts allL_nil))) ?_
 refine sr_ ?_
 have hlen := hl.len
 obtain ⟨FE, hFE⟩ : ∃ z, z = formE l := ⟨_, rfl⟩
 rw [← hFE] at h0
 refine sg_ rfl (sg_ rfl (nn_ (gw_seq (sr_ (mv_ rfl ?_)))))
 refine wl_callv (v := .int .i64 FE) rfl cb148 rfl rfl (fun wx hm => (by rw [hFE]; exact formed_any l A n c wx (hm.fact 0 rfl).1 (fun x hx => bkB_ok (hB x hx)) (by omega))) ?_
 refine sg_ rfl (nn_ (sr_ (mv_ rfl (wl_ov (ov_neq rfl rfl) rfl (nn_ ?_)))))
 refine gw_cond rfl (fun hh => ?_) (fun hh => ?_)
 ·have h1 : ¬ (FE = 0) := by simpa using hh
  clear hh
  refine sr_ ?_
  exact absurd h0 (by simpa using h1)
 have h1 : FE = 0 := by simpa using hh
 clear hh
 refine gw_skip (nx_then (sr_ ?_))
 refine wl_alloc zc235 rfl fun g1 => ?_
 refine nn_ (gw_seq (sr_ (mv_ rfl (wl_ov (ov_len es110 rfl) rfl (mv_ rfl (nn_ (gw_block ?_)))))))
 refine gw_nilOwn 5 1 ?_
 skip
 refine gw_loop (γ := Nat × Value × Value) (fun g => g.1 ≤ n ∧ (g.2.1 = .pointer none ∨ g.2.1 = .pointer (some ⟨g1, 0, none⟩))) (fun g => [(2, .string ⟨#[]⟩), (3, .int .i64 0), (5, .pointer (some ⟨g1, 0, none⟩)), (13, .slice A n c), (14, .int .i64 ((n : Nat) : Int)), (15, .int .i64 ((g.1 : Nat) : Int))]) (fun g => fun _ => True) (fun g => [(g1, 235, [g.2.1, g.2.2])]) (fun g => [⟨g.2.2, 5, 1, (Lib.byteCells (txL (l.take g.1))).length, (Lib.byteCells (txL (l.take g.1)))⟩]) (fun g => [SlOld bkEnc 6 133 w.heap.size none A n l, TxtO w.heap.size none]) (fun g => n - g.1) (0, .pointer none, .slice none 0 0) ⟨Nat.zero_le _, .inl rfl⟩ ⟨rfl, rfl, rfl, rfl, rfl, rfl, trivial⟩ (fun _ hm => hm.pick [0] [0] [0, 1] rfl rfl) ?_
 rintro ⟨i, p, v⟩ hinv
 replace hinv : i ≤ n ∧ (p = .pointer none ∨ p = .pointer (some ⟨g1, 0, none⟩)) := hinv
 dsimp only
 refine sr_ ?_
 obtain ⟨hi0, hp⟩ := hinv
 refine wl_ov (ov_lss rfl rfl) rfl (nn_ (gw_seq ?_))
 refine gw_cond rfl (fun hh => ?_) (fun hh => ?_)
 ·have hi : ((i : Nat) : Int) < ((n : Nat) : Int) := by simpa using hh
  clear hh
  refine gw_skip (nx_then (gw_seq (gw_block (sr_ ?_))))
  obtain ⟨b, off, hA, _, _⟩ := hl.get (by omega)
  subst hA
  obtain ⟨x, hx⟩ : ∃ x, l[i]? = some x := ⟨_, List.getElem?_eq_getElem (by omega)⟩
  obtain ⟨k, q, b1, b2, b3, b4⟩ := x
  have hxm := List.mem_of_getElem? hx
  have hxB := hB _ hxm
  obtain ⟨i1, i2, i3, i4⟩ := bk_i64 hxB
  have hj6 := join6 hxB
  have hts := txS_sz (take_all hB i)
  have htl : (l.take i).length ≤ 10 := by rw [List.length_take]; omega
  have h10 : (⟨#[10]⟩ : ByteArray).size = 1 := rfl
  dsimp only at i1 i2 i3 i4
  have hat := txL_at hx
  have htl2 := txL_len (take_all hB i)
  refine wl_ov (ov_index (j := i) es110 rfl rfl (by omega)) rfl ?_
  refine wl_ov (ov_elem (vs := [.string k, .string q, .int .i64 b1, .int .i64 b2, .int .i64 b3, .int .i64 b4]) rz133 rfl (fun _ hm => (hm.fact 0 rfl).1) hx rfl rfl) rfl ?_
  refine wl_alloc zc133 rfl fun g2 => ?_
  refine wl_stores (cs' := [.string k, .string q, .int .i64 b1, .int .i64 b2, .int .i64 b3, .int .i64 b4]) 0 rz133 rfl rfl rfl rfl rfl rfl rfl rfl ?_
  refine nn_ (gw_region (fd_ fo133_0 rfl rfl (lk_ sc9 0 rfl rfl rfl ?_)))
  refine wl_ov (ov_iface (by kernel_rfl) rfl) rfl ?_
  refine fd_ fo133_1 rfl rfl (lk_ sc9 0 rfl rfl rfl ?_)
  refine wl_ov (ov_iface (by kernel_rfl) rfl) rfl ?_
  refine fd_ fo133_2 rfl rfl (fd_ fo39_0 rfl rfl (lk_ sc3 0 rfl rfl rfl ?_))
  refine wl_ov (ov_iface (by kernel_rfl) rfl) rfl ?_
  refine fd_ fo133_2 rfl rfl (fd_ fo39_1 rfl rfl (lk_ sc3 0 rfl rfl rfl ?_))
  refine wl_ov (ov_iface (by kernel_rfl) rfl) rfl ?_
  refine fd_ fo133_3 rfl rfl (lk_ sc3 0 rfl rfl rfl ?_)
  refine wl_ov (ov_iface (by kernel_rfl) rfl) rfl ?_
  refine fd_ fo133_4 rfl rfl (lk_ sc3 0 rfl rfl rfl ?_)
  refine wl_ov (ov_iface (by kernel_rfl) rfl) rfl ?_
  refine wl_buildSlice (e := 20) (cs := [.iface 9 (.string k), .iface 9 (.string q), .iface 3 (.int .i64 b1), .iface 3 (.int .i64 b2), .iface 3 (.int .i64 b3), .iface 3 (.int .i64 b4)]) rfl (by kernel_rfl) rfl fun g3 => ?_
  refine wl_callv (v := .string (joinS (bkParts ⟨k, q, b1, b2, b3, b4⟩) ⟨#[32]⟩)) rfl cb150 rfl rfl (fun wx hm => (by have h := wjoin_any (bkPts ⟨k, q, b1, b2, b3, b4⟩) (some ⟨g3, 0, none⟩) 6 6 wx (hm.fact 1 rfl).1 (SlT.ofBlk (l := bkPts ⟨k, q, b1, b2, b3, b4⟩) pt_len (hm.blkI 0 rfl)) (by omega) (by omega) (pts_ok hxB); exact h)) ?_
  refine wl_ov (ov_sadd rfl rfl (by rw [h10]; omega)) rfl ?_
  refine wl_callG (γ := Value) (val := fun _ => .tuple #[.int .i64 ((lnB ⟨k, q, b1, b2, b3, b4⟩).size : Int), .nilIface]) (φ := fun _ => True) (K' := fun _ => (fun _ => True)) (L' := fun g => [(g1, 235, [.pointer (some ⟨g1, 0, none⟩), g])]) (O' := fun g => [⟨g, 5, 1, (Lib.byteCells (txL (l.take i)) ++ Lib.strCells (lnB ⟨k, q, b1, b2, b3, b4⟩)).length, Lib.byteCells (txL (l.take i)) ++ Lib.strCells (lnB ⟨k, q, b1, b2, b3, b4⟩)⟩]) (X' := fun _ => [SlOld bkEnc 6 133 w.heap.size none (some ⟨b, off, none⟩) n l, TxtO w.heap.size none]) rfl cb149 rfl rfl (fun wx hm => (writeString_any w.heap.size g1 (Lib.byteCells (txL (l.take i))) (lnB ⟨k, q, b1, b2, b3, b4⟩) wx (hm.isB 2 0 rfl rfl hp) (by rw [Lib.byteCells_length]; have := lnB_sz hxB; omega) hm.g.size).mono fun e w' ⟨he, h1, hb⟩ => by
   obtain ⟨v, hM⟩ := hm.built h1 hb (oldX_cons (i := 0) SlOld.oldF rfl (oldX_cons (i := 1) TxtO.oldF rfl oldX_nil))
   exact ⟨v, he, trivial, hM⟩) ?_
  rintro v2 _
  rw [show Lib.byteCells (txL (l.take i)) ++ Lib.strCells (lnB ⟨k, q, b1, b2, b3, b4⟩) = Lib.byteCells (txL (l.take (i + 1))) from by rw [cells_app, ← hat]]
  refine wl_nil (nx_blk_nrm (nx_then (gw_region (ad_ rfl rfl (mv_ rfl (wl_nil ?_))))))
  exact nx_round (i + 1, .pointer (some ⟨g1, 0, none⟩), v2) ⟨by dsimp only; omega, .inr rfl⟩ (by dsimp only; omega) ⟨rfl, rfl, rfl, rfl, rfl, (some_int (by omega)), trivial⟩ (fun _ hm => hm.pick [0] [0] [0, 1] rfl rfl)
 have hi : ¬ (((i : Nat) : Int) < ((n : Nat) : Int)) := by simpa using hh
 clear hh
 refine gw_exit ?_
 refine nx_then_exit (nx_then_exit ?_)
 refine nx_blk_here ?_
 refine nx_then (sr_ ?_)
 have hlt : l.take i = l := List.take_of_length_le (by omega)
 rw [hlt]
 have htl := txS_sz hB
 refine wl_callG (γ := Unit) (val := fun _ => .string (txS l)) (φ := fun _ => True) (K' := fun _ => (fun _ => True)) (L' := fun _ => []) (O' := fun _ => []) (X' := fun _ => [SlOld bkEnc 6 133 w.heap.size none A n l, TxtO w.heap.size none]) rfl cb152 rfl rfl (fun wx hm => (string_any w.heap.size g1 (txL l) wx (hm.isB 0 0 rfl rfl hp) hm.g.size).mono fun e w' ⟨he, hb⟩ => ⟨(), he, trivial, hm.belowX hb (oldX_cons (i := 0) SlOld.oldF rfl (oldX_cons (i := 1) TxtO.oldF rfl oldX_nil))⟩) ?_
 rintro _ _
 refine wl_callv rfl cb151 rfl rfl (fun wx hm => (sized_any (txS l) wx (by omega))) ?_
 refine wl_ov (ov_extract rfl rfl) rfl (wl_ov (ov_extract rfl rfl) rfl (sg_ rfl (sg_ rfl (nn_ ?_))))
 refine gw_ret ?_
 refine nx_ret2 rfl rfl rfl fun wx hm => ?_
 exact ⟨rfl, hm.g⟩
end Go.Proofs.YtdoooppeiphefaaGreatDoor
namespace Go.Proofs.YtdoooppeiphefaaGreatDoor
open Go.RowKit
theorem str_pos {t : ByteArray} (h : (t.toList == (⟨#[]⟩ : ByteArray).toList) = false) : 1 ≤ t.size := by
  by_cases h0 : t.size = 0
  · have e : t = ⟨#[]⟩ := by
      cases t with
      | mk a => exact congrArg ByteArray.mk (Array.eq_empty_of_size_eq_zero h0)
    rw [e] at h; simp at h
  · omega
theorem extract_hi2 (s : ByteArray) (i : Nat) : (s.extract 0 i).size ≤ i := by
  rw [ByteArray.size_extract]; omega
theorem extract_lo2 (s : ByteArray) (i : Nat) : (s.extract i s.size).size ≤ s.size - i := by
  rw [ByteArray.size_extract]; omega
theorem gchanged_any (tx wi : ByteArray) (w : World) (B sb m : Nat) (hS : Strm 25 w B sb m) (hm : m ≤ 100000000000) (htx : tx.size ≤ 1000000) (hwi : wi.size ≤ 1000) :
  Calls Tryz.prog 156 #[.pointer (some ⟨sb, 0, none⟩), .string tx, .string wi] w (fun e w' => ∃ v : ByteArray, e = .returned (.string v) ∧ v.size ≤ tx.size + wi.size + 4 ∧ Strm 25 w' B sb (m + 3) ∧ w.grownBy w' (some sb)) := by
 refine gw_enter ⟨63, w, (some sb), []⟩ Tryz.func156 rfl Tryz.ntmps156 rfl (memS (X := []) hS allF_nil allL_nil) ?_
 refine sr_ (sg_ rfl (nn_ (gw_seq (sr_ (mv_ rfl (wl_ov (ov_seql rfl rfl) rfl (mv_ rfl ?_)))))))
 rcases Bool.eq_false_or_eq_true (tx.toList == (⟨#[]⟩ : ByteArray).toList) with h1 | h1
 ·refine wl_set 11 rfl (congrArg Value.bool h1) ?_
  refine goff rfl rfl rfl (goff rfl rfl rfl (pt_ rfl rfl (nn_ (ct_ rfl (sr_ (mv_ rfl (sg_ rfl (nn_ ?_))))))))
  refine gw_ret ?_
  refine nx_then_ret ?_
  refine nx_ret1 rfl rfl fun wx hm => ?_
  exact ⟨wi, rfl, (by (try simp only [ByteArray.size_append]); omega), hm.k.more (by omega), hm.g⟩
 refine wl_set 11 rfl (congrArg Value.bool h1) ?_
 refine wl_guard_on rfl rfl rfl (mv_ rfl (wl_guard_on rfl rfl rfl (wl_ov (ov_seql rfl rfl) rfl (pf_ rfl rfl (nn_ ?_)))))
 refine gw_cond rfl (fun hh => ?_) (fun hh => ?_)
 ·have h2 : (wi.toList == (⟨#[]⟩ : ByteArray).toList) = true := by simpa using hh
  clear hh
  refine sr_ (mv_ rfl (sg_ rfl (nn_ ?_)))
  refine gw_ret ?_
  refine nx_then_ret ?_
  refine nx_ret1 rfl rfl fun wx hm => ?_
  exact ⟨wi, rfl, (by (try simp only [ByteArray.size_append]); omega), hm.k.more (by omega), hm.g⟩
 have h2 : (wi.toList == (⟨#[]⟩ : ByteArray).toList) = false := by simpa using hh
 clear hh
 refine gw_skip (nx_then (sr_ ?_))
 have htx1 := str_pos h1
 have hwi1 := str_pos h2
 refine mv_ rfl (mv_ rfl ?_)
 refine wl_ov (ov_lens us9 rfl) rfl ?_
 refine wl_got (γ := Int) (val := fun v => .int .i64 v) (φ := fun v => IsBelow ((tx).size : Int) v) rfl cb29 rfl rfl rfl rfl (fun wx hm => (next_any _ wx B sb _ hm.k (by omega) (by omega) (by omega))) fun va hva => ?_
 have ha := isBelow_lt hva (by omega)
 refine sg_ rfl (nn_ (sr_ (mv_ rfl (mv_ rfl (mv_ rfl ?_)))))
 refine wl_ov (ov_lens us9 rfl) rfl ?_
 refine wl_got (γ := Int) (val := fun v => .int .i64 v) (φ := fun v => IsBelow ((wi).size : Int) v) rfl cb29 rfl rfl rfl rfl (fun wx hm => (next_any _ wx B sb _ hm.k (by omega) (by omega) (by omega))) fun vb hvb => ?_
 have hb := isBelow_lt hvb (by omega)
 have hbd := byteAt_bd wi vb
 refine wl_ov (ov_strIx us9 rfl rfl (by omega) (by omega)) rfl ?_
 refine sg_ rfl (nn_ (gw_seq (sr_ (mv_ rfl ?_))))
 refine wl_got (γ := Int) (val := fun v => .int .i64 v) (φ := fun v => IsBelow 3 v) rfl cb29 rfl rfl rfl rfl (fun wx hm => (next_any _ wx B sb _ hm.k (by omega) (by omega) (by omega))) fun vc hvc => ?_
 have e1 := extract_hi2 tx va.toNat
 have e2 := extract_lo2 tx (va + 1).toNat
 have e3 := encode_size (byteAt wi vb)
 have e4 := extract_lo2 tx va.toNat
 refine nn_ (gw_block (sr_ (wl_ov (ov_eql rfl rfl) rfl (sg_ rfl (nn_ ?_)))))
 refine gw_cond rfl (fun hh => ?_) (fun hh => ?_)
 ·have hc1 : vc = 0 := by simpa using hh
  clear hh
  refine gw_seq ?_
  refine gd (fun wz => True) mixed (fun _ _ => trivial) fun z => ?_
  refine wt 0 13 1 rfl z (ov_move rfl) ?_
  refine wt 1 13 3 rfl z (ov_move rfl) ?_
  refine wt 2 13 7 rfl z (ov_strHi us9 rfl rfl (by omega) (by omega)) ?_
  refine wt 3 13 15 rfl z (ov_move rfl) ?_
  refine wt 4 13 31 rfl z (ov_toI32 (by kernel_rfl) (by kernel_rfl) rfl (by omega) (by omega)) ?_
  refine wt 5 13 63 rfl z (ov_runeStr (by kernel_rfl) us9 rfl) ?_
  refine wt 6 13 127 rfl z (ov_sadd rfl rfl (by (try simp only [ByteArray.size_append]); omega)) ?_
  refine wt 7 13 255 rfl z (ov_move rfl) ?_
  refine wt 8 13 511 rfl z (ov_move rfl) ?_
  refine wt 9 13 1023 rfl z (ov_add rfl rfl (by omega) (by omega)) ?_
  refine wt 10 13 2047 rfl z (ov_strLo us9 rfl rfl (by omega) (by omega)) ?_
  refine wt 11 13 4095 rfl z (ov_sadd rfl rfl (by (try simp only [ByteArray.size_append]); omega)) ?_
  refine wt 12 13 8191 rfl z (ov_assign rfl) ?_
  refine wa_done (by kernel_rfl) ?_
  refine nx_then ?_
  refine gw_ret ?_
  refine nx_blk_ret (nx_then_ret ?_)
  refine nx_ret1 rfl rfl fun wx hm => ?_
  exact ⟨((tx.extract 0 va.toNat) ++ (Utf8.encode (byteAt wi vb))) ++ (tx.extract (va + 1).toNat tx.size), rfl, (by (try simp only [ByteArray.size_append]); omega), hm.k.more (by omega), hm.g⟩
 have hc1 : ¬ (vc = 0) := by simpa using hh
 clear hh
 refine sr_ (wl_ov (ov_eql rfl rfl) rfl (sg_ rfl (nn_ ?_)))
 refine gw_cond rfl (fun hh => ?_) (fun hh => ?_)
 ·have hc2 : vc = 1 := by simpa using hh
  clear hh
  refine gw_seq ?_
  refine gd (fun wz => True) mixed (fun _ _ => trivial) fun z => ?_
  refine wt 0 12 1 rfl z (ov_move rfl) ?_
  refine wt 1 12 3 rfl z (ov_move rfl) ?_
  refine wt 2 12 7 rfl z (ov_strHi us9 rfl rfl (by omega) (by omega)) ?_
  refine wt 3 12 15 rfl z (ov_move rfl) ?_
  refine wt 4 12 31 rfl z (ov_toI32 (by kernel_rfl) (by kernel_rfl) rfl (by omega) (by omega)) ?_
  refine wt 5 12 63 rfl z (ov_runeStr (by kernel_rfl) us9 rfl) ?_
  refine wt 6 12 127 rfl z (ov_sadd rfl rfl (by (try simp only [ByteArray.size_append]); omega)) ?_
  refine wt 7 12 255 rfl z (ov_move rfl) ?_
  refine wt 8 12 511 rfl z (ov_move rfl) ?_
  refine wt 9 12 1023 rfl z (ov_strLo us9 rfl rfl (by omega) (by omega)) ?_
  refine wt 10 12 2047 rfl z (ov_sadd rfl rfl (by (try simp only [ByteArray.size_append]); omega)) ?_
  refine wt 11 12 4095 rfl z (ov_assign rfl) ?_
  refine wa_done (by kernel_rfl) ?_
  refine nx_then ?_
  refine gw_ret ?_
  refine nx_blk_ret (nx_then_ret ?_)
  refine nx_ret1 rfl rfl fun wx hm => ?_
  exact ⟨((tx.extract 0 va.toNat) ++ (Utf8.encode (byteAt wi vb))) ++ (tx.extract va.toNat tx.size), rfl, (by (try simp only [ByteArray.size_append]); omega), hm.k.more (by omega), hm.g⟩
 have hc2 : ¬ (vc = 1) := by simpa using hh
 clear hh
 refine gw_skip (nx_blk_nrm (nx_then (gw_seq ?_)))
 refine gd (fun wz => True) mixed (fun _ _ => trivial) fun z => ?_
 refine wt 0 9 1 rfl z (ov_move rfl) ?_
 refine wt 1 9 3 rfl z (ov_move rfl) ?_
 refine wt 2 9 7 rfl z (ov_strHi us9 rfl rfl (by omega) (by omega)) ?_
 refine wt 3 9 15 rfl z (ov_move rfl) ?_
 refine wt 4 9 31 rfl z (ov_move rfl) ?_
 refine wt 5 9 63 rfl z (ov_add rfl rfl (by omega) (by omega)) ?_
 refine wt 6 9 127 rfl z (ov_strLo us9 rfl rfl (by omega) (by omega)) ?_
 refine wt 7 9 255 rfl z (ov_sadd rfl rfl (by (try simp only [ByteArray.size_append]); omega)) ?_
 refine wt 8 9 511 rfl z (ov_assign rfl) ?_
 refine wa_done (by kernel_rfl) ?_
 refine nx_then ?_
 refine gw_ret ?_
 refine nx_ret1 rfl rfl fun wx hm => ?_
 exact ⟨(tx.extract 0 va.toNat) ++ (tx.extract (va + 1).toNat tx.size), rfl, (by (try simp only [ByteArray.size_append]); omega), hm.k.more (by omega), hm.g⟩
end Go.Proofs.YtdoooppeiphefaaGreatDoor
namespace Go.Proofs.YtdoooppeiphefaaGreatDoor
open Go.RowKit
def svEnc (v : Value) : List Value := [v]
theorem sv_len (v : Value) : (svEnc v).length = 1 := rfl
theorem blkRow1 {w : World} {g : Nat} {T : TypeId} {v : Value} (hb : Blk w g T [v]) : w.ownsRow 0 T 1 (.slice (some ⟨g, 0, none⟩) 1 1) 1 ([v].flatMap svEnc) :=
  ⟨rfl, .inr ⟨g, 1, #[v], rfl, Nat.zero_le _, hb, Nat.le_refl _, by unfold maxLen; omega, rfl, rfl⟩⟩
theorem rowBlk1 {T : TypeId} {g : Nat} {v : Value} {w : World} (h : RowK 0 T 1 1 1 g ([v].flatMap svEnc) w) : Blk w g T [v] := by
  rcases h.2 with ⟨h1, _⟩ | ⟨g', cap, cur, hv, _, hh, _, _, hs, ht⟩
  · cases h1
  · injection hv with h1 _ h3
    injection h1 with h1
    injection h1 with h1 _ _
    subst h1 h3
    rw [List.take_of_length_le (by rw [Array.length_toList]; omega)] at ht
    have e : cur = [v].toArray := by rw [← show cur.toList = [v] from ht]
    rw [e] at hh
    exact hh
section
variable {K : World → Prop} {L : List (Nat × TypeId × List Value)} {O : List Own} {X X' : List (World → Prop)} {w w' w0 : World} {n n' : Nat} {row : Option Nat} {Tt : List TypeId}
theorem Mem.cx (h : Mem ⟨n, w0, row, Tt⟩ K L O X w) : Mem ⟨n', w0, row, Tt⟩ K L O X w := ⟨h.g, h.k, h.b, h.nd, h.o, h.od, h.oo, h.x, h.kk, h.l, h.rs⟩
end
section
variable {c : Cx} {K : World → Prop} {L : List (Nat × TypeId × List Value)} {O : List Own} {X X' : List (World → Prop)} {w w' : World}
/-- A call has turned a block that is known, the only one, and handed a row of its own out through it. -/
theorem Mem.handed {g : Nat} {T e : TypeId} {sz m : Nat} {v u : Value} {xs : List Value} (hm : Mem c (fun _ => True) [(g, T, [u])] O X w) (hg : w.grownBy w' (some g)) (hb : Blk w' g T [v]) (ho : w'.ownsRow w.heap.size e sz v m xs)
    (hX : ∀ A ∈ X', (∀ w w', c.w0.heap.size ≤ g → w.grownBy w' (some g) → A w → A w') ∧ A ∈ X) : Mem c (fun _ => True) [(g, T, [v])] [⟨v, e, sz, m, xs⟩] X' w' := by
  have h1 := hm.b _ (List.mem_singleton.2 rfl)
  have hlt : g < w.heap.size := h1.2.lt
  have hN : c.w0.heap.size ≤ w.heap.size := hm.g.size
  have hne : v.ownBlock ≠ some g := fun e => by
    have := ho.lt g e
    omega
  refine ⟨⟨hg.os.trans hm.g.os, hg.tape.trans hm.g.tape, hg.output.trans hm.g.output, Nat.le_trans hm.g.size hg.size, fun k hk hne => ?_⟩, trivial, fun x hx => ?_, List.pairwise_singleton _ _, fun r hr => ?_, fun r hr x hx => ?_, List.pairwise_singleton _ _, fun A hA => (hX A hA).1 _ _ h1.1 hg (hm.x A (hX A hA).2), Keeps.true_, fun A hA => hm.l A (hX A hA).2, hm.rs⟩
  · exact (hg.block k (Nat.lt_of_lt_of_le hk hm.g.size) (fun e => by
      have e2 : k = g := by injection e
      have := h1.1
      omega)).trans (hm.g.block k hk hne)
  · rw [List.mem_singleton.1 hx]; exact ⟨h1.1, hb⟩
  · rw [List.mem_singleton.1 hr]
    refine ⟨ho.1, ?_⟩
    rcases ho.2 with h | ⟨g', cap, cur, h2, h3, h4⟩
    · exact .inl h
    · exact .inr ⟨g', cap, cur, h2, Nat.le_trans hN h3, h4⟩
  · rw [List.mem_singleton.1 hr, List.mem_singleton.1 hx]; exact hne
end
theorem TxtO.far {N g : Nat} {row : Option Nat} : ∀ w w' : World, N ≤ g → w.grownBy w' (some g) → TxtO N row w → TxtO N row w' := fun _ _ hN hg h =>
  ⟨h.1.same fun k hk => hg.block k (h.1.lt hk) (fun e => by
    have e2 : k = g := by injection e
    have := (h.2 k hk).1
    omega), h.2⟩
end Go.Proofs.YtdoooppeiphefaaGreatDoor
namespace Go.Proofs.YtdoooppeiphefaaGreatDoor
open Go.RowKit
open Go.ChangeMaps (setBlock)
/-- The map at block g holds es. -/
def MapAt (g : Nat) (es : Array MapEntry) (ck : Nat) (w : World) : Prop := w.heap[g]? = some (.map es ck)
theorem MapAt.lasts2 {N : Nat} {row : Option Nat} {Tt : List TypeId} {g : Nat} {es : Array MapEntry} {ck : Nat} : Lasts2 N row Tt (MapAt g es ck) :=
  ⟨fun w w' h hx => (h.block g (Array.getElem?_eq_some_iff.1 hx).1 (by simp)).trans hx,
   fun w w' r T c h1 _ _ h3 hx => (h3.block g (Array.getElem?_eq_some_iff.1 hx).1 (fun e => by
     have e2 : g = r := by injection e
     subst e2
     unfold MapAt at hx
     rw [h1] at hx; cases hx)).trans hx⟩
/-- The map at block g, one of the call's own. -/
def OwnMap (N g : Nat) (es : Array MapEntry) (ck : Nat) (w : World) : Prop := N ≤ g ∧ MapAt g es ck w
theorem OwnMap.lasts2 {N M : Nat} {row : Option Nat} {Tt : List TypeId} {g : Nat} {es : Array MapEntry} {ck : Nat} : Lasts2 N row Tt (OwnMap M g es ck) :=
  ⟨fun w w' h hx => ⟨hx.1, MapAt.lasts2.gr (N := N) (row := row) (Tt := Tt) w w' h hx.2⟩, fun w w' r T c h1 h2 h3 h4 hx => ⟨hx.1, MapAt.lasts2.st w w' r T c h1 h2 h3 h4 hx.2⟩⟩
theorem BlkOld.far {N g b : Nat} {row : Option Nat} {T : TypeId} {cs : List Value} : ∀ w w' : World, N ≤ g → w.grownBy w' (some g) → BlkOld N row b T cs w → BlkOld N row b T cs w' := fun _ _ h1 h2 ⟨h3, h4⟩ => ⟨h3, h4.grown h2 (fun e => by
  have e2 : b = g := by injection e
  omega)⟩
end Go.Proofs.YtdoooppeiphefaaGreatDoor
namespace Go.Proofs.YtdoooppeiphefaaGreatDoor
open Go.RowKit Go.MapKept
open Go.ChangeMaps (setBlock)
theorem bytes_ext {a b : ByteArray} (h : a.toList = b.toList) : a = b := by
  rw [ByteArray.toList_eq, ByteArray.toList_eq] at h
  cases a; cases b
  simp only at h
  exact congrArg ByteArray.mk (Array.toList_inj.1 h)
theorem bytes_eqb {a b : ByteArray} : (a.toList == b.toList) = true ↔ a = b :=
  ⟨fun h => bytes_ext (by simpa using h), fun h => by subst h; simp⟩
def fPut {α : Type} (f : ByteArray → Option α) (k : ByteArray) (x : α) : ByteArray → Option α := fun j => if (j.toList == k.toList) = true then some x else f j
def fDel {α : Type} (f : ByteArray → Option α) (k : ByteArray) : ByteArray → Option α := fun j => if (j.toList == k.toList) = true then none else f j
def fNil {α : Type} : ByteArray → Option α := fun _ => none
theorem fPut_same {α : Type} (f : ByteArray → Option α) (k : ByteArray) (x : α) : fPut f k x k = some x := by unfold fPut; rw [if_pos (by simp)]
theorem fPut_other {α : Type} (f : ByteArray → Option α) {k j : ByteArray} (x : α) (h : j ≠ k) : fPut f k x j = f j := by unfold fPut; rw [if_neg (fun e => h (bytes_eqb.1 e))]
theorem fDel_same {α : Type} (f : ByteArray → Option α) (k : ByteArray) : fDel f k k = none := by unfold fDel; rw [if_pos (by simp)]
theorem fDel_other {α : Type} (f : ByteArray → Option α) {k j : ByteArray} (h : j ≠ k) : fDel f k j = f j := by unfold fDel; rw [if_neg (fun e => h (bytes_eqb.1 e))]
/-- What a map's block holds, key by key. -/
def Entries {α : Type} (enc : α → Value) (f : ByteArray → Option α) (es : Array MapEntry) (ck : Nat) : Prop :=
  Stamped es ck ∧ (∀ x ∈ es.toList, IsKey .string x.key) ∧ ∀ k v, (∃ e ∈ es.toList, e.key = .string k ∧ e.val = v) ↔ ∃ x, f k = some x ∧ v = enc x
/-- The map at block g, one of the call's own, has under each key what f says. -/
def MapF {α : Type} (enc : α → Value) (N g : Nat) (f : ByteArray → Option α) (w : World) : Prop :=
  N ≤ g ∧ ∃ es ck, w.heap[g]? = some (.map es ck) ∧ Entries enc f es ck
theorem MapF.lt {α : Type} {enc : α → Value} {N g : Nat} {f : ByteArray → Option α} {w : World} (h : MapF enc N g f w) : g < w.heap.size := by
  obtain ⟨_, es, ck, hb, _⟩ := h
  exact (Array.getElem?_eq_some_iff.1 hb).1
theorem MapF.kept {α : Type} {enc : α → Value} {N g : Nat} {f : ByteArray → Option α} {w w' : World} {row : Option Nat} (h : MapF enc N g f w) (hg : w.grownBy w' row) (hne : some g ≠ row) : MapF enc N g f w' := by
  have hlt := h.lt
  obtain ⟨h0, es, ck, hb, he⟩ := h
  exact ⟨h0, es, ck, (hg.block g hlt hne).trans hb, he⟩
theorem MapF.lasts2 {α : Type} {enc : α → Value} {N M : Nat} {row : Option Nat} {Tt : List TypeId} {g : Nat} {f : ByteArray → Option α} : Lasts2 N row Tt (MapF enc M g f) :=
  ⟨fun w w' h hx => hx.kept h (by simp),
   fun w w' r T c h1 _ _ h3 hx => hx.kept h3 (fun e => by
     have e2 : g = r := by injection e
     subst e2
     obtain ⟨_, es, ck, hb, _⟩ := hx
     rw [h1] at hb; cases hb)⟩
theorem MapF.far {α : Type} {enc : α → Value} {N M g g1 : Nat} {f : ByteArray → Option α} (hne : g1 ≠ g) : ∀ w w' : World, N ≤ g → w.grownBy w' (some g) → MapF enc M g1 f w → MapF enc M g1 f w' :=
  fun _ _ _ hg h => h.kept hg (fun e => hne (by injection e))
theorem SlOld.far {α : Type} {enc : α → List Value} {k N g : Nat} {T : TypeId} {row : Option Nat} {A : Option Addr} {n : Nat} {l : List α} : ∀ w w' : World, N ≤ g → w.grownBy w' (some g) → SlOld enc k T N row A n l w → SlOld enc k T N row A n l w' := fun w w' h1 h2 ⟨h3, h4⟩ => by
  refine ⟨⟨h3.len, fun hn => ?_⟩, h4⟩
  obtain ⟨b, off, cells, fz, e, hh, hr⟩ := h3.at_ hn
  exact ⟨b, off, cells, fz, e, (h2.block b (Array.getElem?_eq_some_iff.1 hh).1 (fun e2 => by
    have e3 : b = g := by injection e2
    obtain ⟨h5, _⟩ := h4 b off e hn
    omega)).trans hh, hr⟩
section
variable {α : Type} {enc : α → Value} {f : ByteArray → Option α} {es : Array MapEntry} {ck : Nat}
theorem Entries.nil : Entries enc fNil #[] 0 := ⟨stamped_empty 0, by simp, fun k v => by simp [fNil]⟩
theorem Entries.push (h : Entries enc f es ck) {k : ByteArray} (x : α) (hn : ∀ y ∈ es.toList, y.key ≠ .string k) : Entries enc (fPut f k x) (es.push ⟨.string k, enc x, ck⟩) (ck + 1) := by
  refine ⟨stamped_push h.1 hn, fun y hy => ?_, fun j v => ?_⟩
  · simp only [Array.toList_push, List.mem_append, List.mem_singleton] at hy
    rcases hy with hy | rfl
    · exact h.2.1 y hy
    · trivial
  · simp only [Array.toList_push, List.mem_append, List.mem_singleton]
    by_cases hj : j = k
    · subst hj
      rw [fPut_same]
      constructor
      · rintro ⟨e, he | rfl, h1, h2⟩
        · exact absurd h1 (hn e he)
        · exact ⟨x, rfl, h2.symm⟩
      · rintro ⟨y, hy, rfl⟩
        cases hy
        exact ⟨_, .inr rfl, rfl, rfl⟩
    · rw [fPut_other _ _ hj, ← h.2.2 j v]
      constructor
      · rintro ⟨e, he | rfl, h1, h2⟩
        · exact ⟨e, he, h1, h2⟩
        · injection h1 with h1
          exact absurd h1.symm hj
      · rintro ⟨e, he, h1, h2⟩
        exact ⟨e, .inl he, h1, h2⟩
theorem Entries.same (h : Entries enc f es ck) {k : ByteArray} (hn : f k = none) : Entries enc (fDel f k) es ck := by
  have e : fDel f k = f := by
    funext j
    by_cases hj : j = k
    · subst hj; rw [fDel_same, hn]
    · rw [fDel_other _ hj]
  rw [e]; exact h
end
end Go.Proofs.YtdoooppeiphefaaGreatDoor
namespace Go.Proofs.YtdoooppeiphefaaGreatDoor
open Go.RowKit
/-- Whether a line is a booking's, and that booking. -/
def rdB (t : ByteArray) : Bool := wdB t && decide ((wdL t).length = 6) && ((wdL t).drop 2).all numB
def rdV (t : ByteArray) : Bk := match wdL t with
  | [a1, a2, a3, a4, a5, a6] => ⟨a1, a2, numV a3, numV a4, numV a5, numV a6⟩
  | _ => ⟨⟨#[]⟩, ⟨#[]⟩, 0, 0, 0, 0⟩
def rdA (t : ByteArray) (acc : List Bk) : List Bk := if rdB t = true then acc ++ [rdV t] else acc
theorem six_of {l : List ByteArray} (h : l.length = 6) : ∃ a1 a2 a3 a4 a5 a6, l = [a1, a2, a3, a4, a5, a6] := by
  match l, h with
  | [a1, a2, a3, a4, a5, a6], _ => exact ⟨a1, a2, a3, a4, a5, a6, rfl⟩
theorem rd_no {t : ByteArray} {acc : List Bk} (h : rdB t = false) : rdA t acc = acc := by unfold rdA; rw [h]; rfl
theorem rd_yes {t : ByteArray} {acc : List Bk} {a1 a2 a3 a4 a5 a6 : ByteArray} (h : rdB t = true) (hw : wdL t = [a1, a2, a3, a4, a5, a6]) : rdA t acc = acc ++ [⟨a1, a2, numV a3, numV a4, numV a5, numV a6⟩] := by
  unfold rdA rdV; rw [if_pos h, hw]
theorem rd_wd {t : ByteArray} (h : (!wdB t) = true) : rdB t = false := by
  unfold rdB
  cases hb : wdB t with
  | false => rfl
  | true => rw [hb] at h; cases h
theorem rd_len {t : ByteArray} (h : ¬ (wdL t).length = 6) : rdB t = false := by
  unfold rdB; rw [decide_eq_false h, Bool.and_false]; rfl
theorem rd_six {t : ByteArray} {a1 a2 a3 a4 a5 a6 : ByteArray} (hb : (!wdB t) = false) (hw : wdL t = [a1, a2, a3, a4, a5, a6]) : rdB t = [a3, a4, a5, a6].all numB := by
  have h1 : wdB t = true := by
    cases h : wdB t with
    | true => rfl
    | false => rw [h] at hb; cases hb
  unfold rdB
  rw [h1, hw]; rfl
theorem splitB_sz (sep : ByteArray) : ∀ (k : Nat) (t : ByteArray), ∀ x ∈ Lib.splitB sep 0 k t, x.size ≤ t.size
  | 0, t, x, hx => by
    rw [Lib.splitB_zero] at hx
    rw [List.mem_singleton.1 hx]; exact Nat.le_refl _
  | k + 1, t, x, hx => by
    unfold Lib.splitB at hx
    split at hx
    · rw [List.mem_singleton.1 hx]; exact Nat.le_refl _
    · rcases List.mem_cons.1 hx with rfl | hx
      · rw [ByteArray.size_extract]; omega
      · have := splitB_sz sep k _ x hx
        rw [ByteArray.size_extract] at this
        omega
theorem wdL_sz (t : ByteArray) : ∀ x ∈ wdL t, x.size ≤ t.size := splitB_sz _ _ t
theorem cut_sz (t sep : ByteArray) (hs : 1 ≤ sep.size) : (cutS t sep).1.size ≤ t.size ∧ ((cutS t sep).2.2 = true → 1 ≤ t.size → (cutS t sep).2.1.size + 1 ≤ t.size) ∧ (cutS t sep).2.1.size ≤ t.size := by
  have h1 := dl_size t
  have h2 := dl_size sep
  unfold cutS Lib.cut
  by_cases h : 0 ≤ Lib.index t.data.toList sep.data.toList
  · rw [if_pos h]
    refine ⟨?_, fun _ h3 => ?_, ?_⟩
    · show (⟨(t.data.toList.take (Lib.index t.data.toList sep.data.toList).toNat).toArray⟩ : ByteArray).size ≤ _
      rw [sz_mk, List.length_take]; omega
    · show (⟨(t.data.toList.drop ((Lib.index t.data.toList sep.data.toList).toNat + sep.data.toList.length)).toArray⟩ : ByteArray).size + 1 ≤ _
      rw [sz_mk, List.length_drop]; omega
    · show (⟨(t.data.toList.drop ((Lib.index t.data.toList sep.data.toList).toNat + sep.data.toList.length)).toArray⟩ : ByteArray).size ≤ _
      rw [sz_mk, List.length_drop]; omega
  · rw [if_neg h]
    refine ⟨?_, (fun h => by cases h), ?_⟩
    · show (⟨t.data.toList.toArray⟩ : ByteArray).size ≤ _
      rw [sz_mk]; omega
    · show (⟨([] : List UInt8).toArray⟩ : ByteArray).size ≤ _
      rw [sz_mk]; exact Nat.zero_le _
def IfT (b : Bool) (P : Prop) : Prop := b = true → P
theorem Lasts2.ift {N : Nat} {row : Option Nat} {Tt : List TypeId} {b : Bool} {q : Prop} {X : World → Prop} (h : Lasts2 N row Tt X) : Lasts2 N row Tt (fun w => IfT b (X w ∧ q)) :=
  ⟨fun w w' hg hx hc => ⟨h.gr w w' hg (hx hc).1, (hx hc).2⟩, fun w w' r T cs h1 h2 h3 h4 hx hc => ⟨h.st w w' r T cs h1 h2 h3 h4 (hx hc).1, (hx hc).2⟩⟩
def nlS : ByteArray := ⟨#[10]⟩
/-- A text, line by line: the number of the line that is none, and whether all are; the bookings. -/
def lnsF : Nat → ByteArray → Int → List Bk → Int × Bool × List Bk
  | 0, _, _, acc => (0, true, acc)
  | f + 1, t, at_, acc => if (t.toList == (⟨#[]⟩ : ByteArray).toList) = true then (0, true, acc) else
    if ((cutS t nlS).2.2 && rdB (cutS t nlS).1) = true then lnsF f (cutS t nlS).2.1 (at_ + 1) (rdA (cutS t nlS).1 acc) else (at_, false, if (cutS t nlS).2.2 = true then rdA (cutS t nlS).1 acc else acc)
def lnsR (t : ByteArray) : Int × Bool × List Bk := lnsF (t.size + 1) t 0 []
theorem sc110' : scalarB Tryz.prog 110 = true := by kernel_rfl
theorem read1_any (t : ByteArray) (w0 w : World) (g n : Nat) (v : Value) (acc : List Bk) (hts : t.size ≤ 1000000) (hn : n ≤ 1000000) (hm : Mem ⟨0, w0, some g, [9, 3]⟩ (RowK 0 110 1 1 1 g ([v].flatMap svEnc)) [] [⟨v, 133, 6, n, (acc).flatMap bkEnc⟩] [TxtO w0.heap.size (some g)] w) :
  Calls Tryz.prog 158 #[.string t, .pointer (some ⟨g, 0, none⟩)] w (fun e w' => ∃ v' n', e = .returned (.bool (rdB t)) ∧ Mem ⟨0, w0, some g, [9, 3]⟩ (RowK 0 110 1 1 1 g ([v'].flatMap svEnc)) [] [⟨v', 133, 6, n', (rdA t acc).flatMap bkEnc⟩] [TxtO w0.heap.size (some g)] w') := by
 refine gw_enter ⟨50, w0, (some g), [9, 3]⟩ Tryz.func158 rfl Tryz.ntmps158 rfl hm.cx ?_
 refine sr_ ?_
 by_cases h6 : (wdL t).length = 6
 ·obtain ⟨a1, a2, a3, a4, a5, a6, hw⟩ := six_of h6
  have hwz := wdL_sz t
  rw [hw] at hwz
  have za1 : a1.size ≤ 1000000 := Nat.le_trans (hwz a1 (by simp)) hts
  have za2 : a2.size ≤ 1000000 := Nat.le_trans (hwz a2 (by simp)) hts
  have za3 : a3.size ≤ 1000000 := Nat.le_trans (hwz a3 (by simp)) hts
  have za4 : a4.size ≤ 1000000 := Nat.le_trans (hwz a4 (by simp)) hts
  have za5 : a5.size ≤ 1000000 := Nat.le_trans (hwz a5 (by simp)) hts
  have za6 : a6.size ≤ 1000000 := Nat.le_trans (hwz a6 (by simp)) hts
  refine sg_ rfl (nn_ (sr_ (mv_ rfl ?_)))
  refine wl_callx (γ := Nat × Nat) (val := (fun g => .tuple #[.slice (some ⟨g.1, 0, none⟩) g.2 g.2, .bool (wdB t)])) (φ := (fun g => g.2 = 6)) (Y := (fun g => fun wy => SlT sgEnc 1 9 wy (some ⟨g.1, 0, none⟩) g.2 ([a1, a2, a3, a4, a5, a6]))) rfl cb159 rfl rfl (fun wx hm => (words_any t wx (hm.fact 0 rfl).1 hts).mono fun _ _ ⟨gw, k, he, h1, h2, hg⟩ => ⟨(gw, k), he, by have h := h1.len; rw [h6] at h; exact h.symm, hg, by rw [hw] at h1; exact h1⟩) (fun _ => SlT.lasts2 rfl) ?_
  rintro ⟨gw, k⟩ hk
  dsimp only at hk ⊢
  subst hk
  refine mv_ rfl (wl_ov (ov_extract rfl rfl) rfl (wl_ov (ov_extract rfl rfl) rfl (sg_ rfl (sg_ rfl (nn_ (gw_seq (sr_ (mv_ rfl (wl_ov (ov_un_not rfl) rfl (mv_ rfl ?_))))))))))
  rcases Bool.eq_false_or_eq_true (!(wdB t)) with h1 | h1
  ·refine wl_set 14 rfl (congrArg Value.bool h1) ?_
   refine goff rfl rfl rfl (goff rfl rfl rfl (goff rfl rfl rfl (pt_ rfl rfl (nn_ (ct_ rfl (sr_ (sg_ rfl (nn_ ?_))))))))
   refine gw_ret ?_
   refine nx_then_ret ?_
   rw [rd_no (rd_wd h1)]
   refine nx_ret1 rfl rfl fun wx hm => ?_
   exact ⟨v, n, by rw [rd_wd h1], (hm.pick [] [0] [1] rfl rfl).cx⟩
  refine wl_set 14 rfl (congrArg Value.bool h1) ?_
  refine wl_guard_on rfl rfl rfl (mv_ rfl (wl_guard_on rfl rfl rfl (wl_ov (ov_len es79 rfl) rfl ?_)))
  refine wl_set 16 (v' := .int .i64 6) rfl rfl ?_
  refine wl_guard_on rfl rfl rfl (wl_ov (ov_neq rfl rfl) rfl ?_)
  refine wl_set 17 (v' := .bool false) rfl (congrArg Value.bool (by decide)) ?_
  refine pf_ rfl rfl (nn_ (cf_ rfl (gw_skip (nx_then (sr_ (mv_ rfl ?_))))))
  refine wl_ov (ov_sliceLo (lo := 2) es79 rfl rfl rfl (by omega)) rfl ?_
  have hsix := rd_six h1 hw
  obtain ⟨NB, hNB⟩ : ∃ z, z = [a3, a4, a5, a6].all numB := ⟨_, rfl⟩
  rw [← hNB] at hsix
  refine wl_callx (γ := Option Addr × Nat × Nat) (val := (fun g => .tuple #[.slice g.1 g.2.1 g.2.2, .bool NB])) (φ := (fun g => True)) (Y := (fun g => fun wy => IfT NB (SlT tiEnc 1 3 wy g.1 g.2.1 [numV a3, numV a4, numV a5, numV a6] ∧ g.2.1 = 6 - 2))) rfl cb160 rfl rfl (fun wx hm => (by have h := numbers_any [a3, a4, a5, a6] (if 6 = 2 then (some ⟨gw, 0, none⟩) else Option.map (fun a : Addr => a.add (2 * 1)) (some ⟨gw, 0, none⟩)) (6 - 2) (6 - 2) wx (hm.fact 1 rfl).1 (SlT.dropS (c := 6) (hm.fact 0 rfl) 2 (by omega) (by omega)) (by omega) (fun x hx => by simp only [List.mem_cons, List.not_mem_nil, or_false] at hx; rcases hx with rfl | rfl | rfl | rfl <;> assumption); rw [← hNB] at h; exact h.mono fun _ _ ⟨A2, k, c2, he, h1, hg⟩ => ⟨(A2, k, c2), he, trivial, hg, h1⟩)) (fun _ => (SlT.lasts2 rfl).ift) ?_
  rintro ⟨nA, nk, nc⟩ hphi
  dsimp only
  clear hphi
  refine mv_ rfl (wl_ov (ov_extract rfl rfl) rfl (wl_ov (ov_extract rfl rfl) rfl (sg_ rfl (sg_ rfl (nn_ (gw_seq (sr_ (mv_ rfl (nn_ ?_)))))))))
  refine gw_cond rfl (fun hh => ?_) (fun hh => ?_)
  ·have hn : NB = true := by simpa using hh
   clear hh
   subst hn
   refine gw_look (R := nk = 4) (fun wx hm => ((hm.fact 0 rfl) rfl).2) ?_
   rintro rfl
   refine gw_look (R := ∃ b o, nA = some ⟨b, o, none⟩) (fun wx hm => by obtain ⟨b, off, hA, _, _⟩ := SlT.get ((hm.fact 0 rfl) rfl).1 (by omega); exact ⟨b, off, hA⟩) ?_
   rintro ⟨bn, on, rfl⟩
   refine gw_look (R := ∃ A cc, v = .slice A n cc) (fun wx hm => own_slice (hm.ownI 0 rfl)) ?_
   rintro ⟨A, cc, rfl⟩
   refine gd (fun wz => (fun wy => IfT true (SlT tiEnc 1 3 wy (some ⟨bn, on, none⟩) 4 [numV a3, numV a4, numV a5, numV a6] ∧ 4 = 6 - 2)) wz ∧ (fun wy => SlT sgEnc 1 9 wy (some ⟨gw, 0, none⟩) 6 ([a1, a2, a3, a4, a5, a6])) wz ∧ (TxtO w0.heap.size (some g)) wz ∧ True) mixed (fun _ hm => ⟨hm.fa 0, hm.fa 1, hm.fa 2, trivial⟩) fun z => ?_
   refine wt 1 24 2 rfl z (ov_move rfl) ?_
   refine wt 2 24 6 rfl z (ov_index (j := 0) es79 rfl rfl (by decide)) ?_
   refine wt 3 24 14 rfl z (ov_elem1 (k := 0) (v := .string a1) sc9 rfl (fun _ hm => (hm.2.1)) (show ([a1, a2, a3, a4, a5, a6] : List ByteArray)[0]? = some a1 from rfl) rfl rfl) ?_
   refine wt 4 24 30 rfl z (ov_move rfl) ?_
   refine wt 5 24 62 rfl z (ov_index (j := 1) es79 rfl rfl (by decide)) ?_
   refine wt 6 24 126 rfl z (ov_elem1 (k := 0) (v := .string a2) sc9 rfl (fun _ hm => (hm.2.1)) (show ([a1, a2, a3, a4, a5, a6] : List ByteArray)[1]? = some a2 from rfl) rfl rfl) ?_
   refine wt 7 24 254 rfl z (ov_move rfl) ?_
   refine wt 8 24 510 rfl z (ov_index (j := 0) es22 rfl rfl (by omega)) ?_
   refine wt 9 24 1022 rfl z (ov_elem1 (k := 0) (v := .int .i64 (numV a3)) sc3 rfl (fun _ hm => ((hm.1) rfl).1) (show ([numV a3, numV a4, numV a5, numV a6] : List Int)[0]? = some (numV a3) from rfl) rfl rfl) ?_
   refine wt 10 24 2046 rfl z (ov_move rfl) ?_
   refine wt 11 24 4094 rfl z (ov_index (j := 1) es22 rfl rfl (by omega)) ?_
   refine wt 12 24 8190 rfl z (ov_elem1 (k := 0) (v := .int .i64 (numV a4)) sc3 rfl (fun _ hm => ((hm.1) rfl).1) (show ([numV a3, numV a4, numV a5, numV a6] : List Int)[1]? = some (numV a4) from rfl) rfl rfl) ?_
   refine wt 13 24 16382 rfl z (ov_build (cs := [.int .i64 (numV a3), .int .i64 (numV a4)]) rfl (by kernel_rfl)) ?_
   refine wt 14 24 32766 rfl z (ov_move rfl) ?_
   refine wt 15 24 65534 rfl z (ov_index (j := 2) es22 rfl rfl (by omega)) ?_
   refine wt 16 24 131070 rfl z (ov_elem1 (k := 0) (v := .int .i64 (numV a5)) sc3 rfl (fun _ hm => ((hm.1) rfl).1) (show ([numV a3, numV a4, numV a5, numV a6] : List Int)[2]? = some (numV a5) from rfl) rfl rfl) ?_
   refine wt 17 24 262142 rfl z (ov_move rfl) ?_
   refine wt 18 24 524286 rfl z (ov_index (j := 3) es22 rfl rfl (by omega)) ?_
   refine wt 19 24 1048574 rfl z (ov_elem1 (k := 0) (v := .int .i64 (numV a6)) sc3 rfl (fun _ hm => ((hm.1) rfl).1) (show ([numV a3, numV a4, numV a5, numV a6] : List Int)[3]? = some (numV a6) from rfl) rfl rfl) ?_
   refine wt 20 24 2097150 rfl z (ov_build (cs := [.string a1, .string a2, .int .i64 (numV a3), .int .i64 (numV a4), .int .i64 (numV a5), .int .i64 (numV a6)]) rfl (by kernel_rfl)) ?_
   refine wa_all [0, 21] (by kernel_rfl) rfl ⟨⟨_, rfl, ?_⟩, ⟨_, rfl, ?_⟩, trivial⟩
   ·refine wl_ov (ov_load (v := .slice A n cc) sc110 rfl (fun _ hm => (rowBlk1 hm.k)) rfl) rfl ?_
    refine wl_nil ?_
    refine nw 24 2097151 (fun _ hm => ⟨hm.fa 0, hm.fa 1, hm.fa 2, trivial⟩) fun z => ?_
    refine wa1 21 rfl ?_
    refine wl_buildSlice (e := 133) (cs := [.string a1, .string a2, .int .i64 (numV a3), .int .i64 (numV a4), .int .i64 (numV a5), .int .i64 (numV a6)]) rfl (by kernel_rfl) rfl fun g1 => ?_
    refine wl_nil ?_
    refine nw 24 4194303 (fun _ hm => ⟨hm.fa 0, hm.fa 1, hm.fa 2, trivial⟩) fun z => ?_
    refine wa1 22 rfl ?_
    refine wl_append (news := [.string a1, .string a2, .int .i64 (numV a3), .int .i64 (numV a4), .int .i64 (numV a5), .int .i64 (numV a6)]) 0 0 ap110 rfl rfl rfl rfl rfl rfl rfl (by omega) (by unfold maxLen; omega) rfl rfl fun v2 hv => ?_
    refine wl_look (R := ∃ A cc, v2 = .slice A (n + 1) cc) (fun wx hm => own_slice (hm.ownI 0 rfl)) ?_
    rintro ⟨A5, c5, rfl⟩
    refine wl_nil ?_
    refine nw 24 8388607 (fun _ hm => ⟨hm.fa 0, hm.fa 1, hm.fa 2, trivial⟩) fun z => ?_
    refine wa1 23 rfl ?_
    refine wl_storeRow (l := [Value.slice A n cc]) (j := 0) (r := 0) (el := Value.slice A n cc) (el' := Value.slice A5 (n + 1) c5) rfl sc110' rfl rfl rfl sv_len rfl rfl rfl (by decide) rfl rfl ?_
    refine wl_nil ?_
    refine nw 24 16777215 (fun _ hm => ⟨hm.fa 0, hm.fa 1, hm.fa 2, trivial⟩) fun z => ?_
    refine wa_done (by kernel_rfl) ?_
    refine nx_then (sr_ (mv_ rfl (sg_ rfl (nn_ ?_))))
    refine gw_ret ?_
    rw [rd_yes hsix hw]
    rw [show acc.flatMap bkEnc ++ ([.string a1, .string a2, .int .i64 (numV a3), .int .i64 (numV a4), .int .i64 (numV a5), .int .i64 (numV a6)] : List Value) = (acc ++ [(⟨a1, a2, numV a3, numV a4, numV a5, numV a6⟩ : Bk)]).flatMap bkEnc from by simp [bkEnc]]
    refine nx_ret1 rfl rfl fun wx hm => ?_
    exact ⟨.slice A5 (n + 1) c5, n + 1, by rw [hsix], (hm.pick [] [0] [2] rfl rfl).cx⟩
   refine wl_buildSlice (e := 133) (cs := [.string a1, .string a2, .int .i64 (numV a3), .int .i64 (numV a4), .int .i64 (numV a5), .int .i64 (numV a6)]) rfl (by kernel_rfl) rfl fun g2 => ?_
   refine wl_nil ?_
   refine nw 24 4194302 (fun _ hm => ⟨hm.fa 0, hm.fa 1, hm.fa 2, trivial⟩) fun z => ?_
   refine wa1 0 rfl ?_
   refine wl_ov (ov_load (v := .slice A n cc) sc110 rfl (fun _ hm => (rowBlk1 hm.k)) rfl) rfl ?_
   refine wl_nil ?_
   refine nw 24 4194303 (fun _ hm => ⟨hm.fa 0, hm.fa 1, hm.fa 2, trivial⟩) fun z => ?_
   refine wa1 22 rfl ?_
   refine wl_append (news := [.string a1, .string a2, .int .i64 (numV a3), .int .i64 (numV a4), .int .i64 (numV a5), .int .i64 (numV a6)]) 0 0 ap110 rfl rfl rfl rfl rfl rfl rfl (by omega) (by unfold maxLen; omega) rfl rfl fun v2 hv => ?_
   refine wl_look (R := ∃ A cc, v2 = .slice A (n + 1) cc) (fun wx hm => own_slice (hm.ownI 0 rfl)) ?_
   rintro ⟨A5, c5, rfl⟩
   refine wl_nil ?_
   refine nw 24 8388607 (fun _ hm => ⟨hm.fa 0, hm.fa 1, hm.fa 2, trivial⟩) fun z => ?_
   refine wa1 23 rfl ?_
   refine wl_storeRow (l := [Value.slice A n cc]) (j := 0) (r := 0) (el := Value.slice A n cc) (el' := Value.slice A5 (n + 1) c5) rfl sc110' rfl rfl rfl sv_len rfl rfl rfl (by decide) rfl rfl ?_
   refine wl_nil ?_
   refine nw 24 16777215 (fun _ hm => ⟨hm.fa 0, hm.fa 1, hm.fa 2, trivial⟩) fun z => ?_
   refine wa_done (by kernel_rfl) ?_
   refine nx_then (sr_ (mv_ rfl (sg_ rfl (nn_ ?_))))
   refine gw_ret ?_
   rw [rd_yes hsix hw]
   rw [show acc.flatMap bkEnc ++ ([.string a1, .string a2, .int .i64 (numV a3), .int .i64 (numV a4), .int .i64 (numV a5), .int .i64 (numV a6)] : List Value) = (acc ++ [(⟨a1, a2, numV a3, numV a4, numV a5, numV a6⟩ : Bk)]).flatMap bkEnc from by simp [bkEnc]]
   refine nx_ret1 rfl rfl fun wx hm => ?_
   exact ⟨.slice A5 (n + 1) c5, n + 1, by rw [hsix], (hm.pick [] [0] [2] rfl rfl).cx⟩
  have hn : NB = false := by simpa using hh
  clear hh
  refine gw_skip (nx_then (sr_ ?_))
  rw [hn] at hsix
  refine mv_ rfl (sg_ rfl (nn_ ?_))
  refine gw_ret ?_
  rw [rd_no hsix]
  refine nx_ret1 rfl rfl fun wx hm => ?_
  exact ⟨v, n, by rw [hsix, hn], (hm.pick [] [0] [2] rfl rfl).cx⟩
 refine sg_ rfl (nn_ (sr_ (mv_ rfl ?_)))
 refine wl_callx (γ := Nat × Nat) (val := (fun g => .tuple #[.slice (some ⟨g.1, 0, none⟩) g.2 g.2, .bool (wdB t)])) (φ := (fun g => g.2 = (wdL t).length ∧ 1 ≤ g.2 ∧ g.2 ≤ t.size + 1)) (Y := (fun g => fun wy => SlT sgEnc 1 9 wy (some ⟨g.1, 0, none⟩) g.2 (wdL t))) rfl cb159 rfl rfl (fun wx hm => (words_any t wx (hm.fact 0 rfl).1 hts).mono fun _ _ ⟨gw, k, he, h1, h2, hg⟩ => ⟨(gw, k), he, ⟨h1.len.symm, h2⟩, hg, h1⟩) (fun _ => SlT.lasts2 rfl) ?_
 rintro ⟨gw, k⟩ hk
 dsimp only at hk ⊢
 refine mv_ rfl (wl_ov (ov_extract rfl rfl) rfl (wl_ov (ov_extract rfl rfl) rfl (sg_ rfl (sg_ rfl (nn_ (gw_seq (sr_ (mv_ rfl (wl_ov (ov_un_not rfl) rfl (mv_ rfl ?_))))))))))
 rcases Bool.eq_false_or_eq_true (!(wdB t)) with h1 | h1
 ·refine wl_set 14 rfl (congrArg Value.bool h1) ?_
  refine goff rfl rfl rfl (goff rfl rfl rfl (goff rfl rfl rfl (pt_ rfl rfl (nn_ (ct_ rfl (sr_ (sg_ rfl (nn_ ?_))))))))
  refine gw_ret ?_
  refine nx_then_ret ?_
  rw [rd_no (rd_wd h1)]
  refine nx_ret1 rfl rfl fun wx hm => ?_
  exact ⟨v, n, by rw [rd_wd h1], (hm.pick [] [0] [1] rfl rfl).cx⟩
 refine wl_set 14 rfl (congrArg Value.bool h1) ?_
 have hk2 : ¬ ((k : Nat) : Int) = 6 := by omega
 refine wl_guard_on rfl rfl rfl (mv_ rfl (wl_guard_on rfl rfl rfl (wl_ov (ov_len es79 rfl) rfl (wl_guard_on rfl rfl rfl (wl_ov (ov_neq rfl rfl) rfl (pf_ rfl rfl (nn_ ?_)))))))
 refine gw_cond rfl (fun hh => ?_) (fun hh => ?_)
 ·have hc : ¬ (((k : Nat) : Int) = 6) := by simpa using hh
  clear hh
  refine sr_ (sg_ rfl (nn_ ?_))
  refine gw_ret ?_
  refine nx_then_ret ?_
  rw [rd_no (rd_len h6)]
  refine nx_ret1 rfl rfl fun wx hm => ?_
  exact ⟨v, n, by rw [rd_len h6], (hm.pick [] [0] [1] rfl rfl).cx⟩
 have hc : ((k : Nat) : Int) = 6 := by simpa using hh
 clear hh
 refine gw_skip (nx_then (sr_ ?_))
 exact absurd (by simpa using hc) hk2
theorem rread1_any (t : ByteArray) (w0 w : World) (g n : Nat) (v : Value) (acc : List Bk) (hts : t.size ≤ 1000000) (hn : n ≤ 1000000) (hm : Mem ⟨0, w0, some g, [9, 3]⟩ (RowK 0 110 1 1 1 g ([v].flatMap svEnc)) [] [⟨v, 133, 6, n, (acc).flatMap bkEnc⟩] [TxtO w0.heap.size (some g)] w) :
  Calls Tryz.prog 162 #[.string t, .pointer (some ⟨g, 0, none⟩)] w (fun e w' => ∃ v' n', e = .returned (.bool (rdB t)) ∧ Mem ⟨0, w0, some g, [9, 3]⟩ (RowK 0 110 1 1 1 g ([v'].flatMap svEnc)) [] [⟨v', 133, 6, n', (rdA t acc).flatMap bkEnc⟩] [TxtO w0.heap.size (some g)] w') := by
 refine gw_enter ⟨51, w0, (some g), [9, 3]⟩ Tryz.func162 rfl Tryz.ntmps162 rfl hm.cx ?_
 refine sr_ ?_
 by_cases h6 : (wdL t).length = 6
 ·obtain ⟨a1, a2, a3, a4, a5, a6, hw⟩ := six_of h6
  have hwz := wdL_sz t
  rw [hw] at hwz
  have za1 : a1.size ≤ 1000000 := Nat.le_trans (hwz a1 (by simp)) hts
  have za2 : a2.size ≤ 1000000 := Nat.le_trans (hwz a2 (by simp)) hts
  have za3 : a3.size ≤ 1000000 := Nat.le_trans (hwz a3 (by simp)) hts
  have za4 : a4.size ≤ 1000000 := Nat.le_trans (hwz a4 (by simp)) hts
  have za5 : a5.size ≤ 1000000 := Nat.le_trans (hwz a5 (by simp)) hts
  have za6 : a6.size ≤ 1000000 := Nat.le_trans (hwz a6 (by simp)) hts
  refine sg_ rfl (nn_ (sr_ (mv_ rfl ?_)))
  refine wl_callx (γ := Nat × Nat) (val := (fun g => .tuple #[.slice (some ⟨g.1, 0, none⟩) g.2 g.2, .bool (wdB t)])) (φ := (fun g => g.2 = 6)) (Y := (fun g => fun wy => SlT sgEnc 1 9 wy (some ⟨g.1, 0, none⟩) g.2 ([a1, a2, a3, a4, a5, a6]))) rfl cb163 rfl rfl (fun wx hm => (rwords_any t wx (hm.fact 0 rfl).1 hts).mono fun _ _ ⟨gw, k, he, h1, h2, hg⟩ => ⟨(gw, k), he, by have h := h1.len; rw [h6] at h; exact h.symm, hg, by rw [hw] at h1; exact h1⟩) (fun _ => SlT.lasts2 rfl) ?_
  rintro ⟨gw, k⟩ hk
  dsimp only at hk ⊢
  subst hk
  refine mv_ rfl (wl_ov (ov_extract rfl rfl) rfl (wl_ov (ov_extract rfl rfl) rfl (sg_ rfl (sg_ rfl (nn_ (gw_seq (sr_ (mv_ rfl (wl_ov (ov_un_not rfl) rfl (mv_ rfl ?_))))))))))
  rcases Bool.eq_false_or_eq_true (!(wdB t)) with h1 | h1
  ·refine wl_set 15 rfl (congrArg Value.bool h1) ?_
   refine goff rfl rfl rfl (goff rfl rfl rfl (goff rfl rfl rfl (pt_ rfl rfl (nn_ (ct_ rfl (sr_ (sg_ rfl (nn_ ?_))))))))
   refine gw_ret ?_
   refine nx_then_ret ?_
   rw [rd_no (rd_wd h1)]
   refine nx_ret1 rfl rfl fun wx hm => ?_
   exact ⟨v, n, by rw [rd_wd h1], (hm.pick [] [0] [1] rfl rfl).cx⟩
  refine wl_set 15 rfl (congrArg Value.bool h1) ?_
  refine wl_guard_on rfl rfl rfl (mv_ rfl (wl_guard_on rfl rfl rfl (wl_ov (ov_len es79 rfl) rfl ?_)))
  refine wl_set 17 (v' := .int .i64 6) rfl rfl ?_
  refine wl_guard_on rfl rfl rfl (wl_ov (ov_neq rfl rfl) rfl ?_)
  refine wl_set 18 (v' := .bool false) rfl (congrArg Value.bool (by decide)) ?_
  refine pf_ rfl rfl (nn_ (cf_ rfl (gw_skip (nx_then (sr_ (mv_ rfl ?_))))))
  refine wl_ov (ov_sliceLo (lo := 2) es79 rfl rfl rfl (by omega)) rfl ?_
  have hsix := rd_six h1 hw
  obtain ⟨NB, hNB⟩ : ∃ z, z = [a3, a4, a5, a6].all numB := ⟨_, rfl⟩
  rw [← hNB] at hsix
  refine wl_callx (γ := Option Addr × Nat × Nat) (val := (fun g => .tuple #[.slice g.1 g.2.1 g.2.2, .bool NB])) (φ := (fun g => True)) (Y := (fun g => fun wy => IfT NB (SlT tiEnc 1 3 wy g.1 g.2.1 [numV a3, numV a4, numV a5, numV a6] ∧ g.2.1 = 6 - 2))) rfl cb164 rfl rfl (fun wx hm => (by have h := rnumbers_any [a3, a4, a5, a6] (if 6 = 2 then (some ⟨gw, 0, none⟩) else Option.map (fun a : Addr => a.add (2 * 1)) (some ⟨gw, 0, none⟩)) (6 - 2) (6 - 2) wx (hm.fact 1 rfl).1 (SlT.dropS (c := 6) (hm.fact 0 rfl) 2 (by omega) (by omega)) (by omega) (fun x hx => by simp only [List.mem_cons, List.not_mem_nil, or_false] at hx; rcases hx with rfl | rfl | rfl | rfl <;> assumption); rw [← hNB] at h; exact h.mono fun _ _ ⟨A2, k, c2, he, h1, hg⟩ => ⟨(A2, k, c2), he, trivial, hg, h1⟩)) (fun _ => (SlT.lasts2 rfl).ift) ?_
  rintro ⟨nA, nk, nc⟩ hphi
  dsimp only
  clear hphi
  refine mv_ rfl (wl_ov (ov_extract rfl rfl) rfl (wl_ov (ov_extract rfl rfl) rfl (sg_ rfl (sg_ rfl (nn_ (gw_seq (sr_ (mv_ rfl (nn_ ?_)))))))))
  refine gw_cond rfl (fun hh => ?_) (fun hh => ?_)
  ·have hn : NB = true := by simpa using hh
   clear hh
   subst hn
   refine gw_look (R := nk = 4) (fun wx hm => ((hm.fact 0 rfl) rfl).2) ?_
   rintro rfl
   refine gw_look (R := ∃ b o, nA = some ⟨b, o, none⟩) (fun wx hm => by obtain ⟨b, off, hA, _, _⟩ := SlT.get ((hm.fact 0 rfl) rfl).1 (by omega); exact ⟨b, off, hA⟩) ?_
   rintro ⟨bn, on, rfl⟩
   refine gw_look (R := ∃ A cc, v = .slice A n cc) (fun wx hm => own_slice (hm.ownI 0 rfl)) ?_
   rintro ⟨A, cc, rfl⟩
   refine gd (fun wz => (fun wy => IfT true (SlT tiEnc 1 3 wy (some ⟨bn, on, none⟩) 4 [numV a3, numV a4, numV a5, numV a6] ∧ 4 = 6 - 2)) wz ∧ (fun wy => SlT sgEnc 1 9 wy (some ⟨gw, 0, none⟩) 6 ([a1, a2, a3, a4, a5, a6])) wz ∧ (TxtO w0.heap.size (some g)) wz ∧ True) mixed (fun _ hm => ⟨hm.fa 0, hm.fa 1, hm.fa 2, trivial⟩) fun z => ?_
   refine wt 1 24 2 rfl z (ov_move rfl) ?_
   refine wt 2 24 6 rfl z (ov_index (j := 0) es79 rfl rfl (by decide)) ?_
   refine wt 3 24 14 rfl z (ov_elem1 (k := 0) (v := .string a1) sc9 rfl (fun _ hm => (hm.2.1)) (show ([a1, a2, a3, a4, a5, a6] : List ByteArray)[0]? = some a1 from rfl) rfl rfl) ?_
   refine wt 4 24 30 rfl z (ov_move rfl) ?_
   refine wt 5 24 62 rfl z (ov_index (j := 1) es79 rfl rfl (by decide)) ?_
   refine wt 6 24 126 rfl z (ov_elem1 (k := 0) (v := .string a2) sc9 rfl (fun _ hm => (hm.2.1)) (show ([a1, a2, a3, a4, a5, a6] : List ByteArray)[1]? = some a2 from rfl) rfl rfl) ?_
   refine wt 7 24 254 rfl z (ov_move rfl) ?_
   refine wt 8 24 510 rfl z (ov_index (j := 0) es22 rfl rfl (by omega)) ?_
   refine wt 9 24 1022 rfl z (ov_elem1 (k := 0) (v := .int .i64 (numV a3)) sc3 rfl (fun _ hm => ((hm.1) rfl).1) (show ([numV a3, numV a4, numV a5, numV a6] : List Int)[0]? = some (numV a3) from rfl) rfl rfl) ?_
   refine wt 10 24 2046 rfl z (ov_move rfl) ?_
   refine wt 11 24 4094 rfl z (ov_index (j := 1) es22 rfl rfl (by omega)) ?_
   refine wt 12 24 8190 rfl z (ov_elem1 (k := 0) (v := .int .i64 (numV a4)) sc3 rfl (fun _ hm => ((hm.1) rfl).1) (show ([numV a3, numV a4, numV a5, numV a6] : List Int)[1]? = some (numV a4) from rfl) rfl rfl) ?_
   refine wt 13 24 16382 rfl z (ov_build (cs := [.int .i64 (numV a3), .int .i64 (numV a4)]) rfl (by kernel_rfl)) ?_
   refine wt 14 24 32766 rfl z (ov_move rfl) ?_
   refine wt 15 24 65534 rfl z (ov_index (j := 2) es22 rfl rfl (by omega)) ?_
   refine wt 16 24 131070 rfl z (ov_elem1 (k := 0) (v := .int .i64 (numV a5)) sc3 rfl (fun _ hm => ((hm.1) rfl).1) (show ([numV a3, numV a4, numV a5, numV a6] : List Int)[2]? = some (numV a5) from rfl) rfl rfl) ?_
   refine wt 17 24 262142 rfl z (ov_move rfl) ?_
   refine wt 18 24 524286 rfl z (ov_index (j := 3) es22 rfl rfl (by omega)) ?_
   refine wt 19 24 1048574 rfl z (ov_elem1 (k := 0) (v := .int .i64 (numV a6)) sc3 rfl (fun _ hm => ((hm.1) rfl).1) (show ([numV a3, numV a4, numV a5, numV a6] : List Int)[3]? = some (numV a6) from rfl) rfl rfl) ?_
   refine wt 20 24 2097150 rfl z (ov_build (cs := [.string a1, .string a2, .int .i64 (numV a3), .int .i64 (numV a4), .int .i64 (numV a5), .int .i64 (numV a6)]) rfl (by kernel_rfl)) ?_
   refine wa_all [0, 21] (by kernel_rfl) rfl ⟨⟨_, rfl, ?_⟩, ⟨_, rfl, ?_⟩, trivial⟩
   ·refine wl_ov (ov_load (v := .slice A n cc) sc110 rfl (fun _ hm => (rowBlk1 hm.k)) rfl) rfl ?_
    refine wl_nil ?_
    refine nw 24 2097151 (fun _ hm => ⟨hm.fa 0, hm.fa 1, hm.fa 2, trivial⟩) fun z => ?_
    refine wa1 21 rfl ?_
    refine wl_buildSlice (e := 133) (cs := [.string a1, .string a2, .int .i64 (numV a3), .int .i64 (numV a4), .int .i64 (numV a5), .int .i64 (numV a6)]) rfl (by kernel_rfl) rfl fun g1 => ?_
    refine wl_nil ?_
    refine nw 24 4194303 (fun _ hm => ⟨hm.fa 0, hm.fa 1, hm.fa 2, trivial⟩) fun z => ?_
    refine wa1 22 rfl ?_
    refine wl_append (news := [.string a1, .string a2, .int .i64 (numV a3), .int .i64 (numV a4), .int .i64 (numV a5), .int .i64 (numV a6)]) 0 0 ap110 rfl rfl rfl rfl rfl rfl rfl (by omega) (by unfold maxLen; omega) rfl rfl fun v2 hv => ?_
    refine wl_look (R := ∃ A cc, v2 = .slice A (n + 1) cc) (fun wx hm => own_slice (hm.ownI 0 rfl)) ?_
    rintro ⟨A5, c5, rfl⟩
    refine wl_nil ?_
    refine nw 24 8388607 (fun _ hm => ⟨hm.fa 0, hm.fa 1, hm.fa 2, trivial⟩) fun z => ?_
    refine wa1 23 rfl ?_
    refine wl_storeRow (l := [Value.slice A n cc]) (j := 0) (r := 0) (el := Value.slice A n cc) (el' := Value.slice A5 (n + 1) c5) rfl sc110' rfl rfl rfl sv_len rfl rfl rfl (by decide) rfl rfl ?_
    refine wl_nil ?_
    refine nw 24 16777215 (fun _ hm => ⟨hm.fa 0, hm.fa 1, hm.fa 2, trivial⟩) fun z => ?_
    refine wa_done (by kernel_rfl) ?_
    refine nx_then (sr_ (mv_ rfl (sg_ rfl (nn_ ?_))))
    refine gw_ret ?_
    rw [rd_yes hsix hw]
    rw [show acc.flatMap bkEnc ++ ([.string a1, .string a2, .int .i64 (numV a3), .int .i64 (numV a4), .int .i64 (numV a5), .int .i64 (numV a6)] : List Value) = (acc ++ [(⟨a1, a2, numV a3, numV a4, numV a5, numV a6⟩ : Bk)]).flatMap bkEnc from by simp [bkEnc]]
    refine nx_ret1 rfl rfl fun wx hm => ?_
    exact ⟨.slice A5 (n + 1) c5, n + 1, by rw [hsix], (hm.pick [] [0] [2] rfl rfl).cx⟩
   refine wl_buildSlice (e := 133) (cs := [.string a1, .string a2, .int .i64 (numV a3), .int .i64 (numV a4), .int .i64 (numV a5), .int .i64 (numV a6)]) rfl (by kernel_rfl) rfl fun g2 => ?_
   refine wl_nil ?_
   refine nw 24 4194302 (fun _ hm => ⟨hm.fa 0, hm.fa 1, hm.fa 2, trivial⟩) fun z => ?_
   refine wa1 0 rfl ?_
   refine wl_ov (ov_load (v := .slice A n cc) sc110 rfl (fun _ hm => (rowBlk1 hm.k)) rfl) rfl ?_
   refine wl_nil ?_
   refine nw 24 4194303 (fun _ hm => ⟨hm.fa 0, hm.fa 1, hm.fa 2, trivial⟩) fun z => ?_
   refine wa1 22 rfl ?_
   refine wl_append (news := [.string a1, .string a2, .int .i64 (numV a3), .int .i64 (numV a4), .int .i64 (numV a5), .int .i64 (numV a6)]) 0 0 ap110 rfl rfl rfl rfl rfl rfl rfl (by omega) (by unfold maxLen; omega) rfl rfl fun v2 hv => ?_
   refine wl_look (R := ∃ A cc, v2 = .slice A (n + 1) cc) (fun wx hm => own_slice (hm.ownI 0 rfl)) ?_
   rintro ⟨A5, c5, rfl⟩
   refine wl_nil ?_
   refine nw 24 8388607 (fun _ hm => ⟨hm.fa 0, hm.fa 1, hm.fa 2, trivial⟩) fun z => ?_
   refine wa1 23 rfl ?_
   refine wl_storeRow (l := [Value.slice A n cc]) (j := 0) (r := 0) (el := Value.slice A n cc) (el' := Value.slice A5 (n + 1) c5) rfl sc110' rfl rfl rfl sv_len rfl rfl rfl (by decide) rfl rfl ?_
   refine wl_nil ?_
   refine nw 24 16777215 (fun _ hm => ⟨hm.fa 0, hm.fa 1, hm.fa 2, trivial⟩) fun z => ?_
   refine wa_done (by kernel_rfl) ?_
   refine nx_then (sr_ (mv_ rfl (sg_ rfl (nn_ ?_))))
   refine gw_ret ?_
   rw [rd_yes hsix hw]
   rw [show acc.flatMap bkEnc ++ ([.string a1, .string a2, .int .i64 (numV a3), .int .i64 (numV a4), .int .i64 (numV a5), .int .i64 (numV a6)] : List Value) = (acc ++ [(⟨a1, a2, numV a3, numV a4, numV a5, numV a6⟩ : Bk)]).flatMap bkEnc from by simp [bkEnc]]
   refine nx_ret1 rfl rfl fun wx hm => ?_
   exact ⟨.slice A5 (n + 1) c5, n + 1, by rw [hsix], (hm.pick [] [0] [2] rfl rfl).cx⟩
  have hn : NB = false := by simpa using hh
  clear hh
  refine gw_skip (nx_then (sr_ ?_))
  rw [hn] at hsix
  refine mv_ rfl (sg_ rfl (nn_ ?_))
  refine gw_ret ?_
  rw [rd_no hsix]
  refine nx_ret1 rfl rfl fun wx hm => ?_
  exact ⟨v, n, by rw [hsix, hn], (hm.pick [] [0] [2] rfl rfl).cx⟩
 refine sg_ rfl (nn_ (sr_ (mv_ rfl ?_)))
 refine wl_callx (γ := Nat × Nat) (val := (fun g => .tuple #[.slice (some ⟨g.1, 0, none⟩) g.2 g.2, .bool (wdB t)])) (φ := (fun g => g.2 = (wdL t).length ∧ 1 ≤ g.2 ∧ g.2 ≤ t.size + 1)) (Y := (fun g => fun wy => SlT sgEnc 1 9 wy (some ⟨g.1, 0, none⟩) g.2 (wdL t))) rfl cb163 rfl rfl (fun wx hm => (rwords_any t wx (hm.fact 0 rfl).1 hts).mono fun _ _ ⟨gw, k, he, h1, h2, hg⟩ => ⟨(gw, k), he, ⟨h1.len.symm, h2⟩, hg, h1⟩) (fun _ => SlT.lasts2 rfl) ?_
 rintro ⟨gw, k⟩ hk
 dsimp only at hk ⊢
 refine mv_ rfl (wl_ov (ov_extract rfl rfl) rfl (wl_ov (ov_extract rfl rfl) rfl (sg_ rfl (sg_ rfl (nn_ (gw_seq (sr_ (mv_ rfl (wl_ov (ov_un_not rfl) rfl (mv_ rfl ?_))))))))))
 rcases Bool.eq_false_or_eq_true (!(wdB t)) with h1 | h1
 ·refine wl_set 15 rfl (congrArg Value.bool h1) ?_
  refine goff rfl rfl rfl (goff rfl rfl rfl (goff rfl rfl rfl (pt_ rfl rfl (nn_ (ct_ rfl (sr_ (sg_ rfl (nn_ ?_))))))))
  refine gw_ret ?_
  refine nx_then_ret ?_
  rw [rd_no (rd_wd h1)]
  refine nx_ret1 rfl rfl fun wx hm => ?_
  exact ⟨v, n, by rw [rd_wd h1], (hm.pick [] [0] [1] rfl rfl).cx⟩
 refine wl_set 15 rfl (congrArg Value.bool h1) ?_
 have hk2 : ¬ ((k : Nat) : Int) = 6 := by omega
 refine wl_guard_on rfl rfl rfl (mv_ rfl (wl_guard_on rfl rfl rfl (wl_ov (ov_len es79 rfl) rfl (wl_guard_on rfl rfl rfl (wl_ov (ov_neq rfl rfl) rfl (pf_ rfl rfl (nn_ ?_)))))))
 refine gw_cond rfl (fun hh => ?_) (fun hh => ?_)
 ·have hc : ¬ (((k : Nat) : Int) = 6) := by simpa using hh
  clear hh
  refine sr_ (sg_ rfl (nn_ ?_))
  refine gw_ret ?_
  refine nx_then_ret ?_
  rw [rd_no (rd_len h6)]
  refine nx_ret1 rfl rfl fun wx hm => ?_
  exact ⟨v, n, by rw [rd_len h6], (hm.pick [] [0] [1] rfl rfl).cx⟩
 have hc : ((k : Nat) : Int) = 6 := by simpa using hh
 clear hh
 refine gw_skip (nx_then (sr_ ?_))
 exact absurd (by simpa using hc) hk2
end Go.Proofs.YtdoooppeiphefaaGreatDoor
namespace Go.Proofs.YtdoooppeiphefaaGreatDoor
open Go.RowKit
section
variable {P : Program} {c : Cx} {ops : Array Oper} {Q : Exit → Act → World → Prop} {rest : List Oper} {S : List (Nat × Value)} {K : World → Prop} {L : List (Nat × TypeId × List Value)} {O : List Own} {X : List (World → Prop)} {d : Nat} {ty : TypeId} {pos : String} {aft : Array Edge}
theorem memR {n0 : Nat} {Tt : List TypeId} {w : World} {base : Nat} {e : TypeId} {sz n cap g : Nat} {xs : List Value} (hS : w.ownsRow base e sz (.slice (some ⟨g, 0, none⟩) n cap) n xs) (hX : ∀ A ∈ X, A w) (hl : ∀ A ∈ X, Lasts2 w.heap.size (some g) Tt A) : Mem ⟨n0, w, some g, Tt⟩ (RowK base e sz n cap g xs) [] [] X w :=
  have hS2 : RowK base e sz n cap g xs w := hS
  ⟨World.grownBy.refl _ _, hS2, (fun _ hx => by cases hx), List.Pairwise.nil, (fun _ hx => by cases hx), (fun _ hx => by cases hx), List.Pairwise.nil, hX, RowK.keeps hS2.lt.2, hl, (fun _ hr => by cases hr; exact hS2.lt.2)⟩
/-- The row has turned. -/
theorem Mem.turned {base g n cap sz : Nat} {e : TypeId} {xs xs' : List Value} {w w' : World} (h : Mem c (RowK base e sz n cap g xs) L O X w) (hrow : c.row = some g) (hT : c.Tt.contains e = false) (hown : w'.ownsRow base e sz (.slice (some ⟨g, 0, none⟩) n cap) n xs') (hg : w.grownBy w' (some g)) : Mem c (RowK base e sz n cap g xs') L O X w' := by
  have hlt0 := h.rs g hrow
  have hk : w.ownsRow base e sz (.slice (some ⟨g, 0, none⟩) n cap) n xs := h.k
  obtain ⟨cells, hcells⟩ : ∃ cells, w.heap[g]? = some (.cells cells e (0, 0)) := by
    rcases hk.2 with ⟨h1, _⟩ | ⟨g', cap', cur, h1, _, h2, _⟩
    · cases h1
    · injection h1 with h1 _ _
      injection h1 with h1
      injection h1 with h1 _ _
      subst h1
      exact ⟨_, h2⟩
  refine ⟨grow_trans h.g (hrow ▸ hg), hown, fun x hx => ⟨(h.b x hx).1, (h.b x hx).2.grown hg (fun e => ?_)⟩, h.nd, fun r hr => (h.o r hr).kept hg ?_, h.od, h.oo, fun A hA => ?_, RowK.keeps hlt0, h.l, h.rs⟩
  · have := (h.b x hx).1; injection e with e; omega
  · cases hv : r.v.ownBlock with
    | none => exact .inl rfl
    | some g' => exact .inr (fun e => by have := ((h.o r hr).lt g' hv).1; injection e with e; omega)
  · exact (h.l A hA).st w _ g e cells hcells (fun e => by simp [e] at hT) (.inr hrow) hg (h.x A hA)
end
end Go.Proofs.YtdoooppeiphefaaGreatDoor
namespace Go.Proofs.YtdoooppeiphefaaGreatDoor
open Go.RowKit
theorem own_n {w : World} {base n : Nat} {e : TypeId} {v : Value} {l : List Bk} (h : w.ownsRow base e 6 v n (l.flatMap bkEnc)) : n = l.length := by
  have h1 : (l.flatMap bkEnc).length = n * 6 := h.1
  rw [flat_len bkEnc 6 bk_len] at h1
  omega
theorem rdA_len (t : ByteArray) (acc : List Bk) : (rdA t acc).length ≤ acc.length + 1 := by
  unfold rdA; split
  · rw [List.length_append]; exact Nat.le_refl _
  · omega
theorem lns_nil {f : Nat} {t : ByteArray} {at_ : Int} {acc : List Bk} (hf : t.size < f) (h : (t.toList == (⟨#[]⟩ : ByteArray).toList) = true) : lnsF f t at_ acc = (0, true, acc) := by
  obtain ⟨k, rfl⟩ : ∃ k, f = k + 1 := ⟨f - 1, by omega⟩
  rw [lnsF, if_pos h]
theorem lns_no {f : Nat} {t c1 c2 : ByteArray} {cf : Bool} {at_ : Int} {acc : List Bk} (hf : t.size < f) (h : (t.toList == (⟨#[]⟩ : ByteArray).toList) = false) (hc : cutS t nlS = (c1, c2, cf)) (hr : (cf && rdB c1) = false) : lnsF f t at_ acc = (at_, false, if cf = true then rdA c1 acc else acc) := by
  obtain ⟨k, rfl⟩ : ∃ k, f = k + 1 := ⟨f - 1, by omega⟩
  rw [lnsF, if_neg (by rw [h]; decide), hc]
  show (if (cf && rdB c1) = true then _ else _) = _
  rw [if_neg (by rw [hr]; decide)]
theorem lns_go {f : Nat} {t c1 c2 : ByteArray} {at_ : Int} {acc : List Bk} (hf : t.size < f) (h : (t.toList == (⟨#[]⟩ : ByteArray).toList) = false) (hc : cutS t nlS = (c1, c2, true)) (hr : rdB c1 = true) : lnsF f t at_ acc = lnsF (f - 1) c2 (at_ + 1) (rdA c1 acc) := by
  obtain ⟨k, rfl⟩ : ∃ k, f = k + 1 := ⟨f - 1, by omega⟩
  rw [lnsF, if_neg (by rw [h]; decide), hc]
  show (if (true && rdB c1) = true then _ else _) = _
  rw [if_pos (by rw [hr]; rfl)]; rfl
theorem size_pos {t : ByteArray} (h : (t.toList == (⟨#[]⟩ : ByteArray).toList) = false) : 1 ≤ t.size := by
  rcases Nat.eq_zero_or_pos t.size with h0 | h0
  · exfalso
    have : t = ⟨#[]⟩ := ByteArray.ext (Array.eq_empty_of_size_eq_zero h0)
    rw [this] at h
    exact absurd h (by decide +kernel)
  · exact h0
theorem lines_any (t : ByteArray) (g : Nat) (w : World) (hts : t.size ≤ 200000) (hb : Blk w g 110 [.slice none 0 0]) (htx : TxtO w.heap.size (some g) w) :
  Calls Tryz.prog 157 #[.string t, .func (.func 158) #[] #[.pointer (some ⟨g, 0, none⟩)]] w (fun e w' => ∃ v n, e = .returned (.tuple #[.int .i64 (lnsR t).1, .bool (lnsR t).2.1]) ∧ Blk w' g 110 [v] ∧ w'.ownsRow w.heap.size 133 6 v n ((lnsR t).2.2.flatMap bkEnc) ∧ w.grownBy w' (some g)) := by
 refine gw_enter ⟨30, w, (some g), [9, 3]⟩ Tryz.func157 rfl Tryz.ntmps157 rfl (memR (X := [TxtO w.heap.size (some g)]) (blkRow1 hb) (allF_cons htx allF_nil) (allL_cons TxtO.lasts allL_nil)) ?_
 refine sr_ (sg_ rfl (sg_ rfl (nn_ (gw_seq (sr_ (sg_ rfl (nn_ (gw_block ?_))))))))
 refine gw_nilOwn 133 6 ?_
 refine gw_loop (γ := Nat × ByteArray × Int × Value × List Bk) (fun (gz : Nat × ByteArray × Int × Value × List Bk) => gz.2.1.size < gz.1 ∧ gz.2.1.size ≤ t.size ∧ lnsR t = lnsF gz.1 gz.2.1 gz.2.2.1 gz.2.2.2.2 ∧ 0 ≤ gz.2.2.1 ∧ gz.2.2.1 + gz.2.1.size ≤ t.size ∧ gz.2.2.2.2.length + gz.2.1.size ≤ t.size) (fun (gz : Nat × ByteArray × Int × Value × List Bk) => [(0, .string gz.2.1), (1, .func (.func 158) #[] #[.pointer (some ⟨g, 0, none⟩)]), (6, .int .i64 gz.2.2.1)]) (fun (gz : Nat × ByteArray × Int × Value × List Bk) => RowK 0 110 1 1 1 g ([gz.2.2.2.1].flatMap svEnc)) (fun (gz : Nat × ByteArray × Int × Value × List Bk) => []) (fun (gz : Nat × ByteArray × Int × Value × List Bk) => [⟨gz.2.2.2.1, 133, 6, gz.2.2.2.2.length, gz.2.2.2.2.flatMap bkEnc⟩]) (fun (gz : Nat × ByteArray × Int × Value × List Bk) => [TxtO w.heap.size (some g)]) (fun (gz : Nat × ByteArray × Int × Value × List Bk) => gz.1) (t.size + 1, t, 0, .slice none 0 0, []) ⟨Nat.lt_succ_self _, Nat.le_refl _, rfl, Int.le_refl _, by dsimp only; omega, by simp⟩ ⟨rfl, rfl, rfl, trivial⟩ (fun _ hm => hm.pick [] [0] [0] rfl rfl) ?_
 rintro ⟨f, u, at_, v, acc⟩ hinv
 replace hinv : u.size < f ∧ u.size ≤ t.size ∧ lnsR t = lnsF f u at_ acc ∧ 0 ≤ at_ ∧ at_ + u.size ≤ t.size ∧ acc.length + u.size ≤ t.size := hinv
 dsimp only
 refine gw_seq (sr_ ?_)
 obtain ⟨hf, hu, hR, ha0, ha1, hacc⟩ := hinv
 refine mv_ rfl (wl_ov (ov_sneq rfl rfl) rfl (nn_ ?_))
 refine gw_cond rfl (fun hh => ?_) (fun hh => ?_)
 ·have he : (u.toList == (⟨#[]⟩ : ByteArray).toList) = false := by simpa using hh
  clear hh
  refine gw_skip (nx_then (gw_seq (gw_block (sr_ ?_))))
  replace he : (u.toList == (⟨#[]⟩ : ByteArray).toList) = false := by simpa using he
  have hu1 := size_pos he
  obtain ⟨⟨c1, c2, cf⟩, hcut⟩ : ∃ z, cutS u nlS = z := ⟨_, rfl⟩
  have hsz := cut_sz u nlS (by decide)
  rw [hcut] at hsz
  obtain ⟨hs1, hs2, hs3⟩ := hsz
  have hs1 : c1.size ≤ u.size := hs1
  have hs2 : cf = true → 1 ≤ u.size → c2.size + 1 ≤ u.size := hs2
  refine mv_ rfl ?_
  refine wl_callv (v := .tuple #[.string c1, .string c2, .bool cf]) rfl cb253 rfl rfl (fun wx hm => (by have h := cut_any u nlS wx (hm.fact 0 rfl).1 (by omega); rw [hcut] at h; exact h)) ?_
  refine mv_ rfl (wl_ov (ov_extract rfl rfl) rfl (wl_ov (ov_extract rfl rfl) rfl (wl_ov (ov_extract rfl rfl) rfl (sg_ rfl (sg_ rfl (sg_ rfl (nn_ (gw_seq (sr_ (mv_ rfl (wl_ov (ov_un_not rfl) rfl ?_)))))))))))
  refine mv_ rfl ?_
  rcases Bool.eq_false_or_eq_true (!cf) with hcf | hcf
  ·refine wl_set 22 rfl (congrArg Value.bool hcf) ?_
   replace hcf : cf = false := by simpa using hcf
   refine goff rfl rfl rfl (goff rfl rfl rfl (goff rfl rfl rfl (goff rfl rfl rfl (pt_ rfl rfl (nn_ (ct_ rfl (sr_ (mv_ rfl (sg_ rfl (sg_ rfl (wl_nil ?_)))))))))))
   refine nx_then ?_
   refine gw_ret ?_
   refine nx_then_ret (nx_blk_ret (nx_then_ret (nx_then_ret (nx_blk_ret (nx_then_ret ?_)))))
   refine nx_ret2 rfl rfl rfl fun wx hm => ?_
   rw [lns_no hf he hcut (by rw [hcf]; rfl), hcf] at hR
   rw [hR]
   exact ⟨_, _, rfl, rowBlk1 hm.k, hm.ownI 0 rfl, hm.g⟩
  refine wl_set 22 rfl (congrArg Value.bool hcf) ?_
  replace hcf : cf = true := by simpa using hcf
  subst hcf
  have hs2 := hs2 rfl hu1
  refine wl_guard_on rfl rfl rfl (mv_ rfl (wl_guard_on rfl rfl rfl (mv_ rfl (wl_guard_on rfl rfl rfl ?_))))
  refine wl_callG (γ := Value) (val := fun _ => .bool (rdB c1)) (φ := fun _ => True) (K' := fun z => RowK 0 110 1 1 1 g ([z].flatMap svEnc)) (L' := fun _ => []) (O' := fun z => [⟨z, 133, 6, (rdA c1 acc).length, (rdA c1 acc).flatMap bkEnc⟩]) (X' := fun _ => [TxtO w.heap.size (some g)]) rfl cb158 rfl rfl (fun wx hm => (read1_any c1 w wx g acc.length v acc (by omega) (by omega) (hm.pick [] [0] [0] rfl rfl).cx).mono fun e w' ⟨v', n', he, hM⟩ => by
   obtain rfl : n' = (rdA c1 acc).length := own_n (hM.ownI 0 rfl)
   exact ⟨v', he, trivial, hM.cx⟩) ?_
  rintro v1 _
  have hrl := rdA_len c1 acc
  refine wl_guard_on rfl rfl rfl (wl_ov (ov_un_not rfl) rfl (pf_ rfl rfl (nn_ ?_)))
  refine gw_cond rfl (fun hh => ?_) (fun hh => ?_)
  ·have hr : (rdB c1) = false := by simpa using hh
   clear hh
   refine sr_ ?_
   replace hr : rdB c1 = false := by simpa using hr
   refine mv_ rfl (sg_ rfl (sg_ rfl (nn_ ?_)))
   refine gw_ret ?_
   refine nx_then_ret (nx_blk_ret (nx_then_ret (nx_then_ret (nx_blk_ret (nx_then_ret ?_)))))
   refine nx_ret2 rfl rfl rfl fun wx hm => ?_
   rw [lns_no hf he hcut (by rw [hr]; rfl)] at hR
   rw [hR]
   exact ⟨_, _, rfl, rowBlk1 hm.k, hm.ownI 0 rfl, hm.g⟩
  have hr : (rdB c1) = true := by simpa using hh
  clear hh
  refine gw_skip (nx_then (gw_region ?_))
  replace hr : rdB c1 = true := by simpa using hr
  refine mv_ rfl (sg_ rfl (wl_nil (nx_blk_nrm (nx_then (gw_region (mv_ rfl (ad_ rfl rfl (sg_ rfl (wl_nil ?_)))))))))
  exact nx_round (f - 1, c2, at_ + 1, v1, rdA c1 acc) ⟨by dsimp only; omega, by dsimp only; omega, by dsimp only; rw [hR, lns_go hf he hcut hr], by dsimp only; omega, by dsimp only; omega, by dsimp only; omega⟩ (by dsimp only; omega) ⟨rfl, rfl, rfl, trivial⟩ (fun _ hm => hm.pick [] [0] [0] rfl rfl)
 have he : (u.toList == (⟨#[]⟩ : ByteArray).toList) = true := by simpa using hh
 clear hh
 refine gw_exit ?_
 refine nx_then_exit (nx_then_exit ?_)
 refine nx_blk_here ?_
 refine nx_then (sr_ (sg_ rfl (sg_ rfl (nn_ ?_))))
 refine gw_ret ?_
 refine nx_ret2 rfl rfl rfl fun wx hm => ?_
 rw [lns_nil hf (by simpa using he)] at hR
 rw [hR]
 exact ⟨_, _, rfl, rowBlk1 hm.k, hm.ownI 0 rfl, hm.g⟩
theorem rlines_any (t : ByteArray) (g : Nat) (w : World) (hts : t.size ≤ 200000) (hb : Blk w g 110 [.slice none 0 0]) (htx : TxtO w.heap.size (some g) w) :
  Calls Tryz.prog 161 #[.string t, .func (.func 162) #[] #[.pointer (some ⟨g, 0, none⟩)]] w (fun e w' => ∃ v n, e = .returned (.tuple #[.int .i64 (lnsR t).1, .bool (lnsR t).2.1]) ∧ Blk w' g 110 [v] ∧ w'.ownsRow w.heap.size 133 6 v n ((lnsR t).2.2.flatMap bkEnc) ∧ w.grownBy w' (some g)) := by
 refine gw_enter ⟨30, w, (some g), [9, 3]⟩ Tryz.func161 rfl Tryz.ntmps161 rfl (memR (X := [TxtO w.heap.size (some g)]) (blkRow1 hb) (allF_cons htx allF_nil) (allL_cons TxtO.lasts allL_nil)) ?_
 refine sr_ (sg_ rfl (sg_ rfl (nn_ (gw_seq (sr_ (sg_ rfl (nn_ (gw_block ?_))))))))
 refine gw_nilOwn 133 6 ?_
 refine gw_loop (γ := Nat × ByteArray × Int × Value × List Bk) (fun (gz : Nat × ByteArray × Int × Value × List Bk) => gz.2.1.size < gz.1 ∧ gz.2.1.size ≤ t.size ∧ lnsR t = lnsF gz.1 gz.2.1 gz.2.2.1 gz.2.2.2.2 ∧ 0 ≤ gz.2.2.1 ∧ gz.2.2.1 + gz.2.1.size ≤ t.size ∧ gz.2.2.2.2.length + gz.2.1.size ≤ t.size) (fun (gz : Nat × ByteArray × Int × Value × List Bk) => [(0, .string gz.2.1), (1, .func (.func 162) #[] #[.pointer (some ⟨g, 0, none⟩)]), (6, .int .i64 gz.2.2.1)]) (fun (gz : Nat × ByteArray × Int × Value × List Bk) => RowK 0 110 1 1 1 g ([gz.2.2.2.1].flatMap svEnc)) (fun (gz : Nat × ByteArray × Int × Value × List Bk) => []) (fun (gz : Nat × ByteArray × Int × Value × List Bk) => [⟨gz.2.2.2.1, 133, 6, gz.2.2.2.2.length, gz.2.2.2.2.flatMap bkEnc⟩]) (fun (gz : Nat × ByteArray × Int × Value × List Bk) => [TxtO w.heap.size (some g)]) (fun (gz : Nat × ByteArray × Int × Value × List Bk) => gz.1) (t.size + 1, t, 0, .slice none 0 0, []) ⟨Nat.lt_succ_self _, Nat.le_refl _, rfl, Int.le_refl _, by dsimp only; omega, by simp⟩ ⟨rfl, rfl, rfl, trivial⟩ (fun _ hm => hm.pick [] [0] [0] rfl rfl) ?_
 rintro ⟨f, u, at_, v, acc⟩ hinv
 replace hinv : u.size < f ∧ u.size ≤ t.size ∧ lnsR t = lnsF f u at_ acc ∧ 0 ≤ at_ ∧ at_ + u.size ≤ t.size ∧ acc.length + u.size ≤ t.size := hinv
 dsimp only
 refine gw_seq (sr_ ?_)
 obtain ⟨hf, hu, hR, ha0, ha1, hacc⟩ := hinv
 refine mv_ rfl (wl_ov (ov_sneq rfl rfl) rfl (nn_ ?_))
 refine gw_cond rfl (fun hh => ?_) (fun hh => ?_)
 ·have he : (u.toList == (⟨#[]⟩ : ByteArray).toList) = false := by simpa using hh
  clear hh
  refine gw_skip (nx_then (gw_seq (gw_block (sr_ ?_))))
  replace he : (u.toList == (⟨#[]⟩ : ByteArray).toList) = false := by simpa using he
  have hu1 := size_pos he
  obtain ⟨⟨c1, c2, cf⟩, hcut⟩ : ∃ z, cutS u nlS = z := ⟨_, rfl⟩
  have hsz := cut_sz u nlS (by decide)
  rw [hcut] at hsz
  obtain ⟨hs1, hs2, hs3⟩ := hsz
  have hs1 : c1.size ≤ u.size := hs1
  have hs2 : cf = true → 1 ≤ u.size → c2.size + 1 ≤ u.size := hs2
  refine mv_ rfl ?_
  refine wl_callv (v := .tuple #[.string c1, .string c2, .bool cf]) rfl cb253 rfl rfl (fun wx hm => (by have h := cut_any u nlS wx (hm.fact 0 rfl).1 (by omega); rw [hcut] at h; exact h)) ?_
  refine mv_ rfl (wl_ov (ov_extract rfl rfl) rfl (wl_ov (ov_extract rfl rfl) rfl (wl_ov (ov_extract rfl rfl) rfl (sg_ rfl (sg_ rfl (sg_ rfl (nn_ (gw_seq (sr_ (mv_ rfl (wl_ov (ov_un_not rfl) rfl ?_)))))))))))
  refine mv_ rfl ?_
  rcases Bool.eq_false_or_eq_true (!cf) with hcf | hcf
  ·refine wl_set 22 rfl (congrArg Value.bool hcf) ?_
   replace hcf : cf = false := by simpa using hcf
   refine goff rfl rfl rfl (goff rfl rfl rfl (goff rfl rfl rfl (goff rfl rfl rfl (pt_ rfl rfl (nn_ (ct_ rfl (sr_ (mv_ rfl (sg_ rfl (sg_ rfl (wl_nil ?_)))))))))))
   refine nx_then ?_
   refine gw_ret ?_
   refine nx_then_ret (nx_blk_ret (nx_then_ret (nx_then_ret (nx_blk_ret (nx_then_ret ?_)))))
   refine nx_ret2 rfl rfl rfl fun wx hm => ?_
   rw [lns_no hf he hcut (by rw [hcf]; rfl), hcf] at hR
   rw [hR]
   exact ⟨_, _, rfl, rowBlk1 hm.k, hm.ownI 0 rfl, hm.g⟩
  refine wl_set 22 rfl (congrArg Value.bool hcf) ?_
  replace hcf : cf = true := by simpa using hcf
  subst hcf
  have hs2 := hs2 rfl hu1
  refine wl_guard_on rfl rfl rfl (mv_ rfl (wl_guard_on rfl rfl rfl (mv_ rfl (wl_guard_on rfl rfl rfl ?_))))
  refine wl_callG (γ := Value) (val := fun _ => .bool (rdB c1)) (φ := fun _ => True) (K' := fun z => RowK 0 110 1 1 1 g ([z].flatMap svEnc)) (L' := fun _ => []) (O' := fun z => [⟨z, 133, 6, (rdA c1 acc).length, (rdA c1 acc).flatMap bkEnc⟩]) (X' := fun _ => [TxtO w.heap.size (some g)]) rfl cb162 rfl rfl (fun wx hm => (rread1_any c1 w wx g acc.length v acc (by omega) (by omega) (hm.pick [] [0] [0] rfl rfl).cx).mono fun e w' ⟨v', n', he, hM⟩ => by
   obtain rfl : n' = (rdA c1 acc).length := own_n (hM.ownI 0 rfl)
   exact ⟨v', he, trivial, hM.cx⟩) ?_
  rintro v1 _
  have hrl := rdA_len c1 acc
  refine wl_guard_on rfl rfl rfl (wl_ov (ov_un_not rfl) rfl (pf_ rfl rfl (nn_ ?_)))
  refine gw_cond rfl (fun hh => ?_) (fun hh => ?_)
  ·have hr : (rdB c1) = false := by simpa using hh
   clear hh
   refine sr_ ?_
   replace hr : rdB c1 = false := by simpa using hr
   refine mv_ rfl (sg_ rfl (sg_ rfl (nn_ ?_)))
   refine gw_ret ?_
   refine nx_then_ret (nx_blk_ret (nx_then_ret (nx_then_ret (nx_blk_ret (nx_then_ret ?_)))))
   refine nx_ret2 rfl rfl rfl fun wx hm => ?_
   rw [lns_no hf he hcut (by rw [hr]; rfl)] at hR
   rw [hR]
   exact ⟨_, _, rfl, rowBlk1 hm.k, hm.ownI 0 rfl, hm.g⟩
  have hr : (rdB c1) = true := by simpa using hh
  clear hh
  refine gw_skip (nx_then (gw_region ?_))
  replace hr : rdB c1 = true := by simpa using hr
  refine mv_ rfl (sg_ rfl (wl_nil (nx_blk_nrm (nx_then (gw_region (mv_ rfl (ad_ rfl rfl (sg_ rfl (wl_nil ?_)))))))))
  exact nx_round (f - 1, c2, at_ + 1, v1, rdA c1 acc) ⟨by dsimp only; omega, by dsimp only; omega, by dsimp only; rw [hR, lns_go hf he hcut hr], by dsimp only; omega, by dsimp only; omega, by dsimp only; omega⟩ (by dsimp only; omega) ⟨rfl, rfl, rfl, trivial⟩ (fun _ hm => hm.pick [] [0] [0] rfl rfl)
 have he : (u.toList == (⟨#[]⟩ : ByteArray).toList) = true := by simpa using hh
 clear hh
 refine gw_exit ?_
 refine nx_then_exit (nx_then_exit ?_)
 refine nx_blk_here ?_
 refine nx_then (sr_ (sg_ rfl (sg_ rfl (nn_ ?_))))
 refine gw_ret ?_
 refine nx_ret2 rfl rfl rfl fun wx hm => ?_
 rw [lns_nil hf (by simpa using he)] at hR
 rw [hR]
 exact ⟨_, _, rfl, rowBlk1 hm.k, hm.ownI 0 rfl, hm.g⟩
end Go.Proofs.YtdoooppeiphefaaGreatDoor
namespace Go.Proofs.YtdoooppeiphefaaGreatDoor
open Go.RowKit
theorem rdV_ok (t : ByteArray) (ht : t.size ≤ 1000000) : BkOk (rdV t) := by
  have h := wdL_sz t
  unfold rdV
  generalize wdL t = l at h ⊢
  split
  · rename_i a1 a2 a3 a4 a5 a6
    exact ⟨Nat.le_trans (h a1 (by simp)) ht, Nat.le_trans (h a2 (by simp)) ht⟩
  · exact ⟨Nat.zero_le _, Nat.zero_le _⟩
theorem rdA_ok {t : ByteArray} {acc : List Bk} (ht : t.size ≤ 1000000) (h : ∀ b ∈ acc, BkOk b) : ∀ b ∈ rdA t acc, BkOk b := by
  intro b hb
  unfold rdA at hb
  split at hb
  · rcases List.mem_append.1 hb with hb | hb
    · exact h b hb
    · rw [List.mem_singleton.1 hb]; exact rdV_ok t ht
  · exact h b hb
theorem lns_all : ∀ (f : Nat) (t : ByteArray) (at_ : Int) (acc : List Bk), t.size ≤ 1000000 → (∀ b ∈ acc, BkOk b) → (∀ b ∈ (lnsF f t at_ acc).2.2, BkOk b) ∧ (lnsF f t at_ acc).2.2.length ≤ acc.length + t.size
  | 0, t, at_, acc, ht, h => ⟨h, Nat.le_add_right _ _⟩
  | f + 1, t, at_, acc, ht, h => by
    unfold lnsF
    split
    · exact ⟨h, Nat.le_add_right _ _⟩
    · rename_i he
      have h1 := size_pos (t := t) (by simpa using he)
      obtain ⟨hs1, hs2, hs3⟩ := cut_sz t nlS (by decide)
      have hl := rdA_len (cutS t nlS).1 acc
      split
      · rename_i hr
        have hc : (cutS t nlS).2.2 = true := by
          cases hc : (cutS t nlS).2.2 with
          | true => rfl
          | false => rw [hc] at hr; cases hr
        have hs2 := hs2 hc h1
        obtain ⟨i1, i2⟩ := lns_all f (cutS t nlS).2.1 (at_ + 1) (rdA (cutS t nlS).1 acc) (by omega) (rdA_ok (by omega) h)
        exact ⟨i1, by omega⟩
      · show (∀ b ∈ (if (cutS t nlS).2.2 = true then rdA (cutS t nlS).1 acc else acc), BkOk b) ∧ (if (cutS t nlS).2.2 = true then rdA (cutS t nlS).1 acc else acc).length ≤ _
        split
        · exact ⟨rdA_ok (by omega) h, by omega⟩
        · exact ⟨h, by omega⟩
theorem lnsR_all {t : ByteArray} (ht : t.size ≤ 1000000) : (∀ b ∈ (lnsR t).2.2, BkOk b) ∧ (lnsR t).2.2.length ≤ t.size := by
  have h := lns_all (t.size + 1) t 0 [] ht (fun _ hb => by cases hb)
  exact ⟨h.1, by have := h.2; rw [List.length_nil, Nat.zero_add] at this; exact this⟩
/-- What a text of bookings is read as: the error, the line, the bookings. -/
def rdE (t : ByteArray) : Int := if 200000 < t.size then 2 else if (lnsR t).2.1 = false then 9 else formE (lnsR t).2.2
def rdN (t : ByteArray) : Int := if 200000 < t.size then 0 else if (lnsR t).2.1 = false then (lnsR t).1 else 0
def rdL (t : ByteArray) : List Bk := if 200000 < t.size then [] else if (lnsR t).2.1 = false then [] else if formE (lnsR t).2.2 = 0 then (lnsR t).2.2 else []
theorem rd_big {t : ByteArray} (h : 200000 < t.size) : rdE t = 2 ∧ rdN t = 0 ∧ rdL t = [] := by unfold rdE rdN rdL; simp [h]
theorem rd_bad {t : ByteArray} (h : ¬ 200000 < t.size) (h2 : (lnsR t).2.1 = false) : rdE t = 9 ∧ rdN t = (lnsR t).1 ∧ rdL t = [] := by unfold rdE rdN rdL; simp [h, h2]
theorem rd_form {t : ByteArray} (h : ¬ 200000 < t.size) (h2 : (lnsR t).2.1 = true) (h3 : ¬ formE (lnsR t).2.2 = 0) : rdE t = formE (lnsR t).2.2 ∧ rdN t = 0 ∧ rdL t = [] := by unfold rdE rdN rdL; simp [h, h2, h3]
theorem rd_right {t : ByteArray} (h : ¬ 200000 < t.size) (h2 : (lnsR t).2.1 = true) (h3 : formE (lnsR t).2.2 = 0) : rdE t = 0 ∧ rdN t = 0 ∧ rdL t = (lnsR t).2.2 := by unfold rdE rdN rdL; simp [h, h2, h3]
def ReadK (t : ByteArray) (w : World) (e : Ending) (w' : World) : Prop := ∃ A n c, e = .returned (.tuple #[.slice A n c, .int .i64 (rdN t), .int .i64 (rdE t)]) ∧ SlT bkEnc 6 133 w' A n (rdL t) ∧ w.grownBy w' none
theorem ReadK.nil {t : ByteArray} {w w' : World} {N E : Int} (h : rdE t = E ∧ rdN t = N ∧ rdL t = []) (hg : w.grownBy w' none) : ReadK t w (.returned (.tuple #[.slice none 0 0, .int .i64 N, .int .i64 E])) w' :=
  ⟨none, 0, 0, by rw [h.1, h.2.1], by rw [h.2.2]; exact SlT.nil_ w' none, hg⟩
theorem TxtO.here {N g : Nat} {w : World} (h : TxtO N none w) (hg : N ≤ g) : TxtO w.heap.size (some g) w := ⟨h.1, fun k hk => ⟨h.1.lt hk, fun e => by
  have e2 : g = k := by injection e
  have := (h.2 k hk).1
  omega⟩⟩
theorem read_any (t : ByteArray) (w : World) (htx : TxtW w) (hts : t.size ≤ 1000000000) :
  Calls Tryz.prog 57 #[.string t] w (ReadK t w) := by
 refine gw_enter ⟨27, w, none, []⟩ Tryz.func57 rfl Tryz.ntmps57 rfl (mem0 (X := [TxtO w.heap.size none]) (allF_cons htx.old allF_nil) (allL_cons TxtO.lasts allL_nil)) ?_
 refine sr_ (sg_ rfl (sg_ rfl (sg_ rfl (nn_ (gw_seq (sr_ (mv_ rfl ?_)))))))
 refine wl_ov (ov_lens us9 rfl) rfl ?_
 refine wl_ov (ov_gtr rfl rfl) rfl ?_
 refine nn_ ?_
 refine gw_cond rfl (fun hh => ?_) (fun hh => ?_)
 ·have hb : 200000 < ((t).size : Int) := by simpa using hh
  clear hh
  refine sr_ (sg_ rfl (sg_ rfl (sg_ rfl (nn_ ?_))))
  refine gw_ret ?_
  refine nx_then_ret ?_
  refine nx_ret3 rfl rfl rfl rfl fun wx hm => ?_
  exact ReadK.nil (rd_big (by omega)) hm.g
 have hb : ¬ (200000 < ((t).size : Int)) := by simpa using hh
 clear hh
 refine gw_skip (nx_then (sr_ ?_))
 have hb : ¬ 200000 < t.size := by omega
 obtain ⟨hok, hll⟩ := lnsR_all (t := t) (by omega)
 refine wl_alloc zc110 rfl fun g1 => ?_
 refine nn_ (sr_ (mv_ rfl (wl_ov (ov_makeFunc rfl rfl) rfl ?_)))
 refine wl_callG (γ := Value) (val := fun _ => .tuple #[.int .i64 (lnsR t).1, .bool (lnsR t).2.1]) (φ := fun _ => True) (K' := fun _ => (fun _ => True)) (L' := fun z => [(g1, 110, [z])]) (O' := fun z => [⟨z, 133, 6, (lnsR t).2.2.length, (lnsR t).2.2.flatMap bkEnc⟩]) (X' := fun _ => [TxtO w.heap.size none]) rfl cb157 rfl rfl (fun wx hm => (lines_any t g1 wx (by omega) (hm.blkI 0 rfl) ((hm.fact 0 rfl).here (hm.b _ (List.mem_singleton.2 rfl)).1)).mono fun e w' ⟨v', n', he, hb, ho, hg⟩ => by
  obtain rfl : n' = (lnsR t).2.2.length := own_n ho
  exact ⟨v', he, trivial, hm.handed hg hb ho (fun A hA => by rw [List.mem_singleton.1 hA]; exact ⟨fun _ _ => TxtO.far _ _, List.mem_of_getElem? (i := 0) rfl⟩)⟩) ?_
 rintro v1 _
 refine wl_look (R := ∃ A cc, v1 = .slice A ((lnsR t).2.2.length) cc) (fun wx hm => own_slice (hm.ownI 0 rfl)) ?_
 rintro ⟨A, cc, rfl⟩
 refine mv_ rfl (wl_ov (ov_extract rfl rfl) rfl (wl_ov (ov_extract rfl rfl) rfl (sg_ rfl (sg_ rfl (nn_ (gw_seq (sr_ (mv_ rfl (wl_ov (ov_un_not rfl) rfl (nn_ ?_))))))))))
 refine gw_cond rfl (fun hh => ?_) (fun hh => ?_)
 ·have ho : ((lnsR t).2.1) = false := by simpa using hh
  clear hh
  refine sr_ ?_
  replace ho : (lnsR t).2.1 = false := by simpa using ho
  refine mv_ rfl (sg_ rfl (sg_ rfl (sg_ rfl (nn_ ?_))))
  refine gw_ret ?_
  refine nx_then_ret ?_
  refine nx_ret3 rfl rfl rfl rfl fun wx hm => ?_
  exact ReadK.nil (rd_bad hb ho) hm.g
 have ho : ((lnsR t).2.1) = true := by simpa using hh
 clear hh
 refine gw_skip (nx_then (gw_seq (sr_ ?_)))
 replace ho : (lnsR t).2.1 = true := by simpa using ho
 refine lk_ sc110 0 rfl rfl rfl ?_
 refine wl_callv rfl cb148 rfl rfl (fun wx hm => (formed_any (lnsR t).2.2 A _ cc wx (SlT.ofOwn bk_len (hm.ownI 0 rfl) rfl) hok (by omega))) ?_
 refine sg_ rfl (nn_ (sr_ (mv_ rfl (wl_ov (ov_neq rfl rfl) rfl (nn_ ?_)))))
 refine gw_cond rfl (fun hh => ?_) (fun hh => ?_)
 ·have hf : ¬ (formE (lnsR t).2.2 = 0) := by simpa using hh
  clear hh
  refine sr_ (mv_ rfl (sg_ rfl (sg_ rfl (sg_ rfl (nn_ ?_)))))
  refine gw_ret ?_
  refine nx_then_ret ?_
  refine nx_ret3 rfl rfl rfl rfl fun wx hm => ?_
  exact ReadK.nil (rd_form hb ho hf) hm.g
 have hf : formE (lnsR t).2.2 = 0 := by simpa using hh
 clear hh
 refine gw_skip (nx_then (sr_ ?_))
 replace hf : formE (lnsR t).2.2 = 0 := by simpa using hf
 have hR := rd_right hb ho hf
 refine lk_ sc110 0 rfl rfl rfl (sg_ rfl (sg_ rfl (sg_ rfl (nn_ ?_))))
 refine gw_ret ?_
 refine nx_ret3 rfl rfl rfl rfl fun wx hm => ?_
 exact ⟨A, _, cc, by rw [hR.1, hR.2.1], by rw [hR.2.2]; exact SlT.ofOwn bk_len (hm.ownI 0 rfl) rfl, hm.g⟩
theorem bookingsRead_any (t : ByteArray) (w : World) (htx : TxtW w) (hts : t.size ≤ 1000000000) :
  Calls Tryz.prog 58 #[.string t] w (ReadK t w) := by
 refine gw_enter ⟨27, w, none, []⟩ Tryz.func58 rfl Tryz.ntmps58 rfl (mem0 (X := [TxtO w.heap.size none]) (allF_cons htx.old allF_nil) (allL_cons TxtO.lasts allL_nil)) ?_
 refine sr_ (sg_ rfl (sg_ rfl (sg_ rfl (nn_ (gw_seq (sr_ (mv_ rfl ?_)))))))
 refine wl_ov (ov_lens us9 rfl) rfl ?_
 refine wl_ov (ov_gtr rfl rfl) rfl ?_
 refine nn_ ?_
 refine gw_cond rfl (fun hh => ?_) (fun hh => ?_)
 ·have hb : 200000 < ((t).size : Int) := by simpa using hh
  clear hh
  refine sr_ (sg_ rfl (sg_ rfl (sg_ rfl (nn_ ?_))))
  refine gw_ret ?_
  refine nx_then_ret ?_
  refine nx_ret3 rfl rfl rfl rfl fun wx hm => ?_
  exact ReadK.nil (rd_big (by omega)) hm.g
 have hb : ¬ (200000 < ((t).size : Int)) := by simpa using hh
 clear hh
 refine gw_skip (nx_then (sr_ ?_))
 have hb : ¬ 200000 < t.size := by omega
 obtain ⟨hok, hll⟩ := lnsR_all (t := t) (by omega)
 refine wl_alloc zc110 rfl fun g1 => ?_
 refine nn_ (sr_ (mv_ rfl (wl_ov (ov_makeFunc rfl rfl) rfl ?_)))
 refine wl_callG (γ := Value) (val := fun _ => .tuple #[.int .i64 (lnsR t).1, .bool (lnsR t).2.1]) (φ := fun _ => True) (K' := fun _ => (fun _ => True)) (L' := fun z => [(g1, 110, [z])]) (O' := fun z => [⟨z, 133, 6, (lnsR t).2.2.length, (lnsR t).2.2.flatMap bkEnc⟩]) (X' := fun _ => [TxtO w.heap.size none]) rfl cb161 rfl rfl (fun wx hm => (rlines_any t g1 wx (by omega) (hm.blkI 0 rfl) ((hm.fact 0 rfl).here (hm.b _ (List.mem_singleton.2 rfl)).1)).mono fun e w' ⟨v', n', he, hb, ho, hg⟩ => by
  obtain rfl : n' = (lnsR t).2.2.length := own_n ho
  exact ⟨v', he, trivial, hm.handed hg hb ho (fun A hA => by rw [List.mem_singleton.1 hA]; exact ⟨fun _ _ => TxtO.far _ _, List.mem_of_getElem? (i := 0) rfl⟩)⟩) ?_
 rintro v1 _
 refine wl_look (R := ∃ A cc, v1 = .slice A ((lnsR t).2.2.length) cc) (fun wx hm => own_slice (hm.ownI 0 rfl)) ?_
 rintro ⟨A, cc, rfl⟩
 refine mv_ rfl (wl_ov (ov_extract rfl rfl) rfl (wl_ov (ov_extract rfl rfl) rfl (sg_ rfl (sg_ rfl (nn_ (gw_seq (sr_ (mv_ rfl (wl_ov (ov_un_not rfl) rfl (nn_ ?_))))))))))
 refine gw_cond rfl (fun hh => ?_) (fun hh => ?_)
 ·have ho : ((lnsR t).2.1) = false := by simpa using hh
  clear hh
  refine sr_ ?_
  replace ho : (lnsR t).2.1 = false := by simpa using ho
  refine mv_ rfl (sg_ rfl (sg_ rfl (sg_ rfl (nn_ ?_))))
  refine gw_ret ?_
  refine nx_then_ret ?_
  refine nx_ret3 rfl rfl rfl rfl fun wx hm => ?_
  exact ReadK.nil (rd_bad hb ho) hm.g
 have ho : ((lnsR t).2.1) = true := by simpa using hh
 clear hh
 refine gw_skip (nx_then (gw_seq (sr_ ?_)))
 replace ho : (lnsR t).2.1 = true := by simpa using ho
 refine lk_ sc110 0 rfl rfl rfl ?_
 refine wl_callv rfl cb54 rfl rfl (fun wx hm => (bookingForm_any (lnsR t).2.2 A _ cc wx (SlT.ofOwn bk_len (hm.ownI 0 rfl) rfl) hok (by omega))) ?_
 refine sg_ rfl (nn_ (sr_ (mv_ rfl (wl_ov (ov_neq rfl rfl) rfl (nn_ ?_)))))
 refine gw_cond rfl (fun hh => ?_) (fun hh => ?_)
 ·have hf : ¬ (formE (lnsR t).2.2 = 0) := by simpa using hh
  clear hh
  refine sr_ (mv_ rfl (sg_ rfl (sg_ rfl (sg_ rfl (nn_ ?_)))))
  refine gw_ret ?_
  refine nx_then_ret ?_
  refine nx_ret3 rfl rfl rfl rfl fun wx hm => ?_
  exact ReadK.nil (rd_form hb ho hf) hm.g
 have hf : formE (lnsR t).2.2 = 0 := by simpa using hh
 clear hh
 refine gw_skip (nx_then (sr_ ?_))
 replace hf : formE (lnsR t).2.2 = 0 := by simpa using hf
 have hR := rd_right hb ho hf
 refine lk_ sc110 0 rfl rfl rfl (sg_ rfl (sg_ rfl (sg_ rfl (nn_ ?_))))
 refine gw_ret ?_
 refine nx_ret3 rfl rfl rfl rfl fun wx hm => ?_
 exact ⟨A, _, cc, by rw [hR.1, hR.2.1], by rw [hR.2.2]; exact SlT.ofOwn bk_len (hm.ownI 0 rfl) rfl, hm.g⟩
end Go.Proofs.YtdoooppeiphefaaGreatDoor
namespace Go.Proofs.YtdoooppeiphefaaGreatDoor
open Go.RowKit
theorem gbookingText_any (w : World) (B sb m : Nat) (hS : Strm 25 w B sb m) (hm : m ≤ 1000000) (htx : TxtO w.heap.size (some sb) w) :
  Calls Tryz.prog 56 #[.pointer (some ⟨sb, 0, none⟩)] w (fun e w' => ∃ v : ByteArray, e = .returned (.string v) ∧ v.size ≤ 6000 ∧ Strm 25 w' B sb (m + 2000) ∧ w.grownBy w' (some sb)) := by
 refine gw_enter ⟨19, w, (some sb), []⟩ Tryz.func56 rfl Tryz.ntmps56 rfl (memS (X := [TxtO w.heap.size (some sb)]) hS (allF_cons htx allF_nil) (allL_cons TxtO.lasts allL_nil)) ?_
 refine sr_ (sg_ rfl (nn_ (sr_ (mv_ rfl (mv_ rfl ?_)))))
 refine wl_got (γ := Int) (val := fun v => .int .i64 v) (φ := fun v => 0 ≤ v ∧ (v ≤ 3 ∨ v = 0)) rfl cb10 rfl rfl rfl rfl (fun wx hm => (range_any _ _ wx B sb _ hm.k (by omega) (by omega) (by omega) (by omega) (by omega))) fun v1 hv1 => ?_
 obtain ⟨q, hq⟩ : ∃ q : Nat, v1 = (q : Int) := ⟨v1.toNat, by omega⟩
 have hq3 : q ≤ 3 := by omega
 subst hq
 refine wl_callgs (γ := Option Addr × Nat × Nat × List Bk) (val := (fun g => .slice g.1 g.2.1 g.2.2.1)) (φ := (fun g => (∀ x ∈ g.2.2.2, BkB x) ∧ g.2.1 ≤ 9 ∧ g.2.2.2.length = g.2.1)) (m' := m + 1 + 1000) (fun g => ⟨.slice g.1 g.2.1 g.2.2.1, 133, 6, g.2.1, g.2.2.2.flatMap bkEnc⟩) rfl cb52 rfl rfl rfl rfl (fun wx hm => (gbookings_ownB q wx B sb _ hm.k (by omega) (by omega)).mono fun _ _ ⟨A, n, c, l, he, ho, hl, hB, hn, hnc, hS, hg⟩ => ⟨(A, n, c, l), he, ⟨hB, hn, hl⟩, hS, hg, ho⟩) ?_
 rintro ⟨A, n, c, l⟩ hbb
 dsimp only at hbb ⊢
 obtain ⟨hB, hn9, hln⟩ := hbb
 have hts := txS_sz hB
 refine wl_callv rfl cb55 rfl rfl (fun wx hm => (bookingLines_any l A n c wx (hm.fact 0 rfl).1 (SlT.ofOwn bk_len (hm.ownI 0 rfl) hln) hB (by omega))) ?_
 refine sg_ rfl (nn_ (gw_seq (sr_ (mv_ rfl ?_))))
 refine wl_buildSlice (e := 3) (cs := [.int .i64 0, .int .i64 0, .int .i64 1, .int .i64 2]) rfl (by kernel_rfl) rfl fun g2 => ?_
 refine wl_got (γ := Int) (val := fun v => .int .i64 v) (φ := fun v => v ∈ ([0, 0, 1, 2] : List Int)) rfl cb63 rfl rfl rfl rfl (fun wx hm => (pick_any [0, 0, 1, 2] _ _ _ wx B sb _ hm.k (by omega) (by simp) (by simp) (hm.blkI 0 rfl) (hm.neRow 0 rfl rfl))) fun pv hpv => ?_
 have bpv : 0 ≤ pv ∧ pv ≤ 2 := mem_rng hpv (by decide)
 have bpv0 := bpv.1
 have bpv1 := bpv.2
 clear bpv
 clear hpv
 obtain hv3 | hv3 | hv3 : pv = 0 ∨ pv = 1 ∨ pv = 2 := (by omega)
 ·subst hv3
  refine mv_ rfl (nn_ (gw_block ?_))
  refine gw_rounds 1 ?_
  refine gr_next ?_
  refine sr_ (wl_ov (ov_lss rfl rfl) rfl ?_)
  refine wl_set 13 (v' := .bool false) rfl (congrArg Value.bool (by decide)) ?_
  refine nn_ (gw_seq (cf_ rfl ?_))
  refine gw_exit ?_
  refine nx_then_exit (nx_then_exit ?_)
  refine nx_blk_here ?_
  refine nx_then (sr_ (mv_ rfl (sg_ rfl (nn_ ?_))))
  refine gw_ret ?_
  refine nx_ret1 rfl rfl fun wx hm => ?_
  exact ⟨(txS l), rfl, by omega, hm.k.more (by omega), hm.g⟩
 ·subst hv3
  refine mv_ rfl (nn_ (gw_block ?_))
  refine gw_rounds 2 ?_
  refine gr_next ?_
  refine sr_ (wl_ov (ov_lss rfl rfl) rfl ?_)
  refine wl_set 13 (v' := .bool true) rfl (congrArg Value.bool (by decide)) ?_
  refine nn_ (gw_seq (ct_ rfl (gw_skip (nx_then (gw_seq (gw_block (gw_region (mv_ rfl (mv_ rfl ?_)))))))))
  refine wl_calls (γ := ByteArray) (val := (fun g => .string g)) (φ := (fun g => g.size ≤ (txS l).size + 12)) (Y := (fun g => fun _ => True)) (m' := m + 1 + 1000 + 1 + 3) rfl cb156 rfl rfl rfl rfl (fun wx hm => (by have h := gchanged_any (txS l) ⟨#[32, 10, 98, 48, 45, 57, 32, 109]⟩ wx B sb _ hm.k (by omega) (by omega) (by decide +kernel); exact h.mono fun _ _ ⟨v, he, hv, hS, hg⟩ => ⟨v, he, Nat.le_trans hv (by rw [show (⟨#[32, 10, 98, 48, 45, 57, 32, 109]⟩ : ByteArray).size = 8 from rfl]; omega), hS, hg, trivial⟩)) (fun _ => Lasts2.true_) ?_
  rintro u1 hs2
  refine sg_ rfl (wl_nil (nx_blk_nrm (nx_then (gw_region (ad_ rfl rfl ?_)))))
  refine wl_set 17 (v' := .int .i64 1) rfl rfl ?_
  refine mv_ rfl (wl_nil ?_)
  refine nx_next ?_
  refine gr_next ?_
  refine sr_ (wl_ov (ov_lss rfl rfl) rfl ?_)
  refine wl_set 13 (v' := .bool false) rfl (congrArg Value.bool (by decide)) ?_
  refine nn_ (gw_seq (cf_ rfl ?_))
  refine gw_exit ?_
  refine nx_then_exit (nx_then_exit ?_)
  refine nx_blk_here ?_
  refine nx_then (sr_ (mv_ rfl (sg_ rfl (nn_ ?_))))
  refine gw_ret ?_
  refine nx_ret1 rfl rfl fun wx hm => ?_
  exact ⟨u1, rfl, by omega, hm.k.more (by omega), hm.g⟩
 subst hv3
 refine mv_ rfl (nn_ (gw_block ?_))
 refine gw_rounds 3 ?_
 refine gr_next ?_
 refine sr_ (wl_ov (ov_lss rfl rfl) rfl ?_)
 refine wl_set 13 (v' := .bool true) rfl (congrArg Value.bool (by decide)) ?_
 refine nn_ (gw_seq (ct_ rfl (gw_skip (nx_then (gw_seq (gw_block (gw_region (mv_ rfl (mv_ rfl ?_)))))))))
 refine wl_calls (γ := ByteArray) (val := (fun g => .string g)) (φ := (fun g => g.size ≤ (txS l).size + 12)) (Y := (fun g => fun _ => True)) (m' := m + 1 + 1000 + 1 + 3) rfl cb156 rfl rfl rfl rfl (fun wx hm => (by have h := gchanged_any (txS l) ⟨#[32, 10, 98, 48, 45, 57, 32, 109]⟩ wx B sb _ hm.k (by omega) (by omega) (by decide +kernel); exact h.mono fun _ _ ⟨v, he, hv, hS, hg⟩ => ⟨v, he, Nat.le_trans hv (by rw [show (⟨#[32, 10, 98, 48, 45, 57, 32, 109]⟩ : ByteArray).size = 8 from rfl]; omega), hS, hg, trivial⟩)) (fun _ => Lasts2.true_) ?_
 rintro u1 hs2
 refine sg_ rfl (wl_nil (nx_blk_nrm (nx_then (gw_region (ad_ rfl rfl ?_)))))
 refine wl_set 17 (v' := .int .i64 1) rfl rfl ?_
 refine mv_ rfl (wl_nil ?_)
 refine nx_next ?_
 refine gr_next ?_
 refine sr_ (wl_ov (ov_lss rfl rfl) rfl ?_)
 refine wl_set 13 (v' := .bool true) rfl (congrArg Value.bool (by decide)) ?_
 refine nn_ (gw_seq (ct_ rfl (gw_skip (nx_then (gw_seq (gw_block (gw_region (mv_ rfl (mv_ rfl ?_)))))))))
 refine wl_calls (γ := ByteArray) (val := (fun g => .string g)) (φ := (fun g => g.size ≤ (u1).size + 12)) (Y := (fun g => fun _ => True)) (m' := m + 1 + 1000 + 1 + 3 + 3) rfl cb156 rfl rfl rfl rfl (fun wx hm => (by have h := gchanged_any u1 ⟨#[32, 10, 98, 48, 45, 57, 32, 109]⟩ wx B sb _ hm.k (by omega) (by omega) (by decide +kernel); exact h.mono fun _ _ ⟨v, he, hv, hS, hg⟩ => ⟨v, he, Nat.le_trans hv (by rw [show (⟨#[32, 10, 98, 48, 45, 57, 32, 109]⟩ : ByteArray).size = 8 from rfl]; omega), hS, hg, trivial⟩)) (fun _ => Lasts2.true_) ?_
 rintro u2 hs3
 refine sg_ rfl (wl_nil (nx_blk_nrm (nx_then (gw_region (ad_ rfl rfl ?_)))))
 refine wl_set 17 (v' := .int .i64 2) rfl rfl ?_
 refine mv_ rfl (wl_nil ?_)
 refine nx_next ?_
 refine gr_next ?_
 refine sr_ (wl_ov (ov_lss rfl rfl) rfl ?_)
 refine wl_set 13 (v' := .bool false) rfl (congrArg Value.bool (by decide)) ?_
 refine nn_ (gw_seq (cf_ rfl ?_))
 refine gw_exit ?_
 refine nx_then_exit (nx_then_exit ?_)
 refine nx_blk_here ?_
 refine nx_then (sr_ (mv_ rfl (sg_ rfl (nn_ ?_))))
 refine gw_ret ?_
 refine nx_ret1 rfl rfl fun wx hm => ?_
 exact ⟨u2, rfl, by omega, hm.k.more (by omega), hm.g⟩
set_option maxRecDepth 100000 in
theorem same_booking_neq (x0 : ByteArray) (x1 : ByteArray) (x2 : Int) (x3 : Int) (x4 : Int) (x5 : Int) (w : World) : (binOp .neq 133 (.agg #[.string x0, .string x1, .int .i64 x2, .int .i64 x3, .int .i64 x4, .int .i64 x5]) (.agg #[.string x0, .string x1, .int .i64 x2, .int .i64 x3, .int .i64 x4, .int .i64 x5])).run Tryz.prog w = .ok (.bool false) w := by
  have hS : Tryz.prog.underlying 133 = some (.struct (Tryz.prog.fieldsOf 133)) := by kernel_rfl
  have hp : Tryz.prog.stoodInHeld 133 = false := by kernel_rfl
  rw [run_neq_struct, show (10000 : Nat) = 9999 + 1 from rfl, run_equalIn_agg w 9999 133 _ _ hS hp]
  simp only [Program.fieldsOf, Tryz.underlying133]
  have u3 := Tryz.underlying3
  have u9 := Tryz.underlying9
  clear hS hp
  go_simp
theorem guard_booking : Tryz.prog.eqGuardType Tryz.prog.depth 133 = false := by kernel_rfl
theorem equal_booking_any (l : List Bk) (A1 A2 : Option Addr) (n c1 c2 : Nat) (w : World) (h1 : SlT bkEnc 6 133 w A1 n l) (h2 : SlT bkEnc 6 133 w A2 n l) (hn : n ≤ 1000000) :
  Calls Tryz.prog 59 #[.slice A1 n c1, .slice A2 n c2] w (fun e w' => e = .returned (.bool true) ∧ w.grownBy w' none) := by
 refine gw_enter ⟨26, w, none, []⟩ Tryz.func59 rfl Tryz.ntmps59 rfl (mem0 (X := [SlOld bkEnc 6 133 w.heap.size none A1 n l, SlOld bkEnc 6 133 w.heap.size none A2 n l]) (allF_cons h1.old (allF_cons h2.old allF_nil)) (allL_cons SlOld.lasts (allL_cons SlOld.lasts allL_nil))) ?_
 refine sr_ ?_
 have hlen := h1.len
 refine sg_ rfl (nn_ (gw_seq (sr_ (mv_ rfl (wl_ov (ov_len es110 rfl) rfl (mv_ rfl (wl_ov (ov_len es110 rfl) rfl (wl_ov (ov_neq rfl rfl) rfl ?_))))))))
 refine wl_set 10 (v' := .bool false) rfl (congrArg Value.bool (by simp)) ?_
 refine nn_ (cf_ rfl (gw_skip (nx_then (gw_seq (sr_ (mv_ rfl (wl_ov (ov_len es110 rfl) rfl (mv_ rfl (nn_ (gw_block ?_))))))))))
 refine gw_loop (γ := Nat) (fun (k : Nat) => k ≤ n) (fun (k : Nat) => [(0, .slice A1 n c1), (1, .slice A2 n c2), (12, .int .i64 ((n : Nat) : Int)), (13, .int .i64 ((k : Nat) : Int))]) (fun (k : Nat) => fun _ => True) (fun (k : Nat) => []) (fun (k : Nat) => []) (fun (k : Nat) => [SlOld bkEnc 6 133 w.heap.size none A1 n l, SlOld bkEnc 6 133 w.heap.size none A2 n l]) (fun (k : Nat) => n - k) 0 (Nat.zero_le _) ⟨rfl, rfl, rfl, rfl, trivial⟩ (fun _ hm => hm.pick [] [] [0, 1] rfl rfl) ?_
 intro k hinv
 replace hinv : k ≤ n := hinv
 refine sr_ (wl_ov (ov_lss rfl rfl) rfl (nn_ (gw_seq ?_)))
 refine gw_cond rfl (fun hh => ?_) (fun hh => ?_)
 ·have hk : ((k : Nat) : Int) < ((n : Nat) : Int) := by simpa using hh
  clear hh
  refine gw_skip (nx_then (gw_seq (gw_block (sr_ ?_))))
  obtain ⟨b1, o1, hA, _, _⟩ := h1.get (by omega)
  subst hA
  obtain ⟨b2, o2, hA, _, _⟩ := h2.get (by omega)
  subst hA
  obtain ⟨x, hx⟩ : ∃ x, l[k]? = some x := ⟨_, List.getElem?_eq_getElem (by omega)⟩
  obtain ⟨x0, x1, x2, x3, x4, x5⟩ := x
  refine mv_ rfl (sg_ rfl (nn_ (gw_seq ?_)))
  refine gd (fun wz => (SlOld bkEnc 6 133 w.heap.size none (some ⟨b1, o1, none⟩) n l) wz ∧ (SlOld bkEnc 6 133 w.heap.size none (some ⟨b2, o2, none⟩) n l) wz ∧ True) mixed (fun _ hm => ⟨hm.fa 0, hm.fa 1, trivial⟩) fun z => ?_
  refine wt 0 9 1 rfl z (ov_move rfl) ?_
  refine wt 1 9 3 rfl z (ov_move rfl) ?_
  refine wt 2 9 7 rfl z (ov_index (j := k) es110 rfl rfl (by omega)) ?_
  refine wt 3 9 15 rfl z (ov_elem (vs := [.string x0, .string x1, .int .i64 x2, .int .i64 x3, .int .i64 x4, .int .i64 x5]) rz133 rfl (fun _ hm => (hm.1).1) hx rfl rfl) ?_
  refine wt 4 9 31 rfl z (ov_move rfl) ?_
  refine wt 5 9 63 rfl z (ov_move rfl) ?_
  refine wt 6 9 127 rfl z (ov_index (j := k) es110 rfl rfl (by omega)) ?_
  refine wt 7 9 255 rfl z (ov_elem (vs := [.string x0, .string x1, .int .i64 x2, .int .i64 x3, .int .i64 x4, .int .i64 x5]) rz133 rfl (fun _ hm => (hm.2.1).1) hx rfl rfl) ?_
  refine wt 8 9 511 rfl z (ov_bin rfl rfl (cmp_agg guard_booking (fun wx => same_booking_neq x0 x1 x2 x3 x4 x5 wx))) ?_
  refine wa_done (by kernel_rfl) ?_
  refine nx_then (cf_ rfl (gw_skip (nx_blk_nrm (nx_then (gw_region (ad_ rfl rfl (mv_ rfl (wl_nil ?_))))))))
  exact nx_round (k + 1) (by omega) (by omega) ⟨rfl, rfl, rfl, (some_int (by omega)), trivial⟩ (fun _ hm => hm.pick [] [] [0, 1] rfl rfl)
 have hk : ¬ (((k : Nat) : Int) < ((n : Nat) : Int)) := by simpa using hh
 clear hh
 refine gw_exit ?_
 refine nx_then_exit (nx_then_exit ?_)
 refine nx_blk_here ?_
 refine nx_then (sr_ (sg_ rfl (nn_ ?_)))
 refine gw_ret ?_
 refine nx_ret1 rfl rfl fun wx hm => ?_
 exact ⟨rfl, hm.g⟩
end Go.Proofs.YtdoooppeiphefaaGreatDoor
namespace Go.Proofs.YtdoooppeiphefaaGreatDoor
open Go.RowKit
structure Fr where
  num : Int
  den : Int
def frEnc (x : Fr) : List Value := [.int .i64 x.num, .int .i64 x.den]
theorem fr_len (x : Fr) : (frEnc x).length = 2 := rfl
/-- The lowest terms of n / d. -/
def lowF (n d : Nat) : Fr := ⟨((n / Nat.gcd n d : Nat) : Int), ((d / Nat.gcd n d : Nat) : Int)⟩
theorem gcd_step {a b g : Nat} (h : Nat.gcd a b = g) : Nat.gcd b (a % b) = g := by
  rw [Nat.gcd_comm, ← Nat.gcd_rec, Nat.gcd_comm]; exact h
def oddsE (l : List Bk) : Int := firstE [formE l, whenE (decide (9 < (l.length : Int))) 2]
theorem lowest_any (n d : Nat) (w : World) (hn : n ≤ 1000000000000000000) (hd : d ≤ 1000000000000000000) (hd0 : 0 < d) :
  Calls Tryz.prog 71 #[.int .i64 ((n : Nat) : Int), .int .i64 ((d : Nat) : Int)] w (fun e w' => e = .returned (.agg #[.int .i64 (lowF n d).num, .int .i64 (lowF n d).den]) ∧ w.grownBy w' none) := by
 refine gw_enter ⟨25, w, none, []⟩ Tryz.func71 rfl Tryz.ntmps71 rfl (mem0 (X := []) allF_nil allL_nil) ?_
 refine sr_ ?_
 refine wl_alloc zc46 rfl fun g1 => ?_
 refine nn_ (sr_ (mv_ rfl (mv_ rfl ?_)))
 refine wl_ov (ov_neg rfl (by omega) (by omega)) rfl ?_
 refine wl_ov (ov_max rfl rfl) rfl ?_
 refine mv_ rfl (sg_ rfl (sg_ rfl (nn_ (gw_seq (gw_block ?_)))))
 refine gw_loop (γ := Nat × Nat) (fun g => Nat.gcd g.1 g.2 = Nat.gcd n d ∧ g.1 ≤ 1000000000000000000 ∧ g.2 ≤ 1000000000000000000) (fun g => [(0, .int .i64 ((n : Nat) : Int)), (1, .int .i64 ((d : Nat) : Int)), (4, .pointer (some ⟨g1, 0, none⟩)), (5, .int .i64 ((g.1 : Nat) : Int)), (6, .int .i64 ((g.2 : Nat) : Int))]) (fun g => fun _ => True) (fun g => [(g1, 46, [.int .i64 0, .int .i64 0])]) (fun g => []) (fun g => []) (fun g => g.2) (n, d) ⟨rfl, by omega, by omega⟩ ⟨rfl, rfl, rfl, (some_int (by omega)), rfl, trivial⟩ (fun _ hm => hm.pick [0] [] [] rfl rfl) ?_
 rintro ⟨a, b⟩ hinv
 replace hinv : Nat.gcd a b = Nat.gcd n d ∧ a ≤ 1000000000000000000 ∧ b ≤ 1000000000000000000 := hinv
 dsimp only
 refine gw_seq (sr_ (mv_ rfl (wl_ov (ov_neq rfl rfl) rfl (nn_ ?_))))
 refine gw_cond rfl (fun hh => ?_) (fun hh => ?_)
 ·have hb : ¬ (((b : Nat) : Int) = 0) := by simpa using hh
  clear hh
  refine gw_skip (nx_then (gw_block ?_))
  have hb0 : 0 < b := by omega
  have hlt := Nat.mod_lt a hb0
  refine gd (fun wz => Blk wz g1 46 [.int .i64 0, .int .i64 0] ∧ True) mixed (fun _ hm => ⟨hm.bl 0, trivial⟩) fun z => ?_
  refine wt 0 6 1 rfl z (ov_move rfl) ?_
  refine wt 1 6 3 rfl z (ov_move rfl) ?_
  refine wt 2 6 7 rfl z (ov_move rfl) ?_
  refine wt 3 6 15 rfl z (ov_rem rfl rfl (by omega) (by omega) (by omega)) ?_
  refine wt 4 6 31 rfl z (ov_assign rfl) ?_
  refine wt 5 6 63 rfl z (ov_assign rfl) ?_
  refine wa_done (by kernel_rfl) ?_
  refine nx_blk_nrm ?_
  exact nx_round (b, a % b) ⟨gcd_step hinv.1, by dsimp only; omega, by dsimp only; omega⟩ hlt ⟨rfl, rfl, rfl, rfl, (some_int (Int.natCast_emod a b).symm), trivial⟩ (fun _ hm => hm.pick [0] [] [] rfl rfl)
 have hb : ((b : Nat) : Int) = 0 := by simpa using hh
 clear hh
 refine gw_exit ?_
 refine nx_then_exit (nx_then_exit ?_)
 refine nx_blk_here ?_
 refine nx_then (gw_seq ?_)
 have hb0 : b = 0 := by omega
 subst hb0
 have hga : a = Nat.gcd n d := by rw [← hinv.1, Nat.gcd_zero_right]
 have ha0 : 0 < a := by rw [hga]; exact Nat.gcd_pos_of_pos_right n hd0
 refine gd (fun wz => True) mixed (fun _ _ => trivial) fun z => ?_
 refine wt 0 8 1 rfl z (ov_move rfl) ?_
 refine wt 1 8 3 rfl z (ov_move rfl) ?_
 refine wt 2 8 7 rfl z (ov_quo rfl rfl (by omega) (by omega) (by omega)) ?_
 refine wt 3 8 15 rfl z (ov_move rfl) ?_
 refine wt 4 8 31 rfl z (ov_move rfl) ?_
 refine wt 5 8 63 rfl z (ov_quo rfl rfl (by omega) (by omega) (by omega)) ?_
 refine wt 6 8 127 rfl z (ov_build (cs := [.int .i64 (((n : Nat) : Int) / ((a : Nat) : Int)), .int .i64 (((d : Nat) : Int) / ((a : Nat) : Int))]) rfl (by kernel_rfl)) ?_
 refine wa1 7 rfl ?_
 refine wl_stores (cs' := [.int .i64 (((n : Nat) : Int) / ((a : Nat) : Int)), .int .i64 (((d : Nat) : Int) / ((a : Nat) : Int))]) 0 rz46 rfl rfl rfl rfl rfl rfl rfl rfl ?_
 refine wl_nil ?_
 refine nw 8 255 (fun _ _ => trivial) fun z => ?_
 refine wa_done (by kernel_rfl) ?_
 refine nx_then ?_
 refine gw_ret ?_
 refine nx_retc 0 rfl rz46 rfl rfl rfl fun wx hm => ?_
 refine ⟨?_, hm.g⟩
 unfold lowF
 rw [← hga, Int.natCast_ediv, Int.natCast_ediv]
theorem checkOdds_any (l : List Bk) (A : Option Addr) (n c : Nat) (w : World) (hl : SlT bkEnc 6 133 w A n l) (hok : ∀ b ∈ l, BkOk b) (hn : n ≤ 1000000) :
  Calls Tryz.prog 191 #[.slice A n c] w (GotE w (oddsE l)) := by
 refine gw_enter ⟨11, w, none, []⟩ Tryz.func191 rfl Tryz.ntmps191 rfl (mem0 (X := [SlOld bkEnc 6 133 w.heap.size none A n l]) (allF_cons hl.old allF_nil) (allL_cons SlOld.lasts allL_nil)) ?_
 refine sr_ ?_
 have hlen := hl.len
 refine sg_ rfl (nn_ (sr_ (mv_ rfl ?_)))
 refine wl_callv rfl cb148 rfl rfl (fun wx hm => (formed_any l A n c wx (hm.fact 0 rfl).1 hok hn)) ?_
 refine mv_ rfl (wl_ov (ov_len es110 rfl) rfl ?_)
 refine wl_ov (ov_gtr rfl rfl) rfl ?_
 refine wl_callw rfl cb67 rfl rfl (fun wx hm => (when_any _ _ wx)) ?_
 refine wl_buildSlice (e := 33) (cs := [.int .i64 (formE l), .int .i64 (whenE (decide (9 < ((n : Nat) : Int))) 2)]) rfl (by kernel_rfl) rfl fun g1 => ?_
 refine wl_callw rfl cb66 rfl rfl (fun wx hm => (first_any [formE l, whenE (decide (9 < ((n : Nat) : Int))) 2] _ _ _ wx (hm.blkI 0 rfl) (by simp))) ?_
 refine sg_ rfl (nn_ ?_)
 refine gw_ret ?_
 refine nx_ret1 rfl rfl fun wx hm => ?_
 exact ⟨ret_int (by unfold oddsE; rw [hlen]), hm.g⟩
theorem spread_one (A : Option Addr) (c : Nat) (w : World) (hl : SlT bkEnc 6 133 w A 1 [⟨⟨#[97]⟩, ⟨#[99]⟩, 0, 1, 0, 50⟩]) :
  Calls Tryz.prog 192 #[.slice A 1 c] w (fun e w' => ∃ A2 c2, e = .returned (.tuple #[.slice A2 2 c2, .int .i64 100]) ∧ w.grownBy w' none ∧ w'.ownsRow w.heap.size 3 1 (.slice A2 2 c2) 2 [.int .i64 50, .int .i64 50]) := by
 refine gw_enter ⟨58, w, none, []⟩ Tryz.func192 rfl Tryz.ntmps192 rfl (mem0 (X := [SlOld bkEnc 6 133 w.heap.size none A 1 [⟨⟨#[97]⟩, ⟨#[99]⟩, 0, 1, 0, 50⟩]]) (allF_cons hl.old allF_nil) (allL_cons SlOld.lasts allL_nil)) ?_
 refine sr_ (sg_ rfl (sg_ rfl (nn_ (sr_ ?_))))
 refine wl_buildSlice (e := 3) (cs := [.int .i64 1]) rfl (by kernel_rfl) rfl fun g1 => ?_
 refine sg_ rfl (sg_ rfl (nn_ (gw_seq (sr_ (mv_ rfl (wl_ov (ov_len es110 rfl) rfl ?_))))))
 refine wl_set 13 (v' := .int .i64 1) rfl rfl ?_
 refine mv_ rfl (nn_ (gw_block ?_))
 obtain ⟨b, off, hA, _, _⟩ := hl.get (by omega)
 subst hA
 refine gw_rounds 3 ?_
 refine gr_next ?_
 refine sr_ (wl_ov (ov_lss rfl rfl) rfl ?_)
 refine wl_set 15 (v' := .bool true) rfl (congrArg Value.bool (by decide)) ?_
 refine nn_ (gw_seq (ct_ rfl (gw_skip (nx_then (gw_seq (gw_block (sr_ ?_)))))))
 refine wl_ov (ov_index (j := 0) es110 rfl rfl (by omega)) rfl ?_
 refine wl_ov (ov_elem (vs := [.string ⟨#[97]⟩, .string ⟨#[99]⟩, .int .i64 0, .int .i64 1, .int .i64 0, .int .i64 50]) rz133 rfl (fun _ hm => (hm.fact 0 rfl).1) (rfl : [(⟨⟨#[97]⟩, ⟨#[99]⟩, 0, 1, 0, 50⟩ : Bk)][0]? = some ⟨⟨#[97]⟩, ⟨#[99]⟩, 0, 1, 0, 50⟩) rfl rfl) rfl ?_
 refine wl_alloc zc133 rfl fun g2 => ?_
 refine wl_stores (cs' := [.string ⟨#[97]⟩, .string ⟨#[99]⟩, .int .i64 0, .int .i64 1, .int .i64 0, .int .i64 50]) 0 rz133 rfl rfl rfl rfl rfl rfl rfl rfl ?_
 refine nn_ (sr_ (mv_ rfl (wl_ov (ov_len es22 rfl) rfl ?_)))
 refine wl_set 19 (v' := .int .i64 1) rfl rfl ?_
 refine ad_ rfl rfl ?_
 refine wl_set 20 (v' := .int .i64 2) rfl rfl ?_
 refine wl_makeB (n := 2) (e := 3) (by_ := 8) (z := .int .i64 0) (cs := [.int .i64 0, .int .i64 0]) (by kernel_rfl) (by kernel_rfl) rfl rfl rfl rfl rfl (by kernel_rfl) rfl fun g3 => ?_
 refine sg_ rfl (nn_ (gw_seq (sr_ (mv_ rfl (wl_ov (ov_len es22 rfl) rfl ?_)))))
 refine wl_set 23 (v' := .int .i64 1) rfl rfl ?_
 refine mv_ rfl (nn_ (gw_block ?_))
 refine gw_rounds 3 ?_
 refine gr_next ?_
 refine sr_ (wl_ov (ov_lss rfl rfl) rfl ?_)
 refine wl_set 25 (v' := .bool true) rfl (congrArg Value.bool (by decide)) ?_
 refine nn_ (gw_seq (ct_ rfl (gw_skip (nx_then (gw_seq (gw_block (sr_ (mv_ rfl ?_))))))))
 refine wl_ov (ov_index (j := 0) es22 rfl rfl (by decide)) rfl ?_
 refine lk_ sc3 2 rfl rfl rfl (sg_ rfl (sg_ rfl (nn_ (gw_seq ?_))))
 refine gd (fun wz => Blk wz g2 133 [.string ⟨#[97]⟩, .string ⟨#[99]⟩, .int .i64 0, .int .i64 1, .int .i64 0, .int .i64 50] ∧ Blk wz g1 3 [.int .i64 1] ∧ (SlOld bkEnc 6 133 w.heap.size none (some ⟨b, off, none⟩) 1 [⟨⟨#[97]⟩, ⟨#[99]⟩, 0, 1, 0, 50⟩]) wz ∧ True) mixed (fun _ hm => ⟨hm.bl 1, hm.bl 2, hm.fa 0, trivial⟩) fun z => ?_
 refine wt 0 12 1 rfl z (ov_move rfl) ?_
 refine wt 1 12 3 rfl z (ov_move rfl) ?_
 refine wt 2 12 7 rfl z (ov_index (j := 0) es22 rfl rfl (by decide)) ?_
 refine wt 4 12 23 rfl z (ov_move rfl) ?_
 refine wt 5 12 55 rfl z (ov_field fo133_4 rfl rfl) ?_
 refine wt 6 12 119 rfl z (ov_load sc3 rfl (fun _ hm => hm.1) rfl) ?_
 refine wt 7 12 247 rfl z (ov_sub rfl rfl (by omega) (by omega)) ?_
 refine wa_set 36 (v' := .int .i64 50) rfl rfl ?_
 refine wt 8 12 503 rfl z (ov_mul rfl rfl (by omega) (by omega)) ?_
 refine wa_set 37 (v' := .int .i64 50) rfl rfl ?_
 refine wa1 3 rfl ?_
 refine lk_ sc3 0 rfl rfl rfl (wl_nil ?_)
 refine nw 12 511 (fun _ hm => ⟨hm.bl 1, hm.bl 2, hm.fa 0, trivial⟩) fun z => ?_
 refine wt 9 12 1023 rfl z (ov_add rfl rfl (by omega) (by omega)) ?_
 refine wa_set 38 (v' := .int .i64 50) rfl rfl ?_
 refine wt 10 12 2047 rfl z (ov_index (j := 0) es22 rfl rfl (by decide)) ?_
 refine wa1 11 rfl ?_
 refine wl_store 0 sc3 rfl rfl rfl rfl rfl rfl ?_
 refine wl_nil ?_
 refine nw 12 4095 (fun _ hm => ⟨hm.bl 1, hm.bl 2, hm.fa 0, trivial⟩) fun z => ?_
 refine wa_done (by kernel_rfl) ?_
 refine nx_then ?_
 refine gd (fun wz => Blk wz g2 133 [.string ⟨#[97]⟩, .string ⟨#[99]⟩, .int .i64 0, .int .i64 1, .int .i64 0, .int .i64 50] ∧ Blk wz g1 3 [.int .i64 1] ∧ (SlOld bkEnc 6 133 w.heap.size none (some ⟨b, off, none⟩) 1 [⟨⟨#[97]⟩, ⟨#[99]⟩, 0, 1, 0, 50⟩]) wz ∧ True) mixed (fun _ hm => ⟨hm.bl 1, hm.bl 2, hm.fa 0, trivial⟩) fun z => ?_
 refine wt 0 12 1 rfl z (ov_move rfl) ?_
 refine wt 1 12 3 rfl z (ov_move rfl) ?_
 refine wt 2 12 7 rfl z (ov_add rfl rfl (by omega) (by omega)) ?_
 refine wa_set 42 (v' := .int .i64 1) rfl rfl ?_
 refine wt 3 12 15 rfl z (ov_index (j := 1) es22 rfl rfl (by decide)) ?_
 refine wt 5 12 47 rfl z (ov_move rfl) ?_
 refine wt 6 12 111 rfl z (ov_field fo133_4 rfl rfl) ?_
 refine wt 7 12 239 rfl z (ov_load sc3 rfl (fun _ hm => hm.1) rfl) ?_
 refine wt 8 12 495 rfl z (ov_mul rfl rfl (by omega) (by omega)) ?_
 refine wa_set 48 (v' := .int .i64 50) rfl rfl ?_
 refine wa1 4 rfl ?_
 refine lk_ sc3 0 rfl rfl rfl (wl_nil ?_)
 refine nw 12 511 (fun _ hm => ⟨hm.bl 1, hm.bl 2, hm.fa 0, trivial⟩) fun z => ?_
 refine wt 9 12 1023 rfl z (ov_add rfl rfl (by omega) (by omega)) ?_
 refine wa_set 49 (v' := .int .i64 50) rfl rfl ?_
 refine wt 10 12 2047 rfl z (ov_index (j := 1) es22 rfl rfl (by decide)) ?_
 refine wa1 11 rfl ?_
 refine wl_store 0 sc3 rfl rfl rfl rfl rfl rfl ?_
 refine wl_nil ?_
 refine nw 12 4095 (fun _ hm => ⟨hm.bl 1, hm.bl 2, hm.fa 0, trivial⟩) fun z => ?_
 refine wa_done (by kernel_rfl) ?_
 refine nx_blk_nrm (nx_then (gw_region (ad_ rfl rfl ?_)))
 refine wl_set 51 (v' := .int .i64 1) rfl rfl ?_
 refine mv_ rfl (wl_nil ?_)
 refine nx_next ?_
 refine gr_next ?_
 refine sr_ (wl_ov (ov_lss rfl rfl) rfl ?_)
 refine wl_set 25 (v' := .bool false) rfl (congrArg Value.bool (by decide)) ?_
 refine nn_ (gw_seq (cf_ rfl ?_))
 refine gw_exit ?_
 refine nx_then_exit (nx_then_exit ?_)
 refine nx_blk_here ?_
 refine nx_then (gw_region (mv_ rfl (mv_ rfl ?_)))
 refine wl_ov (ov_mul rfl rfl (by omega) (by omega)) rfl ?_
 refine wl_set 54 (v' := .int .i64 100) rfl rfl ?_
 refine sg_ rfl (sg_ rfl (wl_nil (nx_blk_nrm (nx_then (gw_region (ad_ rfl rfl ?_))))))
 refine wl_set 55 (v' := .int .i64 1) rfl rfl ?_
 refine mv_ rfl (wl_nil ?_)
 refine nx_next ?_
 refine gr_next ?_
 refine sr_ (wl_ov (ov_lss rfl rfl) rfl ?_)
 refine wl_set 15 (v' := .bool false) rfl (congrArg Value.bool (by decide)) ?_
 refine nn_ (gw_seq (cf_ rfl ?_))
 refine gw_exit ?_
 refine nx_then_exit (nx_then_exit ?_)
 refine nx_blk_here ?_
 refine nx_then (sr_ (mv_ rfl (mv_ rfl (sg_ rfl (sg_ rfl (nn_ ?_))))))
 refine gw_ret ?_
 refine nx_ret2 rfl rfl rfl fun wx hm => ?_
 exact ⟨_, 2, rfl, hm.g, hm.rowOf 0 rfl rfl (by decide)⟩
end Go.Proofs.YtdoooppeiphefaaGreatDoor
namespace Go.Proofs.YtdoooppeiphefaaGreatDoor
open Go.RowKit
set_option maxRecDepth 100000 in
theorem same_fraction_neq (x0 : Int) (x1 : Int) (w : World) : (binOp .neq 46 (.agg #[.int .i64 x0, .int .i64 x1]) (.agg #[.int .i64 x0, .int .i64 x1])).run Tryz.prog w = .ok (.bool false) w := by
  have hS : Tryz.prog.underlying 46 = some (.struct (Tryz.prog.fieldsOf 46)) := by kernel_rfl
  have hp : Tryz.prog.stoodInHeld 46 = false := by kernel_rfl
  rw [run_neq_struct, show (10000 : Nat) = 9999 + 1 from rfl, run_equalIn_agg w 9999 46 _ _ hS hp]
  simp only [Program.fieldsOf, Tryz.underlying46]
  have u3 := Tryz.underlying3
  clear hS hp
  go_simp
theorem guard_fraction : Tryz.prog.eqGuardType Tryz.prog.depth 46 = false := by kernel_rfl
theorem equal_fraction_any (l : List Fr) (A1 A2 : Option Addr) (n c1 c2 : Nat) (w : World) (h1 : SlT frEnc 2 46 w A1 n l) (h2 : SlT frEnc 2 46 w A2 n l) (hn : n ≤ 1000000) :
  Calls Tryz.prog 139 #[.slice A1 n c1, .slice A2 n c2] w (fun e w' => e = .returned (.bool true) ∧ w.grownBy w' none) := by
 refine gw_enter ⟨26, w, none, []⟩ Tryz.func139 rfl Tryz.ntmps139 rfl (mem0 (X := [SlOld frEnc 2 46 w.heap.size none A1 n l, SlOld frEnc 2 46 w.heap.size none A2 n l]) (allF_cons h1.old (allF_cons h2.old allF_nil)) (allL_cons SlOld.lasts (allL_cons SlOld.lasts allL_nil))) ?_
 refine sr_ ?_
 have hlen := h1.len
 refine sg_ rfl (nn_ (gw_seq (sr_ (mv_ rfl (wl_ov (ov_len es177 rfl) rfl (mv_ rfl (wl_ov (ov_len es177 rfl) rfl (wl_ov (ov_neq rfl rfl) rfl ?_))))))))
 refine wl_set 10 (v' := .bool false) rfl (congrArg Value.bool (by simp)) ?_
 refine nn_ (cf_ rfl (gw_skip (nx_then (gw_seq (sr_ (mv_ rfl (wl_ov (ov_len es177 rfl) rfl (mv_ rfl (nn_ (gw_block ?_))))))))))
 refine gw_loop (γ := Nat) (fun (k : Nat) => k ≤ n) (fun (k : Nat) => [(0, .slice A1 n c1), (1, .slice A2 n c2), (12, .int .i64 ((n : Nat) : Int)), (13, .int .i64 ((k : Nat) : Int))]) (fun (k : Nat) => fun _ => True) (fun (k : Nat) => []) (fun (k : Nat) => []) (fun (k : Nat) => [SlOld frEnc 2 46 w.heap.size none A1 n l, SlOld frEnc 2 46 w.heap.size none A2 n l]) (fun (k : Nat) => n - k) 0 (Nat.zero_le _) ⟨rfl, rfl, rfl, rfl, trivial⟩ (fun _ hm => hm.pick [] [] [0, 1] rfl rfl) ?_
 intro k hinv
 replace hinv : k ≤ n := hinv
 refine sr_ (wl_ov (ov_lss rfl rfl) rfl (nn_ (gw_seq ?_)))
 refine gw_cond rfl (fun hh => ?_) (fun hh => ?_)
 ·have hk : ((k : Nat) : Int) < ((n : Nat) : Int) := by simpa using hh
  clear hh
  refine gw_skip (nx_then (gw_seq (gw_block (sr_ ?_))))
  obtain ⟨b1, o1, hA, _, _⟩ := h1.get (by omega)
  subst hA
  obtain ⟨b2, o2, hA, _, _⟩ := h2.get (by omega)
  subst hA
  obtain ⟨x, hx⟩ : ∃ x, l[k]? = some x := ⟨_, List.getElem?_eq_getElem (by omega)⟩
  obtain ⟨x0, x1⟩ := x
  refine mv_ rfl (sg_ rfl (nn_ (gw_seq ?_)))
  refine gd (fun wz => (SlOld frEnc 2 46 w.heap.size none (some ⟨b1, o1, none⟩) n l) wz ∧ (SlOld frEnc 2 46 w.heap.size none (some ⟨b2, o2, none⟩) n l) wz ∧ True) mixed (fun _ hm => ⟨hm.fa 0, hm.fa 1, trivial⟩) fun z => ?_
  refine wt 0 9 1 rfl z (ov_move rfl) ?_
  refine wt 1 9 3 rfl z (ov_move rfl) ?_
  refine wt 2 9 7 rfl z (ov_index (j := k) es177 rfl rfl (by omega)) ?_
  refine wt 3 9 15 rfl z (ov_elem (vs := [.int .i64 x0, .int .i64 x1]) rz46 rfl (fun _ hm => (hm.1).1) hx rfl rfl) ?_
  refine wt 4 9 31 rfl z (ov_move rfl) ?_
  refine wt 5 9 63 rfl z (ov_move rfl) ?_
  refine wt 6 9 127 rfl z (ov_index (j := k) es177 rfl rfl (by omega)) ?_
  refine wt 7 9 255 rfl z (ov_elem (vs := [.int .i64 x0, .int .i64 x1]) rz46 rfl (fun _ hm => (hm.2.1).1) hx rfl rfl) ?_
  refine wt 8 9 511 rfl z (ov_bin rfl rfl (cmp_agg guard_fraction (fun wx => same_fraction_neq x0 x1 wx))) ?_
  refine wa_done (by kernel_rfl) ?_
  refine nx_then (cf_ rfl (gw_skip (nx_blk_nrm (nx_then (gw_region (ad_ rfl rfl (mv_ rfl (wl_nil ?_))))))))
  exact nx_round (k + 1) (by omega) (by omega) ⟨rfl, rfl, rfl, (some_int (by omega)), trivial⟩ (fun _ hm => hm.pick [] [] [0, 1] rfl rfl)
 have hk : ¬ (((k : Nat) : Int) < ((n : Nat) : Int)) := by simpa using hh
 clear hh
 refine gw_exit ?_
 refine nx_then_exit (nx_then_exit ?_)
 refine nx_blk_here ?_
 refine nx_then (sr_ (sg_ rfl (nn_ ?_)))
 refine gw_ret ?_
 refine nx_ret1 rfl rfl fun wx hm => ?_
 exact ⟨rfl, hm.g⟩
def inEnc (z : Int) : List Value := [.int .i64 z]
theorem in_len (z : Int) : (inEnc z).length = 1 := rfl
theorem one_ok : ∀ b ∈ [(⟨⟨#[97]⟩, ⟨#[99]⟩, 0, 1, 0, 50⟩ : Bk)], BkOk b := fun b hb => by
  rw [List.mem_singleton.1 hb]; exact ⟨by decide, by decide⟩
theorem one_zero : oddsE [⟨⟨#[97]⟩, ⟨#[99]⟩, 0, 1, 0, 50⟩] = 0 := by decide +kernel
theorem lowF_50 : lowF 50 100 = ⟨1, 2⟩ := by simp [lowF]
theorem bspread_one (A : Option Addr) (c : Nat) (w : World) (hl : SlT bkEnc 6 133 w A 1 [⟨⟨#[97]⟩, ⟨#[99]⟩, 0, 1, 0, 50⟩]) :
  Calls Tryz.prog 93 #[.slice A 1 c] w (fun e w' => ∃ A2 c2, e = .returned (.tuple #[.slice A2 2 c2, .int .i64 0]) ∧ w.grownBy w' none ∧ SlT frEnc 2 46 w' A2 2 [⟨1, 2⟩, ⟨1, 2⟩]) := by
 refine gw_enter ⟨34, w, none, []⟩ Tryz.func93 rfl Tryz.ntmps93 rfl (mem0 (X := [SlOld bkEnc 6 133 w.heap.size none A 1 [⟨⟨#[97]⟩, ⟨#[99]⟩, 0, 1, 0, 50⟩]]) (allF_cons hl.old allF_nil) (allL_cons SlOld.lasts allL_nil)) ?_
 refine sr_ (sg_ rfl (sg_ rfl (nn_ (gw_seq (sr_ (mv_ rfl ?_))))))
 refine wl_callv (v := .int .i64 0) rfl cb191 rfl rfl (fun wx hm => (by rw [← one_zero]; exact checkOdds_any [⟨⟨#[97]⟩, ⟨#[99]⟩, 0, 1, 0, 50⟩] A 1 c wx (hm.fact 0 rfl).1 one_ok (by omega))) ?_
 refine sg_ rfl (nn_ (sr_ (mv_ rfl (wl_ov (ov_neq rfl rfl) rfl ?_))))
 refine wl_set 13 (v' := .bool false) rfl (congrArg Value.bool (by decide)) ?_
 refine nn_ (cf_ rfl (gw_skip (nx_then (sr_ (mv_ rfl ?_)))))
 refine wl_callgo (γ := Option Addr × Nat) (val := (fun g => .tuple #[.slice g.1 2 g.2, .int .i64 100])) (φ := (fun g => True)) (fun g => ⟨.slice g.1 2 g.2, 3, 1, 2, [.int .i64 50, .int .i64 50]⟩) rfl cb192 rfl rfl (fun wx hm => (spread_one A c wx (hm.fact 0 rfl).1).mono fun _ _ ⟨A2, c2, he, hg, ho⟩ => ⟨(A2, c2), he, trivial, ho, hg⟩) ?_
 rintro ⟨A2, c2⟩ hphi
 dsimp only at hphi ⊢
 clear hphi
 refine wl_look (R := ∃ g, A2 = some ⟨g, 0, none⟩) (fun wx hm => own_addr (hm.ownI 0 rfl) (by omega)) ?_
 rintro ⟨b2, rfl⟩
 refine wl_nilOwn 46 2 ?_
 refine mv_ rfl (wl_ov (ov_extract rfl rfl) rfl (wl_ov (ov_extract rfl rfl) rfl (sg_ rfl (sg_ rfl (nn_ (sr_ (sg_ rfl (nn_ (gw_seq (gw_seq ?_))))))))))
 refine gw_region (mv_ rfl (wl_ov (ov_len es22 rfl) rfl ?_))
 refine wl_set 21 (v' := .int .i64 2) rfl rfl ?_
 refine mv_ rfl (nn_ (gw_block ?_))
 refine gw_rounds 4 ?_
 refine gr_next ?_
 refine sr_ (wl_ov (ov_lss rfl rfl) rfl ?_)
 refine wl_set 23 (v' := .bool true) rfl (congrArg Value.bool (by decide)) ?_
 refine nn_ (gw_seq (ct_ rfl (gw_skip (nx_then (gw_seq (gw_block (sr_ ?_)))))))
 refine wl_ov (ov_index (j := 0) es22 rfl rfl (by decide)) rfl ?_
 refine wl_ov (ov_elem1 (k := 0) (v := .int .i64 50) sc3 rfl (fun _ hm => (SlT.ofOwn (l := [50, 50]) in_len (hm.ownI 1 rfl) rfl)) (rfl : [(50 : Int), 50][0]? = some 50) rfl rfl) rfl ?_
 refine sg_ rfl (nn_ (gw_region (mv_ rfl (mv_ rfl (mv_ rfl ?_)))))
 refine wl_callv (v := .agg #[.int .i64 1, .int .i64 2]) rfl cb71 rfl rfl (fun wx hm => (by have h := lowest_any 50 100 wx (by omega) (by omega) (by omega); rw [lowF_50] at h; exact h)) ?_
 refine wl_buildSlice (e := 46) (cs := [.int .i64 1, .int .i64 2]) rfl (by kernel_rfl) rfl fun g1 => ?_
 refine wl_append (news := [.int .i64 1, .int .i64 2]) 0 0 ap177 rfl rfl rfl rfl rfl rfl rfl (by decide) (by decide) rfl rfl fun v1 hv1 => ?_
 refine sg_ rfl (wl_nil (nx_blk_nrm (nx_then (gw_region (ad_ rfl rfl ?_)))))
 refine wl_set 32 (v' := .int .i64 1) rfl rfl ?_
 refine mv_ rfl (wl_nil ?_)
 refine nx_next ?_
 refine gr_next ?_
 refine sr_ (wl_ov (ov_lss rfl rfl) rfl ?_)
 refine wl_set 23 (v' := .bool true) rfl (congrArg Value.bool (by decide)) ?_
 refine nn_ (gw_seq (ct_ rfl (gw_skip (nx_then (gw_seq (gw_block (sr_ ?_)))))))
 refine wl_ov (ov_index (j := 1) es22 rfl rfl (by decide)) rfl ?_
 refine wl_ov (ov_elem1 (k := 0) (v := .int .i64 50) sc3 rfl (fun _ hm => (SlT.ofOwn (l := [50, 50]) in_len (hm.ownI 1 rfl) rfl)) (rfl : [(50 : Int), 50][1]? = some 50) rfl rfl) rfl ?_
 refine sg_ rfl (nn_ (gw_region (mv_ rfl (mv_ rfl (mv_ rfl ?_)))))
 refine wl_callv (v := .agg #[.int .i64 1, .int .i64 2]) rfl cb71 rfl rfl (fun wx hm => (by have h := lowest_any 50 100 wx (by omega) (by omega) (by omega); rw [lowF_50] at h; exact h)) ?_
 refine wl_buildSlice (e := 46) (cs := [.int .i64 1, .int .i64 2]) rfl (by kernel_rfl) rfl fun g2 => ?_
 refine wl_append (news := [.int .i64 1, .int .i64 2]) 0 0 ap177 rfl rfl rfl rfl rfl rfl rfl (by decide) (by decide) rfl rfl fun v2 hv2 => ?_
 refine sg_ rfl (wl_nil (nx_blk_nrm (nx_then (gw_region (ad_ rfl rfl ?_)))))
 refine wl_set 32 (v' := .int .i64 2) rfl rfl ?_
 refine mv_ rfl (wl_nil ?_)
 refine nx_next ?_
 refine gr_next ?_
 refine sr_ (wl_ov (ov_lss rfl rfl) rfl ?_)
 refine wl_set 23 (v' := .bool false) rfl (congrArg Value.bool (by decide)) ?_
 refine nn_ (gw_seq (cf_ rfl ?_))
 refine gw_exit ?_
 refine nx_then_exit (nx_then_exit ?_)
 refine nx_blk_here ?_
 refine nx_then (sr_ (mv_ rfl (sg_ rfl (sg_ rfl (nn_ ?_)))))
 refine gw_ret ?_
 refine nx_look (R := ∃ A cc, v2 = .slice A (0 + 1 + 1) cc) (fun wx hm => own_slice (hm.ownI 0 rfl)) ?_
 rintro ⟨A3, c3, rfl⟩
 refine nx_ret2 rfl rfl rfl fun wx hm => ?_
 exact ⟨A3, c3, rfl, hm.g, SlT.ofOwn (l := [⟨1, 2⟩, ⟨1, 2⟩]) fr_len (hm.ownI 0 rfl) rfl⟩
theorem booked_any (w : World) : Calls Tryz.prog 48 #[] w (fun e w' => e = .returned (.bool true) ∧ w.grownBy w' none) := by
 refine gw_enter ⟨19, w, none, [46]⟩ Tryz.func48 rfl Tryz.ntmps48 rfl (mem0 (X := []) allF_nil allL_nil) ?_
 refine sr_ (sg_ rfl (nn_ (sr_ ?_)))
 refine wl_ov (ov_build (cs := [.int .i64 0, .int .i64 1]) rfl (by kernel_rfl)) rfl ?_
 refine wl_ov (ov_build (cs := [.string ⟨#[97]⟩, .string ⟨#[99]⟩, .int .i64 0, .int .i64 1, .int .i64 0, .int .i64 50]) rfl (by kernel_rfl)) rfl ?_
 refine wl_buildSlice (e := 133) (cs := [.string ⟨#[97]⟩, .string ⟨#[99]⟩, .int .i64 0, .int .i64 1, .int .i64 0, .int .i64 50]) rfl (by kernel_rfl) rfl fun g1 => ?_
 refine wl_callx (γ := Option Addr × Nat) (val := (fun g => .tuple #[.slice g.1 2 g.2, .int .i64 0])) (φ := (fun g => True)) (Y := (fun g => fun wy => SlT frEnc 2 46 wy g.1 2 [⟨1, 2⟩, ⟨1, 2⟩])) rfl cb93 rfl rfl (fun wx hm => (bspread_one _ _ wx (SlT.ofBlk (l := [⟨⟨#[97]⟩, ⟨#[99]⟩, 0, 1, 0, 50⟩]) bk_len (hm.blkI 0 rfl))).mono fun _ _ ⟨A2, c2, he, hg, hs⟩ => ⟨(A2, c2), he, trivial, hg, hs⟩) (fun _ => SlT.lasts2 rfl) ?_
 rintro ⟨A2, c2⟩ hphi
 dsimp only
 clear hphi
 refine mv_ rfl (wl_ov (ov_extract rfl rfl) rfl (wl_ov (ov_extract rfl rfl) rfl (sg_ rfl (sg_ rfl (nn_ (sr_ (mv_ rfl (wl_ov (ov_eql rfl rfl) rfl ?_))))))))
 refine wl_set 11 (v' := .bool true) rfl (congrArg Value.bool (by decide)) ?_
 refine mv_ rfl (wl_guard_on rfl rfl rfl (mv_ rfl (wl_guard_on rfl rfl rfl ?_)))
 refine wl_ov (ov_build (cs := [.int .i64 1, .int .i64 2]) rfl (by kernel_rfl)) rfl ?_
 refine wl_guard_on rfl rfl rfl ?_
 refine wl_ov (ov_build (cs := [.int .i64 1, .int .i64 2]) rfl (by kernel_rfl)) rfl ?_
 refine wl_guard_on rfl rfl rfl ?_
 refine wl_buildSlice (e := 46) (cs := [.int .i64 1, .int .i64 2, .int .i64 1, .int .i64 2]) rfl (by kernel_rfl) rfl fun g2 => ?_
 refine wl_guard_on rfl rfl rfl ?_
 refine wl_callv rfl cb139 rfl rfl (fun wx hm => (equal_fraction_any [⟨1, 2⟩, ⟨1, 2⟩] A2 _ 2 c2 2 wx (hm.fact 0 rfl) (SlT.ofBlk (l := [⟨1, 2⟩, ⟨1, 2⟩]) fr_len (hm.blkI 0 rfl)) (by omega))) ?_
 refine pt_ rfl rfl (sg_ rfl (nn_ ?_))
 refine gw_ret ?_
 refine nx_ret1 rfl rfl fun wx hm => ?_
 exact ⟨rfl, hm.g⟩
end Go.Proofs.YtdoooppeiphefaaGreatDoor
namespace Go.Proofs.YtdoooppeiphefaaGreatDoor
open Go.RowKit
theorem txt_law {w w1 wx : World} {sb : Nat} (h : TxtW w) (hg1 : w.grownBy w1 none) (hsb : w.heap.size ≤ sb) (hg : w1.grownBy wx (some sb)) : TxtO w1.heap.size (some sb) wx := by
  have ne : ∀ k, isG k → ¬ some sb = some k := fun k hk e => by
    have e2 : sb = k := by injection e
    have := h.lt hk
    omega
  have h1 := h.same fun k hk => hg1.block k (h.lt hk) (fun e => by cases e)
  exact ⟨h1.same fun k hk => hg.block k (h1.lt hk) (fun e => ne k hk e.symm), fun k hk => ⟨h1.lt hk, ne k hk⟩⟩
theorem TxtO.heap {N : Nat} {row : Option Nat} {w : World} (h : TxtO N row w) : TxtO w.heap.size row w := ⟨h.1, fun k hk => ⟨h.1.lt hk, (h.2 k hk).2⟩⟩
theorem rdL_len {t : ByteArray} (ht : t.size ≤ 1000000) : (rdL t).length ≤ t.size := by
  have h := (lnsR_all ht).2
  unfold rdL
  split
  · exact Nat.zero_le _
  · split
    · exact Nat.zero_le _
    · split
      · exact h
      · exact Nat.zero_le _
theorem bookTexts_walk (a0 : Option Addr) (len0 cap0 : Nat) (z0 : List Int) (w : World) (hR : RowIn w a0 len0 cap0 z0) (htx : TxtW w) :
  Calls Tryz.prog 8 #[.slice a0 len0 cap0] w fun e w' => e = .returned (.bool true) ∧ Below w.heap.size w w' := by
 refine gw_enter ⟨78, w, none, []⟩ Tryz.func8 rfl Tryz.ntmps8 rfl (mem0 (X := []) allF_nil allL_nil) ?_
 refine sr_ (sg_ rfl (nn_ (sr_ (mv_ rfl ?_))))
 refine wl_ov (ov_build (cs := [.slice a0 len0 cap0, .int .i64 0]) rfl (by kernel_rfl)) rfl ?_
 refine wl_box rfl rfl rfl fun sb => ?_
 refine sg_ rfl (nn_ (sr_ (mv_ rfl (mv_ rfl ?_))))
 refine wl_law [133] hR 0 rfl fun w1 B hg1 hsb => ?_
 refine wl_also (Y := TxtO w1.heap.size (some sb)) (TxtO.lasts) (fun wx hm => txt_law htx hg1 hsb hm.g) ?_
 refine wl_got (γ := Int) (val := fun v => .int .i64 v) (φ := fun v => 0 ≤ v ∧ (v ≤ 5 ∨ v = 0)) rfl cb10 rfl rfl rfl rfl (fun wx hm => (range_any _ _ wx B sb _ hm.k (by omega) (by omega) (by omega) (by omega) (by omega))) fun v1 hv1 => ?_
 obtain ⟨q, hq⟩ : ∃ q : Nat, v1 = (q : Int) := ⟨v1.toNat, by omega⟩
 have hq5 : q ≤ 5 := by omega
 subst hq
 refine wl_calls (γ := Option Addr × Nat × Nat × List Bk) (val := (fun g => .slice g.1 g.2.1 g.2.2.1)) (φ := (fun g => (∀ x ∈ g.2.2.2, BkB x) ∧ g.2.1 ≤ 9 ∧ g.2.2.2.length = g.2.1)) (Y := (fun g => fun wy => SlT bkEnc 6 133 wy g.1 g.2.1 g.2.2.2)) (m' := 0 + 1 + 1000) rfl cb52 rfl rfl rfl rfl (fun wx hm => (gbookings_ownB q wx B sb _ hm.k (by omega) (by omega)).mono fun _ _ ⟨A, n, c, l, he, ho, hl, hB, hn, hnc, hS, hg⟩ => ⟨(A, n, c, l), he, ⟨hB, hn, hl⟩, hS, hg, SlT.ofOwn bk_len ho hl⟩) (fun _ => SlT.lasts2 rfl) ?_
 rintro ⟨A, n, c, l⟩ hbb
 dsimp only at hbb ⊢
 obtain ⟨hB, hn9, hln⟩ := hbb
 by_cases h0 : formE l = 0
 ·refine sg_ rfl (nn_ (sr_ (mv_ rfl ?_)))
  refine wl_callv rfl cb53 rfl rfl (fun wx hm => (bookText_right l A n c wx (hm.fact 1 rfl).1 (hm.fact 0 rfl) hB (by omega) h0)) ?_
  refine mv_ rfl (wl_ov (ov_extract rfl rfl) rfl (wl_ov (ov_extract rfl rfl) rfl (sg_ rfl (sg_ rfl (nn_ (gw_seq (sr_ (mv_ rfl ?_))))))))
  refine wl_callv (v := .int .i64 0) rfl cb54 rfl rfl (fun wx hm => (by have h := bookingForm_any l A n c wx (hm.fact 0 rfl) (fun x hx => bkB_ok (hB x hx)) (by omega); rw [h0] at h; exact h)) ?_
  refine sg_ rfl (nn_ (sr_ (mv_ rfl (mv_ rfl (wl_ov (ov_neq rfl rfl) rfl ?_)))))
  refine wl_set 29 (v' := .bool false) rfl (congrArg Value.bool (by decide)) ?_
  refine mv_ rfl (wl_guard_on rfl rfl rfl (mv_ rfl (wl_guard_on rfl rfl rfl (wl_ov (ov_eql rfl rfl) rfl ?_))))
  refine wl_set 32 (v' := .bool true) rfl (congrArg Value.bool (by decide)) ?_
  refine wl_guard_on rfl rfl rfl (mv_ rfl (wl_guard_on rfl rfl rfl (mv_ rfl (wl_guard_on rfl rfl rfl (mv_ rfl (wl_guard_on rfl rfl rfl ?_))))))
  refine wl_callv rfl cb55 rfl rfl (fun wx hm => (bookingLines_any l A n c wx (hm.fact 1 rfl).1 (hm.fact 0 rfl) hB (by omega))) ?_
  refine wl_guard_on rfl rfl rfl (wl_ov (ov_sneq rfl rfl) rfl ?_)
  refine wl_set 37 (v' := .bool false) rfl (congrArg Value.bool (by rw [beq_self_eq_true]; rfl)) ?_
  refine wl_guard_on rfl rfl rfl (pt_ rfl rfl (pf_ rfl rfl (mv_ rfl (wl_guard_on rfl rfl rfl (mv_ rfl (wl_guard_on rfl rfl rfl (wl_ov (ov_neq rfl rfl) rfl ?_)))))))
  refine wl_set 42 (v' := .bool false) rfl (congrArg Value.bool (by decide)) ?_
  refine wl_guard_on rfl rfl rfl (mv_ rfl (goff rfl rfl rfl (goff rfl rfl rfl (wl_guard_on rfl rfl rfl (pf_ rfl rfl (pf_ rfl rfl (nn_ (cf_ rfl (gw_skip (nx_then (sr_ ?_)))))))))))
  refine mv_ rfl ?_
  refine wl_calls (γ := ByteArray) (val := (fun g => .string g)) (φ := (fun g => g.size ≤ 6000)) (Y := (fun g => fun _ => True)) (m' := 0 + 1 + 1000 + 2000) rfl cb56 rfl rfl rfl rfl (fun wx hm => (gbookingText_any wx B sb _ hm.k (by omega) (hm.fact 1 rfl).heap).mono fun _ _ ⟨u, he, hu, hS, hg⟩ => ⟨u, he, hu, hS, hg, trivial⟩) (fun _ => Lasts2.true_) ?_
  rintro u hu
  have hrl := rdL_len (t := u) (by omega)
  refine sg_ rfl (nn_ (sr_ (mv_ rfl ?_)))
  refine wl_callx (γ := Option Addr × Nat × Nat) (val := (fun g => .tuple #[.slice g.1 g.2.1 g.2.2, .int .i64 (rdN u), .int .i64 (rdE u)])) (φ := (fun g => g.2.1 = (rdL u).length)) (Y := (fun g => fun wy => SlT bkEnc 6 133 wy g.1 g.2.1 (rdL u))) rfl cb57 rfl rfl (fun wx hm => (read_any u wx (hm.fact 2 rfl).1 (by omega)).mono fun _ _ ⟨A, n, c, he, hsl, hg⟩ => ⟨(A, n, c), he, hsl.len.symm, hg, hsl⟩) (fun _ => SlT.lasts2 rfl) ?_
  rintro ⟨A2, n2, c2⟩ hk2
  dsimp only at hk2 ⊢
  subst hk2
  refine mv_ rfl (wl_ov (ov_extract rfl rfl) rfl (wl_ov (ov_extract rfl rfl) rfl (wl_ov (ov_extract rfl rfl) rfl (sg_ rfl (sg_ rfl (sg_ rfl (nn_ (sr_ (mv_ rfl ?_)))))))))
  refine wl_callx (γ := Option Addr × Nat × Nat) (val := (fun g => .tuple #[.slice g.1 g.2.1 g.2.2, .int .i64 (rdN u), .int .i64 (rdE u)])) (φ := (fun g => g.2.1 = (rdL u).length)) (Y := (fun g => fun wy => SlT bkEnc 6 133 wy g.1 g.2.1 (rdL u))) rfl cb58 rfl rfl (fun wx hm => (bookingsRead_any u wx (hm.fact 3 rfl).1 (by omega)).mono fun _ _ ⟨A, n, c, he, hsl, hg⟩ => ⟨(A, n, c), he, hsl.len.symm, hg, hsl⟩) (fun _ => SlT.lasts2 rfl) ?_
  rintro ⟨A3, n3, c3⟩ hk3
  dsimp only at hk3 ⊢
  subst hk3
  refine mv_ rfl (wl_ov (ov_extract rfl rfl) rfl (wl_ov (ov_extract rfl rfl) rfl (wl_ov (ov_extract rfl rfl) rfl (sg_ rfl (sg_ rfl (sg_ rfl (nn_ (sr_ (mv_ rfl (mv_ rfl (wl_ov (ov_eql rfl rfl) rfl ?_)))))))))))
  refine wl_set 64 (v' := .bool true) rfl (congrArg Value.bool (by simp)) ?_
  refine mv_ rfl (wl_guard_on rfl rfl rfl (mv_ rfl (wl_guard_on rfl rfl rfl (mv_ rfl (wl_guard_on rfl rfl rfl (wl_ov (ov_eql rfl rfl) rfl ?_))))))
  refine wl_set 68 (v' := .bool true) rfl (congrArg Value.bool (by simp)) ?_
  refine pt_ rfl rfl (mv_ rfl (wl_guard_on rfl rfl rfl (mv_ rfl (wl_guard_on rfl rfl rfl (mv_ rfl (wl_guard_on rfl rfl rfl ?_))))))
  refine wl_callv rfl cb59 rfl rfl (fun wx hm => (equal_booking_any (rdL u) A2 A3 _ c2 c3 wx (hm.fact 1 rfl) (hm.fact 0 rfl) (by omega))) ?_
  refine pt_ rfl rfl (mv_ rfl (wl_guard_on rfl rfl rfl ?_))
  refine wl_callv rfl cb48 rfl rfl (fun wx hm => (booked_any wx)) ?_
  refine pt_ rfl rfl (sg_ rfl (nn_ ?_))
  refine gw_ret ?_
  refine nx_ret1 rfl rfl fun wx hm => ?_
  exact ⟨rfl, law_end hg1 hsb hm.g⟩
 obtain ⟨FE, hFE⟩ : ∃ z, z = formE l := ⟨_, rfl⟩
 have hF0 : ¬ FE = 0 := by rw [hFE]; exact h0
 refine sg_ rfl (nn_ (sr_ (mv_ rfl ?_)))
 refine wl_callv (v := .tuple #[.string ⟨#[]⟩, .int .i64 FE]) rfl cb53 rfl rfl (fun wx hm => (by rw [hFE]; exact bookText_bad l A n c wx (hm.fact 1 rfl).1 (hm.fact 0 rfl) hB (by omega) h0)) ?_
 refine mv_ rfl (wl_ov (ov_extract rfl rfl) rfl (wl_ov (ov_extract rfl rfl) rfl (sg_ rfl (sg_ rfl (nn_ (gw_seq (sr_ (mv_ rfl ?_))))))))
 refine wl_callv (v := .int .i64 FE) rfl cb54 rfl rfl (fun wx hm => (by have h := bookingForm_any l A n c wx (hm.fact 0 rfl) (fun x hx => bkB_ok (hB x hx)) (by omega); rw [← hFE] at h; exact h)) ?_
 refine sg_ rfl (nn_ (sr_ (mv_ rfl (mv_ rfl (wl_ov (ov_neq rfl rfl) rfl ?_)))))
 refine wl_set 29 (v' := .bool false) rfl (congrArg Value.bool (by simp)) ?_
 refine mv_ rfl (wl_guard_on rfl rfl rfl (mv_ rfl (wl_guard_on rfl rfl rfl (wl_ov (ov_eql rfl rfl) rfl ?_))))
 refine wl_set 32 (v' := .bool false) rfl (congrArg Value.bool (decide_eq_false hF0)) ?_
 refine wl_guard_on rfl rfl rfl (mv_ rfl (goff rfl rfl rfl (goff rfl rfl rfl (goff rfl rfl rfl (goff rfl rfl rfl (wl_guard_on rfl rfl rfl (pf_ rfl rfl (pf_ rfl rfl (mv_ rfl (wl_guard_on rfl rfl rfl (mv_ rfl (wl_guard_on rfl rfl rfl (wl_ov (ov_neq rfl rfl) rfl ?_)))))))))))))
 refine wl_set 42 (v' := .bool true) rfl (congrArg Value.bool (by rw [decide_eq_false hF0]; rfl)) ?_
 refine wl_guard_on rfl rfl rfl (mv_ rfl (wl_guard_on rfl rfl rfl (mv_ rfl (wl_guard_on rfl rfl rfl (wl_ov (ov_sneq rfl rfl) rfl ?_)))))
 refine wl_set 45 (v' := .bool false) rfl (congrArg Value.bool (by decide +kernel)) ?_
 refine wl_guard_on rfl rfl rfl (pt_ rfl rfl (pf_ rfl rfl (nn_ (cf_ rfl (gw_skip (nx_then (sr_ (mv_ rfl ?_))))))))
 refine wl_calls (γ := ByteArray) (val := (fun g => .string g)) (φ := (fun g => g.size ≤ 6000)) (Y := (fun g => fun _ => True)) (m' := 0 + 1 + 1000 + 2000) rfl cb56 rfl rfl rfl rfl (fun wx hm => (gbookingText_any wx B sb _ hm.k (by omega) (hm.fact 1 rfl).heap).mono fun _ _ ⟨u, he, hu, hS, hg⟩ => ⟨u, he, hu, hS, hg, trivial⟩) (fun _ => Lasts2.true_) ?_
 rintro u hu
 have hrl := rdL_len (t := u) (by omega)
 refine sg_ rfl (nn_ (sr_ (mv_ rfl ?_)))
 refine wl_callx (γ := Option Addr × Nat × Nat) (val := (fun g => .tuple #[.slice g.1 g.2.1 g.2.2, .int .i64 (rdN u), .int .i64 (rdE u)])) (φ := (fun g => g.2.1 = (rdL u).length)) (Y := (fun g => fun wy => SlT bkEnc 6 133 wy g.1 g.2.1 (rdL u))) rfl cb57 rfl rfl (fun wx hm => (read_any u wx (hm.fact 2 rfl).1 (by omega)).mono fun _ _ ⟨A, n, c, he, hsl, hg⟩ => ⟨(A, n, c), he, hsl.len.symm, hg, hsl⟩) (fun _ => SlT.lasts2 rfl) ?_
 rintro ⟨A2, n2, c2⟩ hk2
 dsimp only at hk2 ⊢
 subst hk2
 refine mv_ rfl (wl_ov (ov_extract rfl rfl) rfl (wl_ov (ov_extract rfl rfl) rfl (wl_ov (ov_extract rfl rfl) rfl (sg_ rfl (sg_ rfl (sg_ rfl (nn_ (sr_ (mv_ rfl ?_)))))))))
 refine wl_callx (γ := Option Addr × Nat × Nat) (val := (fun g => .tuple #[.slice g.1 g.2.1 g.2.2, .int .i64 (rdN u), .int .i64 (rdE u)])) (φ := (fun g => g.2.1 = (rdL u).length)) (Y := (fun g => fun wy => SlT bkEnc 6 133 wy g.1 g.2.1 (rdL u))) rfl cb58 rfl rfl (fun wx hm => (bookingsRead_any u wx (hm.fact 3 rfl).1 (by omega)).mono fun _ _ ⟨A, n, c, he, hsl, hg⟩ => ⟨(A, n, c), he, hsl.len.symm, hg, hsl⟩) (fun _ => SlT.lasts2 rfl) ?_
 rintro ⟨A3, n3, c3⟩ hk3
 dsimp only at hk3 ⊢
 subst hk3
 refine mv_ rfl (wl_ov (ov_extract rfl rfl) rfl (wl_ov (ov_extract rfl rfl) rfl (wl_ov (ov_extract rfl rfl) rfl (sg_ rfl (sg_ rfl (sg_ rfl (nn_ (sr_ (mv_ rfl (mv_ rfl (wl_ov (ov_eql rfl rfl) rfl ?_)))))))))))
 refine wl_set 64 (v' := .bool true) rfl (congrArg Value.bool (by simp)) ?_
 refine mv_ rfl (wl_guard_on rfl rfl rfl (mv_ rfl (wl_guard_on rfl rfl rfl (mv_ rfl (wl_guard_on rfl rfl rfl (wl_ov (ov_eql rfl rfl) rfl ?_))))))
 refine wl_set 68 (v' := .bool true) rfl (congrArg Value.bool (by simp)) ?_
 refine pt_ rfl rfl (mv_ rfl (wl_guard_on rfl rfl rfl (mv_ rfl (wl_guard_on rfl rfl rfl (mv_ rfl (wl_guard_on rfl rfl rfl ?_))))))
 refine wl_callv rfl cb59 rfl rfl (fun wx hm => (equal_booking_any (rdL u) A2 A3 _ c2 c3 wx (hm.fact 1 rfl) (hm.fact 0 rfl) (by omega))) ?_
 refine pt_ rfl rfl (mv_ rfl (wl_guard_on rfl rfl rfl ?_))
 refine wl_callv rfl cb48 rfl rfl (fun wx hm => (booked_any wx)) ?_
 refine pt_ rfl rfl (sg_ rfl (nn_ ?_))
 refine gw_ret ?_
 refine nx_ret1 rfl rfl fun wx hm => ?_
 exact ⟨rfl, law_end hg1 hsb hm.g⟩
end Go.Proofs.YtdoooppeiphefaaGreatDoor
namespace Go.Proofs.YtdoooppeiphefaaGreatDoor
open Go.RowKit Go.ChangeShapes
theorem var_at {P : Program} {w : World} {n : String} {g : Nat} {cs : Array Value} (hg : P.globalNamed n = some g) (h : w.var? P n = some cs) : ∃ T f, w.heap[g]? = some (.cells cs T f) := by
  unfold World.var? at h
  rw [hg] at h
  simp only [Option.bind_some] at h
  split at h
  · rename_i c T f he
    cases h
    exact ⟨T, f, he⟩
  · cases h
theorem star_err : "*" ++ "errors.errorString" = "*errors.errorString" := by decide
theorem row_err (u : TypeId) (h : Tryz.prog.typeName? 3 u = some "*errors.errorString") : u = 459 :=
  typeName_ptr_named (nm := "errors.errorString") (by rw [star_err]; kernel_rfl) (by kernel_rfl) (by decide) u (by rw [star_err]; exact h)
theorem txtW_of {l : List (String × DataW Unit)} {W : World} (x1 x2 : List UInt8) (hL : laidMet Tryz.prog l W) (hS : W.ShapedOpen Tryz.prog)
    (h1 : l.filter (fun x => x.1 == "internal/strconv.uint64pow10") = [("internal/strconv.uint64pow10", Lib.tabData .u64 Lib.pow10Tab)])
    (h2 : l.filter (fun x => x.1 == "strconv.ErrSyntax") = [("strconv.ErrSyntax", .iface "*errors.errorString" (.ptr (.agg [.lit (.string x1)])))])
    (h3 : l.filter (fun x => x.1 == "strconv.ErrRange") = [("strconv.ErrRange", .iface "*errors.errorString" (.ptr (.agg [.lit (.string x2)])))]) : TxtW W := by
  have c1 := hL.filter (fun x => x.1 == "internal/strconv.uint64pow10")
  have c2 := hL.filter (fun x => x.1 == "strconv.ErrSyntax")
  have c3 := hL.filter (fun x => x.1 == "strconv.ErrRange")
  rw [h1] at c1
  rw [h2] at c2
  rw [h3] at c3
  refine ⟨?_, ?_, ?_, ?_⟩
  · have hg : Tryz.prog.globalNamed "internal/strconv.uint64pow10" = some 1 := by kernel_rfl
    have h := Lib.tabIs_of_head (t := 432) (e := 341) hg (by kernel_rfl) Tryz.underlying432 Tryz.underlying341 (by kernel_rfl) (by kernel_rfl) c1
    exact var_at hg h
  · obtain ⟨m, hm⟩ := cell_of_shapedOpen_int (P := Tryz.prog) (g := 0) (t := 3) (zero := #[.int .i64 0]) hS (of_decide_eq_true (by kernel_rfl)) (by kernel_rfl) rfl (by kernel_rfl) (by kernel_rfl) Tryz.underlying3
    unfold World.cell? at hm
    split at hm
    · rename_i c T f he
      exact ⟨c, T, f, m, he, by simpa using hm⟩
    · cases hm
  · have hg : Tryz.prog.globalNamed "strconv.ErrSyntax" = some 2 := by kernel_rfl
    obtain ⟨a, s, hv, _⟩ := laid_sentinel c2 hg (by kernel_rfl) Tryz.underlying237 row_err Tryz.underlying459 Tryz.underlying461 rfl rfl Tryz.underlying9 (by kernel_rfl) (by kernel_rfl)
    obtain ⟨T, f, h⟩ := var_at hg hv
    exact ⟨T, f, _, _, h⟩
  · have hg : Tryz.prog.globalNamed "strconv.ErrRange" = some 3 := by kernel_rfl
    obtain ⟨a, s, hv, _⟩ := laid_sentinel c3 hg (by kernel_rfl) Tryz.underlying237 row_err Tryz.underlying459 Tryz.underlying461 rfl rfl Tryz.underlying9 (by kernel_rfl) (by kernel_rfl)
    obtain ⟨T, f, h⟩ := var_at hg hv
    exact ⟨T, f, _, _, h⟩
end Go.Proofs.YtdoooppeiphefaaGreatDoor
namespace Go.Proofs.YtdoooppeiphefaaGreatDoor
open Go.RowKit
theorem bookTexts_law {l : List (String × DataW Unit)} (x1 x2 : List UInt8) (a0 : Option Addr) (len0 cap0 : Nat) (z0 : List Int) (W : World) (hR : RowIn W a0 len0 cap0 z0) (hL : laidMet Tryz.prog l W) (hS : W.ShapedOpen Tryz.prog)
    (h1 : l.filter (fun x => x.1 == "internal/strconv.uint64pow10") = [("internal/strconv.uint64pow10", Lib.tabData .u64 Lib.pow10Tab)])
    (h2 : l.filter (fun x => x.1 == "strconv.ErrSyntax") = [("strconv.ErrSyntax", .iface "*errors.errorString" (.ptr (.agg [.lit (.string x1)])))])
    (h3 : l.filter (fun x => x.1 == "strconv.ErrRange") = [("strconv.ErrRange", .iface "*errors.errorString" (.ptr (.agg [.lit (.string x2)])))]) :
    Calls Tryz.prog 8 #[.slice a0 len0 cap0] W fun e w' => e = .returned (.bool true) ∧ Below W.heap.size W w' :=
  bookTexts_walk a0 len0 cap0 z0 W hR (txtW_of x1 x2 hL hS h1 h2 h3)
end Go.Proofs.YtdoooppeiphefaaGreatDoor
