/- The rate of a class on a day; seasons of a hire. -/
import Derived.Test.YtcggbojhalbkjaaTa
import Derived.Test.YtcggbojhalbkjaaSu
import Derived.Test.YtcggbojhalbkjaaTw
namespace Go.Proofs.Ytcggbojhalbkjaa
open Go.RowKit

def RtPos (r : Rt) : Prop := 0 ≤ r.to_ ∧ r.to_ ≤ 4001
theorem rt_pos {l : List Rt} (h : ratesE l = 0) : ∀ r ∈ l, RtPos r := fun r hr => by
  have h1 := ((ratesE_ok h).2.2 r hr).2.1
  exact ⟨by omega, h1.2.2⟩
theorem rateP_yes {c : ByteArray} {d : Int} {r : Rt} (h : (r.cls.toList == c.toList) = true) : inB d r.fr (r.to_ - 1) = rateP c d r := by unfold rateP; rw [h]; rfl
theorem rateP_no {c : ByteArray} {d : Int} {r : Rt} (h : (r.cls.toList == c.toList) = false) : false = rateP c d r := by unfold rateP; rw [h]; rfl

set_option maxRecDepth 100000 in
set_option maxHeartbeats 400000 in
theorem ratePred (cl : ByteArray) (fr tt ho dd we wk : Int) (gc gd : Nat) (c : ByteArray) (d : Int) (w : World) (hc : Blk w gc 9 [.string c]) (hd : Blk w gd 3 [.int .i64 d]) (h0 : 0 ≤ tt) (h1 : tt ≤ 4001) :
    Calls Try.prog 51 #[.agg #[.string cl, .int .i64 fr, .int .i64 tt, .int .i64 ho, .int .i64 dd, .int .i64 we, .int .i64 wk], .pointer (some ⟨gc, 0, none⟩), .pointer (some ⟨gd, 0, none⟩)] w (fun e w' => e = .returned (.bool (rateP c d ⟨cl, fr, tt, ho, dd, we, wk⟩)) ∧ w.grownBy w' none) := by
  refine gw_enter ⟨18, w, none, []⟩ Try.func51 rfl Try.ntmps51 rfl (mem0 (X := [BlkOld w.heap.size none gc 9 [.string c], BlkOld w.heap.size none gd 3 [.int .i64 d]]) (allF_cons hc.old (allF_cons hd.old allF_nil)) (allL_cons BlkOld.lasts (allL_cons BlkOld.lasts allL_nil))) ?_
  refine gw_seq ?_
  refine gw_region ?_
  refine wl_box rfl rfl rfl fun g1 => ?_
  refine wl_ov (ov_assign rfl) rfl ?_
  refine wl_nil ?_
  refine nx_then ?_
  refine gw_seq ?_
  refine gw_region ?_
  refine wl_ov (ov_field fo47_0 rfl rfl) rfl ?_
  refine wl_ov (ov_load sc9 rfl (fun _ hm => hm.blkI 0 rfl) rfl) rfl ?_
  refine wl_ov (ov_load (v := .string c) sc9 rfl (fun _ hm => (hm.fact 0 rfl).2) rfl) rfl ?_
  refine wl_ov (ov_seql rfl rfl) rfl ?_
  refine wl_ov (ov_move rfl) rfl ?_
  rcases Bool.eq_false_or_eq_true (cl.toList == c.toList) with h | h
  · refine wl_set 9 rfl (congrArg Value.bool h) ?_
    refine wl_guard_on rfl rfl rfl ?_
    refine wl_ov (ov_load (v := .int .i64 d) sc3 rfl (fun _ hm => (hm.fact 1 rfl).2) rfl) rfl ?_
    refine wl_guard_on rfl rfl rfl ?_
    refine wl_ov (ov_field fo47_1 rfl rfl) rfl ?_
    refine wl_guard_on rfl rfl rfl ?_
    refine wl_ov (ov_load sc3 rfl (fun _ hm => hm.blkI 0 rfl) rfl) rfl ?_
    refine wl_guard_on rfl rfl rfl ?_
    refine wl_ov (ov_field fo47_2 rfl rfl) rfl ?_
    refine wl_guard_on rfl rfl rfl ?_
    refine wl_ov (ov_load sc3 rfl (fun _ hm => hm.blkI 0 rfl) rfl) rfl ?_
    refine wl_guard_on rfl rfl rfl ?_
    refine wl_ov (ov_sub rfl rfl (by omega) (by omega)) rfl ?_
    refine wl_guard_on rfl rfl rfl ?_
    refine wl_callw rfl cb20 rfl rfl (fun wx hm => (in_any _ _ _ wx)) ?_
    refine wl_ov (ov_pick_t rfl rfl) rfl ?_
    refine wl_ov (ov_assign rfl) rfl ?_
    refine wl_nil ?_
    refine nx_then ?_
    refine gw_ret ?_
    refine nx_ret1 rfl rfl fun wx hm => ?_
    exact ⟨by rw [← rateP_yes (r := ⟨cl, fr, tt, ho, dd, we, wk⟩) h], hm.g⟩
  · refine wl_set 9 rfl (congrArg Value.bool h) ?_
    refine wl_guard_off rfl rfl rfl (by decide) rfl ?_
    refine wl_guard_off rfl rfl rfl (by decide) rfl ?_
    refine wl_guard_off rfl rfl rfl (by decide) rfl ?_
    refine wl_guard_off rfl rfl rfl (by decide) rfl ?_
    refine wl_guard_off rfl rfl rfl (by decide) rfl ?_
    refine wl_guard_off rfl rfl rfl (by decide) rfl ?_
    refine wl_guard_off rfl rfl rfl (by decide) rfl ?_
    refine wl_ov (ov_pick_f rfl rfl) rfl ?_
    refine wl_ov (ov_assign rfl) rfl ?_
    refine wl_nil ?_
    refine nx_then ?_
    refine gw_ret ?_
    refine nx_ret1 rfl rfl fun wx hm => ?_
    exact ⟨by rw [← rateP_no (r := ⟨cl, fr, tt, ho, dd, we, wk⟩) h], hm.g⟩

set_option maxRecDepth 100000 in
set_option maxHeartbeats 400000 in
theorem index_rate (l : List Rt) (A : Option Addr) (n c0 : Nat) (gc gd : Nat) (c : ByteArray) (d : Int) (w : World) (hl : SlT rtEnc 7 47 w A n l) (hn : n ≤ 1000000) (hpos : ∀ r ∈ l, RtPos r) (hc : Blk w gc 9 [.string c]) (hd : Blk w gd 3 [.int .i64 d]) :
    Calls Try.prog 50 #[.slice A n c0, .func (.func 51) #[] #[.pointer (some ⟨gc, 0, none⟩), .pointer (some ⟨gd, 0, none⟩)]] w (GotE w (ixP (rateP c d) l 0)) := by
  refine gw_enter ⟨19, w, none, []⟩ Try.func50 rfl Try.ntmps50 rfl (mem0 (X := [SlOld rtEnc 7 47 w.heap.size none A n l, BlkOld w.heap.size none gc 9 [.string c], BlkOld w.heap.size none gd 3 [.int .i64 d]]) (allF_cons hl.old (allF_cons hc.old (allF_cons hd.old allF_nil))) (allL_cons SlOld.lasts (allL_cons BlkOld.lasts (allL_cons BlkOld.lasts allL_nil)))) ?_
  refine gw_seq ?_
  refine gw_region ?_
  have hlen := hl.len
  refine wl_ov (ov_assign rfl) rfl ?_
  refine wl_nil ?_
  refine nx_then ?_
  refine gw_seq ?_
  refine gw_seq ?_
  refine gw_region ?_
  refine wl_ov (ov_move rfl) rfl ?_
  refine wl_ov (ov_len es26 rfl) rfl ?_
  refine wl_ov (ov_move rfl) rfl ?_
  refine wl_nil ?_
  refine nx_then ?_
  refine gw_block ?_
  refine gw_loop (γ := Nat) (fun (k : Nat) => k ≤ n ∧ ixP (rateP c d) l 0 = ixP (rateP c d) (l.drop k) k) (fun (k : Nat) => [(0, .slice A n c0), (1, .func (.func 51) #[] #[.pointer (some ⟨gc, 0, none⟩), .pointer (some ⟨gd, 0, none⟩)]), (7, .int .i64 ((n : Nat) : Int)), (8, .int .i64 ((k : Nat) : Int))]) (fun (k : Nat) => fun _ => True) (fun (k : Nat) => []) (fun (k : Nat) => []) (fun (k : Nat) => [SlOld rtEnc 7 47 w.heap.size none A n l, BlkOld w.heap.size none gc 9 [.string c], BlkOld w.heap.size none gd 3 [.int .i64 d]]) (fun (k : Nat) => n - k) 0 ⟨Nat.zero_le _, rfl⟩ ⟨rfl, rfl, rfl, rfl, trivial⟩ (fun _ hm => hm.pick [] [] [0, 1, 2] rfl rfl) ?_
  intro k hinv
  replace hinv : k ≤ n ∧ ixP (rateP c d) l 0 = ixP (rateP c d) (l.drop k) k := hinv
  refine gw_seq ?_
  refine gw_region ?_
  refine wl_ov (ov_lss rfl rfl) rfl ?_
  refine wl_nil ?_
  refine nx_then ?_
  refine gw_seq ?_
  refine gw_cond rfl (fun hh => ?_) (fun hh => ?_)
  · have hk : ((k : Nat) : Int) < ((n : Nat) : Int) := by simpa using hh
    clear hh
    refine gw_skip ?_
    refine nx_then ?_
    refine gw_seq ?_
    refine gw_block ?_
    refine gw_seq ?_
    refine gw_region ?_
    obtain ⟨b, off, hA, _, _⟩ := hl.get (by omega)
    subst hA
    obtain ⟨x, hx⟩ : ∃ x, l[k]? = some x := ⟨_, List.getElem?_eq_getElem (by omega)⟩
    obtain ⟨cl, fr, tt, ho, dd, we, wk⟩ := x
    have hat := ixP_at (p := rateP c d) hx
    obtain ⟨hp0, hp1⟩ := hpos _ (List.mem_of_getElem? hx)
    refine wl_ov (ov_move rfl) rfl ?_
    refine wl_ov (ov_assign rfl) rfl ?_
    refine wl_nil ?_
    refine nx_then ?_
    refine gw_seq ?_
    refine gw_region ?_
    refine wl_ov (ov_move rfl) rfl ?_
    refine wl_ov (ov_move rfl) rfl ?_
    refine wl_ov (ov_move rfl) rfl ?_
    refine wl_ov (ov_index (j := k) es26 rfl rfl (by omega)) rfl ?_
    refine wl_ov (ov_elem (vs := [.string cl, .int .i64 fr, .int .i64 tt, .int .i64 ho, .int .i64 dd, .int .i64 we, .int .i64 wk]) rz47 rfl (fun _ hm => (hm.fact 0 rfl).1) hx rfl rfl) rfl ?_
    refine wl_callv rfl cb51 rfl rfl (fun wx hm => (ratePred cl fr tt ho dd we wk gc gd c d wx (hm.fact 1 rfl).2 (hm.fact 2 rfl).2 hp0 hp1)) ?_
    refine wl_nil ?_
    refine nx_then ?_
    refine gw_cond rfl (fun hh => ?_) (fun hh => ?_)
    · have hq : (rateP c d ⟨cl, fr, tt, ho, dd, we, wk⟩) = true := by simpa using hh
      clear hh
      refine gw_seq ?_
      refine gw_region ?_
      refine wl_ov (ov_move rfl) rfl ?_
      refine wl_ov (ov_assign rfl) rfl ?_
      refine wl_nil ?_
      refine nx_then ?_
      refine gw_ret ?_
      refine nx_blk_ret ?_
      refine nx_then_ret ?_
      refine nx_then_ret ?_
      refine nx_blk_ret ?_
      refine nx_then_ret ?_
      refine nx_ret1 rfl rfl fun wx hm => ?_
      exact ⟨ret_int (by rw [hinv.2, hat, if_pos hq]), hm.g⟩
    · have hq : (rateP c d ⟨cl, fr, tt, ho, dd, we, wk⟩) = false := by simpa using hh
      clear hh
      refine gw_skip ?_
      refine nx_blk_nrm ?_
      refine nx_then ?_
      refine gw_region ?_
      refine wl_ov (ov_add rfl rfl (by omega) (by omega)) rfl ?_
      refine wl_ov (ov_move rfl) rfl ?_
      refine wl_nil ?_
      exact nx_round (k + 1) ⟨by omega, by rw [hinv.2, hat, if_neg (by rw [hq]; decide)]⟩ (by omega) ⟨rfl, rfl, rfl, (some_int (by omega)), trivial⟩ (fun _ hm => hm.pick [] [] [0, 1, 2] rfl rfl)
  · have hk : ¬ (((k : Nat) : Int) < ((n : Nat) : Int)) := by simpa using hh
    clear hh
    refine gw_exit ?_
    refine nx_then_exit ?_
    refine nx_then_exit ?_
    refine nx_blk_here ?_
    refine nx_then ?_
    refine gw_seq ?_
    refine gw_region ?_
    refine wl_ov (ov_assign rfl) rfl ?_
    refine wl_set 4 (v' := .int .i64 (-1)) rfl rfl ?_
    refine wl_nil ?_
    refine nx_then ?_
    refine gw_ret ?_
    refine nx_ret1 rfl rfl fun wx hm => ?_
    exact ⟨ret_int (by rw [hinv.2, List.drop_eq_nil_of_le (by omega)]; rfl), hm.g⟩

set_option maxRecDepth 100000 in
set_option maxHeartbeats 400000 in
theorem rateOn_any (l : List Rt) (A : Option Addr) (n c0 : Nat) (c : ByteArray) (d : Int) (w : World) (hl : SlT rtEnc 7 47 w A n l) (hn : n ≤ 1000000) (hpos : ∀ r ∈ l, RtPos r) :
    Calls Try.prog 34 #[.slice A n c0, .string c, .int .i64 d] w (GotE w (ixP (rateP c d) l 0)) := by
  refine gw_enter ⟨10, w, none, []⟩ Try.func34 rfl Try.ntmps34 rfl (mem0 (X := [SlOld rtEnc 7 47 w.heap.size none A n l]) (allF_cons hl.old allF_nil) (allL_cons SlOld.lasts allL_nil)) ?_
  refine gw_seq ?_
  refine gw_region ?_
  refine wl_box rfl rfl rfl fun g1 => ?_
  refine wl_box rfl rfl rfl fun g2 => ?_
  refine wl_ov (ov_assign rfl) rfl ?_
  refine wl_nil ?_
  refine nx_then ?_
  refine gw_seq ?_
  refine gw_region ?_
  refine wl_ov (ov_move rfl) rfl ?_
  refine wl_ov (ov_makeFunc rfl rfl) rfl ?_
  refine wl_callv rfl cb50 rfl rfl (fun wx hm => (index_rate l A n c0 _ _ c d wx (hm.fact 0 rfl).1 hn hpos (hm.blkI 1 rfl) (hm.blkI 0 rfl))) ?_
  refine wl_ov (ov_assign rfl) rfl ?_
  refine wl_nil ?_
  refine nx_then ?_
  refine gw_ret ?_
  refine nx_ret1 rfl rfl fun wx hm => ?_
  exact ⟨rfl, hm.g⟩

/-- RateOn: its error and its rate. -/
def rateOnE (l : List Rt) (c : ByteArray) (d : Int) : Int := if firstE [ratesE l, whenE (!keyB c) 5, whenE (!inB d 0 4000) 1] = 0 then (if ixP (rateP c d) l 0 < 0 then 8 else 0) else firstE [ratesE l, whenE (!keyB c) 5, whenE (!inB d 0 4000) 1]
def rateOnV (l : List Rt) (c : ByteArray) (d : Int) : Rt := if firstE [ratesE l, whenE (!keyB c) 5, whenE (!inB d 0 4000) 1] = 0 then rateV l c d else rateZ
theorem daysV_le {a b : Int} (h0 : 0 ≤ a) (h1 : a ≤ b) (h2 : b ≤ 5761439) : 0 ≤ daysV a b ∧ daysV a b ≤ 4002 := by unfold daysV; omega
theorem timeE_okT {a b : Int} (h : timeE a b = 0) : 0 ≤ a ∧ a < b ∧ b ≤ 5761439 := by
  unfold timeE at h
  split at h
  · cases h
  · omega
theorem timeE_days {a b : Int} (h : timeE a b = 0) : 1 ≤ daysV a b ∧ daysV a b ≤ 120 := by
  obtain ⟨h0, h1, h2⟩ := timeE_okT h
  unfold timeE at h
  rw [if_neg (by omega)] at h
  have h3 : ¬ 120 < daysV a b := fun e => by rw [decide_eq_true e] at h; exact absurd h (by decide)
  unfold daysV at h3 ⊢; omega
set_option maxRecDepth 100000 in
set_option maxHeartbeats 400000 in
theorem tdays_any (fr tt : Int) (w : World) :
    Calls Try.prog 22 #[.agg #[.int .i64 fr, .int .i64 tt]] w (fun e w' => e = .returned (.tuple #[.int .i64 (if timeE fr tt = 0 then daysV fr tt else 0), .int .i64 (timeE fr tt)]) ∧ w.grownBy w' none) := by
  refine gw_enter ⟨12, w, none, []⟩ Try.func22 rfl Try.ntmps22 rfl (mem0 (X := []) allF_nil allL_nil) ?_
  refine gw_seq ?_
  refine gw_region ?_
  refine wl_box rfl rfl rfl fun g1 => ?_
  refine wl_ov (ov_assign rfl) rfl ?_
  refine wl_ov (ov_assign rfl) rfl ?_
  refine wl_nil ?_
  refine nx_then ?_
  refine gw_seq ?_
  refine gw_seq ?_
  refine gw_region ?_
  refine wl_ov (ov_loads rz30 rfl (fun _ hm => hm.blkI 0 rfl) rfl rfl) rfl ?_
  refine wl_callv rfl cb32 rfl rfl (fun wx hm => (time_any _ _ wx)) ?_
  refine wl_ov (ov_assign rfl) rfl ?_
  refine wl_nil ?_
  refine nx_then ?_
  refine gw_seq ?_
  refine gw_region ?_
  refine wl_ov (ov_move rfl) rfl ?_
  refine wl_ov (ov_neq rfl rfl) rfl ?_
  refine wl_nil ?_
  refine nx_then ?_
  refine gw_cond rfl (fun hh => ?_) (fun hh => ?_)
  · have h1 : ¬ (timeE fr tt = 0) := by simpa using hh
    clear hh
    refine gw_seq ?_
    refine gw_region ?_
    refine wl_ov (ov_move rfl) rfl ?_
    refine wl_ov (ov_assign rfl) rfl ?_
    refine wl_ov (ov_assign rfl) rfl ?_
    refine wl_nil ?_
    refine nx_then ?_
    refine gw_ret ?_
    refine nx_then_ret ?_
    refine nx_ret2 rfl rfl rfl fun wx hm => ?_
    exact ⟨by rw [if_neg h1], hm.g⟩
  · have h1 : timeE fr tt = 0 := by simpa using hh
    clear hh
    refine gw_skip ?_
    refine nx_then ?_
    refine gw_seq ?_
    refine gw_region ?_
    obtain ⟨h2, h3, h4⟩ := timeE_okT h1
    refine wl_ov (ov_loads rz30 rfl (fun _ hm => hm.blkI 0 rfl) rfl rfl) rfl ?_
    refine wl_callv rfl cb33 rfl rfl (fun wx hm => (days_any _ _ wx (by omega) (by omega) (by omega))) ?_
    refine wl_ov (ov_assign rfl) rfl ?_
    refine wl_ov (ov_assign rfl) rfl ?_
    refine wl_nil ?_
    refine nx_then ?_
    refine gw_ret ?_
    refine nx_ret2 rfl rfl rfl fun wx hm => ?_
    exact ⟨by rw [if_pos h1, h1], hm.g⟩

end Go.Proofs.Ytcggbojhalbkjaa
