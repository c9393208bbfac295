/- Stretch; the walk of the law DivisionsStretch. -/
import Derived.Test.YtmpomocahgcebaaDoorUd
namespace Go.Proofs.YtmpomocahgcebaaDoor
open Go.RowKit

/-- Half of what can be is left out again and again. -/
def strF (P : Int → Bool) : Nat → Int → Int → Int
  | 0, lo, _ => lo
  | n + 1, lo, hi => if lo < hi then (if P ((lo + hi + 1) / 2) = true then strF P n ((lo + hi + 1) / 2) hi else strF P n lo ((lo + hi + 1) / 2 - 1)) else lo
theorem strF_end {P : Int → Bool} {n : Nat} {lo hi : Int} (h : ¬ lo < hi) : strF P n lo hi = lo := by
  cases n with
  | zero => rfl
  | succ n => unfold strF; rw [if_neg h]
theorem strF_yes {P : Int → Bool} {n : Nat} {lo hi : Int} (h : lo < hi) (hp : P ((lo + hi + 1) / 2) = true) : strF P (n + 1) lo hi = strF P n ((lo + hi + 1) / 2) hi := by rw [strF, if_pos h, if_pos hp]
theorem strF_no {P : Int → Bool} {n : Nat} {lo hi : Int} (h : lo < hi) (hp : P ((lo + hi + 1) / 2) = false) : strF P (n + 1) lo hi = strF P n lo ((lo + hi + 1) / 2 - 1) := by rw [strF, if_pos h, if_neg (by rw [hp]; decide)]
open Classical in
/-- A hire till then has a division that costs no more. -/
noncomputable def strP (l : List Rt) (c : ByteArray) (fr cost : Int) (mid : Int) : Bool := decide (∃ ps, Best (prH l c fr mid) 0 (daysN fr mid) ps ∧ pcSum ps ≤ cost)
open Classical in
theorem strP_yes {l : List Rt} {c : ByteArray} {fr cost mid : Int} {ps : List Pc} (h : Best (prH l c fr mid) 0 (daysN fr mid) ps) : strP l c fr cost mid = decide (pcSum ps ≤ cost) := by
  unfold strP
  by_cases h1 : pcSum ps ≤ cost
  · rw [decide_eq_true h1]; exact decide_eq_true ⟨ps, h, h1⟩
  · rw [decide_eq_false h1]; exact decide_eq_false fun ⟨qs, g, h2⟩ => h1 (best_one g h ▸ h2)
open Classical in
theorem strP_no {l : List Rt} {c : ByteArray} {fr cost mid : Int} (h : ∀ qs, ¬ Chain (prH l c fr mid) 0 (daysN fr mid) qs) : strP l c fr cost mid = false := decide_eq_false fun ⟨qs, g, _⟩ => h qs g.1
noncomputable def strW (l : List Rt) (c : ByteArray) (fr tt cost : Int) : Int := strF (strP l c fr cost) (min (fr + 172800) 5761439 - tt).toNat tt (min (fr + 172800) 5761439)
theorem mid_time {fr tt mid : Int} (h : timeE fr tt = 0) (h1 : tt ≤ mid) (h2 : mid ≤ min (fr + 172800) 5761439) : timeE fr mid = 0 := by
  obtain ⟨h3, h4, h5, _⟩ := timeE_ok h
  unfold timeE
  rw [if_neg (by omega)]
  have : ¬ 120 < daysV fr mid := by unfold daysV; omega
  rw [decide_eq_false this]; rfl
theorem top_bound {fr tt : Int} (h : timeE fr tt = 0) : tt ≤ min (fr + 172800) 5761439 := by
  obtain ⟨h3, h4, h5, h6⟩ := timeE_ok h
  unfold daysV at h6
  omega
theorem pcSum_take {ps : List Pc} {k : Nat} {p : Pc} (h : ps[k]? = some p) : pcSum (ps.take (k + 1)) = pcSum (ps.take k) + p.cents := by
  obtain ⟨hk, rfl⟩ := List.getElem?_eq_some_iff.1 h
  rw [List.take_add_one, List.getElem?_eq_getElem hk, pcSum_append]
  simp [pcSum]
theorem take_bound {ps : List Pc} (h : ∀ p ∈ ps, 0 ≤ p.cents ∧ p.cents ≤ 24000000) : ∀ k, 0 ≤ pcSum (ps.take k) ∧ pcSum (ps.take k) ≤ 24000000 * (k : Int) := by
  induction ps with
  | nil => intro k; simp [pcSum]; omega
  | cons q r ih =>
    intro k
    cases k with
    | zero => simp [pcSum]
    | succ k =>
      have h1 := h q (List.mem_cons_self ..)
      have h2 := ih (fun p hp => h p (List.mem_cons_of_mem _ hp)) k
      simp only [List.take_succ_cons, pcSum]
      omega
theorem chain_cents {pr : Int → Nat → Int → Option Int} (hb : ∀ k i m c, pr k i m = some c → 0 ≤ c ∧ c ≤ 24000000) : ∀ {ps : List Pc} {i j : Nat}, Chain pr i j ps → ∀ p ∈ ps, 0 ≤ p.cents ∧ p.cents ≤ 24000000
  | [], _, _, _, p, h => by cases h
  | q :: r, i, j, h, p, hp => by
    rcases List.mem_cons.1 hp with rfl | hp
    · exact hb _ _ _ _ h.1.2.2.2.2
    · exact chain_cents hb h.2 p hp
theorem pr_bound {l : List Rt} {c : ByteArray} {fr tt : Int} (hr0 : ratesE l = 0) (ht : timeE fr tt = 0) : ∀ k i m v, prH l c fr tt k i m = some v → 0 ≤ v ∧ v ≤ 24000000 := price_all (rate_ok hr0) (fun i hi => by rw [seasons_len] at hi; exact begV_end ht i hi)

set_option maxRecDepth 100000 in
set_option maxHeartbeats 1000000 in
theorem centsOf_any (l : List Rt) (A : Option Addr) (n c0 : Nat) (c : ByteArray) (fr tt : Int) (w : World) (hl : SlT rtEnc 7 61 w A n l) (hn : n ≤ 1000000) (hr0 : ratesE l = 0) (ht : timeE fr tt = 0) :
    Calls Tryd.prog 117 #[.slice A n c0, .string c, .agg #[.int .i64 fr, .int .i64 tt]] w (fun e w' => ∃ (qs : List Pc) (ok : Bool), e = .returned (.tuple #[.int .i64 (pcSum qs), .bool ok]) ∧ RefIs l c fr tt ok qs ∧ w.grownBy w' none) := by
  refine gw_enter ⟨33, w, none, []⟩ Tryd.func117 rfl Tryd.ntmps117 rfl (mem0 (X := [SlOld rtEnc 7 61 w.heap.size none A n l]) (allF_cons hl.old allF_nil) (allL_cons SlOld.lasts allL_nil)) ?_
  refine gw_seq ?_
  refine gw_region ?_
  refine wl_box rfl rfl rfl fun g1 => ?_
  refine wl_ov (ov_assign rfl) rfl ?_
  refine wl_ov (ov_assign rfl) rfl ?_
  refine wl_nil ?_
  refine nx_then ?_
  refine gw_seq ?_
  refine gw_region ?_
  refine wl_ov (ov_move rfl) rfl ?_
  refine wl_ov (ov_move rfl) rfl ?_
  refine wl_ov (ov_loads rz56 rfl (fun _ hm => hm.blkI 0 rfl) rfl rfl) rfl ?_
  refine wl_callgo (γ := Option Addr × Nat × Nat × List Pc × Bool) (val := (fun (g : Option Addr × Nat × Nat × List Pc × Bool) => .tuple #[.slice g.1 g.2.1 g.2.2.1, .bool g.2.2.2.2])) (φ := (fun (g : Option Addr × Nat × Nat × List Pc × Bool) => RefIs l c fr tt g.2.2.2.2 g.2.2.2.1 ∧ g.2.2.2.1.length = g.2.1)) (fun (g : Option Addr × Nat × Nat × List Pc × Bool) => ⟨.slice g.1 g.2.1 g.2.2.1, 79, 3, g.2.1, g.2.2.2.1.flatMap pcEnc⟩) rfl cb43 rfl rfl (fun wx hm => (divideOf_any l A n c0 c fr tt wx (hm.fact 0 rfl).1 hn hr0 ht).mono fun _ _ ⟨A2, n2, c2, ps, ok, he, hg, ho, hrf, hl2, _⟩ => ⟨(A2, n2, c2, ps, ok), he, ⟨hrf, hl2⟩, ho, hg⟩) ?_
  rintro ⟨A4, n4, c4, qs, ok⟩ hrf
  dsimp only at hrf ⊢
  obtain ⟨hrf, hq4⟩ := hrf
  have hct : ∀ p ∈ qs, 0 ≤ p.cents ∧ p.cents ≤ 24000000 := by
    rcases hrf with ⟨_, h⟩ | ⟨_, h, _⟩
    · exact chain_cents (pr_bound hr0 ht) h.1
    · rw [h]; exact fun _ h => by cases h
  have hn4 : n4 ≤ 120 := by
    have hD := timeE_days ht
    rcases hrf with ⟨_, h⟩ | ⟨_, h, _⟩
    · have h2 := chain_le h.1; unfold daysN at h2; omega
    · rw [h] at hq4; simp at hq4; omega
  refine wl_ov (ov_move rfl) rfl ?_
  refine wl_ov (ov_extract rfl rfl) rfl ?_
  refine wl_ov (ov_extract rfl rfl) rfl ?_
  refine wl_ov (ov_assign rfl) rfl ?_
  refine wl_ov (ov_assign rfl) rfl ?_
  refine wl_nil ?_
  refine nx_then ?_
  refine gw_seq ?_
  refine gw_region ?_
  refine wl_ov (ov_assign rfl) rfl ?_
  refine wl_nil ?_
  refine nx_then ?_
  refine gw_seq ?_
  refine gw_seq ?_
  refine gw_region ?_
  refine wl_ov (ov_move rfl) rfl ?_
  refine wl_ov (ov_len es72 rfl) rfl ?_
  refine wl_ov (ov_move rfl) rfl ?_
  refine wl_nil ?_
  refine nx_then ?_
  refine gw_block ?_
  refine gw_loop (γ := Nat) (fun (k : Nat) => k ≤ n4) (fun (k : Nat) => [(6, .int .i64 0), (7, .bool false), (9, .bool ok), (10, .int .i64 (pcSum (qs.take k))), (20, .slice A4 n4 c4), (21, .int .i64 ((n4 : Nat) : Int)), (22, .int .i64 ((k : Nat) : Int))]) (fun (k : Nat) => fun _ => True) (fun (k : Nat) => [(g1, 56, [.int .i64 fr, .int .i64 tt])]) (fun (k : Nat) => [⟨.slice A4 n4 c4, 79, 3, n4, qs.flatMap pcEnc⟩]) (fun (k : Nat) => [SlOld rtEnc 7 61 w.heap.size none A n l]) (fun (k : Nat) => n4 - k) 0 (Nat.zero_le _) ⟨rfl, rfl, rfl, rfl, rfl, rfl, rfl, trivial⟩ (fun _ hm => hm.pick [0] [0] [0] rfl rfl) ?_
  intro k hinv
  replace hinv : k ≤ n4 := hinv
  refine gw_seq ?_
  refine gw_region ?_
  refine wl_ov (ov_lss rfl rfl) rfl ?_
  refine wl_nil ?_
  refine nx_then ?_
  refine gw_seq ?_
  refine gw_cond rfl (fun hh => ?_) (fun hh => ?_)
  · have hk : ((k : Nat) : Int) < ((n4 : Nat) : Int) := by simpa using hh
    clear hh
    refine gw_skip ?_
    refine nx_then ?_
    refine gw_seq ?_
    refine gw_block ?_
    refine gw_seq ?_
    refine gw_region ?_
    refine wl_look (R := ∃ g, A4 = some ⟨g, 0, none⟩) (fun wx hm => own_addr (hm.ownI 0 rfl) (by omega)) ?_
    rintro ⟨bo, rfl⟩
    obtain ⟨x, hx⟩ : ∃ x, qs[k]? = some x := ⟨_, List.getElem?_eq_getElem (by omega)⟩
    obtain ⟨x0, x1, x2⟩ := x
    have htb := take_bound hct k
    have hc1 := hct _ (List.mem_of_getElem? hx)
    dsimp only at hc1
    refine wl_ov (ov_index (j := k) es72 rfl rfl (by omega)) rfl ?_
    refine wl_ov (ov_elem (vs := [.int .i64 x0, .int .i64 x1, .int .i64 x2]) rz79 rfl (fun _ hm => (SlT.ofOwn pc_len (hm.ownI 0 rfl) hq4)) hx rfl rfl) rfl ?_
    refine wl_alloc zc79 rfl fun g2 => ?_
    refine wl_stores (cs' := [.int .i64 x0, .int .i64 x1, .int .i64 x2]) 0 rz79 rfl rfl rfl rfl rfl rfl rfl rfl ?_
    refine wl_nil ?_
    refine nx_then ?_
    refine gw_region ?_
    refine wl_ov (ov_move rfl) rfl ?_
    refine wl_ov (ov_field fo79_2 rfl rfl) rfl ?_
    refine wl_ov (ov_load sc3 rfl (fun _ hm => hm.blkI 0 rfl) rfl) rfl ?_
    refine wl_ov (ov_add rfl rfl (by omega) (by omega)) rfl ?_
    refine wl_ov (ov_assign rfl) rfl ?_
    refine wl_nil ?_
    refine nx_blk_nrm ?_
    refine nx_then ?_
    refine gw_region ?_
    refine wl_ov (ov_add rfl rfl (by omega) (by omega)) rfl ?_
    refine wl_ov (ov_move rfl) rfl ?_
    refine wl_nil ?_
    exact nx_round (k + 1) (by omega) (by omega) ⟨rfl, rfl, rfl, (some_int (pcSum_take hx).symm), rfl, rfl, (some_int (by omega)), trivial⟩ (fun _ hm => hm.pick [1] [0] [0] rfl rfl)
  · have hk : ¬ (((k : Nat) : Int) < ((n4 : Nat) : Int)) := by simpa using hh
    clear hh
    refine gw_exit ?_
    refine nx_then_exit ?_
    refine nx_then_exit ?_
    refine nx_blk_here ?_
    refine nx_then ?_
    refine gw_seq ?_
    refine gw_region ?_
    have hkn : k = n4 := by omega
    subst hkn
    refine wl_ov (ov_move rfl) rfl ?_
    refine wl_ov (ov_move rfl) rfl ?_
    refine wl_ov (ov_assign rfl) rfl ?_
    refine wl_ov (ov_assign rfl) rfl ?_
    refine wl_nil ?_
    refine nx_then ?_
    refine gw_ret ?_
    refine nx_ret2 rfl rfl rfl fun wx hm => ?_
    exact ⟨qs, ok, by rw [List.take_of_length_le (by omega)], hrf, hm.g⟩

set_option maxRecDepth 100000 in
set_option maxHeartbeats 1000000 in
theorem stretchOf_any (l : List Rt) (A : Option Addr) (n c0 : Nat) (c : ByteArray) (fr tt : Int) (w : World) (hl : SlT rtEnc 7 61 w A n l) (hn : n ≤ 1000000) (ps : List Pc) (hr0 : ratesE l = 0) (ht : timeE fr tt = 0) (hps : Best (prH l c fr tt) 0 (daysN fr tt) ps) :
    Calls Tryd.prog 46 #[.slice A n c0, .string c, .agg #[.int .i64 fr, .int .i64 tt]] w (GotE w (strW l c fr tt (pcSum ps))) := by
  refine gw_enter ⟨55, w, none, []⟩ Tryd.func46 rfl Tryd.ntmps46 rfl (mem0 (X := [SlOld rtEnc 7 61 w.heap.size none A n l]) (allF_cons hl.old allF_nil) (allL_cons SlOld.lasts allL_nil)) ?_
  refine gw_seq ?_
  refine gw_region ?_
  obtain ⟨h0, hlt, htt, _⟩ := timeE_ok ht
  have htop := top_bound ht
  refine wl_box rfl rfl rfl fun g1 => ?_
  refine wl_ov (ov_assign rfl) rfl ?_
  refine wl_nil ?_
  refine nx_then ?_
  refine gw_seq ?_
  refine gw_region ?_
  refine wl_ov (ov_move rfl) rfl ?_
  refine wl_ov (ov_move rfl) rfl ?_
  refine wl_ov (ov_loads rz56 rfl (fun _ hm => hm.blkI 0 rfl) rfl rfl) rfl ?_
  refine wl_callx (γ := List Pc × Bool) (val := (fun (g : List Pc × Bool) => .tuple #[.int .i64 (pcSum g.1), .bool g.2])) (φ := (fun (g : List Pc × Bool) => RefIs l c fr tt g.2 g.1)) (Y := (fun (g : List Pc × Bool) => fun _ => True)) rfl cb117 rfl rfl (fun wx hm => (centsOf_any l A n c0 c fr tt wx (hm.fact 0 rfl).1 hn hr0 ht).mono fun _ _ ⟨qs, ok, he, hrf, hg⟩ => ⟨(qs, ok), he, hrf, hg, trivial⟩) (fun _ => Lasts2.true_) ?_
  rintro ⟨qs, ok⟩ hrf
  dsimp only at hrf ⊢
  obtain rfl : qs = ps := by
    rcases hrf with ⟨_, h⟩ | ⟨_, _, h⟩
    · exact best_one h hps
    · exact absurd hps.1 (h _)
  obtain ⟨cost, hcost⟩ : ∃ v, v = pcSum qs := ⟨_, rfl⟩
  rw [← hcost]
  refine wl_ov (ov_move rfl) rfl ?_
  refine wl_ov (ov_extract rfl rfl) rfl ?_
  refine wl_ov (ov_extract rfl rfl) rfl ?_
  refine wl_ov (ov_assign rfl) rfl ?_
  refine wl_ov (ov_assign rfl) rfl ?_
  refine wl_nil ?_
  refine nx_then ?_
  refine gw_seq ?_
  refine gw_draw (fun wz => Blk wz g1 56 [.int .i64 fr, .int .i64 tt] ∧ (fun _ => True) wz ∧ (SlOld rtEnc 7 61 w.heap.size none A n l) wz ∧ True) mixed ?_
  refine wa_take 0 rfl (by kernel_rfl) (by kernel_rfl) (by kernel_rfl) (listed' := #[true, false, false, false, false, false, false, false]) rfl (fun _ _ _ h => h) (fun _ hm => ⟨hm.blkI 0 rfl, hm.fact 0 rfl, hm.fact 1 rfl, trivial⟩) (ov_field fo56_1 rfl rfl) rfl ?_
  refine wa_take 1 rfl (by kernel_rfl) (by kernel_rfl) (by kernel_rfl) (listed' := #[true, true, false, false, false, false, false, false]) rfl (fun _ _ _ h => h) (fun _ hm => ⟨hm.blkI 0 rfl, hm.fact 0 rfl, hm.fact 1 rfl, trivial⟩) (ov_load sc3 rfl (fun _ hm => hm.1) rfl) rfl ?_
  refine wa_take 2 rfl (by kernel_rfl) (by kernel_rfl) (by kernel_rfl) (listed' := #[true, true, true, false, false, false, false, false]) rfl (fun _ _ _ h => h) (fun _ hm => ⟨hm.blkI 0 rfl, hm.fact 0 rfl, hm.fact 1 rfl, trivial⟩) (ov_field fo56_0 rfl rfl) rfl ?_
  refine wa_take 3 rfl (by kernel_rfl) (by kernel_rfl) (by kernel_rfl) (listed' := #[true, true, true, true, false, false, false, false]) rfl (fun _ _ _ h => h) (fun _ hm => ⟨hm.blkI 0 rfl, hm.fact 0 rfl, hm.fact 1 rfl, trivial⟩) (ov_load sc3 rfl (fun _ hm => hm.1) rfl) rfl ?_
  refine wa_take 4 rfl (by kernel_rfl) (by kernel_rfl) (by kernel_rfl) (listed' := #[true, true, true, true, true, false, false, false]) rfl (fun _ _ _ h => h) (fun _ hm => ⟨hm.blkI 0 rfl, hm.fact 0 rfl, hm.fact 1 rfl, trivial⟩) (ov_add rfl rfl (by omega) (by omega)) rfl ?_
  refine wa_take 5 rfl (by kernel_rfl) (by kernel_rfl) (by kernel_rfl) (listed' := #[true, true, true, true, true, true, false, false]) rfl (fun _ _ _ h => h) (fun _ hm => ⟨hm.blkI 0 rfl, hm.fact 0 rfl, hm.fact 1 rfl, trivial⟩) (ov_min rfl rfl) rfl ?_
  refine wa_set 26 (v' := .int .i64 (min (fr + 172800) 5761439)) rfl (congrArg (Value.int .i64) (Int.min_comm _ _)) ?_
  refine wa_take 6 rfl (by kernel_rfl) (by kernel_rfl) (by kernel_rfl) (listed' := #[true, true, true, true, true, true, true, false]) rfl (fun _ _ _ h => h) (fun _ hm => ⟨hm.blkI 0 rfl, hm.fact 0 rfl, hm.fact 1 rfl, trivial⟩) (ov_assign rfl) rfl ?_
  refine wa_take 7 rfl (by kernel_rfl) (by kernel_rfl) (by kernel_rfl) (listed' := #[true, true, true, true, true, true, true, true]) rfl (fun _ _ _ h => h) (fun _ hm => ⟨hm.blkI 0 rfl, hm.fact 0 rfl, hm.fact 1 rfl, trivial⟩) (ov_assign rfl) rfl ?_
  refine wa_done (by kernel_rfl) ?_
  refine nx_then ?_
  refine gw_seq ?_
  refine gw_block ?_
  refine gw_loop (γ := Nat × Int × Int) (fun (g : Nat × Int × Int) => (tt ≤ g.2.1 ∧ g.2.1 ≤ g.2.2) ∧ g.2.2 ≤ min (fr + 172800) 5761439 ∧ g.2.2 - g.2.1 ≤ ((g.1 : Nat) : Int) ∧ strW l c fr tt cost = strF (strP l c fr cost) g.1 g.2.1 g.2.2) (fun (g : Nat × Int × Int) => [(0, .slice A n c0), (1, .string c), (5, .pointer (some ⟨g1, 0, none⟩)), (6, .int .i64 0), (7, .int .i64 cost), (9, .int .i64 g.2.1), (10, .int .i64 g.2.2)]) (fun (g : Nat × Int × Int) => fun _ => True) (fun (g : Nat × Int × Int) => [(g1, 56, [.int .i64 fr, .int .i64 tt])]) (fun (g : Nat × Int × Int) => []) (fun (g : Nat × Int × Int) => [fun _ => True, SlOld rtEnc 7 61 w.heap.size none A n l]) (fun (g : Nat × Int × Int) => g.1) ((min (fr + 172800) 5761439 - tt).toNat, tt, min (fr + 172800) 5761439) ⟨⟨by dsimp only; omega, by dsimp only; omega⟩, by dsimp only; omega, by dsimp only; omega, rfl⟩ ⟨rfl, rfl, rfl, rfl, rfl, rfl, rfl, trivial⟩ (fun _ hm => hm.pick [0] [] [0, 1] rfl rfl) ?_
  rintro ⟨k, a, z⟩ hinv
  replace hinv : (tt ≤ a ∧ a ≤ z) ∧ z ≤ min (fr + 172800) 5761439 ∧ z - a ≤ ((k : Nat) : Int) ∧ strW l c fr tt cost = strF (strP l c fr cost) k a z := hinv
  dsimp only
  refine gw_seq ?_
  refine gw_seq ?_
  refine gw_region ?_
  obtain ⟨⟨ha1, ha2⟩, hz1, hkz, hst⟩ := hinv
  refine wl_ov (ov_move rfl) rfl ?_
  refine wl_ov (ov_move rfl) rfl ?_
  refine wl_ov (ov_lss rfl rfl) rfl ?_
  refine wl_nil ?_
  refine nx_then ?_
  refine gw_cond rfl (fun hh => ?_) (fun hh => ?_)
  · have haz : a < z := by simpa using hh
    clear hh
    refine gw_skip ?_
    refine nx_then ?_
    refine gw_block ?_
    refine gw_seq ?_
    refine gw_region ?_
    obtain ⟨k, rfl⟩ : ∃ j, k = j + 1 := ⟨k - 1, by omega⟩
    obtain ⟨mid, hmid⟩ : ∃ v, v = (a + z + 1) / 2 := ⟨_, rfl⟩
    have hmt := mid_time ht (show tt ≤ mid by omega) (show mid ≤ _ by omega)
    have hm1 : a < mid := by omega
    have hm2 : mid ≤ z := by omega
    refine wl_ov (ov_move rfl) rfl ?_
    refine wl_ov (ov_move rfl) rfl ?_
    refine wl_ov (ov_add rfl rfl (by omega) (by omega)) rfl ?_
    refine wl_ov (ov_add rfl rfl (by omega) (by omega)) rfl ?_
    refine wl_ov (ov_quo rfl rfl (by omega) (by omega) (by omega)) rfl ?_
    refine wl_set 34 (v' := .int .i64 mid) rfl (congrArg (Value.int .i64) hmid.symm) ?_
    refine wl_ov (ov_assign rfl) rfl ?_
    refine wl_nil ?_
    refine nx_then ?_
    refine gw_seq ?_
    refine gw_region ?_
    refine wl_ov (ov_move rfl) rfl ?_
    refine wl_ov (ov_move rfl) rfl ?_
    refine wl_ov (ov_field fo56_0 rfl rfl) rfl ?_
    refine wl_ov (ov_load sc3 rfl (fun _ hm => hm.blkI 0 rfl) rfl) rfl ?_
    refine wl_ov (ov_move rfl) rfl ?_
    refine wl_ov (ov_build (cs := [.int .i64 fr, .int .i64 mid]) rfl (by kernel_rfl)) rfl ?_
    refine wl_callx (γ := List Pc × Bool) (val := (fun (g : List Pc × Bool) => .tuple #[.int .i64 (pcSum g.1), .bool g.2])) (φ := (fun (g : List Pc × Bool) => RefIs l c fr mid g.2 g.1)) (Y := (fun (g : List Pc × Bool) => fun _ => True)) rfl cb117 rfl rfl (fun wx hm => (centsOf_any l A n c0 c fr mid wx (hm.fact 1 rfl).1 hn hr0 hmt).mono fun _ _ ⟨qs, ok, he, hrf, hg⟩ => ⟨(qs, ok), he, hrf, hg, trivial⟩) (fun _ => Lasts2.true_) ?_
    rintro ⟨q2, ok2⟩ hrf2
    dsimp only at hrf2 ⊢
    refine wl_ov (ov_move rfl) rfl ?_
    refine wl_ov (ov_extract rfl rfl) rfl ?_
    refine wl_ov (ov_extract rfl rfl) rfl ?_
    refine wl_ov (ov_assign rfl) rfl ?_
    refine wl_ov (ov_assign rfl) rfl ?_
    refine wl_nil ?_
    refine nx_then ?_
    refine gw_seq ?_
    refine gw_region ?_
    refine wl_ov (ov_move rfl) rfl ?_
    refine wl_ov (ov_move rfl) rfl ?_
    rcases Bool.eq_false_or_eq_true ok2 with hok | hok
    · refine wl_set 46 rfl (congrArg Value.bool hok) ?_
      have hb2 : Best (prH l c fr mid) 0 (daysN fr mid) q2 := by
        rcases hrf2 with ⟨_, h⟩ | ⟨h, _⟩
        · exact h
        · rw [hok] at h; cases h
      have hPe := strP_yes (cost := cost) hb2
      refine wl_guard_on rfl rfl rfl ?_
      refine wl_ov (ov_move rfl) rfl ?_
      refine wl_guard_on rfl rfl rfl ?_
      refine wl_ov (ov_move rfl) rfl ?_
      refine wl_guard_on rfl rfl rfl ?_
      refine wl_ov (ov_leq rfl rfl) rfl ?_
      refine wl_ov (ov_pick_t rfl rfl) rfl ?_
      refine wl_nil ?_
      refine nx_then ?_
      refine gw_cond rfl (fun hh => ?_) (fun hh => ?_)
      · have hle : pcSum q2 ≤ cost := by simpa using hh
        clear hh
        refine gw_region ?_
        have hP : strP l c fr cost mid = true := hPe.trans (decide_eq_true hle)
        refine wl_ov (ov_move rfl) rfl ?_
        refine wl_ov (ov_assign rfl) rfl ?_
        refine wl_nil ?_
        refine nx_blk_nrm ?_
        exact nx_round (k, mid, z) ⟨⟨by dsimp only; omega, by dsimp only; omega⟩, by dsimp only; omega, by dsimp only; omega, by rw [hst, strF_yes haz (by rw [← hmid]; exact hP), ← hmid]⟩ (Nat.lt_succ_self _) ⟨rfl, rfl, rfl, rfl, rfl, rfl, rfl, trivial⟩ (fun _ hm => hm.pick [0] [] [1, 2] rfl rfl)
      · have hle : ¬ (pcSum q2 ≤ cost) := by simpa using hh
        clear hh
        refine gw_region ?_
        have hP : strP l c fr cost mid = false := hPe.trans (decide_eq_false hle)
        refine wl_ov (ov_move rfl) rfl ?_
        refine wl_ov (ov_sub rfl rfl (by omega) (by omega)) rfl ?_
        refine wl_ov (ov_assign rfl) rfl ?_
        refine wl_nil ?_
        refine nx_blk_nrm ?_
        exact nx_round (k, a, mid - 1) ⟨⟨by dsimp only; omega, by dsimp only; omega⟩, by dsimp only; omega, by dsimp only; omega, by rw [hst, strF_no haz (by rw [← hmid]; exact hP), ← hmid]⟩ (Nat.lt_succ_self _) ⟨rfl, rfl, rfl, rfl, rfl, rfl, rfl, trivial⟩ (fun _ hm => hm.pick [0] [] [1, 2] rfl rfl)
    · refine wl_set 46 rfl (congrArg Value.bool hok) ?_
      have hP : strP l c fr cost mid = false := strP_no (by
        rcases hrf2 with ⟨h, _⟩ | ⟨_, _, h⟩
        · rw [hok] at h; cases h
        · exact h)
      refine wl_guard_off rfl rfl rfl (by decide) rfl ?_
      refine wl_guard_off rfl rfl rfl (by decide) rfl ?_
      refine wl_guard_off rfl rfl rfl (by decide) rfl ?_
      refine wl_ov (ov_pick_f rfl rfl) rfl ?_
      refine wl_nil ?_
      refine nx_then ?_
      refine gw_cond rfl (fun hh => by cases hh) (fun _ => ?_)
      refine gw_region ?_
      refine wl_ov (ov_move rfl) rfl ?_
      refine wl_ov (ov_sub rfl rfl (by omega) (by omega)) rfl ?_
      refine wl_ov (ov_assign rfl) rfl ?_
      refine wl_nil ?_
      refine nx_blk_nrm ?_
      exact nx_round (k, a, mid - 1) ⟨⟨by dsimp only; omega, by dsimp only; omega⟩, by dsimp only; omega, by dsimp only; omega, by rw [hst, strF_no haz (by rw [← hmid]; exact hP), ← hmid]⟩ (Nat.lt_succ_self _) ⟨rfl, rfl, rfl, rfl, rfl, rfl, rfl, trivial⟩ (fun _ hm => hm.pick [0] [] [1, 2] rfl rfl)
  · have haz : ¬ (a < z) := by simpa using hh
    clear hh
    refine gw_exit ?_
    refine nx_then_exit ?_
    refine nx_then_exit ?_
    refine nx_blk_here ?_
    refine nx_then ?_
    refine gw_seq ?_
    refine gw_region ?_
    refine wl_ov (ov_move rfl) rfl ?_
    refine wl_ov (ov_assign rfl) rfl ?_
    refine wl_nil ?_
    refine nx_then ?_
    refine gw_ret ?_
    refine nx_ret1 rfl rfl fun wx hm => ?_
    exact ⟨ret_int (by rw [hst, strF_end haz]), hm.g⟩

def StrIs (l : List Rt) (c : ByteArray) (fr tt : Int) (v e : Int) : Prop :=
  (chkE l c fr tt ≠ 0 ∧ v = 0 ∧ e = chkE l c fr tt) ∨ (chkE l c fr tt = 0 ∧ ((e = 8 ∧ v = 0 ∧ ∀ qs, ¬ Chain (prH l c fr tt) 0 (daysN fr tt) qs) ∨ ∃ ps, Best (prH l c fr tt) 0 (daysN fr tt) ps ∧ e = 0 ∧ v = strW l c fr tt (pcSum ps)))
set_option maxRecDepth 100000 in
set_option maxHeartbeats 2000000 in
theorem tStretch_any (l : List Rt) (A : Option Addr) (n c0 : Nat) (c : ByteArray) (fr tt : Int) (w : World) (hl : SlT rtEnc 7 61 w A n l) (hn : n ≤ 1000000) (hok : ∀ b ∈ l, RtOk b) (hc : c.size ≤ 1000000) :
    Calls Tryd.prog 45 #[.slice A n c0, .string c, .agg #[.int .i64 fr, .int .i64 tt]] w (fun e w' => ∃ v er, e = .returned (.tuple #[.int .i64 v, .int .i64 er]) ∧ StrIs l c fr tt v er ∧ w.grownBy w' none) := by
  refine gw_enter ⟨68, w, none, [3]⟩ Tryd.func45 rfl Tryd.ntmps45 rfl (mem0 (X := [SlOld rtEnc 7 61 w.heap.size none A n l]) (allF_cons hl.old allF_nil) (allL_cons SlOld.lasts allL_nil)) ?_
  refine gw_seq ?_
  refine gw_region ?_
  obtain ⟨CE, hCE⟩ : ∃ E, E = chkE l c fr tt := ⟨_, rfl⟩
  refine wl_box rfl rfl rfl fun g1 => ?_
  refine wl_ov (ov_assign rfl) rfl ?_
  refine wl_ov (ov_assign rfl) rfl ?_
  refine wl_nil ?_
  refine nx_then ?_
  refine gw_seq ?_
  refine gw_seq ?_
  refine gw_region ?_
  refine wl_ov (ov_move rfl) rfl ?_
  refine wl_ov (ov_move rfl) rfl ?_
  refine wl_ov (ov_loads rz56 rfl (fun _ hm => hm.blkI 0 rfl) rfl rfl) rfl ?_
  refine wl_callv (v := .int .i64 CE) rfl cb111 rfl rfl (fun wx hm => (by rw [hCE]; exact checkHire_any l A n c0 c fr tt wx (hm.fact 0 rfl).1 hok hn hc)) ?_
  refine wl_ov (ov_assign rfl) rfl ?_
  refine wl_nil ?_
  refine nx_then ?_
  refine gw_seq ?_
  refine gw_region ?_
  refine wl_ov (ov_move rfl) rfl ?_
  refine wl_ov (ov_neq rfl rfl) rfl ?_
  refine wl_nil ?_
  refine nx_then ?_
  refine gw_cond rfl (fun hh => ?_) (fun hh => ?_)
  · have h1 : ¬ (CE = 0) := by simpa using hh
    clear hh
    refine gw_seq ?_
    refine gw_region ?_
    refine wl_ov (ov_move rfl) rfl ?_
    refine wl_ov (ov_assign rfl) rfl ?_
    refine wl_ov (ov_assign rfl) rfl ?_
    refine wl_nil ?_
    refine nx_then ?_
    refine gw_ret ?_
    refine nx_then_ret ?_
    refine nx_ret2 rfl rfl rfl fun wx hm => ?_
    exact ⟨0, CE, rfl, .inl ⟨fun h => h1 (hCE.trans h), rfl, hCE⟩, hm.g⟩
  · have h1 : CE = 0 := by simpa using hh
    clear hh
    refine gw_skip ?_
    refine nx_then ?_
    refine gw_seq ?_
    refine gw_region ?_
    obtain ⟨hr0, hkc, ht⟩ := chkE_ok (hCE.symm.trans h1)
    obtain ⟨h0, hlt, htt, _⟩ := timeE_ok ht
    have hpos := rt_pos hr0
    have hro := rate_ok hr0
    have htop := top_bound ht
    obtain ⟨Dp, hDp⟩ : ∃ D, D = daysN fr tt := ⟨_, rfl⟩
    have hDvp : (daysV fr tt).toNat = Dp := hDp.symm
    have hDdp := timeE_days ht
    have hDap : 1 ≤ Dp ∧ Dp ≤ 120 := by omega
    obtain ⟨hte0p, hte1p, hte2p, _⟩ := timeE_ok ht
    refine wl_ov (ov_move rfl) rfl ?_
    refine wl_ov (ov_move rfl) rfl ?_
    refine wl_ov (ov_loads rz56 rfl (fun _ hm => hm.blkI 0 rfl) rfl rfl) rfl ?_
    refine wl_callx (γ := Option Addr × Nat) (val := (fun (g : Option Addr × Nat) => .agg #[.slice A n c0, .int .i64 fr, .int .i64 tt, .slice g.1 Dp g.2])) (φ := (fun (g : Option Addr × Nat) => Dp ≤ g.2)) (Y := (fun (g : Option Addr × Nat) => fun wy => SlT itEnc 1 3 wy g.1 Dp (seasons l c fr Dp))) rfl cb112 rfl rfl (fun wx hm => (by have h := trent_any l A n c0 c fr tt wx (hm.fact 0 rfl).1 hn hpos ht; rw [hDvp] at h; exact h.mono fun _ _ ⟨A2, c2, he, hg, hs, hc⟩ => ⟨(A2, c2), he, hc, hg, hs⟩)) (fun _ => SlT.lasts2 rfl) ?_
    rintro ⟨A3p, c3p⟩ hDcp
    dsimp only at hDcp ⊢
    refine wl_callgo (γ := Option Addr × Nat × List Dv) (val := (fun (g : Option Addr × Nat × List Dv) => .slice g.1 (Dp + 1) g.2.1)) (φ := (fun (g : Option Addr × Nat × List Dv) => DvFrom (priceO l (seasons l c fr Dp) fr tt) Dp 0 g.2.2)) (fun (g : Option Addr × Nat × List Dv) => ⟨.slice g.1 (Dp + 1) g.2.1, 168, 6, (Dp + 1), g.2.2.flatMap dvEnc⟩) rfl cb113 rfl rfl (fun wx hm => (tdivide_any l A n c0 fr tt (seasons l c fr Dp) A3p Dp c3p wx (hm.fact 1 rfl).1 (hm.fact 0 rfl) hDcp hDap.2 (seasons_bound l c fr Dp) hro h0 (by omega) (by omega) (by omega) (by rw [hDp]; exact begV_end ht)).mono fun _ _ ⟨A3, c3, ds, he, hg, hs, hd⟩ => ⟨(A3, c3, ds), he, hd, hs, hg⟩) ?_
    rintro ⟨A5p, c5p, dsp⟩ hdsp
    dsimp only at hdsp ⊢
    refine wl_look (R := ∃ g, A5p = some ⟨g, 0, none⟩) (fun wx hm => own_addr (hm.ownI 0 rfl) (by omega)) ?_
    rintro ⟨bop, rfl⟩
    have hprp : priceO l (seasons l c fr Dp) fr tt = prH l c fr tt := by unfold prH; rw [hDp]
    rw [hprp, hDp] at hdsp
    have hdlp := hdsp.1
    obtain ⟨xp, hxp⟩ : ∃ x, dsp[0]? = some x := ⟨_, List.getElem?_eq_getElem (by omega)⟩
    have hd0p := dv_first0 hdsp hxp
    obtain ⟨xp0, xp1, xp2, xp3, xp4, xp5⟩ := xp
    dsimp only at hd0p
    refine wl_ov (ov_index (j := 0) es162 rfl rfl (by omega)) rfl ?_
    refine wl_ov (ov_elem (vs := [.int .i64 xp0, .int .i64 xp1, .int .i64 xp2, .int .i64 xp3, .int .i64 xp4, .bool xp5]) rz168 rfl (fun _ hm => (SlT.ofOwn dv_len (hm.ownI 0 rfl) (hdlp.trans (by rw [hDp])))) (show dsp[0]? = some _ from hxp) rfl rfl) rfl ?_
    refine wl_alloc zc168 rfl fun g2 => ?_
    refine wl_stores (cs' := [.int .i64 xp0, .int .i64 xp1, .int .i64 xp2, .int .i64 xp3, .int .i64 xp4, .bool xp5]) 0 rz168 rfl rfl rfl rfl rfl rfl rfl rfl ?_
    refine wl_nil ?_
    refine nx_then ?_
    refine gw_seq ?_
    refine gw_seq ?_
    refine gw_region ?_
    refine wl_ov (ov_field fo168_3 rfl rfl) rfl ?_
    refine wl_ov (ov_load sc4 rfl (fun _ hm => hm.blkI 0 rfl) rfl) rfl ?_
    refine wl_ov (ov_un_not rfl) rfl ?_
    refine wl_nil ?_
    refine nx_then ?_
    refine gw_cond rfl (fun hh => ?_) (fun hh => ?_)
    · have hf : xp5 = false := by simpa using hh
      clear hh
      refine gw_seq ?_
      refine gw_region ?_
      refine wl_ov (ov_assign rfl) rfl ?_
      refine wl_ov (ov_assign rfl) rfl ?_
      refine wl_nil ?_
      refine nx_then ?_
      refine gw_ret ?_
      refine nx_then_ret ?_
      refine nx_ret2 rfl rfl rfl fun wx hm => ?_
      exact ⟨0, 8, rfl, .inr ⟨hCE.symm.trans h1, .inl ⟨rfl, rfl, hd0p.1 (by simpa using hf)⟩⟩, hm.g⟩
    · have hf : xp5 = true := by simpa using hh
      clear hh
      refine gw_skip ?_
      refine nx_then ?_
      refine gw_seq ?_
      obtain ⟨ps, hps, hsum⟩ := hd0p.2 (by simpa using hf)
      refine gw_draw (fun wz => Blk wz g2 168 [.int .i64 xp0, .int .i64 xp1, .int .i64 xp2, .int .i64 xp3, .int .i64 xp4, .bool xp5] ∧ Blk wz g1 56 [.int .i64 fr, .int .i64 tt] ∧ (fun wy => SlT itEnc 1 3 wy A3p Dp (seasons l c fr Dp)) wz ∧ (SlOld rtEnc 7 61 w.heap.size none A n l) wz ∧ True) mixed ?_
      refine wa_take 0 rfl (by kernel_rfl) (by kernel_rfl) (by kernel_rfl) (listed' := #[true, false, false, false, false, false, false, false]) rfl (fun _ _ _ h => h) (fun _ hm => ⟨hm.blkI 0 rfl, hm.blkI 1 rfl, hm.fact 0 rfl, hm.fact 1 rfl, trivial⟩) (ov_field fo56_1 rfl rfl) rfl ?_
      refine wa_take 1 rfl (by kernel_rfl) (by kernel_rfl) (by kernel_rfl) (listed' := #[true, true, false, false, false, false, false, false]) rfl (fun _ _ _ h => h) (fun _ hm => ⟨hm.blkI 0 rfl, hm.blkI 1 rfl, hm.fact 0 rfl, hm.fact 1 rfl, trivial⟩) (ov_load sc3 rfl (fun _ hm => hm.2.1) rfl) rfl ?_
      refine wa_take 2 rfl (by kernel_rfl) (by kernel_rfl) (by kernel_rfl) (listed' := #[true, true, true, false, false, false, false, false]) rfl (fun _ _ _ h => h) (fun _ hm => ⟨hm.blkI 0 rfl, hm.blkI 1 rfl, hm.fact 0 rfl, hm.fact 1 rfl, trivial⟩) (ov_field fo56_0 rfl rfl) rfl ?_
      refine wa_take 3 rfl (by kernel_rfl) (by kernel_rfl) (by kernel_rfl) (listed' := #[true, true, true, true, false, false, false, false]) rfl (fun _ _ _ h => h) (fun _ hm => ⟨hm.blkI 0 rfl, hm.blkI 1 rfl, hm.fact 0 rfl, hm.fact 1 rfl, trivial⟩) (ov_load sc3 rfl (fun _ hm => hm.2.1) rfl) rfl ?_
      refine wa_take 4 rfl (by kernel_rfl) (by kernel_rfl) (by kernel_rfl) (listed' := #[true, true, true, true, true, false, false, false]) rfl (fun _ _ _ h => h) (fun _ hm => ⟨hm.blkI 0 rfl, hm.blkI 1 rfl, hm.fact 0 rfl, hm.fact 1 rfl, trivial⟩) (ov_add rfl rfl (by omega) (by omega)) rfl ?_
      refine wa_take 5 rfl (by kernel_rfl) (by kernel_rfl) (by kernel_rfl) (listed' := #[true, true, true, true, true, true, false, false]) rfl (fun _ _ _ h => h) (fun _ hm => ⟨hm.blkI 0 rfl, hm.blkI 1 rfl, hm.fact 0 rfl, hm.fact 1 rfl, trivial⟩) (ov_min rfl rfl) rfl ?_
      refine wa_take 6 rfl (by kernel_rfl) (by kernel_rfl) (by kernel_rfl) (listed' := #[true, true, true, true, true, true, true, false]) rfl (fun _ _ _ h => h) (fun _ hm => ⟨hm.blkI 0 rfl, hm.blkI 1 rfl, hm.fact 0 rfl, hm.fact 1 rfl, trivial⟩) (ov_assign rfl) rfl ?_
      refine wa_take 7 rfl (by kernel_rfl) (by kernel_rfl) (by kernel_rfl) (listed' := #[true, true, true, true, true, true, true, true]) rfl (fun _ _ _ h => h) (fun _ hm => ⟨hm.blkI 0 rfl, hm.blkI 1 rfl, hm.fact 0 rfl, hm.fact 1 rfl, trivial⟩) (ov_assign rfl) rfl ?_
      refine wa_done (by kernel_rfl) ?_
      refine nx_then ?_
      refine gw_seq ?_
      refine gw_block ?_
      refine gw_loop (γ := Nat × Int × Int) (fun (g : Nat × Int × Int) => (tt ≤ g.2.1 ∧ g.2.1 ≤ g.2.2) ∧ g.2.2 ≤ min (fr + 172800) 5761439 ∧ g.2.2 - g.2.1 ≤ ((g.1 : Nat) : Int) ∧ strW l c fr tt xp0 = strF (strP l c fr xp0) g.1 g.2.1 g.2.2) (fun (g : Nat × Int × Int) => [(0, .slice A n c0), (1, .string c), (5, .pointer (some ⟨g1, 0, none⟩)), (6, .int .i64 0), (7, .int .i64 0), (9, .pointer (some ⟨g2, 0, none⟩)), (10, .int .i64 g.2.1), (11, .int .i64 g.2.2)]) (fun (g : Nat × Int × Int) => fun _ => True) (fun (g : Nat × Int × Int) => [(g2, 168, [.int .i64 xp0, .int .i64 xp1, .int .i64 xp2, .int .i64 xp3, .int .i64 xp4, .bool xp5]), (g1, 56, [.int .i64 fr, .int .i64 tt])]) (fun (g : Nat × Int × Int) => []) (fun (g : Nat × Int × Int) => [SlOld rtEnc 7 61 w.heap.size none A n l]) (fun (g : Nat × Int × Int) => g.1) ((min (fr + 172800) 5761439 - tt).toNat, tt, min (fr + 172800) 5761439) ⟨⟨by dsimp only; omega, by dsimp only; omega⟩, by dsimp only; omega, by dsimp only; omega, rfl⟩ ⟨rfl, rfl, rfl, rfl, rfl, rfl, rfl, rfl, trivial⟩ (fun _ hm => hm.pick [0, 1] [] [1] rfl rfl) ?_
      rintro ⟨k, a, z⟩ hinv
      replace hinv : (tt ≤ a ∧ a ≤ z) ∧ z ≤ min (fr + 172800) 5761439 ∧ z - a ≤ ((k : Nat) : Int) ∧ strW l c fr tt xp0 = strF (strP l c fr xp0) k a z := hinv
      dsimp only
      refine gw_seq ?_
      refine gw_seq ?_
      refine gw_region ?_
      obtain ⟨⟨ha1, ha2⟩, hz1, hkz, hst⟩ := hinv
      refine wl_ov (ov_move rfl) rfl ?_
      refine wl_ov (ov_move rfl) rfl ?_
      refine wl_ov (ov_lss rfl rfl) rfl ?_
      refine wl_nil ?_
      refine nx_then ?_
      refine gw_cond rfl (fun hh => ?_) (fun hh => ?_)
      · have haz : a < z := by simpa using hh
        clear hh
        refine gw_skip ?_
        refine nx_then ?_
        refine gw_block ?_
        refine gw_seq ?_
        refine gw_region ?_
        obtain ⟨k, rfl⟩ : ∃ j, k = j + 1 := ⟨k - 1, by omega⟩
        obtain ⟨mid, hmid⟩ : ∃ v, v = (a + z + 1) / 2 := ⟨_, rfl⟩
        have hmt := mid_time ht (show tt ≤ mid by omega) (show mid ≤ _ by omega)
        have hm1 : a < mid := by omega
        have hm2 : mid ≤ z := by omega
        obtain ⟨Dq, hDq⟩ : ∃ D, D = daysN fr mid := ⟨_, rfl⟩
        have hDvq : (daysV fr mid).toNat = Dq := hDq.symm
        have hDdq := timeE_days hmt
        have hDaq : 1 ≤ Dq ∧ Dq ≤ 120 := by omega
        obtain ⟨hte0q, hte1q, hte2q, _⟩ := timeE_ok hmt
        refine wl_ov (ov_move rfl) rfl ?_
        refine wl_ov (ov_move rfl) rfl ?_
        refine wl_ov (ov_add rfl rfl (by omega) (by omega)) rfl ?_
        refine wl_ov (ov_add rfl rfl (by omega) (by omega)) rfl ?_
        refine wl_ov (ov_quo rfl rfl (by omega) (by omega) (by omega)) rfl ?_
        refine wl_set 44 (v' := .int .i64 mid) rfl (congrArg (Value.int .i64) hmid.symm) ?_
        refine wl_ov (ov_assign rfl) rfl ?_
        refine wl_nil ?_
        refine nx_then ?_
        refine gw_seq ?_
        refine gw_region ?_
        refine wl_ov (ov_move rfl) rfl ?_
        refine wl_ov (ov_move rfl) rfl ?_
        refine wl_ov (ov_field fo56_0 rfl rfl) rfl ?_
        refine wl_ov (ov_load sc3 rfl (fun _ hm => hm.blkI 1 rfl) rfl) rfl ?_
        refine wl_ov (ov_move rfl) rfl ?_
        refine wl_ov (ov_build (cs := [.int .i64 fr, .int .i64 mid]) rfl (by kernel_rfl)) rfl ?_
        refine wl_callx (γ := Option Addr × Nat) (val := (fun (g : Option Addr × Nat) => .agg #[.slice A n c0, .int .i64 fr, .int .i64 mid, .slice g.1 Dq g.2])) (φ := (fun (g : Option Addr × Nat) => Dq ≤ g.2)) (Y := (fun (g : Option Addr × Nat) => fun wy => SlT itEnc 1 3 wy g.1 Dq (seasons l c fr Dq))) rfl cb112 rfl rfl (fun wx hm => (by have h := trent_any l A n c0 c fr mid wx (hm.fact 0 rfl).1 hn hpos hmt; rw [hDvq] at h; exact h.mono fun _ _ ⟨A2, c2, he, hg, hs, hc⟩ => ⟨(A2, c2), he, hc, hg, hs⟩)) (fun _ => SlT.lasts2 rfl) ?_
        rintro ⟨A3q, c3q⟩ hDcq
        dsimp only at hDcq ⊢
        refine wl_callgo (γ := Option Addr × Nat × List Dv) (val := (fun (g : Option Addr × Nat × List Dv) => .slice g.1 (Dq + 1) g.2.1)) (φ := (fun (g : Option Addr × Nat × List Dv) => DvFrom (priceO l (seasons l c fr Dq) fr mid) Dq 0 g.2.2)) (fun (g : Option Addr × Nat × List Dv) => ⟨.slice g.1 (Dq + 1) g.2.1, 168, 6, (Dq + 1), g.2.2.flatMap dvEnc⟩) rfl cb113 rfl rfl (fun wx hm => (tdivide_any l A n c0 fr mid (seasons l c fr Dq) A3q Dq c3q wx (hm.fact 1 rfl).1 (hm.fact 0 rfl) hDcq hDaq.2 (seasons_bound l c fr Dq) hro h0 (by omega) (by omega) (by omega) (by rw [hDq]; exact begV_end hmt)).mono fun _ _ ⟨A3, c3, ds, he, hg, hs, hd⟩ => ⟨(A3, c3, ds), he, hd, hs, hg⟩) ?_
        rintro ⟨A5q, c5q, dsq⟩ hdsq
        dsimp only at hdsq ⊢
        refine wl_look (R := ∃ g, A5q = some ⟨g, 0, none⟩) (fun wx hm => own_addr (hm.ownI 0 rfl) (by omega)) ?_
        rintro ⟨boq, rfl⟩
        have hprq : priceO l (seasons l c fr Dq) fr mid = prH l c fr mid := by unfold prH; rw [hDq]
        rw [hprq, hDq] at hdsq
        have hdlq := hdsq.1
        obtain ⟨xq, hxq⟩ : ∃ x, dsq[0]? = some x := ⟨_, List.getElem?_eq_getElem (by omega)⟩
        have hd0q := dv_first0 hdsq hxq
        obtain ⟨xq0, xq1, xq2, xq3, xq4, xq5⟩ := xq
        dsimp only at hd0q
        refine wl_ov (ov_index (j := 0) es162 rfl rfl (by omega)) rfl ?_
        refine wl_ov (ov_elem (vs := [.int .i64 xq0, .int .i64 xq1, .int .i64 xq2, .int .i64 xq3, .int .i64 xq4, .bool xq5]) rz168 rfl (fun _ hm => (SlT.ofOwn dv_len (hm.ownI 0 rfl) (hdlq.trans (by rw [hDq])))) (show dsq[0]? = some _ from hxq) rfl rfl) rfl ?_
        refine wl_alloc zc168 rfl fun g3 => ?_
        refine wl_stores (cs' := [.int .i64 xq0, .int .i64 xq1, .int .i64 xq2, .int .i64 xq3, .int .i64 xq4, .bool xq5]) 0 rz168 rfl rfl rfl rfl rfl rfl rfl rfl ?_
        refine wl_nil ?_
        refine nx_then ?_
        refine gw_seq ?_
        refine gw_region ?_
        refine wl_ov (ov_field fo168_3 rfl rfl) rfl ?_
        refine wl_ov (ov_load sc4 rfl (fun _ hm => hm.blkI 0 rfl) rfl) rfl ?_
        refine wl_ov (ov_move rfl) rfl ?_
        rcases Bool.eq_false_or_eq_true xq5 with hok | hok
        · refine wl_set 57 rfl (congrArg Value.bool hok) ?_
          obtain ⟨q2, hb2, hs2⟩ := hd0q.2 hok
          have hPe := strP_yes (cost := xp0) hb2
          rw [← hs2] at hPe
          refine wl_guard_on rfl rfl rfl ?_
          refine wl_ov (ov_field fo168_0 rfl rfl) rfl ?_
          refine wl_guard_on rfl rfl rfl ?_
          refine wl_ov (ov_load sc3 rfl (fun _ hm => hm.blkI 0 rfl) rfl) rfl ?_
          refine wl_guard_on rfl rfl rfl ?_
          refine wl_ov (ov_field fo168_0 rfl rfl) rfl ?_
          refine wl_guard_on rfl rfl rfl ?_
          refine wl_ov (ov_load sc3 rfl (fun _ hm => hm.blkI 1 rfl) rfl) rfl ?_
          refine wl_guard_on rfl rfl rfl ?_
          refine wl_ov (ov_leq rfl rfl) rfl ?_
          refine wl_ov (ov_pick_t rfl rfl) rfl ?_
          refine wl_nil ?_
          refine nx_then ?_
          refine gw_cond rfl (fun hh => ?_) (fun hh => ?_)
          · have hle : xq0 ≤ xp0 := by simpa using hh
            clear hh
            refine gw_region ?_
            have hP : strP l c fr xp0 mid = true := hPe.trans (decide_eq_true hle)
            refine wl_ov (ov_move rfl) rfl ?_
            refine wl_ov (ov_assign rfl) rfl ?_
            refine wl_nil ?_
            refine nx_blk_nrm ?_
            exact nx_round (k, mid, z) ⟨⟨by dsimp only; omega, by dsimp only; omega⟩, by dsimp only; omega, by dsimp only; omega, by rw [hst, strF_yes haz (by rw [← hmid]; exact hP), ← hmid]⟩ (Nat.lt_succ_self _) ⟨rfl, rfl, rfl, rfl, rfl, rfl, rfl, rfl, trivial⟩ (fun _ hm => hm.pick [1, 2] [] [1] rfl rfl)
          · have hle : ¬ (xq0 ≤ xp0) := by simpa using hh
            clear hh
            refine gw_region ?_
            have hP : strP l c fr xp0 mid = false := hPe.trans (decide_eq_false hle)
            refine wl_ov (ov_move rfl) rfl ?_
            refine wl_ov (ov_sub rfl rfl (by omega) (by omega)) rfl ?_
            refine wl_ov (ov_assign rfl) rfl ?_
            refine wl_nil ?_
            refine nx_blk_nrm ?_
            exact nx_round (k, a, mid - 1) ⟨⟨by dsimp only; omega, by dsimp only; omega⟩, by dsimp only; omega, by dsimp only; omega, by rw [hst, strF_no haz (by rw [← hmid]; exact hP), ← hmid]⟩ (Nat.lt_succ_self _) ⟨rfl, rfl, rfl, rfl, rfl, rfl, rfl, rfl, trivial⟩ (fun _ hm => hm.pick [1, 2] [] [1] rfl rfl)
        · refine wl_set 57 rfl (congrArg Value.bool hok) ?_
          have hP : strP l c fr xp0 mid = false := strP_no (hd0q.1 hok)
          refine wl_guard_off rfl rfl rfl (by decide) rfl ?_
          refine wl_guard_off rfl rfl rfl (by decide) rfl ?_
          refine wl_guard_off rfl rfl rfl (by decide) rfl ?_
          refine wl_guard_off rfl rfl rfl (by decide) rfl ?_
          refine wl_guard_off rfl rfl rfl (by decide) rfl ?_
          refine wl_ov (ov_pick_f rfl rfl) rfl ?_
          refine wl_nil ?_
          refine nx_then ?_
          refine gw_cond rfl (fun hh => by cases hh) (fun _ => ?_)
          refine gw_region ?_
          refine wl_ov (ov_move rfl) rfl ?_
          refine wl_ov (ov_sub rfl rfl (by omega) (by omega)) rfl ?_
          refine wl_ov (ov_assign rfl) rfl ?_
          refine wl_nil ?_
          refine nx_blk_nrm ?_
          exact nx_round (k, a, mid - 1) ⟨⟨by dsimp only; omega, by dsimp only; omega⟩, by dsimp only; omega, by dsimp only; omega, by rw [hst, strF_no haz (by rw [← hmid]; exact hP), ← hmid]⟩ (Nat.lt_succ_self _) ⟨rfl, rfl, rfl, rfl, rfl, rfl, rfl, rfl, trivial⟩ (fun _ hm => hm.pick [1, 2] [] [1] rfl rfl)
      · have haz : ¬ (a < z) := by simpa using hh
        clear hh
        refine gw_exit ?_
        refine nx_then_exit ?_
        refine nx_then_exit ?_
        refine nx_blk_here ?_
        refine nx_then ?_
        refine gw_seq ?_
        refine gw_region ?_
        refine wl_ov (ov_move rfl) rfl ?_
        refine wl_ov (ov_assign rfl) rfl ?_
        refine wl_ov (ov_assign rfl) rfl ?_
        refine wl_nil ?_
        refine nx_then ?_
        refine gw_ret ?_
        refine nx_ret2 rfl rfl rfl fun wx hm => ?_
        exact ⟨a, 0, rfl, .inr ⟨hCE.symm.trans h1, .inr ⟨ps, hps, rfl, by rw [← hsum, hst, strF_end haz]⟩⟩, hm.g⟩

set_option maxRecDepth 100000 in
set_option maxHeartbeats 2000000 in
theorem stretch_walk (a0 : Option Addr) (len0 cap0 : Nat) (z0 : List Int) (w : World) (hR : RowIn w a0 len0 cap0 z0) :
    Calls Tryd.prog 7 #[.slice a0 len0 cap0] w fun e w' => e = .returned (.bool true) ∧ Below w.heap.size w w' := by
  refine gw_enter ⟨62, w, none, []⟩ Tryd.func7 rfl Tryd.ntmps7 rfl (mem0 (X := []) allF_nil allL_nil) ?_
  refine gw_seq ?_
  refine gw_region ?_
  refine wl_ov (ov_assign rfl) rfl ?_
  refine wl_nil ?_
  refine nx_then ?_
  refine gw_seq ?_
  refine gw_region ?_
  refine wl_ov (ov_move rfl) rfl ?_
  refine wl_ov (ov_build (cs := [.slice a0 len0 cap0, .int .i64 0]) rfl (by kernel_rfl)) rfl ?_
  refine wl_box rfl rfl rfl fun sb => ?_
  refine wl_ov (ov_assign rfl) rfl ?_
  refine wl_nil ?_
  refine nx_then ?_
  refine gw_seq ?_
  refine gw_region ?_
  refine wl_ov (ov_move rfl) rfl ?_
  refine wl_law [61, 79] hR 0 rfl fun w1 B hg1 hsb => ?_
  refine wl_calls (γ := Option Addr × Nat × Nat × List Rt) (val := (fun (g : Option Addr × Nat × Nat × List Rt) => .slice g.1 g.2.1 g.2.2.1)) (φ := (fun (g : Option Addr × Nat × Nat × List Rt) => (∀ x ∈ g.2.2.2, RtOk x) ∧ g.2.1 ≤ 10 ∧ g.2.1 ≤ g.2.2.1 ∧ g.2.2.2.length = g.2.1)) (Y := (fun (g : Option Addr × Nat × Nat × List Rt) => fun wy => SlT rtEnc 7 61 wy g.1 g.2.1 g.2.2.2)) (m' := 0 + 200) rfl cb28 rfl rfl rfl rfl (fun wx hm => (grates_any wx B sb _ hm.k (by omega)).mono fun _ _ ⟨A, n, c0, l, he, hsl, hok, hn, hnc, hS, hg⟩ => ⟨(A, n, c0, l), he, ⟨hok, hn, hnc, hsl.len⟩, hS, hg, hsl⟩) (fun _ => SlT.lasts2 rfl) ?_
  rintro ⟨A, n, c0, l⟩ hR1
  dsimp only at hR1 ⊢
  obtain ⟨hok, hn10, hnc, hlen⟩ := hR1
  refine wl_ov (ov_move rfl) rfl ?_
  refine wl_calls (γ := ByteArray) (val := (fun (g : ByteArray) => .string g)) (φ := (fun (g : ByteArray) => g.size ≤ 100)) (Y := (fun (g : ByteArray) => fun _ => True)) (m' := 0 + 200 + 1) rfl cb30 rfl rfl rfl rfl (fun wx hm => (gclassKey_any wx B sb _ hm.k (by omega)).mono fun _ _ ⟨v, he, hv, hS, hg⟩ => ⟨v, he, hv, hS, hg, trivial⟩) (fun _ => Lasts2.true_) ?_
  rintro c hc1
  refine wl_ov (ov_move rfl) rfl ?_
  refine wl_calls (γ := Int × Int) (val := (fun (g : Int × Int) => .agg #[.int .i64 g.1, .int .i64 g.2])) (φ := (fun (g : Int × Int) => Far g.1 ∧ Far g.2)) (Y := (fun (g : Int × Int) => fun _ => True)) (m' := 0 + 200 + 1 + 10) rfl cb29 rfl rfl rfl rfl (fun wx hm => (gtime_any wx B sb _ hm.k (by omega)).mono fun _ _ ⟨fr, tt, h1, h2, he, hS, hg⟩ => ⟨(fr, tt), he, ⟨h1, h2⟩, hS, hg, trivial⟩) (fun _ => Lasts2.true_) ?_
  rintro ⟨fr, tt⟩ hT1
  dsimp only at hT1 ⊢
  obtain ⟨⟨hf0, hf1⟩, hf2, hf3⟩ := hT1
  refine wl_alloc zc56 rfl fun g3 => ?_
  refine wl_ov (ov_assign rfl) rfl ?_
  refine wl_ov (ov_assign rfl) rfl ?_
  refine wl_stores (cs' := [.int .i64 fr, .int .i64 tt]) 0 rz56 rfl rfl rfl rfl rfl rfl rfl rfl ?_
  refine wl_nil ?_
  refine nx_then ?_
  refine gw_seq ?_
  refine gw_region ?_
  refine wl_ov (ov_move rfl) rfl ?_
  refine wl_ov (ov_move rfl) rfl ?_
  refine wl_ov (ov_loads rz56 rfl (fun _ hm => hm.blkI 0 rfl) rfl rfl) rfl ?_
  obtain ⟨RE, hRE⟩ : ∃ E, E = ratesE l := ⟨_, rfl⟩
  refine wl_callx (γ := Int × Int) (val := (fun (g : Int × Int) => .tuple #[.int .i64 g.1, .int .i64 g.2])) (φ := (fun (g : Int × Int) => StrIs l c fr tt g.1 g.2)) (Y := (fun (g : Int × Int) => fun _ => True)) rfl cb45 rfl rfl (fun wx hm => (tStretch_any l A n c0 c fr tt wx (hm.fact 2 rfl) (by omega) hok (by omega)).mono fun _ _ ⟨v, er, he, hs, hg⟩ => ⟨(v, er), he, hs, hg, trivial⟩) (fun _ => Lasts2.true_) ?_
  rintro ⟨sv, er⟩ hsi
  dsimp only at hsi ⊢
  refine wl_ov (ov_move rfl) rfl ?_
  refine wl_ov (ov_extract rfl rfl) rfl ?_
  refine wl_ov (ov_extract rfl rfl) rfl ?_
  refine wl_ov (ov_assign rfl) rfl ?_
  refine wl_ov (ov_assign rfl) rfl ?_
  refine wl_nil ?_
  refine nx_then ?_
  refine gw_seq ?_
  refine gw_draw (fun wz => Blk wz g3 56 [.int .i64 fr, .int .i64 tt] ∧ (fun _ => True) wz ∧ (fun _ => True) wz ∧ (fun _ => True) wz ∧ (fun wy => SlT rtEnc 7 61 wy A n l) wz ∧ True) mixed ?_
  refine wa_take 0 rfl (by kernel_rfl) (by kernel_rfl) (by kernel_rfl) (listed' := #[true, false, false, false, false, false, false, false, false, false]) rfl (fun _ _ _ h => h) (fun _ hm => ⟨hm.blkI 0 rfl, hm.fact 0 rfl, hm.fact 1 rfl, hm.fact 2 rfl, hm.fact 3 rfl, trivial⟩) (ov_move rfl) rfl ?_
  refine wa_take 2 rfl (by kernel_rfl) (by kernel_rfl) (by kernel_rfl) (listed' := #[true, false, true, false, false, false, false, false, false, false]) rfl (fun _ _ _ h => h) (fun _ hm => ⟨hm.blkI 0 rfl, hm.fact 0 rfl, hm.fact 1 rfl, hm.fact 2 rfl, hm.fact 3 rfl, trivial⟩) (ov_move rfl) rfl ?_
  refine wa_take 4 rfl (by kernel_rfl) (by kernel_rfl) (by kernel_rfl) (listed' := #[true, false, true, false, true, false, false, false, false, false]) rfl (fun _ _ _ h => h) (fun _ hm => ⟨hm.blkI 0 rfl, hm.fact 0 rfl, hm.fact 1 rfl, hm.fact 2 rfl, hm.fact 3 rfl, trivial⟩) (ov_loads rz56 rfl (fun _ hm => hm.1) rfl rfl) rfl ?_
  refine wa_all [1] (by kernel_rfl) rfl ⟨⟨_, rfl, ?_⟩, trivial⟩
  refine wl_callv (v := .int .i64 RE) rfl cb33 rfl rfl (fun wx hm => (by rw [hRE]; exact ratesFault_any l A n c0 wx (hm.fact 3 rfl) hok (by omega))) ?_
  refine wl_nil ?_
  refine nx_wa0 (listed' := #[true, true, true, false, true, false, false, false, false, false]) rfl (fun _ hm => ⟨hm.blkI 0 rfl, hm.fact 0 rfl, hm.fact 1 rfl, hm.fact 2 rfl, hm.fact 3 rfl, trivial⟩) ?_
  refine wa_all [3] (by kernel_rfl) rfl ⟨⟨_, rfl, ?_⟩, trivial⟩
  refine wl_callv rfl cb38 rfl rfl (fun wx hm => (keyFault_any c wx (by omega))) ?_
  refine wl_nil ?_
  refine nx_wa0 (listed' := #[true, true, true, true, true, false, false, false, false, false]) rfl (fun _ hm => ⟨hm.blkI 0 rfl, hm.fact 0 rfl, hm.fact 1 rfl, hm.fact 2 rfl, hm.fact 3 rfl, trivial⟩) ?_
  refine wa_all [5] (by kernel_rfl) rfl ⟨⟨_, rfl, ?_⟩, trivial⟩
  refine wl_callv rfl cb35 rfl rfl (fun wx hm => (timeFault_any _ _ wx)) ?_
  refine wl_nil ?_
  refine nx_wa0 (listed' := #[true, true, true, true, true, true, false, false, false, false]) rfl (fun _ hm => ⟨hm.blkI 0 rfl, hm.fact 0 rfl, hm.fact 1 rfl, hm.fact 2 rfl, hm.fact 3 rfl, trivial⟩) ?_
  refine wa_all [6] (by kernel_rfl) rfl ⟨⟨_, rfl, ?_⟩, trivial⟩
  refine wl_buildSlice (e := 29) (cs := [.int .i64 RE, .int .i64 (whenE (!keyB c) 5), .int .i64 (timeE fr tt)]) rfl (by kernel_rfl) rfl fun g5 => ?_
  refine wl_nil ?_
  refine nx_wa0 (listed' := #[true, true, true, true, true, true, true, false, false, false]) rfl (fun _ hm => ⟨hm.blkI 1 rfl, hm.fact 0 rfl, hm.fact 1 rfl, hm.fact 2 rfl, hm.fact 3 rfl, trivial⟩) ?_
  refine wa_all [7] (by kernel_rfl) rfl ⟨⟨_, rfl, ?_⟩, trivial⟩
  refine wl_callw rfl cb37 rfl rfl (fun wx hm => (errs_any [RE, whenE (!keyB c) 5, timeE fr tt] _ _ _ wx (hm.blkI 0 rfl) (by simp))) ?_
  refine wl_nil ?_
  refine nx_wa0 (listed' := #[true, true, true, true, true, true, true, true, false, false]) rfl (fun _ hm => ⟨hm.blkI 1 rfl, hm.fact 0 rfl, hm.fact 1 rfl, hm.fact 2 rfl, hm.fact 3 rfl, trivial⟩) ?_
  refine wa_take 8 rfl (by kernel_rfl) (by kernel_rfl) (by kernel_rfl) (listed' := #[true, true, true, true, true, true, true, true, true, false]) rfl (fun _ _ _ h => h) (fun _ hm => ⟨hm.blkI 1 rfl, hm.fact 0 rfl, hm.fact 1 rfl, hm.fact 2 rfl, hm.fact 3 rfl, trivial⟩) (ov_assign rfl) rfl ?_
  refine wa_take 9 rfl (by kernel_rfl) (by kernel_rfl) (by kernel_rfl) (listed' := #[true, true, true, true, true, true, true, true, true, true]) rfl (fun _ _ _ h => h) (fun _ hm => ⟨hm.blkI 1 rfl, hm.fact 0 rfl, hm.fact 1 rfl, hm.fact 2 rfl, hm.fact 3 rfl, trivial⟩) (ov_assign rfl) rfl ?_
  refine wa_done (by kernel_rfl) ?_
  refine nx_then ?_
  refine gw_seq ?_
  refine gw_seq ?_
  refine gw_region ?_
  refine wl_ov (ov_move rfl) rfl ?_
  refine wl_ov (ov_eql rfl rfl) rfl ?_
  refine wl_nil ?_
  refine nx_then ?_
  refine gw_cond rfl (fun hh => ?_) (fun hh => ?_)
  · have hz : firstE [RE, whenE (!keyB c) 5, timeE fr tt] = 0 := by simpa using hh
    clear hh
    refine gw_seq ?_
    refine gw_region ?_
    have hz2 : chkE l c fr tt = 0 := by unfold chkE; rw [← hRE]; exact hz
    obtain ⟨hr0, _, ht⟩ := chkE_ok hz2
    refine wl_ov (ov_move rfl) rfl ?_
    refine wl_ov (ov_move rfl) rfl ?_
    refine wl_ov (ov_loads rz56 rfl (fun _ hm => hm.blkI 1 rfl) rfl rfl) rfl ?_
    refine wl_callx (γ := Option Addr × Nat × Nat × List Pc × Bool) (val := (fun (g : Option Addr × Nat × Nat × List Pc × Bool) => .tuple #[.slice g.1 g.2.1 g.2.2.1, .bool g.2.2.2.2])) (φ := (fun (g : Option Addr × Nat × Nat × List Pc × Bool) => RefIs l c fr tt g.2.2.2.2 g.2.2.2.1 ∧ g.2.2.2.1.length = g.2.1)) (Y := (fun (g : Option Addr × Nat × Nat × List Pc × Bool) => fun wy => SlT pcEnc 3 79 wy g.1 g.2.1 g.2.2.2.1)) rfl cb43 rfl rfl (fun wx hm => (divideOf_any l A n c0 c fr tt wx (hm.fact 3 rfl) (by omega) hr0 ht).mono fun _ _ ⟨A2, n2, c2, ps, ok, he, hg, ho, hrf, hl2, _⟩ => ⟨(A2, n2, c2, ps, ok), he, ⟨hrf, hl2⟩, hg, SlT.ofOwn pc_len ho hl2⟩) (fun _ => SlT.lasts2 rfl) ?_
    rintro ⟨A4, n4, c4, qs, ok⟩ hrf
    dsimp only at hrf ⊢
    obtain ⟨hrf, hq4⟩ := hrf
    refine wl_ov (ov_move rfl) rfl ?_
    refine wl_ov (ov_extract rfl rfl) rfl ?_
    refine wl_ov (ov_extract rfl rfl) rfl ?_
    refine wl_ov (ov_assign rfl) rfl ?_
    refine wl_ov (ov_assign rfl) rfl ?_
    refine wl_nil ?_
    refine nx_then ?_
    refine gw_seq ?_
    refine gw_region ?_
    refine wl_ov (ov_move rfl) rfl ?_
    refine wl_nil ?_
    refine nx_then ?_
    refine gw_cond rfl (fun hh => ?_) (fun hh => ?_)
    · have hok2 : ok = true := by simpa using hh
      clear hh
      refine gw_region ?_
      have hb : Best (prH l c fr tt) 0 (daysN fr tt) qs := by
        rcases hrf with ⟨_, h⟩ | ⟨h, _⟩
        · exact h
        · rw [hok2] at h; cases h
      obtain ⟨he1, he2⟩ : er = 0 ∧ sv = strW l c fr tt (pcSum qs) := by
        rcases hsi with ⟨h, _⟩ | ⟨_, ⟨_, _, h⟩ | ⟨ps, h, e1, e2⟩⟩
        · exact absurd hz2 h
        · exact absurd hb.1 (h _)
        · exact ⟨e1, by rw [e2, best_one h hb]⟩
      refine wl_ov (ov_move rfl) rfl ?_
      refine wl_ov (ov_move rfl) rfl ?_
      refine wl_ov (ov_loads rz56 rfl (fun _ hm => hm.blkI 1 rfl) rfl rfl) rfl ?_
      refine wl_callv rfl cb46 rfl rfl (fun wx hm => (stretchOf_any l A n c0 c fr tt wx (hm.fact 4 rfl) (by omega) qs hr0 ht hb)) ?_
      refine wl_ov (ov_assign rfl) rfl ?_
      refine wl_nil ?_
      refine nx_then ?_
      refine gw_seq ?_
      refine gw_region ?_
      refine wl_ov (ov_move rfl) rfl ?_
      refine wl_ov (ov_move rfl) rfl ?_
      refine wl_ov (ov_eql rfl rfl) rfl ?_
      refine wl_set 53 (v' := .bool true) rfl (congrArg Value.bool (decide_eq_true (he1.trans hz.symm))) ?_
      refine wl_ov (ov_move rfl) rfl ?_
      refine wl_guard_on rfl rfl rfl ?_
      refine wl_ov (ov_move rfl) rfl ?_
      refine wl_guard_on rfl rfl rfl ?_
      refine wl_ov (ov_move rfl) rfl ?_
      refine wl_guard_on rfl rfl rfl ?_
      refine wl_ov (ov_eql rfl rfl) rfl ?_
      refine wl_set 57 (v' := .bool true) rfl (congrArg Value.bool (decide_eq_true (he2))) ?_
      refine wl_ov (ov_pick_t rfl rfl) rfl ?_
      refine wl_ov (ov_move rfl) rfl ?_
      refine wl_guard_on rfl rfl rfl ?_
      refine wl_callv rfl cb41 rfl rfl (fun wx hm => (priced_any wx)) ?_
      refine wl_ov (ov_pick_t rfl rfl) rfl ?_
      refine wl_ov (ov_assign rfl) rfl ?_
      refine wl_nil ?_
      refine nx_then ?_
      refine gw_ret ?_
      refine nx_ret1 rfl rfl fun wx hm => ?_
      exact ⟨rfl, law_end hg1 hsb hm.g⟩
    · have hok2 : ok = false := by simpa using hh
      clear hh
      refine gw_region ?_
      have hnb : ∀ qs, ¬ Chain (prH l c fr tt) 0 (daysN fr tt) qs := by
        rcases hrf with ⟨h, _⟩ | ⟨_, _, h⟩
        · rw [hok2] at h; cases h
        · exact h
      obtain ⟨he1, he2⟩ : er = 8 ∧ sv = 0 := by
        rcases hsi with ⟨h, _⟩ | ⟨_, ⟨h1, h2, _⟩ | ⟨ps, h, _⟩⟩
        · exact absurd hz2 h
        · exact ⟨h1, h2⟩
        · exact absurd h.1 (hnb _)
      refine wl_ov (ov_assign rfl) rfl ?_
      refine wl_nil ?_
      refine nx_then ?_
      refine gw_seq ?_
      refine gw_region ?_
      refine wl_ov (ov_move rfl) rfl ?_
      refine wl_ov (ov_move rfl) rfl ?_
      refine wl_ov (ov_eql rfl rfl) rfl ?_
      refine wl_set 53 (v' := .bool true) rfl (congrArg Value.bool (decide_eq_true (he1))) ?_
      refine wl_ov (ov_move rfl) rfl ?_
      refine wl_guard_on rfl rfl rfl ?_
      refine wl_ov (ov_move rfl) rfl ?_
      refine wl_guard_on rfl rfl rfl ?_
      refine wl_ov (ov_move rfl) rfl ?_
      refine wl_guard_on rfl rfl rfl ?_
      refine wl_ov (ov_eql rfl rfl) rfl ?_
      refine wl_set 57 (v' := .bool true) rfl (congrArg Value.bool (decide_eq_true (he2))) ?_
      refine wl_ov (ov_pick_t rfl rfl) rfl ?_
      refine wl_ov (ov_move rfl) rfl ?_
      refine wl_guard_on rfl rfl rfl ?_
      refine wl_callv rfl cb41 rfl rfl (fun wx hm => (priced_any wx)) ?_
      refine wl_ov (ov_pick_t rfl rfl) rfl ?_
      refine wl_ov (ov_assign rfl) rfl ?_
      refine wl_nil ?_
      refine nx_then ?_
      refine gw_ret ?_
      refine nx_ret1 rfl rfl fun wx hm => ?_
      exact ⟨rfl, law_end hg1 hsb hm.g⟩
  · have hz : ¬ (firstE [RE, whenE (!keyB c) 5, timeE fr tt] = 0) := by simpa using hh
    clear hh
    refine gw_skip ?_
    refine nx_then ?_
    refine gw_seq ?_
    refine gw_region ?_
    have hz2 : ¬ chkE l c fr tt = 0 := by unfold chkE; rw [← hRE]; exact hz
    obtain ⟨he1, he2⟩ : er = firstE [RE, whenE (!keyB c) 5, timeE fr tt] ∧ sv = 0 := by
      rcases hsi with ⟨_, h1, h2⟩ | ⟨h, _⟩
      · exact ⟨by rw [h2, hRE]; rfl, h1⟩
      · exact absurd h hz2
    refine wl_ov (ov_move rfl) rfl ?_
    refine wl_ov (ov_move rfl) rfl ?_
    refine wl_ov (ov_eql rfl rfl) rfl ?_
    refine wl_set 53 (v' := .bool true) rfl (congrArg Value.bool (decide_eq_true (he1))) ?_
    refine wl_ov (ov_move rfl) rfl ?_
    refine wl_guard_on rfl rfl rfl ?_
    refine wl_ov (ov_move rfl) rfl ?_
    refine wl_guard_on rfl rfl rfl ?_
    refine wl_ov (ov_move rfl) rfl ?_
    refine wl_guard_on rfl rfl rfl ?_
    refine wl_ov (ov_eql rfl rfl) rfl ?_
    refine wl_set 57 (v' := .bool true) rfl (congrArg Value.bool (decide_eq_true (he2))) ?_
    refine wl_ov (ov_pick_t rfl rfl) rfl ?_
    refine wl_ov (ov_move rfl) rfl ?_
    refine wl_guard_on rfl rfl rfl ?_
    refine wl_callv rfl cb41 rfl rfl (fun wx hm => (priced_any wx)) ?_
    refine wl_ov (ov_pick_t rfl rfl) rfl ?_
    refine wl_ov (ov_assign rfl) rfl ?_
    refine wl_nil ?_
    refine nx_then ?_
    refine gw_ret ?_
    refine nx_ret1 rfl rfl fun wx hm => ?_
    exact ⟨rfl, law_end hg1 hsb hm.g⟩

end Go.Proofs.YtmpomocahgcebaaDoor
