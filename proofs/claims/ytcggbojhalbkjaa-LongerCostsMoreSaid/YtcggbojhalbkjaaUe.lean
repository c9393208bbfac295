/- Stretch; the walk of the law DivisionsStretch. -/
import Derived.Test.YtcggbojhalbkjaaTm
import Derived.Test.YtcggbojhalbkjaaTb
import Derived.Test.YtcggbojhalbkjaaSg
import Derived.Test.YtcggbojhalbkjaaGt
import Derived.Test.YtcggbojhalbkjaaRt
namespace Go.Proofs.Ytcggbojhalbkjaa
open Go.RowKit

/-- Half of what can be is left out again and again. -/
def strF (P : Int → Bool) : Nat → Int → Int → Int
  | 0, lo, _ => lo
  | n + 1, lo, hi => if lo < hi then (if P ((lo + hi + 1) / 2) = true then strF P n ((lo + hi + 1) / 2) hi else strF P n lo ((lo + hi + 1) / 2 - 1)) else lo
theorem strF_end {P : Int → Bool} {n : Nat} {lo hi : Int} (h : ¬ lo < hi) : strF P n lo hi = lo := by
  cases n with
  | zero => rfl
  | succ n => unfold strF; rw [if_neg h]
theorem strF_yes {P : Int → Bool} {n : Nat} {lo hi : Int} (h : lo < hi) (hp : P ((lo + hi + 1) / 2) = true) : strF P (n + 1) lo hi = strF P n ((lo + hi + 1) / 2) hi := by rw [strF, if_pos h, if_pos hp]
theorem strF_no {P : Int → Bool} {n : Nat} {lo hi : Int} (h : lo < hi) (hp : P ((lo + hi + 1) / 2) = false) : strF P (n + 1) lo hi = strF P n lo ((lo + hi + 1) / 2 - 1) := by rw [strF, if_pos h, if_neg (by rw [hp]; decide)]
open Classical in
/-- A hire till then has a division that costs no more. -/
noncomputable def strP (l : List Rt) (c : ByteArray) (fr cost : Int) (mid : Int) : Bool := decide (∃ ps, Best (prH l c fr mid) 0 (daysN fr mid) ps ∧ pcSum ps ≤ cost)
open Classical in
theorem strP_yes {l : List Rt} {c : ByteArray} {fr cost mid : Int} {ps : List Pc} (h : Best (prH l c fr mid) 0 (daysN fr mid) ps) : strP l c fr cost mid = decide (pcSum ps ≤ cost) := by
  unfold strP
  by_cases h1 : pcSum ps ≤ cost
  · rw [decide_eq_true h1]; exact decide_eq_true ⟨ps, h, h1⟩
  · rw [decide_eq_false h1]; exact decide_eq_false fun ⟨qs, g, h2⟩ => h1 (best_one g h ▸ h2)
open Classical in
theorem strP_no {l : List Rt} {c : ByteArray} {fr cost mid : Int} (h : ∀ qs, ¬ Chain (prH l c fr mid) 0 (daysN fr mid) qs) : strP l c fr cost mid = false := decide_eq_false fun ⟨qs, g, _⟩ => h qs g.1
noncomputable def strW (l : List Rt) (c : ByteArray) (fr tt cost : Int) : Int := strF (strP l c fr cost) (min (fr + 172800) 5761439 - tt).toNat tt (min (fr + 172800) 5761439)
theorem mid_time {fr tt mid : Int} (h : timeE fr tt = 0) (h1 : tt ≤ mid) (h2 : mid ≤ min (fr + 172800) 5761439) : timeE fr mid = 0 := by
  obtain ⟨h3, h4, h5, _⟩ := timeE_ok h
  unfold timeE
  rw [if_neg (by omega)]
  have : ¬ 120 < daysV fr mid := by unfold daysV; omega
  rw [decide_eq_false this]; rfl
theorem top_bound {fr tt : Int} (h : timeE fr tt = 0) : tt ≤ min (fr + 172800) 5761439 := by
  obtain ⟨h3, h4, h5, h6⟩ := timeE_ok h
  unfold daysV at h6
  omega
theorem pcSum_take {ps : List Pc} {k : Nat} {p : Pc} (h : ps[k]? = some p) : pcSum (ps.take (k + 1)) = pcSum (ps.take k) + p.cents := by
  obtain ⟨hk, rfl⟩ := List.getElem?_eq_some_iff.1 h
  rw [List.take_add_one, List.getElem?_eq_getElem hk, pcSum_append]
  simp [pcSum]
theorem take_bound {ps : List Pc} (h : ∀ p ∈ ps, 0 ≤ p.cents ∧ p.cents ≤ 24000000) : ∀ k, 0 ≤ pcSum (ps.take k) ∧ pcSum (ps.take k) ≤ 24000000 * (k : Int) := by
  induction ps with
  | nil => intro k; simp [pcSum]; omega
  | cons q r ih =>
    intro k
    cases k with
    | zero => simp [pcSum]
    | succ k =>
      have h1 := h q (List.mem_cons_self ..)
      have h2 := ih (fun p hp => h p (List.mem_cons_of_mem _ hp)) k
      simp only [List.take_succ_cons, pcSum]
      omega
theorem chain_cents {pr : Int → Nat → Int → Option Int} (hb : ∀ k i m c, pr k i m = some c → 0 ≤ c ∧ c ≤ 24000000) : ∀ {ps : List Pc} {i j : Nat}, Chain pr i j ps → ∀ p ∈ ps, 0 ≤ p.cents ∧ p.cents ≤ 24000000
  | [], _, _, _, p, h => by cases h
  | q :: r, i, j, h, p, hp => by
    rcases List.mem_cons.1 hp with rfl | hp
    · exact hb _ _ _ _ h.1.2.2.2.2
    · exact chain_cents hb h.2 p hp
theorem pr_bound {l : List Rt} {c : ByteArray} {fr tt : Int} (hr0 : ratesE l = 0) (ht : timeE fr tt = 0) : ∀ k i m v, prH l c fr tt k i m = some v → 0 ≤ v ∧ v ≤ 24000000 := price_all (rate_ok hr0) (fun i hi => by rw [seasons_len] at hi; exact begV_end ht i hi)

def StrIs (l : List Rt) (c : ByteArray) (fr tt : Int) (v e : Int) : Prop :=
  (chkE l c fr tt ≠ 0 ∧ v = 0 ∧ e = chkE l c fr tt) ∨ (chkE l c fr tt = 0 ∧ ((e = 8 ∧ v = 0 ∧ ∀ qs, ¬ Chain (prH l c fr tt) 0 (daysN fr tt) qs) ∨ ∃ ps, Best (prH l c fr tt) 0 (daysN fr tt) ps ∧ e = 0 ∧ v = strW l c fr tt (pcSum ps)))
set_option maxRecDepth 100000 in
set_option maxHeartbeats 2000000 in
theorem tStretch_any (l : List Rt) (A : Option Addr) (n c0 : Nat) (c : ByteArray) (fr tt : Int) (w : World) (hl : SlT rtEnc 7 47 w A n l) (hn : n ≤ 1000000) (hok : ∀ b ∈ l, RtOk b) (hc : c.size ≤ 1000000) :
    Calls Try.prog 12 #[.slice A n c0, .string c, .agg #[.int .i64 fr, .int .i64 tt]] w (fun e w' => ∃ v er, e = .returned (.tuple #[.int .i64 v, .int .i64 er]) ∧ StrIs l c fr tt v er ∧ w.grownBy w' none) := by
  refine gw_enter ⟨68, w, none, [3]⟩ Try.func12 rfl Try.ntmps12 rfl (mem0 (X := [SlOld rtEnc 7 47 w.heap.size none A n l]) (allF_cons hl.old allF_nil) (allL_cons SlOld.lasts allL_nil)) ?_
  refine gw_seq ?_
  refine gw_region ?_
  obtain ⟨CE, hCE⟩ : ∃ E, E = chkE l c fr tt := ⟨_, rfl⟩
  refine wl_box rfl rfl rfl fun g1 => ?_
  refine wl_ov (ov_assign rfl) rfl ?_
  refine wl_ov (ov_assign rfl) rfl ?_
  refine wl_nil ?_
  refine nx_then ?_
  refine gw_seq ?_
  refine gw_seq ?_
  refine gw_region ?_
  refine wl_ov (ov_move rfl) rfl ?_
  refine wl_ov (ov_move rfl) rfl ?_
  refine wl_ov (ov_loads rz30 rfl (fun _ hm => hm.blkI 0 rfl) rfl rfl) rfl ?_
  refine wl_callv (v := .int .i64 CE) rfl cb17 rfl rfl (fun wx hm => (by rw [hCE]; exact checkHire_any l A n c0 c fr tt wx (hm.fact 0 rfl).1 hok hn hc)) ?_
  refine wl_ov (ov_assign rfl) rfl ?_
  refine wl_nil ?_
  refine nx_then ?_
  refine gw_seq ?_
  refine gw_region ?_
  refine wl_ov (ov_move rfl) rfl ?_
  refine wl_ov (ov_neq rfl rfl) rfl ?_
  refine wl_nil ?_
  refine nx_then ?_
  refine gw_cond rfl (fun hh => ?_) (fun hh => ?_)
  · have h1 : ¬ (CE = 0) := by simpa using hh
    clear hh
    refine gw_seq ?_
    refine gw_region ?_
    refine wl_ov (ov_move rfl) rfl ?_
    refine wl_ov (ov_assign rfl) rfl ?_
    refine wl_ov (ov_assign rfl) rfl ?_
    refine wl_nil ?_
    refine nx_then ?_
    refine gw_ret ?_
    refine nx_then_ret ?_
    refine nx_ret2 rfl rfl rfl fun wx hm => ?_
    exact ⟨0, CE, rfl, .inl ⟨fun h => h1 (hCE.trans h), rfl, hCE⟩, hm.g⟩
  · have h1 : CE = 0 := by simpa using hh
    clear hh
    refine gw_skip ?_
    refine nx_then ?_
    refine gw_seq ?_
    refine gw_region ?_
    obtain ⟨hr0, hkc, ht⟩ := chkE_ok (hCE.symm.trans h1)
    obtain ⟨h0, hlt, htt, _⟩ := timeE_ok ht
    have hpos := rt_pos hr0
    have hro := rate_ok hr0
    have htop := top_bound ht
    obtain ⟨Dp, hDp⟩ : ∃ D, D = daysN fr tt := ⟨_, rfl⟩
    have hDvp : (daysV fr tt).toNat = Dp := hDp.symm
    have hDdp := timeE_days ht
    have hDap : 1 ≤ Dp ∧ Dp ≤ 120 := by omega
    obtain ⟨hte0p, hte1p, hte2p, _⟩ := timeE_ok ht
    refine wl_ov (ov_move rfl) rfl ?_
    refine wl_ov (ov_move rfl) rfl ?_
    refine wl_ov (ov_loads rz30 rfl (fun _ hm => hm.blkI 0 rfl) rfl rfl) rfl ?_
    refine wl_callx (γ := Option Addr × Nat) (val := (fun (g : Option Addr × Nat) => .agg #[.slice A n c0, .int .i64 fr, .int .i64 tt, .slice g.1 Dp g.2])) (φ := (fun (g : Option Addr × Nat) => Dp ≤ g.2)) (Y := (fun (g : Option Addr × Nat) => fun wy => SlT itEnc 1 3 wy g.1 Dp (seasons l c fr Dp))) rfl cb18 rfl rfl (fun wx hm => (by have h := trent_any l A n c0 c fr tt wx (hm.fact 0 rfl).1 hn hpos ht; rw [hDvp] at h; exact h.mono fun _ _ ⟨A2, c2, he, hg, hs, hc⟩ => ⟨(A2, c2), he, hc, hg, hs⟩)) (fun _ => SlT.lasts2 rfl) ?_
    rintro ⟨A3p, c3p⟩ hDcp
    dsimp only at hDcp ⊢
    refine wl_callgo (γ := Option Addr × Nat × List Dv) (val := (fun (g : Option Addr × Nat × List Dv) => .slice g.1 (Dp + 1) g.2.1)) (φ := (fun (g : Option Addr × Nat × List Dv) => DvFrom (priceO l (seasons l c fr Dp) fr tt) Dp 0 g.2.2)) (fun (g : Option Addr × Nat × List Dv) => ⟨.slice g.1 (Dp + 1) g.2.1, 60, 6, (Dp + 1), g.2.2.flatMap dvEnc⟩) rfl cb19 rfl rfl (fun wx hm => (tdivide_any l A n c0 fr tt (seasons l c fr Dp) A3p Dp c3p wx (hm.fact 1 rfl).1 (hm.fact 0 rfl) hDcp hDap.2 (seasons_bound l c fr Dp) hro h0 (by omega) (by omega) (by omega) (by rw [hDp]; exact begV_end ht)).mono fun _ _ ⟨A3, c3, ds, he, hg, hs, hd⟩ => ⟨(A3, c3, ds), he, hd, hs, hg⟩) ?_
    rintro ⟨A5p, c5p, dsp⟩ hdsp
    dsimp only at hdsp ⊢
    refine wl_look (R := ∃ g, A5p = some ⟨g, 0, none⟩) (fun wx hm => own_addr (hm.ownI 0 rfl) (by omega)) ?_
    rintro ⟨bop, rfl⟩
    have hprp : priceO l (seasons l c fr Dp) fr tt = prH l c fr tt := by unfold prH; rw [hDp]
    rw [hprp, hDp] at hdsp
    have hdlp := hdsp.1
    obtain ⟨xp, hxp⟩ : ∃ x, dsp[0]? = some x := ⟨_, List.getElem?_eq_getElem (by omega)⟩
    have hd0p := dv_first0 hdsp hxp
    obtain ⟨xp0, xp1, xp2, xp3, xp4, xp5⟩ := xp
    dsimp only at hd0p
    refine wl_ov (ov_index (j := 0) es52 rfl rfl (by omega)) rfl ?_
    refine wl_ov (ov_elem (vs := [.int .i64 xp0, .int .i64 xp1, .int .i64 xp2, .int .i64 xp3, .int .i64 xp4, .bool xp5]) rz60 rfl (fun _ hm => (SlT.ofOwn dv_len (hm.ownI 0 rfl) (hdlp.trans (by rw [hDp])))) (show dsp[0]? = some _ from hxp) rfl rfl) rfl ?_
    refine wl_alloc zc60 rfl fun g2 => ?_
    refine wl_stores (cs' := [.int .i64 xp0, .int .i64 xp1, .int .i64 xp2, .int .i64 xp3, .int .i64 xp4, .bool xp5]) 0 rz60 rfl rfl rfl rfl rfl rfl rfl rfl ?_
    refine wl_nil ?_
    refine nx_then ?_
    refine gw_seq ?_
    refine gw_seq ?_
    refine gw_region ?_
    refine wl_ov (ov_field fo60_3 rfl rfl) rfl ?_
    refine wl_ov (ov_load sc4 rfl (fun _ hm => hm.blkI 0 rfl) rfl) rfl ?_
    refine wl_ov (ov_un_not rfl) rfl ?_
    refine wl_nil ?_
    refine nx_then ?_
    refine gw_cond rfl (fun hh => ?_) (fun hh => ?_)
    · have hf : xp5 = false := by simpa using hh
      clear hh
      refine gw_seq ?_
      refine gw_region ?_
      refine wl_ov (ov_assign rfl) rfl ?_
      refine wl_ov (ov_assign rfl) rfl ?_
      refine wl_nil ?_
      refine nx_then ?_
      refine gw_ret ?_
      refine nx_then_ret ?_
      refine nx_ret2 rfl rfl rfl fun wx hm => ?_
      exact ⟨0, 8, rfl, .inr ⟨hCE.symm.trans h1, .inl ⟨rfl, rfl, hd0p.1 (by simpa using hf)⟩⟩, hm.g⟩
    · have hf : xp5 = true := by simpa using hh
      clear hh
      refine gw_skip ?_
      refine nx_then ?_
      refine gw_seq ?_
      obtain ⟨ps, hps, hsum⟩ := hd0p.2 (by simpa using hf)
      refine gw_draw (fun wz => Blk wz g2 60 [.int .i64 xp0, .int .i64 xp1, .int .i64 xp2, .int .i64 xp3, .int .i64 xp4, .bool xp5] ∧ Blk wz g1 30 [.int .i64 fr, .int .i64 tt] ∧ (fun wy => SlT itEnc 1 3 wy A3p Dp (seasons l c fr Dp)) wz ∧ (SlOld rtEnc 7 47 w.heap.size none A n l) wz ∧ True) mixed ?_
      refine wa_take 0 rfl (by kernel_rfl) (by kernel_rfl) (by kernel_rfl) (listed' := #[true, false, false, false, false, false, false, false]) rfl (fun _ _ _ h => h) (fun _ hm => ⟨hm.blkI 0 rfl, hm.blkI 1 rfl, hm.fact 0 rfl, hm.fact 1 rfl, trivial⟩) (ov_field fo30_1 rfl rfl) rfl ?_
      refine wa_take 1 rfl (by kernel_rfl) (by kernel_rfl) (by kernel_rfl) (listed' := #[true, true, false, false, false, false, false, false]) rfl (fun _ _ _ h => h) (fun _ hm => ⟨hm.blkI 0 rfl, hm.blkI 1 rfl, hm.fact 0 rfl, hm.fact 1 rfl, trivial⟩) (ov_load sc3 rfl (fun _ hm => hm.2.1) rfl) rfl ?_
      refine wa_take 2 rfl (by kernel_rfl) (by kernel_rfl) (by kernel_rfl) (listed' := #[true, true, true, false, false, false, false, false]) rfl (fun _ _ _ h => h) (fun _ hm => ⟨hm.blkI 0 rfl, hm.blkI 1 rfl, hm.fact 0 rfl, hm.fact 1 rfl, trivial⟩) (ov_field fo30_0 rfl rfl) rfl ?_
      refine wa_take 3 rfl (by kernel_rfl) (by kernel_rfl) (by kernel_rfl) (listed' := #[true, true, true, true, false, false, false, false]) rfl (fun _ _ _ h => h) (fun _ hm => ⟨hm.blkI 0 rfl, hm.blkI 1 rfl, hm.fact 0 rfl, hm.fact 1 rfl, trivial⟩) (ov_load sc3 rfl (fun _ hm => hm.2.1) rfl) rfl ?_
      refine wa_take 4 rfl (by kernel_rfl) (by kernel_rfl) (by kernel_rfl) (listed' := #[true, true, true, true, true, false, false, false]) rfl (fun _ _ _ h => h) (fun _ hm => ⟨hm.blkI 0 rfl, hm.blkI 1 rfl, hm.fact 0 rfl, hm.fact 1 rfl, trivial⟩) (ov_add rfl rfl (by omega) (by omega)) rfl ?_
      refine wa_take 5 rfl (by kernel_rfl) (by kernel_rfl) (by kernel_rfl) (listed' := #[true, true, true, true, true, true, false, false]) rfl (fun _ _ _ h => h) (fun _ hm => ⟨hm.blkI 0 rfl, hm.blkI 1 rfl, hm.fact 0 rfl, hm.fact 1 rfl, trivial⟩) (ov_min rfl rfl) rfl ?_
      refine wa_take 6 rfl (by kernel_rfl) (by kernel_rfl) (by kernel_rfl) (listed' := #[true, true, true, true, true, true, true, false]) rfl (fun _ _ _ h => h) (fun _ hm => ⟨hm.blkI 0 rfl, hm.blkI 1 rfl, hm.fact 0 rfl, hm.fact 1 rfl, trivial⟩) (ov_assign rfl) rfl ?_
      refine wa_take 7 rfl (by kernel_rfl) (by kernel_rfl) (by kernel_rfl) (listed' := #[true, true, true, true, true, true, true, true]) rfl (fun _ _ _ h => h) (fun _ hm => ⟨hm.blkI 0 rfl, hm.blkI 1 rfl, hm.fact 0 rfl, hm.fact 1 rfl, trivial⟩) (ov_assign rfl) rfl ?_
      refine wa_done (by kernel_rfl) ?_
      refine nx_then ?_
      refine gw_seq ?_
      refine gw_block ?_
      refine gw_loop (γ := Nat × Int × Int) (fun (g : Nat × Int × Int) => (tt ≤ g.2.1 ∧ g.2.1 ≤ g.2.2) ∧ g.2.2 ≤ min (fr + 172800) 5761439 ∧ g.2.2 - g.2.1 ≤ ((g.1 : Nat) : Int) ∧ strW l c fr tt xp0 = strF (strP l c fr xp0) g.1 g.2.1 g.2.2) (fun (g : Nat × Int × Int) => [(0, .slice A n c0), (1, .string c), (5, .pointer (some ⟨g1, 0, none⟩)), (6, .int .i64 0), (7, .int .i64 0), (9, .pointer (some ⟨g2, 0, none⟩)), (10, .int .i64 g.2.1), (11, .int .i64 g.2.2)]) (fun (g : Nat × Int × Int) => fun _ => True) (fun (g : Nat × Int × Int) => [(g2, 60, [.int .i64 xp0, .int .i64 xp1, .int .i64 xp2, .int .i64 xp3, .int .i64 xp4, .bool xp5]), (g1, 30, [.int .i64 fr, .int .i64 tt])]) (fun (g : Nat × Int × Int) => []) (fun (g : Nat × Int × Int) => [SlOld rtEnc 7 47 w.heap.size none A n l]) (fun (g : Nat × Int × Int) => g.1) ((min (fr + 172800) 5761439 - tt).toNat, tt, min (fr + 172800) 5761439) ⟨⟨by dsimp only; omega, by dsimp only; omega⟩, by dsimp only; omega, by dsimp only; omega, rfl⟩ ⟨rfl, rfl, rfl, rfl, rfl, rfl, rfl, rfl, trivial⟩ (fun _ hm => hm.pick [0, 1] [] [1] rfl rfl) ?_
      rintro ⟨k, a, z⟩ hinv
      replace hinv : (tt ≤ a ∧ a ≤ z) ∧ z ≤ min (fr + 172800) 5761439 ∧ z - a ≤ ((k : Nat) : Int) ∧ strW l c fr tt xp0 = strF (strP l c fr xp0) k a z := hinv
      dsimp only
      refine gw_seq ?_
      refine gw_seq ?_
      refine gw_region ?_
      obtain ⟨⟨ha1, ha2⟩, hz1, hkz, hst⟩ := hinv
      refine wl_ov (ov_move rfl) rfl ?_
      refine wl_ov (ov_move rfl) rfl ?_
      refine wl_ov (ov_lss rfl rfl) rfl ?_
      refine wl_nil ?_
      refine nx_then ?_
      refine gw_cond rfl (fun hh => ?_) (fun hh => ?_)
      · have haz : a < z := by simpa using hh
        clear hh
        refine gw_skip ?_
        refine nx_then ?_
        refine gw_block ?_
        refine gw_seq ?_
        refine gw_region ?_
        obtain ⟨k, rfl⟩ : ∃ j, k = j + 1 := ⟨k - 1, by omega⟩
        obtain ⟨mid, hmid⟩ : ∃ v, v = (a + z + 1) / 2 := ⟨_, rfl⟩
        have hmt := mid_time ht (show tt ≤ mid by omega) (show mid ≤ _ by omega)
        have hm1 : a < mid := by omega
        have hm2 : mid ≤ z := by omega
        obtain ⟨Dq, hDq⟩ : ∃ D, D = daysN fr mid := ⟨_, rfl⟩
        have hDvq : (daysV fr mid).toNat = Dq := hDq.symm
        have hDdq := timeE_days hmt
        have hDaq : 1 ≤ Dq ∧ Dq ≤ 120 := by omega
        obtain ⟨hte0q, hte1q, hte2q, _⟩ := timeE_ok hmt
        refine wl_ov (ov_move rfl) rfl ?_
        refine wl_ov (ov_move rfl) rfl ?_
        refine wl_ov (ov_add rfl rfl (by omega) (by omega)) rfl ?_
        refine wl_ov (ov_add rfl rfl (by omega) (by omega)) rfl ?_
        refine wl_ov (ov_quo rfl rfl (by omega) (by omega) (by omega)) rfl ?_
        refine wl_set 44 (v' := .int .i64 mid) rfl (congrArg (Value.int .i64) hmid.symm) ?_
        refine wl_ov (ov_assign rfl) rfl ?_
        refine wl_nil ?_
        refine nx_then ?_
        refine gw_seq ?_
        refine gw_region ?_
        refine wl_ov (ov_move rfl) rfl ?_
        refine wl_ov (ov_move rfl) rfl ?_
        refine wl_ov (ov_field fo30_0 rfl rfl) rfl ?_
        refine wl_ov (ov_load sc3 rfl (fun _ hm => hm.blkI 1 rfl) rfl) rfl ?_
        refine wl_ov (ov_move rfl) rfl ?_
        refine wl_ov (ov_build (cs := [.int .i64 fr, .int .i64 mid]) rfl (by kernel_rfl)) rfl ?_
        refine wl_callx (γ := Option Addr × Nat) (val := (fun (g : Option Addr × Nat) => .agg #[.slice A n c0, .int .i64 fr, .int .i64 mid, .slice g.1 Dq g.2])) (φ := (fun (g : Option Addr × Nat) => Dq ≤ g.2)) (Y := (fun (g : Option Addr × Nat) => fun wy => SlT itEnc 1 3 wy g.1 Dq (seasons l c fr Dq))) rfl cb18 rfl rfl (fun wx hm => (by have h := trent_any l A n c0 c fr mid wx (hm.fact 0 rfl).1 hn hpos hmt; rw [hDvq] at h; exact h.mono fun _ _ ⟨A2, c2, he, hg, hs, hc⟩ => ⟨(A2, c2), he, hc, hg, hs⟩)) (fun _ => SlT.lasts2 rfl) ?_
        rintro ⟨A3q, c3q⟩ hDcq
        dsimp only at hDcq ⊢
        refine wl_callgo (γ := Option Addr × Nat × List Dv) (val := (fun (g : Option Addr × Nat × List Dv) => .slice g.1 (Dq + 1) g.2.1)) (φ := (fun (g : Option Addr × Nat × List Dv) => DvFrom (priceO l (seasons l c fr Dq) fr mid) Dq 0 g.2.2)) (fun (g : Option Addr × Nat × List Dv) => ⟨.slice g.1 (Dq + 1) g.2.1, 60, 6, (Dq + 1), g.2.2.flatMap dvEnc⟩) rfl cb19 rfl rfl (fun wx hm => (tdivide_any l A n c0 fr mid (seasons l c fr Dq) A3q Dq c3q wx (hm.fact 1 rfl).1 (hm.fact 0 rfl) hDcq hDaq.2 (seasons_bound l c fr Dq) hro h0 (by omega) (by omega) (by omega) (by rw [hDq]; exact begV_end hmt)).mono fun _ _ ⟨A3, c3, ds, he, hg, hs, hd⟩ => ⟨(A3, c3, ds), he, hd, hs, hg⟩) ?_
        rintro ⟨A5q, c5q, dsq⟩ hdsq
        dsimp only at hdsq ⊢
        refine wl_look (R := ∃ g, A5q = some ⟨g, 0, none⟩) (fun wx hm => own_addr (hm.ownI 0 rfl) (by omega)) ?_
        rintro ⟨boq, rfl⟩
        have hprq : priceO l (seasons l c fr Dq) fr mid = prH l c fr mid := by unfold prH; rw [hDq]
        rw [hprq, hDq] at hdsq
        have hdlq := hdsq.1
        obtain ⟨xq, hxq⟩ : ∃ x, dsq[0]? = some x := ⟨_, List.getElem?_eq_getElem (by omega)⟩
        have hd0q := dv_first0 hdsq hxq
        obtain ⟨xq0, xq1, xq2, xq3, xq4, xq5⟩ := xq
        dsimp only at hd0q
        refine wl_ov (ov_index (j := 0) es52 rfl rfl (by omega)) rfl ?_
        refine wl_ov (ov_elem (vs := [.int .i64 xq0, .int .i64 xq1, .int .i64 xq2, .int .i64 xq3, .int .i64 xq4, .bool xq5]) rz60 rfl (fun _ hm => (SlT.ofOwn dv_len (hm.ownI 0 rfl) (hdlq.trans (by rw [hDq])))) (show dsq[0]? = some _ from hxq) rfl rfl) rfl ?_
        refine wl_alloc zc60 rfl fun g3 => ?_
        refine wl_stores (cs' := [.int .i64 xq0, .int .i64 xq1, .int .i64 xq2, .int .i64 xq3, .int .i64 xq4, .bool xq5]) 0 rz60 rfl rfl rfl rfl rfl rfl rfl rfl ?_
        refine wl_nil ?_
        refine nx_then ?_
        refine gw_seq ?_
        refine gw_region ?_
        refine wl_ov (ov_field fo60_3 rfl rfl) rfl ?_
        refine wl_ov (ov_load sc4 rfl (fun _ hm => hm.blkI 0 rfl) rfl) rfl ?_
        refine wl_ov (ov_move rfl) rfl ?_
        rcases Bool.eq_false_or_eq_true xq5 with hok | hok
        · refine wl_set 57 rfl (congrArg Value.bool hok) ?_
          obtain ⟨q2, hb2, hs2⟩ := hd0q.2 hok
          have hPe := strP_yes (cost := xp0) hb2
          rw [← hs2] at hPe
          refine wl_guard_on rfl rfl rfl ?_
          refine wl_ov (ov_field fo60_0 rfl rfl) rfl ?_
          refine wl_guard_on rfl rfl rfl ?_
          refine wl_ov (ov_load sc3 rfl (fun _ hm => hm.blkI 0 rfl) rfl) rfl ?_
          refine wl_guard_on rfl rfl rfl ?_
          refine wl_ov (ov_field fo60_0 rfl rfl) rfl ?_
          refine wl_guard_on rfl rfl rfl ?_
          refine wl_ov (ov_load sc3 rfl (fun _ hm => hm.blkI 1 rfl) rfl) rfl ?_
          refine wl_guard_on rfl rfl rfl ?_
          refine wl_ov (ov_leq rfl rfl) rfl ?_
          refine wl_ov (ov_pick_t rfl rfl) rfl ?_
          refine wl_nil ?_
          refine nx_then ?_
          refine gw_cond rfl (fun hh => ?_) (fun hh => ?_)
          · have hle : xq0 ≤ xp0 := by simpa using hh
            clear hh
            refine gw_region ?_
            have hP : strP l c fr xp0 mid = true := hPe.trans (decide_eq_true hle)
            refine wl_ov (ov_move rfl) rfl ?_
            refine wl_ov (ov_assign rfl) rfl ?_
            refine wl_nil ?_
            refine nx_blk_nrm ?_
            exact nx_round (k, mid, z) ⟨⟨by dsimp only; omega, by dsimp only; omega⟩, by dsimp only; omega, by dsimp only; omega, by rw [hst, strF_yes haz (by rw [← hmid]; exact hP), ← hmid]⟩ (Nat.lt_succ_self _) ⟨rfl, rfl, rfl, rfl, rfl, rfl, rfl, rfl, trivial⟩ (fun _ hm => hm.pick [1, 2] [] [1] rfl rfl)
          · have hle : ¬ (xq0 ≤ xp0) := by simpa using hh
            clear hh
            refine gw_region ?_
            have hP : strP l c fr xp0 mid = false := hPe.trans (decide_eq_false hle)
            refine wl_ov (ov_move rfl) rfl ?_
            refine wl_ov (ov_sub rfl rfl (by omega) (by omega)) rfl ?_
            refine wl_ov (ov_assign rfl) rfl ?_
            refine wl_nil ?_
            refine nx_blk_nrm ?_
            exact nx_round (k, a, mid - 1) ⟨⟨by dsimp only; omega, by dsimp only; omega⟩, by dsimp only; omega, by dsimp only; omega, by rw [hst, strF_no haz (by rw [← hmid]; exact hP), ← hmid]⟩ (Nat.lt_succ_self _) ⟨rfl, rfl, rfl, rfl, rfl, rfl, rfl, rfl, trivial⟩ (fun _ hm => hm.pick [1, 2] [] [1] rfl rfl)
        · refine wl_set 57 rfl (congrArg Value.bool hok) ?_
          have hP : strP l c fr xp0 mid = false := strP_no (hd0q.1 hok)
          refine wl_guard_off rfl rfl rfl (by decide) rfl ?_
          refine wl_guard_off rfl rfl rfl (by decide) rfl ?_
          refine wl_guard_off rfl rfl rfl (by decide) rfl ?_
          refine wl_guard_off rfl rfl rfl (by decide) rfl ?_
          refine wl_guard_off rfl rfl rfl (by decide) rfl ?_
          refine wl_ov (ov_pick_f rfl rfl) rfl ?_
          refine wl_nil ?_
          refine nx_then ?_
          refine gw_cond rfl (fun hh => by cases hh) (fun _ => ?_)
          refine gw_region ?_
          refine wl_ov (ov_move rfl) rfl ?_
          refine wl_ov (ov_sub rfl rfl (by omega) (by omega)) rfl ?_
          refine wl_ov (ov_assign rfl) rfl ?_
          refine wl_nil ?_
          refine nx_blk_nrm ?_
          exact nx_round (k, a, mid - 1) ⟨⟨by dsimp only; omega, by dsimp only; omega⟩, by dsimp only; omega, by dsimp only; omega, by rw [hst, strF_no haz (by rw [← hmid]; exact hP), ← hmid]⟩ (Nat.lt_succ_self _) ⟨rfl, rfl, rfl, rfl, rfl, rfl, rfl, rfl, trivial⟩ (fun _ hm => hm.pick [1, 2] [] [1] rfl rfl)
      · have haz : ¬ (a < z) := by simpa using hh
        clear hh
        refine gw_exit ?_
        refine nx_then_exit ?_
        refine nx_then_exit ?_
        refine nx_blk_here ?_
        refine nx_then ?_
        refine gw_seq ?_
        refine gw_region ?_
        refine wl_ov (ov_move rfl) rfl ?_
        refine wl_ov (ov_assign rfl) rfl ?_
        refine wl_ov (ov_assign rfl) rfl ?_
        refine wl_nil ?_
        refine nx_then ?_
        refine gw_ret ?_
        refine nx_ret2 rfl rfl rfl fun wx hm => ?_
        exact ⟨a, 0, rfl, .inr ⟨hCE.symm.trans h1, .inr ⟨ps, hps, rfl, by rw [← hsum, hst, strF_end haz]⟩⟩, hm.g⟩

end Go.Proofs.Ytcggbojhalbkjaa
