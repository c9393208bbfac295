/- The walk of the law DivisionsLeast. -/
import Derived.Test.YtmpomocahgcebaaDoorUc
import Derived.Test.YtmpomocahgcebaaDoorTb
import Derived.Test.YtmpomocahgcebaaDoorSg
import Derived.Test.YtmpomocahgcebaaDoorGt
import Derived.Test.YtmpomocahgcebaaDoorRt
namespace Go.Proofs.YtmpomocahgcebaaDoor
open Go.RowKit

theorem least_same {l : List Rt} {c : ByteArray} {fr tt er : Int} {ps qs : List Pc} {ok : Bool} (h0 : chkE l c fr tt = 0) (h : DivIs l c fr tt er ps) (g : RefIs l c fr tt ok qs) : er = whenE (!ok) 8 ∧ ps = qs := by
  rcases h with ⟨h1, _⟩ | ⟨_, ⟨h1, h2, h3⟩ | ⟨h1, h2⟩⟩
  · exact absurd h0 h1
  · rcases g with ⟨rfl, g1⟩ | ⟨rfl, g1, _⟩
    · exact absurd g1.1 (h3 _)
    · exact ⟨h1, h2.trans g1.symm⟩
  · rcases g with ⟨rfl, g1⟩ | ⟨rfl, _, g2⟩
    · exact ⟨h1, best_one h2 g1⟩
    · exact absurd h2.1 (g2 _)
theorem div_bad {l : List Rt} {c : ByteArray} {fr tt er : Int} {ps : List Pc} (h0 : ¬ chkE l c fr tt = 0) (h : DivIs l c fr tt er ps) : er = chkE l c fr tt ∧ ps = [] := by
  rcases h with ⟨_, h1, h2⟩ | ⟨h1, _⟩
  · exact ⟨h1, h2⟩
  · exact absurd h1 h0

set_option maxRecDepth 100000 in
set_option maxHeartbeats 2000000 in
theorem least_walk (a0 : Option Addr) (len0 cap0 : Nat) (z0 : List Int) (w : World) (hR : RowIn w a0 len0 cap0 z0) :
    Calls Tryd.prog 6 #[.slice a0 len0 cap0] w fun e w' => e = .returned (.bool true) ∧ Below w.heap.size w w' := by
  refine gw_enter ⟨61, w, none, []⟩ Tryd.func6 rfl Tryd.ntmps6 rfl (mem0 (X := []) allF_nil allL_nil) ?_
  refine gw_seq ?_
  refine gw_region ?_
  refine wl_ov (ov_assign rfl) rfl ?_
  refine wl_nil ?_
  refine nx_then ?_
  refine gw_seq ?_
  refine gw_region ?_
  refine wl_ov (ov_move rfl) rfl ?_
  refine wl_ov (ov_build (cs := [.slice a0 len0 cap0, .int .i64 0]) rfl (by kernel_rfl)) rfl ?_
  refine wl_box rfl rfl rfl fun sb => ?_
  refine wl_ov (ov_assign rfl) rfl ?_
  refine wl_nil ?_
  refine nx_then ?_
  refine gw_seq ?_
  refine gw_region ?_
  refine wl_ov (ov_move rfl) rfl ?_
  refine wl_law [61, 79] hR 0 rfl fun w1 B hg1 hsb => ?_
  refine wl_calls (γ := Option Addr × Nat × Nat × List Rt) (val := (fun (g : Option Addr × Nat × Nat × List Rt) => .slice g.1 g.2.1 g.2.2.1)) (φ := (fun (g : Option Addr × Nat × Nat × List Rt) => (∀ x ∈ g.2.2.2, RtOk x) ∧ g.2.1 ≤ 10 ∧ g.2.1 ≤ g.2.2.1 ∧ g.2.2.2.length = g.2.1)) (Y := (fun (g : Option Addr × Nat × Nat × List Rt) => fun wy => SlT rtEnc 7 61 wy g.1 g.2.1 g.2.2.2)) (m' := 0 + 200) rfl cb28 rfl rfl rfl rfl (fun wx hm => (grates_any wx B sb _ hm.k (by omega)).mono fun _ _ ⟨A, n, c0, l, he, hsl, hok, hn, hnc, hS, hg⟩ => ⟨(A, n, c0, l), he, ⟨hok, hn, hnc, hsl.len⟩, hS, hg, hsl⟩) (fun _ => SlT.lasts2 rfl) ?_
  rintro ⟨A, n, c0, l⟩ hR1
  dsimp only at hR1 ⊢
  obtain ⟨hok, hn10, hnc, hlen⟩ := hR1
  refine wl_ov (ov_move rfl) rfl ?_
  refine wl_calls (γ := ByteArray) (val := (fun (g : ByteArray) => .string g)) (φ := (fun (g : ByteArray) => g.size ≤ 100)) (Y := (fun (g : ByteArray) => fun _ => True)) (m' := 0 + 200 + 1) rfl cb30 rfl rfl rfl rfl (fun wx hm => (gclassKey_any wx B sb _ hm.k (by omega)).mono fun _ _ ⟨v, he, hv, hS, hg⟩ => ⟨v, he, hv, hS, hg, trivial⟩) (fun _ => Lasts2.true_) ?_
  rintro c hc1
  refine wl_ov (ov_move rfl) rfl ?_
  refine wl_calls (γ := Int × Int) (val := (fun (g : Int × Int) => .agg #[.int .i64 g.1, .int .i64 g.2])) (φ := (fun (g : Int × Int) => Far g.1 ∧ Far g.2)) (Y := (fun (g : Int × Int) => fun _ => True)) (m' := 0 + 200 + 1 + 10) rfl cb29 rfl rfl rfl rfl (fun wx hm => (gtime_any wx B sb _ hm.k (by omega)).mono fun _ _ ⟨fr, tt, h1, h2, he, hS, hg⟩ => ⟨(fr, tt), he, ⟨h1, h2⟩, hS, hg, trivial⟩) (fun _ => Lasts2.true_) ?_
  rintro ⟨fr, tt⟩ hT1
  dsimp only at hT1 ⊢
  obtain ⟨⟨hf0, hf1⟩, hf2, hf3⟩ := hT1
  refine wl_alloc zc56 rfl fun g3 => ?_
  refine wl_ov (ov_assign rfl) rfl ?_
  refine wl_ov (ov_assign rfl) rfl ?_
  refine wl_stores (cs' := [.int .i64 fr, .int .i64 tt]) 0 rz56 rfl rfl rfl rfl rfl rfl rfl rfl ?_
  refine wl_nil ?_
  refine nx_then ?_
  refine gw_seq ?_
  refine gw_region ?_
  refine wl_ov (ov_move rfl) rfl ?_
  refine wl_ov (ov_move rfl) rfl ?_
  refine wl_ov (ov_loads rz56 rfl (fun _ hm => hm.blkI 0 rfl) rfl rfl) rfl ?_
  obtain ⟨RE, hRE⟩ : ∃ E, E = ratesE l := ⟨_, rfl⟩
  refine wl_callx (γ := Option Addr × Nat × Nat × List Pc × Int) (val := (fun (g : Option Addr × Nat × Nat × List Pc × Int) => .tuple #[.slice g.1 g.2.1 g.2.2.1, .int .i64 g.2.2.2.2])) (φ := (fun (g : Option Addr × Nat × Nat × List Pc × Int) => DivIs l c fr tt g.2.2.2.2 g.2.2.2.1 ∧ g.2.1 ≤ 120 ∧ g.2.2.2.1.length = g.2.1)) (Y := (fun (g : Option Addr × Nat × Nat × List Pc × Int) => fun wy => SlT pcEnc 3 79 wy g.1 g.2.1 g.2.2.2.1)) rfl cb42 rfl rfl (fun wx hm => (tDivide_any l A n c0 c fr tt wx (hm.fact 2 rfl) hok (by omega) (by omega)).mono fun _ _ ⟨A3, n3, c3, ps, er, he, hg, hs, hd, hn3⟩ => ⟨(A3, n3, c3, ps, er), he, ⟨hd, hn3, hs.len⟩, hg, hs⟩) (fun _ => SlT.lasts2 rfl) ?_
  rintro ⟨A3, n3, c3, ps, er⟩ hdv
  dsimp only at hdv ⊢
  obtain ⟨hdv, hn3, hps⟩ := hdv
  refine wl_ov (ov_move rfl) rfl ?_
  refine wl_ov (ov_extract rfl rfl) rfl ?_
  refine wl_ov (ov_extract rfl rfl) rfl ?_
  refine wl_ov (ov_assign rfl) rfl ?_
  refine wl_ov (ov_assign rfl) rfl ?_
  refine wl_nil ?_
  refine nx_then ?_
  refine gw_seq ?_
  refine gw_draw (fun wz => Blk wz g3 56 [.int .i64 fr, .int .i64 tt] ∧ (fun wy => SlT pcEnc 3 79 wy A3 n3 ps) wz ∧ (fun _ => True) wz ∧ (fun _ => True) wz ∧ (fun wy => SlT rtEnc 7 61 wy A n l) wz ∧ True) mixed ?_
  refine wa_take 0 rfl (by kernel_rfl) (by kernel_rfl) (by kernel_rfl) (listed' := #[true, false, false, false, false, false, false, false, false]) rfl (fun _ _ _ h => h) (fun _ hm => ⟨hm.blkI 0 rfl, hm.fact 0 rfl, hm.fact 1 rfl, hm.fact 2 rfl, hm.fact 3 rfl, trivial⟩) (ov_move rfl) rfl ?_
  refine wa_take 2 rfl (by kernel_rfl) (by kernel_rfl) (by kernel_rfl) (listed' := #[true, false, true, false, false, false, false, false, false]) rfl (fun _ _ _ h => h) (fun _ hm => ⟨hm.blkI 0 rfl, hm.fact 0 rfl, hm.fact 1 rfl, hm.fact 2 rfl, hm.fact 3 rfl, trivial⟩) (ov_move rfl) rfl ?_
  refine wa_take 4 rfl (by kernel_rfl) (by kernel_rfl) (by kernel_rfl) (listed' := #[true, false, true, false, true, false, false, false, false]) rfl (fun _ _ _ h => h) (fun _ hm => ⟨hm.blkI 0 rfl, hm.fact 0 rfl, hm.fact 1 rfl, hm.fact 2 rfl, hm.fact 3 rfl, trivial⟩) (ov_loads rz56 rfl (fun _ hm => hm.1) rfl rfl) rfl ?_
  refine wa_all [1] (by kernel_rfl) rfl ⟨⟨_, rfl, ?_⟩, trivial⟩
  refine wl_callv (v := .int .i64 RE) rfl cb33 rfl rfl (fun wx hm => (by rw [hRE]; exact ratesFault_any l A n c0 wx (hm.fact 3 rfl) hok (by omega))) ?_
  refine wl_nil ?_
  refine nx_wa0 (listed' := #[true, true, true, false, true, false, false, false, false]) rfl (fun _ hm => ⟨hm.blkI 0 rfl, hm.fact 0 rfl, hm.fact 1 rfl, hm.fact 2 rfl, hm.fact 3 rfl, trivial⟩) ?_
  refine wa_all [3] (by kernel_rfl) rfl ⟨⟨_, rfl, ?_⟩, trivial⟩
  refine wl_callv rfl cb38 rfl rfl (fun wx hm => (keyFault_any c wx (by omega))) ?_
  refine wl_nil ?_
  refine nx_wa0 (listed' := #[true, true, true, true, true, false, false, false, false]) rfl (fun _ hm => ⟨hm.blkI 0 rfl, hm.fact 0 rfl, hm.fact 1 rfl, hm.fact 2 rfl, hm.fact 3 rfl, trivial⟩) ?_
  refine wa_all [5] (by kernel_rfl) rfl ⟨⟨_, rfl, ?_⟩, trivial⟩
  refine wl_callv rfl cb35 rfl rfl (fun wx hm => (timeFault_any _ _ wx)) ?_
  refine wl_nil ?_
  refine nx_wa0 (listed' := #[true, true, true, true, true, true, false, false, false]) rfl (fun _ hm => ⟨hm.blkI 0 rfl, hm.fact 0 rfl, hm.fact 1 rfl, hm.fact 2 rfl, hm.fact 3 rfl, trivial⟩) ?_
  refine wa_all [6] (by kernel_rfl) rfl ⟨⟨_, rfl, ?_⟩, trivial⟩
  refine wl_buildSlice (e := 29) (cs := [.int .i64 RE, .int .i64 (whenE (!keyB c) 5), .int .i64 (timeE fr tt)]) rfl (by kernel_rfl) rfl fun g4 => ?_
  refine wl_nil ?_
  refine nx_wa0 (listed' := #[true, true, true, true, true, true, true, false, false]) rfl (fun _ hm => ⟨hm.blkI 1 rfl, hm.fact 0 rfl, hm.fact 1 rfl, hm.fact 2 rfl, hm.fact 3 rfl, trivial⟩) ?_
  refine wa_all [7] (by kernel_rfl) rfl ⟨⟨_, rfl, ?_⟩, trivial⟩
  refine wl_callw rfl cb37 rfl rfl (fun wx hm => (errs_any [RE, whenE (!keyB c) 5, timeE fr tt] _ _ _ wx (hm.blkI 0 rfl) (by simp))) ?_
  refine wl_nil ?_
  refine nx_wa0 (listed' := #[true, true, true, true, true, true, true, true, false]) rfl (fun _ hm => ⟨hm.blkI 1 rfl, hm.fact 0 rfl, hm.fact 1 rfl, hm.fact 2 rfl, hm.fact 3 rfl, trivial⟩) ?_
  refine wa_take 8 rfl (by kernel_rfl) (by kernel_rfl) (by kernel_rfl) (listed' := #[true, true, true, true, true, true, true, true, true]) rfl (fun _ _ _ h => h) (fun _ hm => ⟨hm.blkI 1 rfl, hm.fact 0 rfl, hm.fact 1 rfl, hm.fact 2 rfl, hm.fact 3 rfl, trivial⟩) (ov_assign rfl) rfl ?_
  refine wa_done (by kernel_rfl) ?_
  refine nx_then ?_
  refine gw_seq ?_
  refine gw_region ?_
  refine wl_ov (ov_assign rfl) rfl ?_
  refine wl_nil ?_
  refine nx_then ?_
  refine gw_seq ?_
  refine gw_seq ?_
  refine gw_region ?_
  refine wl_ov (ov_move rfl) rfl ?_
  refine wl_ov (ov_eql rfl rfl) rfl ?_
  refine wl_nil ?_
  refine nx_then ?_
  refine gw_cond rfl (fun hh => ?_) (fun hh => ?_)
  · have hz : firstE [RE, whenE (!keyB c) 5, timeE fr tt] = 0 := by simpa using hh
    clear hh
    refine gw_seq ?_
    refine gw_region ?_
    have hz2 : chkE l c fr tt = 0 := by unfold chkE; rw [← hRE]; exact hz
    obtain ⟨hr0, _, ht⟩ := chkE_ok hz2
    refine wl_ov (ov_move rfl) rfl ?_
    refine wl_ov (ov_move rfl) rfl ?_
    refine wl_ov (ov_loads rz56 rfl (fun _ hm => hm.blkI 1 rfl) rfl rfl) rfl ?_
    refine wl_callx (γ := Option Addr × Nat × Nat × List Pc × Bool) (val := (fun (g : Option Addr × Nat × Nat × List Pc × Bool) => .tuple #[.slice g.1 g.2.1 g.2.2.1, .bool g.2.2.2.2])) (φ := (fun (g : Option Addr × Nat × Nat × List Pc × Bool) => RefIs l c fr tt g.2.2.2.2 g.2.2.2.1 ∧ g.2.2.2.1.length = g.2.1)) (Y := (fun (g : Option Addr × Nat × Nat × List Pc × Bool) => fun wy => SlT pcEnc 3 79 wy g.1 g.2.1 g.2.2.2.1)) rfl cb43 rfl rfl (fun wx hm => (divideOf_any l A n c0 c fr tt wx (hm.fact 3 rfl) (by omega) hr0 ht).mono fun _ _ ⟨A2, n2, c2, ps, ok, he, hg, ho, hrf, hl2, _⟩ => ⟨(A2, n2, c2, ps, ok), he, ⟨hrf, hl2⟩, hg, SlT.ofOwn pc_len ho hl2⟩) (fun _ => SlT.lasts2 rfl) ?_
    rintro ⟨A4, n4, c4, qs, ok⟩ hrf
    dsimp only at hrf ⊢
    obtain ⟨hrf, hq4⟩ := hrf
    obtain ⟨he1, rfl⟩ := least_same hz2 hdv hrf
    obtain rfl : n3 = n4 := by omega
    refine wl_ov (ov_move rfl) rfl ?_
    refine wl_ov (ov_extract rfl rfl) rfl ?_
    refine wl_ov (ov_extract rfl rfl) rfl ?_
    refine wl_ov (ov_assign rfl) rfl ?_
    refine wl_ov (ov_assign rfl) rfl ?_
    refine wl_nil ?_
    refine nx_then ?_
    refine gw_region ?_
    refine wl_ov (ov_move rfl) rfl ?_
    refine wl_ov (ov_move rfl) rfl ?_
    refine wl_ov (ov_un_not rfl) rfl ?_
    refine wl_callw rfl cb39 rfl rfl (fun wx hm => (rwhen_any _ _ wx)) ?_
    refine wl_ov (ov_assign rfl) rfl ?_
    refine wl_ov (ov_assign rfl) rfl ?_
    refine wl_nil ?_
    refine nx_then ?_
    refine gw_seq ?_
    refine gw_region ?_
    refine wl_ov (ov_move rfl) rfl ?_
    refine wl_ov (ov_move rfl) rfl ?_
    refine wl_ov (ov_eql rfl rfl) rfl ?_
    refine wl_set 52 (v' := .bool true) rfl (congrArg Value.bool (decide_eq_true (he1))) ?_
    refine wl_ov (ov_move rfl) rfl ?_
    refine wl_guard_on rfl rfl rfl ?_
    refine wl_ov (ov_move rfl) rfl ?_
    refine wl_guard_on rfl rfl rfl ?_
    refine wl_ov (ov_move rfl) rfl ?_
    refine wl_guard_on rfl rfl rfl ?_
    refine wl_callv rfl cb44 rfl rfl (fun wx hm => (equal_piece_any ps A3 A4 n3 c3 c4 wx (hm.fact 1 rfl) (hm.fact 0 rfl) (by omega))) ?_
    refine wl_ov (ov_pick_t rfl rfl) rfl ?_
    refine wl_ov (ov_move rfl) rfl ?_
    refine wl_guard_on rfl rfl rfl ?_
    refine wl_callv rfl cb41 rfl rfl (fun wx hm => (priced_any wx)) ?_
    refine wl_ov (ov_pick_t rfl rfl) rfl ?_
    refine wl_ov (ov_assign rfl) rfl ?_
    refine wl_nil ?_
    refine nx_then ?_
    refine gw_ret ?_
    refine nx_ret1 rfl rfl fun wx hm => ?_
    exact ⟨rfl, law_end hg1 hsb hm.g⟩
  · have hz : ¬ (firstE [RE, whenE (!keyB c) 5, timeE fr tt] = 0) := by simpa using hh
    clear hh
    refine gw_skip ?_
    refine nx_then ?_
    refine gw_seq ?_
    refine gw_region ?_
    have hz2 : ¬ chkE l c fr tt = 0 := by unfold chkE; rw [← hRE]; exact hz
    obtain ⟨he1, rfl⟩ := div_bad hz2 hdv
    have hn0 : n3 = 0 := by simpa using hps.symm
    subst hn0
    have he2 : er = firstE [RE, whenE (!keyB c) 5, timeE fr tt] := by rw [he1, hRE]; rfl
    refine wl_ov (ov_move rfl) rfl ?_
    refine wl_ov (ov_move rfl) rfl ?_
    refine wl_ov (ov_eql rfl rfl) rfl ?_
    refine wl_set 52 (v' := .bool true) rfl (congrArg Value.bool (decide_eq_true (he2))) ?_
    refine wl_ov (ov_move rfl) rfl ?_
    refine wl_guard_on rfl rfl rfl ?_
    refine wl_ov (ov_move rfl) rfl ?_
    refine wl_guard_on rfl rfl rfl ?_
    refine wl_ov (ov_move rfl) rfl ?_
    refine wl_guard_on rfl rfl rfl ?_
    refine wl_callv rfl cb44 rfl rfl (fun wx hm => (equal_piece_any [] A3 none 0 c3 0 wx (hm.fact 0 rfl) (SlT.nil_ _ _) (by omega))) ?_
    refine wl_ov (ov_pick_t rfl rfl) rfl ?_
    refine wl_ov (ov_move rfl) rfl ?_
    refine wl_guard_on rfl rfl rfl ?_
    refine wl_callv rfl cb41 rfl rfl (fun wx hm => (priced_any wx)) ?_
    refine wl_ov (ov_pick_t rfl rfl) rfl ?_
    refine wl_ov (ov_assign rfl) rfl ?_
    refine wl_nil ?_
    refine nx_then ?_
    refine gw_ret ?_
    refine nx_ret1 rfl rfl fun wx hm => ?_
    exact ⟨rfl, law_end hg1 hsb hm.g⟩

end Go.Proofs.YtmpomocahgcebaaDoor
