/- The walk of the law LongerCostsMore. -/
import Derived.Test.YtcggbojhalbkjaaLb
import Derived.Test.YtcggbojhalbkjaaRy
import Derived.Test.YtcggbojhalbkjaaGt
namespace Go.Proofs.Ytcggbojhalbkjaa
open Go.RowKit

set_option maxRecDepth 100000 in
set_option maxHeartbeats 400000 in
theorem cost_any (l : List Rt) (A : Option Addr) (n c0 : Nat) (c : ByteArray) (fr wt tt : Int) (gw gr gc : Nat) (w : World) (hl : SlT rtEnc 7 47 w A n l) (hw : Blk w gw 30 [.int .i64 fr, .int .i64 wt]) (hr : Blk w gr 26 [.slice A n c0]) (hc : Blk w gc 9 [.string c]) (hok : ∀ x ∈ l, RtOk x) (hn : n ≤ 9) (hcs : c.size ≤ 100) :
    Calls Try.prog 7 #[.int .i64 tt, .pointer (some ⟨gw, 0, none⟩), .pointer (some ⟨gr, 0, none⟩), .pointer (some ⟨gc, 0, none⟩)] w (fun e w' => ∃ (v : Int) (ok : Bool), e = .returned (.tuple #[.int .i64 v, .bool ok]) ∧ CstIs l c fr tt v ok ∧ w.grownBy w' none) := by
  refine gw_enter ⟨38, w, none, [58]⟩ Try.func7 rfl Try.ntmps7 rfl (mem0 (X := [SlOld rtEnc 7 47 w.heap.size none A n l, BlkOld w.heap.size none gw 30 [.int .i64 fr, .int .i64 wt], BlkOld w.heap.size none gr 26 [.slice A n c0], BlkOld w.heap.size none gc 9 [.string c]]) (allF_cons hl.old (allF_cons hw.old (allF_cons hr.old (allF_cons hc.old allF_nil)))) (allL_cons SlOld.lasts (allL_cons BlkOld.lasts (allL_cons BlkOld.lasts (allL_cons BlkOld.lasts allL_nil))))) ?_
  refine gw_seq ?_
  refine gw_region ?_
  refine wl_ov (ov_assign rfl) rfl ?_
  refine wl_ov (ov_assign rfl) rfl ?_
  refine wl_nil ?_
  refine nx_then ?_
  refine gw_seq ?_
  refine gw_region ?_
  refine wl_ov (ov_field fo30_0 rfl rfl) rfl ?_
  refine wl_ov (ov_load (v := .int .i64 fr) sc3 rfl (fun _ hm => (hm.fact 1 rfl).2) rfl) rfl ?_
  refine wl_ov (ov_move rfl) rfl ?_
  refine wl_ov (ov_build (cs := [.int .i64 fr, .int .i64 tt]) rfl (by kernel_rfl)) rfl ?_
  refine wl_alloc zc30 rfl fun g1 => ?_
  refine wl_stores (cs' := [.int .i64 fr, .int .i64 tt]) 0 rz30 rfl rfl rfl rfl rfl rfl rfl rfl ?_
  refine wl_nil ?_
  refine nx_then ?_
  refine gw_seq ?_
  refine gw_region ?_
  refine wl_ov (ov_load (v := .slice A n c0) sc26 rfl (fun _ hm => (hm.fact 2 rfl).2) rfl) rfl ?_
  refine wl_ov (ov_load (v := .string c) sc9 rfl (fun _ hm => (hm.fact 3 rfl).2) rfl) rfl ?_
  refine wl_ov (ov_loads rz30 rfl (fun _ hm => hm.blkI 0 rfl) rfl rfl) rfl ?_
  refine wl_callx (γ := Option Addr × Nat × Nat × List Pc × Int) (val := (fun (g : Option Addr × Nat × Nat × List Pc × Int) => .tuple #[.slice g.1 g.2.1 g.2.2.1, .int .i64 g.2.2.2.2])) (φ := (fun (g : Option Addr × Nat × Nat × List Pc × Int) => DivIs l c fr tt g.2.2.2.2 g.2.2.2.1 ∧ g.2.1 ≤ 120 ∧ g.2.2.2.1.length = g.2.1)) (Y := (fun (g : Option Addr × Nat × Nat × List Pc × Int) => fun wy => SlT pcEnc 3 58 wy g.1 g.2.1 g.2.2.2.1)) rfl cb8 rfl rfl (fun wx hm => (tDivide_any l A n c0 c fr tt wx (hm.fact 0 rfl).1 hok (by omega) (by omega)).mono fun _ _ ⟨A3, n3, c3, ps, er, he, hg, hs, hd, hn3⟩ => ⟨(A3, n3, c3, ps, er), he, ⟨hd, hn3, hs.len⟩, hg, hs⟩) (fun _ => SlT.lasts2 rfl) ?_
  rintro ⟨A3, n3, c3, ps, er⟩ hdv
  dsimp only at hdv ⊢
  obtain ⟨hdv, hn3, hps⟩ := hdv
  obtain ⟨cv, ce, hCV, hcs⟩ := cst_div hdv
  have hpsb : ∀ p ∈ ps, PcB p := by
    rcases hdv with ⟨_, _, h⟩ | ⟨_, ⟨_, h, _⟩ | ⟨_, h⟩⟩
    · rw [h]; exact fun _ h => by cases h
    · rw [h]; exact fun _ h => by cases h
    · exact fun p hp => by
        have h3 := chain_small h.1 p hp
        exact ⟨by have := h3.2.1; omega, by have := h3.2.2; omega⟩
  refine wl_ov (ov_move rfl) rfl ?_
  refine wl_ov (ov_extract rfl rfl) rfl ?_
  refine wl_ov (ov_extract rfl rfl) rfl ?_
  refine wl_ov (ov_assign rfl) rfl ?_
  refine wl_ov (ov_assign rfl) rfl ?_
  refine wl_nil ?_
  refine nx_then ?_
  refine gw_seq ?_
  refine gw_region ?_
  refine wl_ov (ov_load (v := .slice A n c0) sc26 rfl (fun _ hm => (hm.fact 3 rfl).2) rfl) rfl ?_
  refine wl_ov (ov_load (v := .string c) sc9 rfl (fun _ hm => (hm.fact 4 rfl).2) rfl) rfl ?_
  refine wl_ov (ov_loads rz30 rfl (fun _ hm => hm.blkI 0 rfl) rfl rfl) rfl ?_
  refine wl_ov (ov_move rfl) rfl ?_
  refine wl_callv (v := .tuple #[.int .i64 cv, .int .i64 ce]) rfl cb9 rfl rfl (fun wx hm => (by have h := tCost_any l A n c0 c fr tt ps A3 n3 c3 wx (hm.fact 1 rfl).1 hok (by omega) (by omega) (hm.fact 0 rfl) (by omega) hpsb; rw [hCV] at h; exact h)) ?_
  refine wl_ov (ov_move rfl) rfl ?_
  refine wl_ov (ov_extract rfl rfl) rfl ?_
  refine wl_ov (ov_extract rfl rfl) rfl ?_
  refine wl_ov (ov_assign rfl) rfl ?_
  refine wl_ov (ov_assign rfl) rfl ?_
  refine wl_nil ?_
  refine nx_then ?_
  refine gw_seq ?_
  refine gw_region ?_
  refine wl_ov (ov_move rfl) rfl ?_
  refine wl_ov (ov_move rfl) rfl ?_
  refine wl_ov (ov_eql rfl rfl) rfl ?_
  refine wl_ov (ov_move rfl) rfl ?_
  rcases Bool.eq_false_or_eq_true (decide (er = 0)) with he | he
  · refine wl_set 34 rfl (congrArg Value.bool he) ?_
    refine wl_guard_on rfl rfl rfl ?_
    refine wl_ov (ov_move rfl) rfl ?_
    refine wl_guard_on rfl rfl rfl ?_
    refine wl_ov (ov_eql rfl rfl) rfl ?_
    refine wl_ov (ov_pick_t rfl rfl) rfl ?_
    refine wl_ov (ov_assign rfl) rfl ?_
    refine wl_ov (ov_assign rfl) rfl ?_
    refine wl_nil ?_
    refine nx_then ?_
    refine gw_ret ?_
    refine nx_ret2 rfl rfl rfl fun wx hm => ?_
    exact ⟨cv, decide (ce = 0), rfl, by rw [he] at hcs; exact hcs, hm.g⟩
  · refine wl_set 34 rfl (congrArg Value.bool he) ?_
    refine wl_guard_off rfl rfl rfl (by decide) rfl ?_
    refine wl_guard_off rfl rfl rfl (by decide) rfl ?_
    refine wl_ov (ov_pick_f rfl rfl) rfl ?_
    refine wl_ov (ov_assign rfl) rfl ?_
    refine wl_ov (ov_assign rfl) rfl ?_
    refine wl_nil ?_
    refine nx_then ?_
    refine gw_ret ?_
    refine nx_ret2 rfl rfl rfl fun wx hm => ?_
    exact ⟨cv, false, rfl, by rw [he] at hcs; exact hcs, hm.g⟩

set_option maxRecDepth 100000 in
set_option maxHeartbeats 2000000 in
theorem longer_walk (a0 : Option Addr) (len0 cap0 : Nat) (z0 : List Int) (w : World) (hR : RowIn w a0 len0 cap0 z0) :
    Calls Try.prog 3 #[.slice a0 len0 cap0] w fun e w' => e = .returned (.bool true) ∧ Below w.heap.size w w' := by
  refine gw_enter ⟨119, w, none, []⟩ Try.func3 rfl Try.ntmps3 rfl (mem0 (X := []) allF_nil allL_nil) ?_
  refine gw_seq ?_
  refine gw_region ?_
  refine wl_ov (ov_assign rfl) rfl ?_
  refine wl_nil ?_
  refine nx_then ?_
  refine gw_seq ?_
  refine gw_region ?_
  refine wl_ov (ov_move rfl) rfl ?_
  refine wl_ov (ov_build (cs := [.slice a0 len0 cap0, .int .i64 0]) rfl (by kernel_rfl)) rfl ?_
  refine wl_box rfl rfl rfl fun sb => ?_
  refine wl_ov (ov_assign rfl) rfl ?_
  refine wl_nil ?_
  refine nx_then ?_
  refine gw_seq ?_
  refine gw_region ?_
  refine wl_ov (ov_move rfl) rfl ?_
  refine wl_law [47, 58] hR 0 rfl fun w1 B hg1 hsb => ?_
  refine wl_calls (γ := Option Addr × Nat × Nat × List Rt) (val := (fun (g : Option Addr × Nat × Nat × List Rt) => .slice g.1 g.2.1 g.2.2.1)) (φ := (fun (g : Option Addr × Nat × Nat × List Rt) => (∀ x ∈ g.2.2.2, RtOk x) ∧ g.2.1 ≤ 9 ∧ g.2.2.2.length = g.2.1)) (Y := (fun (g : Option Addr × Nat × Nat × List Rt) => fun wy => SlT rtEnc 7 47 wy g.1 g.2.1 g.2.2.2)) (m' := 0 + 120) rfl cb4 rfl rfl rfl rfl (fun wx hm => (grightRates_any wx B sb _ hm.k (by omega)).mono fun _ _ ⟨A, n, c0, l, he, ho, hok, hl, hn, hS, hg⟩ => ⟨(A, n, c0, l), he, ⟨hok, hn, hl⟩, hS, hg, SlT.ofOwn rt_len ho hl⟩) (fun _ => SlT.lasts2 rfl) ?_
  rintro ⟨A, n, c0, l⟩ hR1
  dsimp only at hR1 ⊢
  obtain ⟨hok, hn9, hlen⟩ := hR1
  refine wl_ov (ov_move rfl) rfl ?_
  refine wl_buildSlice (e := 9) (cs := [.string ⟨#[109, 105, 110, 105]⟩, .string ⟨#[109, 105, 100, 105]⟩, .string ⟨#[109, 97, 120, 105]⟩]) rfl (by kernel_rfl) rfl fun g1 => ?_
  refine wl_got (γ := ByteArray) (val := fun v => .string v) (φ := fun v => v ∈ ([⟨#[109, 105, 110, 105]⟩, ⟨#[109, 105, 100, 105]⟩, ⟨#[109, 97, 120, 105]⟩] : List ByteArray)) rfl cb5 rfl rfl rfl rfl (fun wx hm => (some_any [⟨#[109, 105, 110, 105]⟩, ⟨#[109, 105, 100, 105]⟩, ⟨#[109, 97, 120, 105]⟩] _ _ _ wx B sb _ hm.k (by omega) (by simp) (by simp) (hm.blkI 0 rfl) (hm.neRow 0 rfl rfl))) fun c hc => ?_
  have zc : c.size ≤ 100 := mem_sz hc (by decide)
  refine wl_ov (ov_move rfl) rfl ?_
  refine wl_calls (γ := Int × Int) (val := (fun (g : Int × Int) => .agg #[.int .i64 g.1, .int .i64 g.2])) (φ := (fun (g : Int × Int) => Far g.1 ∧ Far g.2)) (Y := (fun (g : Int × Int) => fun _ => True)) (m' := 0 + 120 + 1 + 10) rfl cb6 rfl rfl rfl rfl (fun wx hm => (gtime_any wx B sb _ hm.k (by omega)).mono fun _ _ ⟨fr, tt, h1, h2, he, hS, hg⟩ => ⟨(fr, tt), he, ⟨h1, h2⟩, hS, hg, trivial⟩) (fun _ => Lasts2.true_) ?_
  rintro ⟨fr, wt⟩ hT1
  dsimp only at hT1 ⊢
  obtain ⟨⟨hf0, hf1⟩, hf2, hf3⟩ := hT1
  refine wl_alloc zc26 rfl fun g3 => ?_
  refine wl_alloc zc9 rfl fun g4 => ?_
  refine wl_alloc zc30 rfl fun g5 => ?_
  refine wl_store 2 sc26 rfl rfl rfl rfl rfl rfl ?_
  refine wl_store 1 sc9 rfl rfl rfl rfl rfl rfl ?_
  refine wl_stores (cs' := [.int .i64 fr, .int .i64 wt]) 0 rz30 rfl rfl rfl rfl rfl rfl rfl rfl ?_
  refine wl_nil ?_
  refine nx_then ?_
  refine gw_seq ?_
  refine gw_region ?_
  refine wl_ov (ov_makeFunc rfl rfl) rfl ?_
  refine wl_ov (ov_assign rfl) rfl ?_
  refine wl_nil ?_
  refine nx_then ?_
  refine gw_seq ?_
  refine gw_draw (fun wz => Blk wz g5 30 [.int .i64 fr, .int .i64 wt] ∧ Blk wz g4 9 [.string c] ∧ Blk wz g3 26 [.slice A n c0] ∧ Blk wz g1 9 [.string ⟨#[109, 105, 110, 105]⟩, .string ⟨#[109, 105, 100, 105]⟩, .string ⟨#[109, 97, 120, 105]⟩] ∧ (fun _ => True) wz ∧ (fun wy => SlT rtEnc 7 47 wy A n l) wz ∧ True) mixed ?_
  refine wa_take 0 rfl (by kernel_rfl) (by kernel_rfl) (by kernel_rfl) (listed' := #[true, false, false, false, false, false, false, false]) rfl (fun _ _ _ h => h) (fun _ hm => ⟨hm.blkI 0 rfl, hm.blkI 1 rfl, hm.blkI 2 rfl, hm.blkI 3 rfl, hm.fact 0 rfl, hm.fact 1 rfl, trivial⟩) (ov_field fo30_1 rfl rfl) rfl ?_
  refine wa_take 1 rfl (by kernel_rfl) (by kernel_rfl) (by kernel_rfl) (listed' := #[true, true, false, false, false, false, false, false]) rfl (fun _ _ _ h => h) (fun _ hm => ⟨hm.blkI 0 rfl, hm.blkI 1 rfl, hm.blkI 2 rfl, hm.blkI 3 rfl, hm.fact 0 rfl, hm.fact 1 rfl, trivial⟩) (ov_load sc3 rfl (fun _ hm => hm.1) rfl) rfl ?_
  refine wa_take 2 rfl (by kernel_rfl) (by kernel_rfl) (by kernel_rfl) (listed' := #[true, true, true, false, false, false, false, false]) rfl (fun _ _ _ h => h) (fun _ hm => ⟨hm.blkI 0 rfl, hm.blkI 1 rfl, hm.blkI 2 rfl, hm.blkI 3 rfl, hm.fact 0 rfl, hm.fact 1 rfl, trivial⟩) (ov_move rfl) rfl ?_
  refine wa_all [3] (by kernel_rfl) rfl ⟨⟨_, rfl, ?_⟩, trivial⟩
  refine wl_buildSlice (e := 3) (cs := [.int .i64 1, .int .i64 30, .int .i64 60, .int .i64 100, .int .i64 1440, .int .i64 3000]) rfl (by kernel_rfl) rfl fun g6 => ?_
  refine wl_nil ?_
  refine nx_wa0 (listed' := #[true, true, true, true, false, false, false, false]) rfl (fun _ hm => ⟨hm.blkI 1 rfl, hm.blkI 2 rfl, hm.blkI 3 rfl, hm.blkI 4 rfl, hm.fact 0 rfl, hm.fact 1 rfl, trivial⟩) ?_
  refine wa_all [4] (by kernel_rfl) rfl ⟨⟨_, rfl, ?_⟩, trivial⟩
  refine wl_got (γ := Int) (val := fun v => .int .i64 v) (φ := fun v => v ∈ ([1, 30, 60, 100, 1440, 3000] : List Int)) rfl cb10 rfl rfl rfl rfl (fun wx hm => (pick_any [1, 30, 60, 100, 1440, 3000] _ _ _ wx B sb _ hm.k (by omega) (by simp) (by simp) (hm.blkI 0 rfl) (hm.neRow 0 rfl rfl))) fun v7 hv7 => ?_
  have bv7 : 1 ≤ v7 ∧ v7 ≤ 3000 := mem_rng hv7 (by decide)
  have bv70 := bv7.1
  have bv71 := bv7.2
  clear bv7
  refine wl_nil ?_
  refine nx_wa0 (listed' := #[true, true, true, true, true, false, false, false]) rfl (fun _ hm => ⟨hm.blkI 1 rfl, hm.blkI 2 rfl, hm.blkI 3 rfl, hm.blkI 4 rfl, hm.fact 0 rfl, hm.fact 1 rfl, trivial⟩) ?_
  refine wa_take 5 rfl (by kernel_rfl) (by kernel_rfl) (by kernel_rfl) (listed' := #[true, true, true, true, true, true, false, false]) rfl (fun _ _ _ h => h) (fun _ hm => ⟨hm.blkI 1 rfl, hm.blkI 2 rfl, hm.blkI 3 rfl, hm.blkI 4 rfl, hm.fact 0 rfl, hm.fact 1 rfl, trivial⟩) (ov_add rfl rfl (by omega) (by omega)) rfl ?_
  refine wa_take 6 rfl (by kernel_rfl) (by kernel_rfl) (by kernel_rfl) (listed' := #[true, true, true, true, true, true, true, false]) rfl (fun _ _ _ h => h) (fun _ hm => ⟨hm.blkI 1 rfl, hm.blkI 2 rfl, hm.blkI 3 rfl, hm.blkI 4 rfl, hm.fact 0 rfl, hm.fact 1 rfl, trivial⟩) (ov_min rfl rfl) rfl ?_
  refine wa_take 7 rfl (by kernel_rfl) (by kernel_rfl) (by kernel_rfl) (listed' := #[true, true, true, true, true, true, true, true]) rfl (fun _ _ _ h => h) (fun _ hm => ⟨hm.blkI 1 rfl, hm.blkI 2 rfl, hm.blkI 3 rfl, hm.blkI 4 rfl, hm.fact 0 rfl, hm.fact 1 rfl, trivial⟩) (ov_assign rfl) rfl ?_
  refine wa_done (by kernel_rfl) ?_
  refine nx_then ?_
  refine gw_seq ?_
  refine gw_region ?_
  refine wl_ov (ov_move rfl) rfl ?_
  refine wl_ov (ov_field fo30_1 rfl rfl) rfl ?_
  refine wl_ov (ov_load sc3 rfl (fun _ hm => hm.blkI 1 rfl) rfl) rfl ?_
  refine wl_nest none [] fun w2 hm_w2 => ⟨_, _, _, _, mem0 (X := [BlkOld w2.heap.size none g6 3 [.int .i64 1, .int .i64 30, .int .i64 60, .int .i64 100, .int .i64 1440, .int .i64 3000], BlkOld w2.heap.size none g5 30 [.int .i64 fr, .int .i64 wt], BlkOld w2.heap.size none g4 9 [.string c], BlkOld w2.heap.size none g3 26 [.slice A n c0], BlkOld w2.heap.size none g1 9 [.string ⟨#[109, 105, 110, 105]⟩, .string ⟨#[109, 105, 100, 105]⟩, .string ⟨#[109, 97, 120, 105]⟩], SlOld rtEnc 7 47 w2.heap.size none A n l]) (allF_cons (hm_w2.blkI 0 rfl).old (allF_cons (hm_w2.blkI 1 rfl).old (allF_cons (hm_w2.blkI 2 rfl).old (allF_cons (hm_w2.blkI 3 rfl).old (allF_cons (hm_w2.blkI 4 rfl).old (allF_cons (SlT.old (hm_w2.fact 1 rfl)) allF_nil)))))) (allL_cons BlkOld.lasts (allL_cons BlkOld.lasts (allL_cons BlkOld.lasts (allL_cons BlkOld.lasts (allL_cons BlkOld.lasts (allL_cons SlOld.lasts allL_nil)))))), ?_⟩
  refine wl_callx (γ := Int × Bool) (val := (fun (g : Int × Bool) => .tuple #[.int .i64 g.1, .bool g.2])) (φ := (fun (g : Int × Bool) => CstIs l c fr (wt) g.1 g.2)) (Y := (fun (g : Int × Bool) => fun _ => True)) rfl cb7 rfl rfl (fun wx hm => (cost_any l A n c0 c fr wt wt g5 g3 g4 wx (hm.fact 5 rfl).1 (hm.fact 1 rfl).2 (hm.fact 3 rfl).2 (hm.fact 2 rfl).2 hok hn9 (by omega)).mono fun _ _ ⟨v, o, he, hc, hg⟩ => ⟨(v, o), he, hc, hg, trivial⟩) (fun _ => Lasts2.true_) ?_
  rintro ⟨ca, cok⟩ hca
  dsimp only at hca ⊢
  refine wl_ov (ov_move rfl) rfl ?_
  refine wl_ov (ov_extract rfl rfl) rfl ?_
  refine wl_ov (ov_extract rfl rfl) rfl ?_
  refine wl_ov (ov_assign rfl) rfl ?_
  refine wl_ov (ov_assign rfl) rfl ?_
  refine wl_nil ?_
  refine nx_then ?_
  refine gw_seq ?_
  refine gw_region ?_
  refine wl_ov (ov_move rfl) rfl ?_
  refine wl_ov (ov_move rfl) rfl ?_
  refine wl_callx (γ := Int × Bool) (val := (fun (g : Int × Bool) => .tuple #[.int .i64 g.1, .bool g.2])) (φ := (fun (g : Int × Bool) => CstIs l c fr (min (wt + v7) 5761439) g.1 g.2)) (Y := (fun (g : Int × Bool) => fun _ => True)) rfl cb7 rfl rfl (fun wx hm => (cost_any l A n c0 c fr wt (min (wt + v7) 5761439) g5 g3 g4 wx (hm.fact 6 rfl).1 (hm.fact 2 rfl).2 (hm.fact 4 rfl).2 (hm.fact 3 rfl).2 hok hn9 (by omega)).mono fun _ _ ⟨v, o, he, hc, hg⟩ => ⟨(v, o), he, hc, hg, trivial⟩) (fun _ => Lasts2.true_) ?_
  rintro ⟨cb, cis⟩ hcb
  dsimp only at hcb ⊢
  obtain ⟨TE, hTE⟩ : ∃ E, E = timeE fr wt := ⟨_, rfl⟩
  refine wl_ov (ov_move rfl) rfl ?_
  refine wl_ov (ov_extract rfl rfl) rfl ?_
  refine wl_ov (ov_extract rfl rfl) rfl ?_
  refine wl_ov (ov_assign rfl) rfl ?_
  refine wl_ov (ov_assign rfl) rfl ?_
  refine wl_nil ?_
  refine nx_then ?_
  refine gw_seq ?_
  refine gw_seq ?_
  refine gw_region ?_
  refine wl_ov (ov_move rfl) rfl ?_
  refine wl_ov (ov_move rfl) rfl ?_
  rcases Bool.eq_false_or_eq_true cis with his | his
  · refine wl_set 51 rfl (congrArg Value.bool his) ?_
    by_cases hte : TE = 0
    · obtain ⟨_, _, ht2, _⟩ := timeE_ok (hTE.symm.trans hte)
      obtain ⟨hyes, hle⟩ := cst_longer hca hcb (by omega) (hTE.symm.trans hte) his
      refine wl_set 10 (v' := .bool true) rfl (congrArg Value.bool hyes) ?_
      refine wl_guard_on rfl rfl rfl ?_
      refine wl_ov (ov_loads (vs := [.int .i64 fr, .int .i64 wt]) rz30 rfl (fun _ hm => (hm.fact 3 rfl).2) rfl rfl) rfl ?_
      refine wl_guard_on rfl rfl rfl ?_
      refine wl_callv (v := .int .i64 TE) rfl cb11 rfl rfl (fun wx hm => (by rw [hTE]; exact timeFault_any _ _ wx)) ?_
      refine wl_guard_on rfl rfl rfl ?_
      refine wl_ov (ov_eql rfl rfl) rfl ?_
      refine wl_set 54 (v' := .bool true) rfl (congrArg Value.bool (decide_eq_true hte)) ?_
      refine wl_ov (ov_pick_t rfl rfl) rfl ?_
      refine wl_ov (ov_move rfl) rfl ?_
      refine wl_guard_on rfl rfl rfl ?_
      refine wl_ov (ov_move rfl) rfl ?_
      refine wl_guard_on rfl rfl rfl ?_
      refine wl_ov (ov_un_not rfl) rfl ?_
      refine wl_set 58 (v' := .bool false) rfl (congrArg Value.bool (by decide)) ?_
      refine wl_guard_on rfl rfl rfl ?_
      refine wl_ov (ov_move rfl) rfl ?_
      refine wl_guard_on rfl rfl rfl ?_
      refine wl_ov (ov_move rfl) rfl ?_
      refine wl_guard_on rfl rfl rfl ?_
      refine wl_ov (ov_move rfl) rfl ?_
      refine wl_guard_on rfl rfl rfl ?_
      refine wl_ov (ov_gtr rfl rfl) rfl ?_
      refine wl_set 62 (v' := .bool false) rfl (congrArg Value.bool (decide_eq_false (by omega))) ?_
      refine wl_guard_on rfl rfl rfl ?_
      refine wl_ov (ov_pick_f rfl rfl) rfl ?_
      refine wl_ov (ov_pick_t rfl rfl) rfl ?_
      refine wl_nil ?_
      refine nx_then ?_
      refine gw_cond rfl (fun hh => by cases hh) (fun _ => ?_)
      refine gw_skip ?_
      refine nx_then ?_
      refine gw_seq ?_
      refine gw_region ?_
      refine wl_ov (ov_load (v := .slice A n c0) sc26 rfl (fun _ hm => (hm.fact 5 rfl).2) rfl) rfl ?_
      refine wl_ov (ov_load (v := .string c) sc9 rfl (fun _ hm => (hm.fact 4 rfl).2) rfl) rfl ?_
      refine wl_ov (ov_loads (vs := [.int .i64 fr, .int .i64 wt]) rz30 rfl (fun _ hm => (hm.fact 3 rfl).2) rfl rfl) rfl ?_
      refine wl_callx (γ := Int × Int) (val := (fun (g : Int × Int) => .tuple #[.int .i64 g.1, .int .i64 g.2])) (φ := (fun (g : Int × Int) => StrIs l c fr wt g.1 g.2)) (Y := (fun (g : Int × Int) => fun _ => True)) rfl cb12 rfl rfl (fun wx hm => (tStretch_any l A n c0 c fr wt wx (hm.fact 7 rfl).1 (by omega) hok (by omega)).mono fun _ _ ⟨v, er, he, hs, hg⟩ => ⟨(v, er), he, hs, hg, trivial⟩) (fun _ => Lasts2.true_) ?_
      rintro ⟨sv, er⟩ hsi
      dsimp only at hsi ⊢
      refine wl_ov (ov_move rfl) rfl ?_
      refine wl_ov (ov_extract rfl rfl) rfl ?_
      refine wl_ov (ov_extract rfl rfl) rfl ?_
      refine wl_ov (ov_assign rfl) rfl ?_
      refine wl_ov (ov_assign rfl) rfl ?_
      refine wl_nil ?_
      refine nx_then ?_
      refine gw_seq ?_
      refine gw_seq ?_
      refine gw_region ?_
      refine wl_ov (ov_move rfl) rfl ?_
      refine wl_ov (ov_neq rfl rfl) rfl ?_
      refine wl_nil ?_
      refine nx_then ?_
      refine gw_cond rfl (fun hh => ?_) (fun hh => ?_)
      · have her : ¬ (er = 0) := by simpa using hh
        clear hh
        refine gw_seq ?_
        refine gw_region ?_
        have hko := str_none hca hsi (by simpa using her)
        rw [hko] at hyes; cases hyes
      · have her : er = 0 := by simpa using hh
        clear hh
        refine gw_skip ?_
        refine nx_then ?_
        refine gw_seq ?_
        refine gw_region ?_
        have her : er = 0 := by simpa using her
        subst her
        obtain ⟨⟨hko, hs1, hs2, hs3⟩, hsx, hsy⟩ := str_same hca hsi
        refine wl_ov (ov_move rfl) rfl ?_
        refine wl_ov (ov_move rfl) rfl ?_
        refine wl_callx (γ := Int × Bool) (val := (fun (g : Int × Bool) => .tuple #[.int .i64 g.1, .bool g.2])) (φ := (fun (g : Int × Bool) => CstIs l c fr (sv) g.1 g.2)) (Y := (fun (g : Int × Bool) => fun _ => True)) rfl cb7 rfl rfl (fun wx hm => (cost_any l A n c0 c fr wt sv g5 g3 g4 wx (hm.fact 8 rfl).1 (hm.fact 4 rfl).2 (hm.fact 6 rfl).2 (hm.fact 5 rfl).2 hok hn9 (by omega)).mono fun _ _ ⟨v, o, he, hc, hg⟩ => ⟨(v, o), he, hc, hg, trivial⟩) (fun _ => Lasts2.true_) ?_
        rintro ⟨cx, csame⟩ hcx
        dsimp only at hcx ⊢
        obtain ⟨hsame, hxa⟩ := hsx _ _ hcx
        refine wl_ov (ov_move rfl) rfl ?_
        refine wl_ov (ov_extract rfl rfl) rfl ?_
        refine wl_ov (ov_extract rfl rfl) rfl ?_
        refine wl_ov (ov_assign rfl) rfl ?_
        refine wl_ov (ov_assign rfl) rfl ?_
        refine wl_nil ?_
        refine nx_then ?_
        refine gw_seq ?_
        refine gw_region ?_
        refine wl_ov (ov_move rfl) rfl ?_
        refine wl_ov (ov_move rfl) rfl ?_
        refine wl_ov (ov_add rfl rfl (by omega) (by omega)) rfl ?_
        refine wl_callx (γ := Int × Bool) (val := (fun (g : Int × Bool) => .tuple #[.int .i64 g.1, .bool g.2])) (φ := (fun (g : Int × Bool) => CstIs l c fr (sv + 1) g.1 g.2)) (Y := (fun (g : Int × Bool) => fun _ => True)) rfl cb7 rfl rfl (fun wx hm => (cost_any l A n c0 c fr wt (sv + 1) g5 g3 g4 wx (hm.fact 9 rfl).1 (hm.fact 5 rfl).2 (hm.fact 7 rfl).2 (hm.fact 6 rfl).2 hok hn9 (by omega)).mono fun _ _ ⟨v, o, he, hc, hg⟩ => ⟨(v, o), he, hc, hg, trivial⟩) (fun _ => Lasts2.true_) ?_
        rintro ⟨cy, cmore⟩ hcy
        dsimp only at hcy ⊢
        have hmo := hsy _ _ hcy
        refine wl_set 16 (v' := .bool true) rfl (congrArg Value.bool hsame) ?_
        refine wl_ov (ov_move rfl) rfl ?_
        refine wl_ov (ov_extract rfl rfl) rfl ?_
        refine wl_ov (ov_extract rfl rfl) rfl ?_
        refine wl_ov (ov_assign rfl) rfl ?_
        refine wl_ov (ov_assign rfl) rfl ?_
        refine wl_nil ?_
        refine nx_then ?_
        refine gw_seq ?_
        refine gw_region ?_
        refine wl_ov (ov_move rfl) rfl ?_
        refine wl_ov (ov_move rfl) rfl ?_
        refine wl_guard_on rfl rfl rfl ?_
        refine wl_ov (ov_move rfl) rfl ?_
        refine wl_ov (ov_pick_t rfl rfl) rfl ?_
        refine wl_ov (ov_move rfl) rfl ?_
        refine wl_guard_on rfl rfl rfl ?_
        refine wl_ov (ov_move rfl) rfl ?_
        refine wl_guard_on rfl rfl rfl ?_
        refine wl_ov (ov_move rfl) rfl ?_
        refine wl_guard_on rfl rfl rfl ?_
        refine wl_ov (ov_eql rfl rfl) rfl ?_
        refine wl_set 99 (v' := .bool true) rfl (congrArg Value.bool (decide_eq_true hxa)) ?_
        refine wl_ov (ov_pick_t rfl rfl) rfl ?_
        refine wl_ov (ov_move rfl) rfl ?_
        refine wl_guard_on rfl rfl rfl ?_
        refine wl_ov (ov_move rfl) rfl ?_
        refine wl_guard_on rfl rfl rfl ?_
        refine wl_ov (ov_field fo30_1 rfl rfl) rfl ?_
        refine wl_guard_on rfl rfl rfl ?_
        refine wl_ov (ov_load (v := .int .i64 wt) sc3 rfl (fun _ hm => (hm.fact 6 rfl).2) rfl) rfl ?_
        refine wl_guard_on rfl rfl rfl ?_
        refine wl_ov (ov_geq rfl rfl) rfl ?_
        refine wl_set 105 (v' := .bool true) rfl (congrArg Value.bool (decide_eq_true hs1)) ?_
        refine wl_ov (ov_pick_t rfl rfl) rfl ?_
        refine wl_ov (ov_move rfl) rfl ?_
        refine wl_guard_on rfl rfl rfl ?_
        refine wl_ov (ov_move rfl) rfl ?_
        refine wl_guard_on rfl rfl rfl ?_
        refine wl_ov (ov_un_not rfl) rfl ?_
        refine wl_guard_on rfl rfl rfl ?_
        refine wl_ov (ov_move rfl) rfl ?_
        rcases Bool.eq_false_or_eq_true (!cmore) with hmr | hmr
        · refine wl_set 110 rfl (congrArg Value.bool hmr) ?_
          refine wl_guard_off rfl rfl rfl (by decide) rfl ?_
          refine wl_guard_off rfl rfl rfl (by decide) rfl ?_
          refine wl_guard_off rfl rfl rfl (by decide) rfl ?_
          refine wl_guard_on rfl rfl rfl ?_
          refine wl_ov (ov_pick_t rfl rfl) rfl ?_
          refine wl_ov (ov_pick_t rfl rfl) rfl ?_
          refine wl_ov (ov_move rfl) rfl ?_
          refine wl_guard_on rfl rfl rfl ?_
          refine wl_callv rfl cb13 rfl rfl (fun wx hm => (ready_any wx)) ?_
          refine wl_ov (ov_pick_t rfl rfl) rfl ?_
          refine wl_ov (ov_assign rfl) rfl ?_
          refine wl_nil ?_
          refine nx_then ?_
          refine gw_ret ?_
          refine nx_ret1 rfl rfl fun wx hm => ?_
          exact ⟨rfl, law_end hg1 hsb (grow_trans hm_w2.g (grow_weak hm.g))⟩
        · refine wl_set 110 rfl (congrArg Value.bool hmr) ?_
          refine wl_guard_on rfl rfl rfl ?_
          refine wl_ov (ov_move rfl) rfl ?_
          refine wl_guard_on rfl rfl rfl ?_
          refine wl_ov (ov_move rfl) rfl ?_
          refine wl_guard_on rfl rfl rfl ?_
          refine wl_ov (ov_gtr rfl rfl) rfl ?_
          refine wl_set 113 (v' := .bool true) rfl (congrArg Value.bool (decide_eq_true (hmo (by simpa using hmr)))) ?_
          refine wl_guard_on rfl rfl rfl ?_
          refine wl_ov (ov_pick_f rfl rfl) rfl ?_
          refine wl_ov (ov_pick_t rfl rfl) rfl ?_
          refine wl_ov (ov_move rfl) rfl ?_
          refine wl_guard_on rfl rfl rfl ?_
          refine wl_callv rfl cb13 rfl rfl (fun wx hm => (ready_any wx)) ?_
          refine wl_ov (ov_pick_t rfl rfl) rfl ?_
          refine wl_ov (ov_assign rfl) rfl ?_
          refine wl_nil ?_
          refine nx_then ?_
          refine gw_ret ?_
          refine nx_ret1 rfl rfl fun wx hm => ?_
          exact ⟨rfl, law_end hg1 hsb (grow_trans hm_w2.g (grow_weak hm.g))⟩
    · refine wl_guard_on rfl rfl rfl ?_
      refine wl_ov (ov_loads (vs := [.int .i64 fr, .int .i64 wt]) rz30 rfl (fun _ hm => (hm.fact 3 rfl).2) rfl rfl) rfl ?_
      refine wl_guard_on rfl rfl rfl ?_
      refine wl_callv (v := .int .i64 TE) rfl cb11 rfl rfl (fun wx hm => (by rw [hTE]; exact timeFault_any _ _ wx)) ?_
      refine wl_guard_on rfl rfl rfl ?_
      refine wl_ov (ov_eql rfl rfl) rfl ?_
      refine wl_set 54 (v' := .bool false) rfl (congrArg Value.bool (decide_eq_false hte)) ?_
      refine wl_ov (ov_pick_t rfl rfl) rfl ?_
      refine wl_ov (ov_move rfl) rfl ?_
      refine wl_guard_off rfl rfl rfl (by decide) rfl ?_
      refine wl_guard_off rfl rfl rfl (by decide) rfl ?_
      refine wl_guard_off rfl rfl rfl (by decide) rfl ?_
      refine wl_guard_undef rfl rfl rfl rfl ?_
      refine wl_guard_undef rfl rfl rfl rfl ?_
      refine wl_guard_undef rfl rfl rfl rfl ?_
      refine wl_guard_off rfl rfl rfl (by decide) rfl ?_
      refine wl_ov (ov_pick_f rfl rfl) rfl ?_
      refine wl_nil ?_
      refine nx_then ?_
      refine gw_cond rfl (fun hh => by cases hh) (fun _ => ?_)
      refine gw_skip ?_
      refine nx_then ?_
      refine gw_seq ?_
      refine gw_region ?_
      refine wl_ov (ov_load (v := .slice A n c0) sc26 rfl (fun _ hm => (hm.fact 5 rfl).2) rfl) rfl ?_
      refine wl_ov (ov_load (v := .string c) sc9 rfl (fun _ hm => (hm.fact 4 rfl).2) rfl) rfl ?_
      refine wl_ov (ov_loads (vs := [.int .i64 fr, .int .i64 wt]) rz30 rfl (fun _ hm => (hm.fact 3 rfl).2) rfl rfl) rfl ?_
      refine wl_callx (γ := Int × Int) (val := (fun (g : Int × Int) => .tuple #[.int .i64 g.1, .int .i64 g.2])) (φ := (fun (g : Int × Int) => StrIs l c fr wt g.1 g.2)) (Y := (fun (g : Int × Int) => fun _ => True)) rfl cb12 rfl rfl (fun wx hm => (tStretch_any l A n c0 c fr wt wx (hm.fact 7 rfl).1 (by omega) hok (by omega)).mono fun _ _ ⟨v, er, he, hs, hg⟩ => ⟨(v, er), he, hs, hg, trivial⟩) (fun _ => Lasts2.true_) ?_
      rintro ⟨sv, er⟩ hsi
      dsimp only at hsi ⊢
      refine wl_ov (ov_move rfl) rfl ?_
      refine wl_ov (ov_extract rfl rfl) rfl ?_
      refine wl_ov (ov_extract rfl rfl) rfl ?_
      refine wl_ov (ov_assign rfl) rfl ?_
      refine wl_ov (ov_assign rfl) rfl ?_
      refine wl_nil ?_
      refine nx_then ?_
      refine gw_seq ?_
      refine gw_seq ?_
      refine gw_region ?_
      refine wl_ov (ov_move rfl) rfl ?_
      refine wl_ov (ov_neq rfl rfl) rfl ?_
      refine wl_nil ?_
      refine nx_then ?_
      refine gw_cond rfl (fun hh => ?_) (fun hh => ?_)
      · have her : ¬ (er = 0) := by simpa using hh
        clear hh
        refine gw_seq ?_
        refine gw_region ?_
        have hko := str_none hca hsi (by simpa using her)
        refine wl_set 10 (v' := .bool false) rfl (congrArg Value.bool hko) ?_
        refine wl_ov (ov_move rfl) rfl ?_
        refine wl_ov (ov_un_not rfl) rfl ?_
        refine wl_set 75 (v' := .bool true) rfl (congrArg Value.bool (by decide)) ?_
        refine wl_ov (ov_move rfl) rfl ?_
        refine wl_guard_on rfl rfl rfl ?_
        refine wl_callv rfl cb13 rfl rfl (fun wx hm => (ready_any wx)) ?_
        refine wl_ov (ov_pick_t rfl rfl) rfl ?_
        refine wl_ov (ov_assign rfl) rfl ?_
        refine wl_nil ?_
        refine nx_then ?_
        refine gw_ret ?_
        refine nx_then_ret ?_
        refine nx_ret1 rfl rfl fun wx hm => ?_
        exact ⟨rfl, law_end hg1 hsb (grow_trans hm_w2.g (grow_weak hm.g))⟩
      · have her : er = 0 := by simpa using hh
        clear hh
        refine gw_skip ?_
        refine nx_then ?_
        refine gw_seq ?_
        refine gw_region ?_
        have her : er = 0 := by simpa using her
        subst her
        obtain ⟨⟨hko, hs1, hs2, hs3⟩, hsx, hsy⟩ := str_same hca hsi
        refine wl_set 10 (v' := .bool true) rfl (congrArg Value.bool hko) ?_
        refine wl_ov (ov_move rfl) rfl ?_
        refine wl_ov (ov_move rfl) rfl ?_
        refine wl_callx (γ := Int × Bool) (val := (fun (g : Int × Bool) => .tuple #[.int .i64 g.1, .bool g.2])) (φ := (fun (g : Int × Bool) => CstIs l c fr (sv) g.1 g.2)) (Y := (fun (g : Int × Bool) => fun _ => True)) rfl cb7 rfl rfl (fun wx hm => (cost_any l A n c0 c fr wt sv g5 g3 g4 wx (hm.fact 8 rfl).1 (hm.fact 4 rfl).2 (hm.fact 6 rfl).2 (hm.fact 5 rfl).2 hok hn9 (by omega)).mono fun _ _ ⟨v, o, he, hc, hg⟩ => ⟨(v, o), he, hc, hg, trivial⟩) (fun _ => Lasts2.true_) ?_
        rintro ⟨cx, csame⟩ hcx
        dsimp only at hcx ⊢
        obtain ⟨hsame, hxa⟩ := hsx _ _ hcx
        refine wl_ov (ov_move rfl) rfl ?_
        refine wl_ov (ov_extract rfl rfl) rfl ?_
        refine wl_ov (ov_extract rfl rfl) rfl ?_
        refine wl_ov (ov_assign rfl) rfl ?_
        refine wl_ov (ov_assign rfl) rfl ?_
        refine wl_nil ?_
        refine nx_then ?_
        refine gw_seq ?_
        refine gw_region ?_
        refine wl_ov (ov_move rfl) rfl ?_
        refine wl_ov (ov_move rfl) rfl ?_
        refine wl_ov (ov_add rfl rfl (by omega) (by omega)) rfl ?_
        refine wl_callx (γ := Int × Bool) (val := (fun (g : Int × Bool) => .tuple #[.int .i64 g.1, .bool g.2])) (φ := (fun (g : Int × Bool) => CstIs l c fr (sv + 1) g.1 g.2)) (Y := (fun (g : Int × Bool) => fun _ => True)) rfl cb7 rfl rfl (fun wx hm => (cost_any l A n c0 c fr wt (sv + 1) g5 g3 g4 wx (hm.fact 9 rfl).1 (hm.fact 5 rfl).2 (hm.fact 7 rfl).2 (hm.fact 6 rfl).2 hok hn9 (by omega)).mono fun _ _ ⟨v, o, he, hc, hg⟩ => ⟨(v, o), he, hc, hg, trivial⟩) (fun _ => Lasts2.true_) ?_
        rintro ⟨cy, cmore⟩ hcy
        dsimp only at hcy ⊢
        have hmo := hsy _ _ hcy
        refine wl_set 16 (v' := .bool true) rfl (congrArg Value.bool hsame) ?_
        refine wl_ov (ov_move rfl) rfl ?_
        refine wl_ov (ov_extract rfl rfl) rfl ?_
        refine wl_ov (ov_extract rfl rfl) rfl ?_
        refine wl_ov (ov_assign rfl) rfl ?_
        refine wl_ov (ov_assign rfl) rfl ?_
        refine wl_nil ?_
        refine nx_then ?_
        refine gw_seq ?_
        refine gw_region ?_
        refine wl_ov (ov_move rfl) rfl ?_
        refine wl_ov (ov_move rfl) rfl ?_
        refine wl_guard_on rfl rfl rfl ?_
        refine wl_ov (ov_move rfl) rfl ?_
        refine wl_ov (ov_pick_t rfl rfl) rfl ?_
        refine wl_ov (ov_move rfl) rfl ?_
        refine wl_guard_on rfl rfl rfl ?_
        refine wl_ov (ov_move rfl) rfl ?_
        refine wl_guard_on rfl rfl rfl ?_
        refine wl_ov (ov_move rfl) rfl ?_
        refine wl_guard_on rfl rfl rfl ?_
        refine wl_ov (ov_eql rfl rfl) rfl ?_
        refine wl_set 99 (v' := .bool true) rfl (congrArg Value.bool (decide_eq_true hxa)) ?_
        refine wl_ov (ov_pick_t rfl rfl) rfl ?_
        refine wl_ov (ov_move rfl) rfl ?_
        refine wl_guard_on rfl rfl rfl ?_
        refine wl_ov (ov_move rfl) rfl ?_
        refine wl_guard_on rfl rfl rfl ?_
        refine wl_ov (ov_field fo30_1 rfl rfl) rfl ?_
        refine wl_guard_on rfl rfl rfl ?_
        refine wl_ov (ov_load (v := .int .i64 wt) sc3 rfl (fun _ hm => (hm.fact 6 rfl).2) rfl) rfl ?_
        refine wl_guard_on rfl rfl rfl ?_
        refine wl_ov (ov_geq rfl rfl) rfl ?_
        refine wl_set 105 (v' := .bool true) rfl (congrArg Value.bool (decide_eq_true hs1)) ?_
        refine wl_ov (ov_pick_t rfl rfl) rfl ?_
        refine wl_ov (ov_move rfl) rfl ?_
        refine wl_guard_on rfl rfl rfl ?_
        refine wl_ov (ov_move rfl) rfl ?_
        refine wl_guard_on rfl rfl rfl ?_
        refine wl_ov (ov_un_not rfl) rfl ?_
        refine wl_guard_on rfl rfl rfl ?_
        refine wl_ov (ov_move rfl) rfl ?_
        rcases Bool.eq_false_or_eq_true (!cmore) with hmr | hmr
        · refine wl_set 110 rfl (congrArg Value.bool hmr) ?_
          refine wl_guard_off rfl rfl rfl (by decide) rfl ?_
          refine wl_guard_off rfl rfl rfl (by decide) rfl ?_
          refine wl_guard_off rfl rfl rfl (by decide) rfl ?_
          refine wl_guard_on rfl rfl rfl ?_
          refine wl_ov (ov_pick_t rfl rfl) rfl ?_
          refine wl_ov (ov_pick_t rfl rfl) rfl ?_
          refine wl_ov (ov_move rfl) rfl ?_
          refine wl_guard_on rfl rfl rfl ?_
          refine wl_callv rfl cb13 rfl rfl (fun wx hm => (ready_any wx)) ?_
          refine wl_ov (ov_pick_t rfl rfl) rfl ?_
          refine wl_ov (ov_assign rfl) rfl ?_
          refine wl_nil ?_
          refine nx_then ?_
          refine gw_ret ?_
          refine nx_ret1 rfl rfl fun wx hm => ?_
          exact ⟨rfl, law_end hg1 hsb (grow_trans hm_w2.g (grow_weak hm.g))⟩
        · refine wl_set 110 rfl (congrArg Value.bool hmr) ?_
          refine wl_guard_on rfl rfl rfl ?_
          refine wl_ov (ov_move rfl) rfl ?_
          refine wl_guard_on rfl rfl rfl ?_
          refine wl_ov (ov_move rfl) rfl ?_
          refine wl_guard_on rfl rfl rfl ?_
          refine wl_ov (ov_gtr rfl rfl) rfl ?_
          refine wl_set 113 (v' := .bool true) rfl (congrArg Value.bool (decide_eq_true (hmo (by simpa using hmr)))) ?_
          refine wl_guard_on rfl rfl rfl ?_
          refine wl_ov (ov_pick_f rfl rfl) rfl ?_
          refine wl_ov (ov_pick_t rfl rfl) rfl ?_
          refine wl_ov (ov_move rfl) rfl ?_
          refine wl_guard_on rfl rfl rfl ?_
          refine wl_callv rfl cb13 rfl rfl (fun wx hm => (ready_any wx)) ?_
          refine wl_ov (ov_pick_t rfl rfl) rfl ?_
          refine wl_ov (ov_assign rfl) rfl ?_
          refine wl_nil ?_
          refine nx_then ?_
          refine gw_ret ?_
          refine nx_ret1 rfl rfl fun wx hm => ?_
          exact ⟨rfl, law_end hg1 hsb (grow_trans hm_w2.g (grow_weak hm.g))⟩
  · refine wl_set 51 rfl (congrArg Value.bool his) ?_
    refine wl_guard_off rfl rfl rfl (by decide) rfl ?_
    refine wl_guard_off rfl rfl rfl (by decide) rfl ?_
    refine wl_guard_off rfl rfl rfl (by decide) rfl ?_
    refine wl_ov (ov_pick_f rfl rfl) rfl ?_
    refine wl_ov (ov_move rfl) rfl ?_
    refine wl_guard_off rfl rfl rfl (by decide) rfl ?_
    refine wl_guard_off rfl rfl rfl (by decide) rfl ?_
    refine wl_guard_off rfl rfl rfl (by decide) rfl ?_
    refine wl_guard_undef rfl rfl rfl rfl ?_
    refine wl_guard_undef rfl rfl rfl rfl ?_
    refine wl_guard_undef rfl rfl rfl rfl ?_
    refine wl_guard_off rfl rfl rfl (by decide) rfl ?_
    refine wl_ov (ov_pick_f rfl rfl) rfl ?_
    refine wl_nil ?_
    refine nx_then ?_
    refine gw_cond rfl (fun hh => by cases hh) (fun _ => ?_)
    refine gw_skip ?_
    refine nx_then ?_
    refine gw_seq ?_
    refine gw_region ?_
    refine wl_ov (ov_load (v := .slice A n c0) sc26 rfl (fun _ hm => (hm.fact 5 rfl).2) rfl) rfl ?_
    refine wl_ov (ov_load (v := .string c) sc9 rfl (fun _ hm => (hm.fact 4 rfl).2) rfl) rfl ?_
    refine wl_ov (ov_loads (vs := [.int .i64 fr, .int .i64 wt]) rz30 rfl (fun _ hm => (hm.fact 3 rfl).2) rfl rfl) rfl ?_
    refine wl_callx (γ := Int × Int) (val := (fun (g : Int × Int) => .tuple #[.int .i64 g.1, .int .i64 g.2])) (φ := (fun (g : Int × Int) => StrIs l c fr wt g.1 g.2)) (Y := (fun (g : Int × Int) => fun _ => True)) rfl cb12 rfl rfl (fun wx hm => (tStretch_any l A n c0 c fr wt wx (hm.fact 7 rfl).1 (by omega) hok (by omega)).mono fun _ _ ⟨v, er, he, hs, hg⟩ => ⟨(v, er), he, hs, hg, trivial⟩) (fun _ => Lasts2.true_) ?_
    rintro ⟨sv, er⟩ hsi
    dsimp only at hsi ⊢
    refine wl_ov (ov_move rfl) rfl ?_
    refine wl_ov (ov_extract rfl rfl) rfl ?_
    refine wl_ov (ov_extract rfl rfl) rfl ?_
    refine wl_ov (ov_assign rfl) rfl ?_
    refine wl_ov (ov_assign rfl) rfl ?_
    refine wl_nil ?_
    refine nx_then ?_
    refine gw_seq ?_
    refine gw_seq ?_
    refine gw_region ?_
    refine wl_ov (ov_move rfl) rfl ?_
    refine wl_ov (ov_neq rfl rfl) rfl ?_
    refine wl_nil ?_
    refine nx_then ?_
    refine gw_cond rfl (fun hh => ?_) (fun hh => ?_)
    · have her : ¬ (er = 0) := by simpa using hh
      clear hh
      refine gw_seq ?_
      refine gw_region ?_
      have hko := str_none hca hsi (by simpa using her)
      refine wl_set 10 (v' := .bool false) rfl (congrArg Value.bool hko) ?_
      refine wl_ov (ov_move rfl) rfl ?_
      refine wl_ov (ov_un_not rfl) rfl ?_
      refine wl_set 75 (v' := .bool true) rfl (congrArg Value.bool (by decide)) ?_
      refine wl_ov (ov_move rfl) rfl ?_
      refine wl_guard_on rfl rfl rfl ?_
      refine wl_callv rfl cb13 rfl rfl (fun wx hm => (ready_any wx)) ?_
      refine wl_ov (ov_pick_t rfl rfl) rfl ?_
      refine wl_ov (ov_assign rfl) rfl ?_
      refine wl_nil ?_
      refine nx_then ?_
      refine gw_ret ?_
      refine nx_then_ret ?_
      refine nx_ret1 rfl rfl fun wx hm => ?_
      exact ⟨rfl, law_end hg1 hsb (grow_trans hm_w2.g (grow_weak hm.g))⟩
    · have her : er = 0 := by simpa using hh
      clear hh
      refine gw_skip ?_
      refine nx_then ?_
      refine gw_seq ?_
      refine gw_region ?_
      have her : er = 0 := by simpa using her
      subst her
      obtain ⟨⟨hko, hs1, hs2, hs3⟩, hsx, hsy⟩ := str_same hca hsi
      refine wl_set 10 (v' := .bool true) rfl (congrArg Value.bool hko) ?_
      refine wl_ov (ov_move rfl) rfl ?_
      refine wl_ov (ov_move rfl) rfl ?_
      refine wl_callx (γ := Int × Bool) (val := (fun (g : Int × Bool) => .tuple #[.int .i64 g.1, .bool g.2])) (φ := (fun (g : Int × Bool) => CstIs l c fr (sv) g.1 g.2)) (Y := (fun (g : Int × Bool) => fun _ => True)) rfl cb7 rfl rfl (fun wx hm => (cost_any l A n c0 c fr wt sv g5 g3 g4 wx (hm.fact 8 rfl).1 (hm.fact 4 rfl).2 (hm.fact 6 rfl).2 (hm.fact 5 rfl).2 hok hn9 (by omega)).mono fun _ _ ⟨v, o, he, hc, hg⟩ => ⟨(v, o), he, hc, hg, trivial⟩) (fun _ => Lasts2.true_) ?_
      rintro ⟨cx, csame⟩ hcx
      dsimp only at hcx ⊢
      obtain ⟨hsame, hxa⟩ := hsx _ _ hcx
      refine wl_ov (ov_move rfl) rfl ?_
      refine wl_ov (ov_extract rfl rfl) rfl ?_
      refine wl_ov (ov_extract rfl rfl) rfl ?_
      refine wl_ov (ov_assign rfl) rfl ?_
      refine wl_ov (ov_assign rfl) rfl ?_
      refine wl_nil ?_
      refine nx_then ?_
      refine gw_seq ?_
      refine gw_region ?_
      refine wl_ov (ov_move rfl) rfl ?_
      refine wl_ov (ov_move rfl) rfl ?_
      refine wl_ov (ov_add rfl rfl (by omega) (by omega)) rfl ?_
      refine wl_callx (γ := Int × Bool) (val := (fun (g : Int × Bool) => .tuple #[.int .i64 g.1, .bool g.2])) (φ := (fun (g : Int × Bool) => CstIs l c fr (sv + 1) g.1 g.2)) (Y := (fun (g : Int × Bool) => fun _ => True)) rfl cb7 rfl rfl (fun wx hm => (cost_any l A n c0 c fr wt (sv + 1) g5 g3 g4 wx (hm.fact 9 rfl).1 (hm.fact 5 rfl).2 (hm.fact 7 rfl).2 (hm.fact 6 rfl).2 hok hn9 (by omega)).mono fun _ _ ⟨v, o, he, hc, hg⟩ => ⟨(v, o), he, hc, hg, trivial⟩) (fun _ => Lasts2.true_) ?_
      rintro ⟨cy, cmore⟩ hcy
      dsimp only at hcy ⊢
      have hmo := hsy _ _ hcy
      refine wl_set 16 (v' := .bool true) rfl (congrArg Value.bool hsame) ?_
      refine wl_ov (ov_move rfl) rfl ?_
      refine wl_ov (ov_extract rfl rfl) rfl ?_
      refine wl_ov (ov_extract rfl rfl) rfl ?_
      refine wl_ov (ov_assign rfl) rfl ?_
      refine wl_ov (ov_assign rfl) rfl ?_
      refine wl_nil ?_
      refine nx_then ?_
      refine gw_seq ?_
      refine gw_region ?_
      refine wl_ov (ov_move rfl) rfl ?_
      refine wl_ov (ov_move rfl) rfl ?_
      refine wl_guard_on rfl rfl rfl ?_
      refine wl_ov (ov_move rfl) rfl ?_
      refine wl_ov (ov_pick_t rfl rfl) rfl ?_
      refine wl_ov (ov_move rfl) rfl ?_
      refine wl_guard_on rfl rfl rfl ?_
      refine wl_ov (ov_move rfl) rfl ?_
      refine wl_guard_on rfl rfl rfl ?_
      refine wl_ov (ov_move rfl) rfl ?_
      refine wl_guard_on rfl rfl rfl ?_
      refine wl_ov (ov_eql rfl rfl) rfl ?_
      refine wl_set 99 (v' := .bool true) rfl (congrArg Value.bool (decide_eq_true hxa)) ?_
      refine wl_ov (ov_pick_t rfl rfl) rfl ?_
      refine wl_ov (ov_move rfl) rfl ?_
      refine wl_guard_on rfl rfl rfl ?_
      refine wl_ov (ov_move rfl) rfl ?_
      refine wl_guard_on rfl rfl rfl ?_
      refine wl_ov (ov_field fo30_1 rfl rfl) rfl ?_
      refine wl_guard_on rfl rfl rfl ?_
      refine wl_ov (ov_load (v := .int .i64 wt) sc3 rfl (fun _ hm => (hm.fact 6 rfl).2) rfl) rfl ?_
      refine wl_guard_on rfl rfl rfl ?_
      refine wl_ov (ov_geq rfl rfl) rfl ?_
      refine wl_set 105 (v' := .bool true) rfl (congrArg Value.bool (decide_eq_true hs1)) ?_
      refine wl_ov (ov_pick_t rfl rfl) rfl ?_
      refine wl_ov (ov_move rfl) rfl ?_
      refine wl_guard_on rfl rfl rfl ?_
      refine wl_ov (ov_move rfl) rfl ?_
      refine wl_guard_on rfl rfl rfl ?_
      refine wl_ov (ov_un_not rfl) rfl ?_
      refine wl_guard_on rfl rfl rfl ?_
      refine wl_ov (ov_move rfl) rfl ?_
      rcases Bool.eq_false_or_eq_true (!cmore) with hmr | hmr
      · refine wl_set 110 rfl (congrArg Value.bool hmr) ?_
        refine wl_guard_off rfl rfl rfl (by decide) rfl ?_
        refine wl_guard_off rfl rfl rfl (by decide) rfl ?_
        refine wl_guard_off rfl rfl rfl (by decide) rfl ?_
        refine wl_guard_on rfl rfl rfl ?_
        refine wl_ov (ov_pick_t rfl rfl) rfl ?_
        refine wl_ov (ov_pick_t rfl rfl) rfl ?_
        refine wl_ov (ov_move rfl) rfl ?_
        refine wl_guard_on rfl rfl rfl ?_
        refine wl_callv rfl cb13 rfl rfl (fun wx hm => (ready_any wx)) ?_
        refine wl_ov (ov_pick_t rfl rfl) rfl ?_
        refine wl_ov (ov_assign rfl) rfl ?_
        refine wl_nil ?_
        refine nx_then ?_
        refine gw_ret ?_
        refine nx_ret1 rfl rfl fun wx hm => ?_
        exact ⟨rfl, law_end hg1 hsb (grow_trans hm_w2.g (grow_weak hm.g))⟩
      · refine wl_set 110 rfl (congrArg Value.bool hmr) ?_
        refine wl_guard_on rfl rfl rfl ?_
        refine wl_ov (ov_move rfl) rfl ?_
        refine wl_guard_on rfl rfl rfl ?_
        refine wl_ov (ov_move rfl) rfl ?_
        refine wl_guard_on rfl rfl rfl ?_
        refine wl_ov (ov_gtr rfl rfl) rfl ?_
        refine wl_set 113 (v' := .bool true) rfl (congrArg Value.bool (decide_eq_true (hmo (by simpa using hmr)))) ?_
        refine wl_guard_on rfl rfl rfl ?_
        refine wl_ov (ov_pick_f rfl rfl) rfl ?_
        refine wl_ov (ov_pick_t rfl rfl) rfl ?_
        refine wl_ov (ov_move rfl) rfl ?_
        refine wl_guard_on rfl rfl rfl ?_
        refine wl_callv rfl cb13 rfl rfl (fun wx hm => (ready_any wx)) ?_
        refine wl_ov (ov_pick_t rfl rfl) rfl ?_
        refine wl_ov (ov_assign rfl) rfl ?_
        refine wl_nil ?_
        refine nx_then ?_
        refine gw_ret ?_
        refine nx_ret1 rfl rfl fun wx hm => ?_
        exact ⟨rfl, law_end hg1 hsb (grow_trans hm_w2.g (grow_weak hm.g))⟩

end Go.Proofs.Ytcggbojhalbkjaa
