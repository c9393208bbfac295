/- The walk of the law ClassSteps. -/
import Derived.Test.YtcggbojhalbkjaaDoorCi
import Derived.Test.YtcggbojhalbkjaaDoorLo
import Derived.Test.YtcggbojhalbkjaaDoorSg
import Derived.Test.YtcggbojhalbkjaaDoorTw
namespace Go.Proofs.YtcggbojhalbkjaaDoor
open Go.RowKit

theorem firstE_neC {a : Int} {r : List Int} (h : a ≠ 0) : firstE (a :: r) = a := by unfold firstE; rw [if_neg h]

set_option maxRecDepth 100000 in
set_option maxHeartbeats 1000000 in
theorem classSteps_walk (a0 : Option Addr) (len0 cap0 : Nat) (z0 : List Int) (w : World) (hR : RowIn w a0 len0 cap0 z0) :
    Calls Tryd.prog 5 #[.slice a0 len0 cap0] w fun e w' => e = .returned (.bool true) ∧ Below w.heap.size w w' := by
  refine gw_enter ⟨120, w, none, []⟩ Tryd.func5 rfl Tryd.ntmps5 rfl (mem0 (X := []) allF_nil allL_nil) ?_
  refine gw_seq ?_
  refine gw_region ?_
  refine wl_ov (ov_assign rfl) rfl ?_
  refine wl_nil ?_
  refine nx_then ?_
  refine gw_seq ?_
  refine gw_region ?_
  refine wl_ov (ov_move rfl) rfl ?_
  refine wl_ov (ov_build (cs := [.slice a0 len0 cap0, .int .i64 0]) rfl (by kernel_rfl)) rfl ?_
  refine wl_box rfl rfl rfl fun sb => ?_
  refine wl_ov (ov_assign rfl) rfl ?_
  refine wl_nil ?_
  refine nx_then ?_
  refine gw_seq ?_
  refine gw_region ?_
  refine wl_ov (ov_move rfl) rfl ?_
  refine wl_law [] hR 0 rfl fun w1 B hg1 hsb => ?_
  refine wl_callgs (γ := Option Addr × Nat × List Cs) (val := (fun (g : Option Addr × Nat × List Cs) => .slice g.1 4 g.2.1)) (φ := (fun (g : Option Addr × Nat × List Cs) => g.2.2.length = 4 ∧ (∀ x ∈ g.2.2, CsOk x))) (m' := 0 + 40) (fun (g : Option Addr × Nat × List Cs) => ⟨.slice g.1 4 g.2.1, 106, 2, 4, g.2.2.flatMap csEnc⟩) rfl cb36 rfl rfl rfl rfl (fun wx hm => (ganyClasses_any wx B sb _ hm.k (by omega)).mono fun _ _ ⟨A, c, l, he, ho, hl, hok, hS, hg⟩ => ⟨(A, c, l), he, ⟨hl, hok⟩, hS, hg, ho⟩) ?_
  rintro ⟨A, c, l⟩ hH
  dsimp only at hH ⊢
  obtain ⟨hl4, hok⟩ := hH
  refine wl_ov (ov_move rfl) rfl ?_
  refine wl_calls (γ := ByteArray) (val := (fun (g : ByteArray) => .string g)) (φ := (fun (g : ByteArray) => g.size ≤ 100)) (Y := (fun (g : ByteArray) => fun _ => True)) (m' := 0 + 40 + 1) rfl cb37 rfl rfl rfl rfl (fun wx hm => (gclassKey_any wx B sb _ hm.k (by omega)).mono fun _ _ ⟨v, he, hv, hS, hg⟩ => ⟨v, he, hv, hS, hg, trivial⟩) (fun _ => Lasts2.true_) ?_
  rintro ka hka
  refine wl_ov (ov_move rfl) rfl ?_
  refine wl_calls (γ := ByteArray) (val := (fun (g : ByteArray) => .string g)) (φ := (fun (g : ByteArray) => g.size ≤ 100)) (Y := (fun (g : ByteArray) => fun _ => True)) (m' := 0 + 40 + 1 + 1) rfl cb37 rfl rfl rfl rfl (fun wx hm => (gclassKey_any wx B sb _ hm.k (by omega)).mono fun _ _ ⟨v, he, hv, hS, hg⟩ => ⟨v, he, hv, hS, hg, trivial⟩) (fun _ => Lasts2.true_) ?_
  rintro kb hkb
  refine wl_ov (ov_assign rfl) rfl ?_
  refine wl_ov (ov_assign rfl) rfl ?_
  refine wl_ov (ov_assign rfl) rfl ?_
  refine wl_nil ?_
  refine nx_then ?_
  refine gw_seq ?_
  refine gw_region ?_
  refine wl_ov (ov_move rfl) rfl ?_
  refine wl_ov (ov_move rfl) rfl ?_
  refine wl_nest none [] fun w2 hm_w2 => ⟨_, _, _, _, mem0 (X := [SlOld csEnc 2 106 w2.heap.size none A 4 l]) (allF_cons (SlT.old (SlT.ofOwn cs_len (hm_w2.ownI 0 rfl) hl4)) allF_nil) (allL_cons SlOld.lasts allL_nil), ?_⟩
  obtain ⟨CE, hCE⟩ : ∃ E, E = classesE l := ⟨_, rfl⟩
  obtain ⟨IA, hIA⟩ : ∃ E, E = ixP (csP ka) l 0 := ⟨_, rfl⟩
  obtain ⟨IB, hIB⟩ : ∃ E, E = ixP (csP kb) l 0 := ⟨_, rfl⟩
  obtain ⟨E1, hE1⟩ : ∃ E, E = keysE l [ka] := ⟨_, rfl⟩
  obtain ⟨E2, hE2⟩ : ∃ E, E = keysE l [ka, kb] := ⟨_, rfl⟩
  have hone : E1 = firstE [CE, whenE (decide (IA < 0)) 8] := by rw [hE1, keysE_one, hCE, hIA]
  have htwo : E2 = firstE [E1, whenE (decide (IB < 0)) 8] := by rw [hE2, keysE_two, ← hE1, hIB]
  obtain ⟨PA, hPA⟩ : ∃ E, E = pathN l 4 ka := ⟨_, rfl⟩
  by_cases h1 : E1 = 0
  · obtain ⟨hc0, hix⟩ := keys_ok (hE1.symm.trans h1)
    obtain ⟨h30, hcl, hlo⟩ := classesE_ok hc0
    have hpb := pathN_len l 4 ka
    rw [← hPA] at hpb
    by_cases h2 : E2 = 0
    · refine wl_callgo (γ := Option Addr × Nat × Nat) (val := (fun (g : Option Addr × Nat × Nat) => .tuple #[.slice g.1 g.2.1 g.2.2, .int .i64 0])) (φ := (fun (g : Option Addr × Nat × Nat) => PA.length = g.2.1)) (fun (g : Option Addr × Nat × Nat) => ⟨.slice g.1 g.2.1 g.2.2, 9, 1, g.2.1, PA.flatMap sgEnc⟩) rfl cb38 rfl rfl (fun wx hm => (by rw [hPA]; exact (above_right l A 4 c ka wx (hm.fact 0 rfl).1 hok (by omega) (by rw [← hE1]; exact h1)).mono fun _ _ ⟨A2, n2, c2, he, ho, hl2, hg⟩ => ⟨(A2, n2, c2), he, hl2, ho, hg⟩)) ?_
      rintro ⟨A2, n2, c2⟩ hpl
      dsimp only at hpl ⊢
      refine wl_ov (ov_move rfl) rfl ?_
      refine wl_ov (ov_extract rfl rfl) rfl ?_
      refine wl_ov (ov_extract rfl rfl) rfl ?_
      refine wl_ov (ov_assign rfl) rfl ?_
      refine wl_ov (ov_assign rfl) rfl ?_
      refine wl_nil ?_
      refine nx_then ?_
      refine gw_seq ?_
      refine gw_region ?_
      refine wl_ov (ov_move rfl) rfl ?_
      refine wl_ov (ov_move rfl) rfl ?_
      refine wl_ov (ov_move rfl) rfl ?_
      refine wl_callv rfl cb39 rfl rfl (fun wx hm => (steps_right l A 4 c ka kb wx (hm.fact 0 rfl).1 hok (by omega) (by rw [← hE2]; exact h2))) ?_
      refine wl_ov (ov_move rfl) rfl ?_
      refine wl_ov (ov_extract rfl rfl) rfl ?_
      refine wl_ov (ov_extract rfl rfl) rfl ?_
      refine wl_ov (ov_extract rfl rfl) rfl ?_
      refine wl_ov (ov_assign rfl) rfl ?_
      refine wl_ov (ov_assign rfl) rfl ?_
      refine wl_ov (ov_assign rfl) rfl ?_
      refine wl_nil ?_
      refine nx_then ?_
      refine gw_seq ?_
      refine gw_region ?_
      refine wl_ov (ov_move rfl) rfl ?_
      refine wl_callv (v := .int .i64 CE) rfl cb40 rfl rfl (fun wx hm => (by rw [hCE]; exact classesFault_any l A 4 c wx (hm.fact 0 rfl).1 hok (by omega))) ?_
      refine wl_ov (ov_assign rfl) rfl ?_
      refine wl_nil ?_
      refine nx_then ?_
      refine gw_seq ?_
      refine gw_region ?_
      refine wl_ov (ov_move rfl) rfl ?_
      refine wl_ov (ov_move rfl) rfl ?_
      refine wl_ov (ov_move rfl) rfl ?_
      refine wl_callv (v := .int .i64 IA) rfl cb41 rfl rfl (fun wx hm => (by rw [hIA]; exact rClassAt_any l A 4 c ka wx (hm.fact 0 rfl).1 (by omega))) ?_
      refine wl_ov (ov_lss rfl rfl) rfl ?_
      refine wl_callw rfl cb15 rfl rfl (fun wx hm => (rwhen_any _ _ wx)) ?_
      refine wl_buildSlice (e := 38) (cs := [.int .i64 CE, .int .i64 (whenE (decide (IA < 0)) 8)]) rfl (by kernel_rfl) rfl fun g7 => ?_
      refine wl_callw (v := .int .i64 0) rfl cb13 rfl rfl (fun wx hm => (by have h := errs_any [CE, whenE (decide (IA < 0)) 8] g7 2 _ wx (hm.blkI 0 rfl) (by simp); rw [← hone, h1] at h; exact h)) ?_
      refine wl_ov (ov_assign rfl) rfl ?_
      refine wl_nil ?_
      refine nx_then ?_
      refine gw_seq ?_
      refine gw_region ?_
      refine wl_ov (ov_move rfl) rfl ?_
      refine wl_ov (ov_move rfl) rfl ?_
      refine wl_ov (ov_move rfl) rfl ?_
      refine wl_callv (v := .int .i64 IB) rfl cb41 rfl rfl (fun wx hm => (by rw [hIB]; exact rClassAt_any l A 4 c kb wx (hm.fact 0 rfl).1 (by omega))) ?_
      refine wl_ov (ov_lss rfl rfl) rfl ?_
      refine wl_callw rfl cb15 rfl rfl (fun wx hm => (rwhen_any _ _ wx)) ?_
      refine wl_buildSlice (e := 38) (cs := [.int .i64 0, .int .i64 (whenE (decide (IB < 0)) 8)]) rfl (by kernel_rfl) rfl fun g8 => ?_
      refine wl_callw (v := .int .i64 0) rfl cb13 rfl rfl (fun wx hm => (by have h := errs_any [0, whenE (decide (IB < 0)) 8] g8 2 _ wx (hm.blkI 0 rfl) (by simp); rw [show firstE [0, whenE (decide (IB < 0)) 8] = E2 from by rw [htwo, h1]] at h; rw [h2] at h; exact h)) ?_
      refine wl_ov (ov_assign rfl) rfl ?_
      refine wl_nil ?_
      refine nx_then ?_
      refine gw_seq ?_
      refine gw_seq ?_
      refine gw_region ?_
      refine wl_ov (ov_move rfl) rfl ?_
      refine wl_callv (v := .int .i64 CE) rfl cb42 rfl rfl (fun wx hm => (by rw [hCE]; exact checkClasses_any l A 4 c wx (hm.fact 0 rfl).1 hok (by omega))) ?_
      refine wl_ov (ov_move rfl) rfl ?_
      refine wl_ov (ov_neq rfl rfl) rfl ?_
      refine wl_set 61 (v' := .bool false) rfl (congrArg Value.bool (by simp)) ?_
      refine wl_ov (ov_move rfl) rfl ?_
      refine wl_guard_on rfl rfl rfl ?_
      refine wl_ov (ov_move rfl) rfl ?_
      refine wl_guard_on rfl rfl rfl ?_
      refine wl_ov (ov_move rfl) rfl ?_
      refine wl_guard_on rfl rfl rfl ?_
      refine wl_ov (ov_neq rfl rfl) rfl ?_
      refine wl_set 65 (v' := .bool false) rfl (congrArg Value.bool (by decide)) ?_
      refine wl_ov (ov_pick_f rfl rfl) rfl ?_
      refine wl_ov (ov_move rfl) rfl ?_
      refine wl_guard_on rfl rfl rfl ?_
      refine wl_ov (ov_move rfl) rfl ?_
      refine wl_guard_on rfl rfl rfl ?_
      refine wl_ov (ov_move rfl) rfl ?_
      refine wl_guard_on rfl rfl rfl ?_
      refine wl_ov (ov_neq rfl rfl) rfl ?_
      refine wl_set 70 (v' := .bool false) rfl (congrArg Value.bool (by decide)) ?_
      refine wl_ov (ov_pick_f rfl rfl) rfl ?_
      refine wl_ov (ov_move rfl) rfl ?_
      refine wl_guard_on rfl rfl rfl ?_
      refine wl_ov (ov_move rfl) rfl ?_
      refine wl_guard_on rfl rfl rfl ?_
      refine wl_ov (ov_neq rfl rfl) rfl ?_
      refine wl_set 74 (v' := .bool false) rfl (congrArg Value.bool (by decide)) ?_
      refine wl_guard_on rfl rfl rfl ?_
      refine wl_ov (ov_move rfl) rfl ?_
      refine wl_guard_off rfl rfl rfl (by decide) rfl ?_
      refine wl_guard_off rfl rfl rfl (by decide) rfl ?_
      refine wl_guard_off rfl rfl rfl (by decide) rfl ?_
      refine wl_guard_on rfl rfl rfl ?_
      refine wl_ov (ov_pick_f rfl rfl) rfl ?_
      refine wl_ov (ov_pick_f rfl rfl) rfl ?_
      refine wl_nil ?_
      refine nx_then ?_
      refine gw_cond rfl (fun hh => by cases hh) (fun _ => ?_)
      refine gw_skip ?_
      refine nx_then ?_
      refine gw_seq ?_
      refine gw_seq ?_
      refine gw_region ?_
      refine wl_ov (ov_move rfl) rfl ?_
      refine wl_ov (ov_eql rfl rfl) rfl ?_
      refine wl_set 82 (v' := .bool true) rfl (congrArg Value.bool (by decide)) ?_
      refine wl_ov (ov_move rfl) rfl ?_
      refine wl_guard_on rfl rfl rfl ?_
      refine wl_ov (ov_move rfl) rfl ?_
      refine wl_guard_on rfl rfl rfl ?_
      refine wl_ov (ov_move rfl) rfl ?_
      refine wl_guard_on rfl rfl rfl ?_
      refine wl_ov (ov_move rfl) rfl ?_
      refine wl_guard_on rfl rfl rfl ?_
      refine wl_callgo (γ := Option Addr × Nat × Nat) (val := (fun (g : Option Addr × Nat × Nat) => .slice g.1 g.2.1 g.2.2)) (φ := (fun (g : Option Addr × Nat × Nat) => PA.length = g.2.1)) (fun (g : Option Addr × Nat × Nat) => ⟨.slice g.1 g.2.1 g.2.2, 9, 1, g.2.1, PA.flatMap sgEnc⟩) rfl cb44 rfl rfl (fun wx hm => (by have h := ups_any l A 4 c ka wx (hm.fact 0 rfl).1 hok (by omega); rw [show pathN l (4 + 1) ka = PA by rw [hPA]; have := path_same hcl hlo ka; rw [hl4] at this; exact this] at h; exact h.mono fun _ _ ⟨A2, n2, c2, he, ho, hl2, hg⟩ => ⟨(A2, n2, c2), he, hl2, ho, hg⟩)) ?_
      rintro ⟨A3, n3, c3⟩ hpl3
      dsimp only at hpl3 ⊢
      obtain rfl : n2 = n3 := hpl.symm.trans hpl3
      refine wl_guard_on rfl rfl rfl ?_
      refine wl_callv rfl cb43 rfl rfl (fun wx hm => (equal_strs PA A2 A3 n2 c2 c3 wx (SlT.ofOwn sg_len (hm.ownI 1 rfl) hpl) (SlT.ofOwn sg_len (hm.ownI 0 rfl) hpl) (by omega))) ?_
      refine wl_guard_on rfl rfl rfl ?_
      refine wl_ov (ov_un_not rfl) rfl ?_
      refine wl_set 89 (v' := .bool false) rfl (congrArg Value.bool (by decide)) ?_
      refine wl_ov (ov_pick_t rfl rfl) rfl ?_
      refine wl_nil ?_
      refine nx_then ?_
      refine gw_cond rfl (fun hh => by cases hh) (fun _ => ?_)
      refine gw_skip ?_
      refine nx_then ?_
      refine gw_seq ?_
      refine gw_seq ?_
      refine gw_region ?_
      refine wl_ov (ov_move rfl) rfl ?_
      refine wl_ov (ov_neq rfl rfl) rfl ?_
      refine wl_set 92 (v' := .bool false) rfl (congrArg Value.bool (by decide)) ?_
      refine wl_nil ?_
      refine nx_then ?_
      refine gw_cond rfl (fun hh => by cases hh) (fun _ => ?_)
      refine gw_skip ?_
      refine nx_then ?_
      refine gw_seq ?_
      refine gw_region ?_
      refine wl_ov (ov_move rfl) rfl ?_
      refine wl_ov (ov_move rfl) rfl ?_
      refine wl_ov (ov_move rfl) rfl ?_
      refine wl_callv rfl cb45 rfl rfl (fun wx hm => (stepsOf_any l A 4 c ka kb wx (hm.fact 0 rfl).1 hok (by omega) hcl hlo)) ?_
      refine wl_ov (ov_move rfl) rfl ?_
      refine wl_ov (ov_extract rfl rfl) rfl ?_
      refine wl_ov (ov_extract rfl rfl) rfl ?_
      refine wl_ov (ov_assign rfl) rfl ?_
      refine wl_ov (ov_assign rfl) rfl ?_
      refine wl_nil ?_
      refine nx_then ?_
      refine gw_seq ?_
      refine gw_region ?_
      refine wl_ov (ov_move rfl) rfl ?_
      refine wl_ov (ov_move rfl) rfl ?_
      refine wl_ov (ov_eql rfl rfl) rfl ?_
      refine wl_set 111 (v' := .bool true) rfl (congrArg Value.bool (by simp)) ?_
      refine wl_ov (ov_move rfl) rfl ?_
      refine wl_guard_on rfl rfl rfl ?_
      refine wl_ov (ov_move rfl) rfl ?_
      refine wl_guard_on rfl rfl rfl ?_
      refine wl_ov (ov_move rfl) rfl ?_
      refine wl_guard_on rfl rfl rfl ?_
      refine wl_ov (ov_beql (by kernel_rfl) rfl rfl) rfl ?_
      refine wl_set 115 (v' := .bool true) rfl (congrArg Value.bool (beq_self_eq_true _)) ?_
      refine wl_ov (ov_pick_t rfl rfl) rfl ?_
      refine wl_ov (ov_move rfl) rfl ?_
      refine wl_guard_on rfl rfl rfl ?_
      refine wl_callv rfl cb35 rfl rfl (fun wx hm => (lots_any wx)) ?_
      refine wl_ov (ov_pick_t rfl rfl) rfl ?_
      refine wl_ov (ov_assign rfl) rfl ?_
      refine wl_nil ?_
      refine nx_then ?_
      refine gw_ret ?_
      refine nx_ret1 rfl rfl fun wx hm => ?_
      exact ⟨rfl, law_end hg1 hsb (grow_trans hm_w2.g (grow_weak hm.g))⟩
    · refine wl_callgo (γ := Option Addr × Nat × Nat) (val := (fun (g : Option Addr × Nat × Nat) => .tuple #[.slice g.1 g.2.1 g.2.2, .int .i64 0])) (φ := (fun (g : Option Addr × Nat × Nat) => PA.length = g.2.1)) (fun (g : Option Addr × Nat × Nat) => ⟨.slice g.1 g.2.1 g.2.2, 9, 1, g.2.1, PA.flatMap sgEnc⟩) rfl cb38 rfl rfl (fun wx hm => (by rw [hPA]; exact (above_right l A 4 c ka wx (hm.fact 0 rfl).1 hok (by omega) (by rw [← hE1]; exact h1)).mono fun _ _ ⟨A2, n2, c2, he, ho, hl2, hg⟩ => ⟨(A2, n2, c2), he, hl2, ho, hg⟩)) ?_
      rintro ⟨A2, n2, c2⟩ hpl
      dsimp only at hpl ⊢
      refine wl_ov (ov_move rfl) rfl ?_
      refine wl_ov (ov_extract rfl rfl) rfl ?_
      refine wl_ov (ov_extract rfl rfl) rfl ?_
      refine wl_ov (ov_assign rfl) rfl ?_
      refine wl_ov (ov_assign rfl) rfl ?_
      refine wl_nil ?_
      refine nx_then ?_
      refine gw_seq ?_
      refine gw_region ?_
      refine wl_ov (ov_move rfl) rfl ?_
      refine wl_ov (ov_move rfl) rfl ?_
      refine wl_ov (ov_move rfl) rfl ?_
      refine wl_callv (v := .tuple #[.int .i64 0, .bool false, .int .i64 E2]) rfl cb39 rfl rfl (fun wx hm => (by have h := steps_bad l A 4 c ka kb wx (hm.fact 0 rfl).1 hok (by omega) (by rw [← hE2]; exact h2); rw [← hE2] at h; exact h)) ?_
      refine wl_ov (ov_move rfl) rfl ?_
      refine wl_ov (ov_extract rfl rfl) rfl ?_
      refine wl_ov (ov_extract rfl rfl) rfl ?_
      refine wl_ov (ov_extract rfl rfl) rfl ?_
      refine wl_ov (ov_assign rfl) rfl ?_
      refine wl_ov (ov_assign rfl) rfl ?_
      refine wl_ov (ov_assign rfl) rfl ?_
      refine wl_nil ?_
      refine nx_then ?_
      refine gw_seq ?_
      refine gw_region ?_
      refine wl_ov (ov_move rfl) rfl ?_
      refine wl_callv (v := .int .i64 CE) rfl cb40 rfl rfl (fun wx hm => (by rw [hCE]; exact classesFault_any l A 4 c wx (hm.fact 0 rfl).1 hok (by omega))) ?_
      refine wl_ov (ov_assign rfl) rfl ?_
      refine wl_nil ?_
      refine nx_then ?_
      refine gw_seq ?_
      refine gw_region ?_
      refine wl_ov (ov_move rfl) rfl ?_
      refine wl_ov (ov_move rfl) rfl ?_
      refine wl_ov (ov_move rfl) rfl ?_
      refine wl_callv (v := .int .i64 IA) rfl cb41 rfl rfl (fun wx hm => (by rw [hIA]; exact rClassAt_any l A 4 c ka wx (hm.fact 0 rfl).1 (by omega))) ?_
      refine wl_ov (ov_lss rfl rfl) rfl ?_
      refine wl_callw rfl cb15 rfl rfl (fun wx hm => (rwhen_any _ _ wx)) ?_
      refine wl_buildSlice (e := 38) (cs := [.int .i64 CE, .int .i64 (whenE (decide (IA < 0)) 8)]) rfl (by kernel_rfl) rfl fun g5 => ?_
      refine wl_callw (v := .int .i64 0) rfl cb13 rfl rfl (fun wx hm => (by have h := errs_any [CE, whenE (decide (IA < 0)) 8] g5 2 _ wx (hm.blkI 0 rfl) (by simp); rw [← hone, h1] at h; exact h)) ?_
      refine wl_ov (ov_assign rfl) rfl ?_
      refine wl_nil ?_
      refine nx_then ?_
      refine gw_seq ?_
      refine gw_region ?_
      refine wl_ov (ov_move rfl) rfl ?_
      refine wl_ov (ov_move rfl) rfl ?_
      refine wl_ov (ov_move rfl) rfl ?_
      refine wl_callv (v := .int .i64 IB) rfl cb41 rfl rfl (fun wx hm => (by rw [hIB]; exact rClassAt_any l A 4 c kb wx (hm.fact 0 rfl).1 (by omega))) ?_
      refine wl_ov (ov_lss rfl rfl) rfl ?_
      refine wl_callw rfl cb15 rfl rfl (fun wx hm => (rwhen_any _ _ wx)) ?_
      refine wl_buildSlice (e := 38) (cs := [.int .i64 0, .int .i64 (whenE (decide (IB < 0)) 8)]) rfl (by kernel_rfl) rfl fun g6 => ?_
      refine wl_callw (v := .int .i64 E2) rfl cb13 rfl rfl (fun wx hm => (by have h := errs_any [0, whenE (decide (IB < 0)) 8] g6 2 _ wx (hm.blkI 0 rfl) (by simp); rw [show firstE [0, whenE (decide (IB < 0)) 8] = E2 from by rw [htwo, h1]] at h; exact h)) ?_
      refine wl_ov (ov_assign rfl) rfl ?_
      refine wl_nil ?_
      refine nx_then ?_
      refine gw_seq ?_
      refine gw_seq ?_
      refine gw_region ?_
      refine wl_ov (ov_move rfl) rfl ?_
      refine wl_callv (v := .int .i64 CE) rfl cb42 rfl rfl (fun wx hm => (by rw [hCE]; exact checkClasses_any l A 4 c wx (hm.fact 0 rfl).1 hok (by omega))) ?_
      refine wl_ov (ov_move rfl) rfl ?_
      refine wl_ov (ov_neq rfl rfl) rfl ?_
      refine wl_set 61 (v' := .bool false) rfl (congrArg Value.bool (by simp)) ?_
      refine wl_ov (ov_move rfl) rfl ?_
      refine wl_guard_on rfl rfl rfl ?_
      refine wl_ov (ov_move rfl) rfl ?_
      refine wl_guard_on rfl rfl rfl ?_
      refine wl_ov (ov_move rfl) rfl ?_
      refine wl_guard_on rfl rfl rfl ?_
      refine wl_ov (ov_neq rfl rfl) rfl ?_
      refine wl_set 65 (v' := .bool false) rfl (congrArg Value.bool (by decide)) ?_
      refine wl_ov (ov_pick_f rfl rfl) rfl ?_
      refine wl_ov (ov_move rfl) rfl ?_
      refine wl_guard_on rfl rfl rfl ?_
      refine wl_ov (ov_move rfl) rfl ?_
      refine wl_guard_on rfl rfl rfl ?_
      refine wl_ov (ov_move rfl) rfl ?_
      refine wl_guard_on rfl rfl rfl ?_
      refine wl_ov (ov_neq rfl rfl) rfl ?_
      refine wl_set 70 (v' := .bool false) rfl (congrArg Value.bool (by simp)) ?_
      refine wl_ov (ov_pick_f rfl rfl) rfl ?_
      refine wl_ov (ov_move rfl) rfl ?_
      refine wl_guard_on rfl rfl rfl ?_
      refine wl_ov (ov_move rfl) rfl ?_
      refine wl_guard_on rfl rfl rfl ?_
      refine wl_ov (ov_neq rfl rfl) rfl ?_
      refine wl_set 74 (v' := .bool false) rfl (congrArg Value.bool (by decide)) ?_
      refine wl_guard_on rfl rfl rfl ?_
      refine wl_ov (ov_move rfl) rfl ?_
      refine wl_guard_off rfl rfl rfl (by decide) rfl ?_
      refine wl_guard_off rfl rfl rfl (by decide) rfl ?_
      refine wl_guard_off rfl rfl rfl (by decide) rfl ?_
      refine wl_guard_on rfl rfl rfl ?_
      refine wl_ov (ov_pick_f rfl rfl) rfl ?_
      refine wl_ov (ov_pick_f rfl rfl) rfl ?_
      refine wl_nil ?_
      refine nx_then ?_
      refine gw_cond rfl (fun hh => by cases hh) (fun _ => ?_)
      refine gw_skip ?_
      refine nx_then ?_
      refine gw_seq ?_
      refine gw_seq ?_
      refine gw_region ?_
      refine wl_ov (ov_move rfl) rfl ?_
      refine wl_ov (ov_eql rfl rfl) rfl ?_
      refine wl_set 82 (v' := .bool true) rfl (congrArg Value.bool (by decide)) ?_
      refine wl_ov (ov_move rfl) rfl ?_
      refine wl_guard_on rfl rfl rfl ?_
      refine wl_ov (ov_move rfl) rfl ?_
      refine wl_guard_on rfl rfl rfl ?_
      refine wl_ov (ov_move rfl) rfl ?_
      refine wl_guard_on rfl rfl rfl ?_
      refine wl_ov (ov_move rfl) rfl ?_
      refine wl_guard_on rfl rfl rfl ?_
      refine wl_callgo (γ := Option Addr × Nat × Nat) (val := (fun (g : Option Addr × Nat × Nat) => .slice g.1 g.2.1 g.2.2)) (φ := (fun (g : Option Addr × Nat × Nat) => PA.length = g.2.1)) (fun (g : Option Addr × Nat × Nat) => ⟨.slice g.1 g.2.1 g.2.2, 9, 1, g.2.1, PA.flatMap sgEnc⟩) rfl cb44 rfl rfl (fun wx hm => (by have h := ups_any l A 4 c ka wx (hm.fact 0 rfl).1 hok (by omega); rw [show pathN l (4 + 1) ka = PA by rw [hPA]; have := path_same hcl hlo ka; rw [hl4] at this; exact this] at h; exact h.mono fun _ _ ⟨A2, n2, c2, he, ho, hl2, hg⟩ => ⟨(A2, n2, c2), he, hl2, ho, hg⟩)) ?_
      rintro ⟨A3, n3, c3⟩ hpl3
      dsimp only at hpl3 ⊢
      obtain rfl : n2 = n3 := hpl.symm.trans hpl3
      refine wl_guard_on rfl rfl rfl ?_
      refine wl_callv rfl cb43 rfl rfl (fun wx hm => (equal_strs PA A2 A3 n2 c2 c3 wx (SlT.ofOwn sg_len (hm.ownI 1 rfl) hpl) (SlT.ofOwn sg_len (hm.ownI 0 rfl) hpl) (by omega))) ?_
      refine wl_guard_on rfl rfl rfl ?_
      refine wl_ov (ov_un_not rfl) rfl ?_
      refine wl_set 89 (v' := .bool false) rfl (congrArg Value.bool (by decide)) ?_
      refine wl_ov (ov_pick_t rfl rfl) rfl ?_
      refine wl_nil ?_
      refine nx_then ?_
      refine gw_cond rfl (fun hh => by cases hh) (fun _ => ?_)
      refine gw_skip ?_
      refine nx_then ?_
      refine gw_seq ?_
      refine gw_seq ?_
      refine gw_region ?_
      refine wl_ov (ov_move rfl) rfl ?_
      refine wl_ov (ov_neq rfl rfl) rfl ?_
      refine wl_set 92 (v' := .bool true) rfl (congrArg Value.bool (by rw [decide_eq_false h2]; rfl)) ?_
      refine wl_nil ?_
      refine nx_then ?_
      refine gw_cond rfl (fun _ => ?_) (fun hh => by cases hh)
      refine gw_seq ?_
      refine gw_region ?_
      refine wl_ov (ov_move rfl) rfl ?_
      refine wl_ov (ov_eql rfl rfl) rfl ?_
      refine wl_set 94 (v' := .bool true) rfl (congrArg Value.bool (by decide)) ?_
      refine wl_ov (ov_move rfl) rfl ?_
      refine wl_guard_on rfl rfl rfl ?_
      refine wl_ov (ov_move rfl) rfl ?_
      refine wl_guard_on rfl rfl rfl ?_
      refine wl_ov (ov_un_not rfl) rfl ?_
      refine wl_set 97 (v' := .bool true) rfl (congrArg Value.bool (by decide)) ?_
      refine wl_ov (ov_pick_t rfl rfl) rfl ?_
      refine wl_ov (ov_move rfl) rfl ?_
      refine wl_guard_on rfl rfl rfl ?_
      refine wl_callv rfl cb35 rfl rfl (fun wx hm => (lots_any wx)) ?_
      refine wl_ov (ov_pick_t rfl rfl) rfl ?_
      refine wl_ov (ov_assign rfl) rfl ?_
      refine wl_nil ?_
      refine nx_then ?_
      refine gw_ret ?_
      refine nx_then_ret ?_
      refine nx_ret1 rfl rfl fun wx hm => ?_
      exact ⟨rfl, law_end hg1 hsb (grow_trans hm_w2.g (grow_weak hm.g))⟩
  · have h2 : E2 ≠ 0 := by rw [htwo, firstE_neC h1]; exact h1
    refine wl_callv (v := .tuple #[.slice none 0 0, .int .i64 E1]) rfl cb38 rfl rfl (fun wx hm => (by have h := above_bad l A 4 c ka wx (hm.fact 0 rfl).1 hok (by omega) (by rw [← hE1]; exact h1); rw [← hE1] at h; exact h)) ?_
    refine wl_ov (ov_move rfl) rfl ?_
    refine wl_ov (ov_extract rfl rfl) rfl ?_
    refine wl_ov (ov_extract rfl rfl) rfl ?_
    refine wl_ov (ov_assign rfl) rfl ?_
    refine wl_ov (ov_assign rfl) rfl ?_
    refine wl_nil ?_
    refine nx_then ?_
    refine gw_seq ?_
    refine gw_region ?_
    refine wl_ov (ov_move rfl) rfl ?_
    refine wl_ov (ov_move rfl) rfl ?_
    refine wl_ov (ov_move rfl) rfl ?_
    refine wl_callv (v := .tuple #[.int .i64 0, .bool false, .int .i64 E2]) rfl cb39 rfl rfl (fun wx hm => (by have h := steps_bad l A 4 c ka kb wx (hm.fact 0 rfl).1 hok (by omega) (by rw [← hE2]; exact h2); rw [← hE2] at h; exact h)) ?_
    refine wl_ov (ov_move rfl) rfl ?_
    refine wl_ov (ov_extract rfl rfl) rfl ?_
    refine wl_ov (ov_extract rfl rfl) rfl ?_
    refine wl_ov (ov_extract rfl rfl) rfl ?_
    refine wl_ov (ov_assign rfl) rfl ?_
    refine wl_ov (ov_assign rfl) rfl ?_
    refine wl_ov (ov_assign rfl) rfl ?_
    refine wl_nil ?_
    refine nx_then ?_
    refine gw_seq ?_
    refine gw_region ?_
    refine wl_ov (ov_move rfl) rfl ?_
    refine wl_callv (v := .int .i64 CE) rfl cb40 rfl rfl (fun wx hm => (by rw [hCE]; exact classesFault_any l A 4 c wx (hm.fact 0 rfl).1 hok (by omega))) ?_
    refine wl_ov (ov_assign rfl) rfl ?_
    refine wl_nil ?_
    refine nx_then ?_
    refine gw_seq ?_
    refine gw_region ?_
    refine wl_ov (ov_move rfl) rfl ?_
    refine wl_ov (ov_move rfl) rfl ?_
    refine wl_ov (ov_move rfl) rfl ?_
    refine wl_callv (v := .int .i64 IA) rfl cb41 rfl rfl (fun wx hm => (by rw [hIA]; exact rClassAt_any l A 4 c ka wx (hm.fact 0 rfl).1 (by omega))) ?_
    refine wl_ov (ov_lss rfl rfl) rfl ?_
    refine wl_callw rfl cb15 rfl rfl (fun wx hm => (rwhen_any _ _ wx)) ?_
    refine wl_buildSlice (e := 38) (cs := [.int .i64 CE, .int .i64 (whenE (decide (IA < 0)) 8)]) rfl (by kernel_rfl) rfl fun g3 => ?_
    refine wl_callw (v := .int .i64 E1) rfl cb13 rfl rfl (fun wx hm => (by have h := errs_any [CE, whenE (decide (IA < 0)) 8] g3 2 _ wx (hm.blkI 0 rfl) (by simp); rw [← hone] at h; exact h)) ?_
    refine wl_ov (ov_assign rfl) rfl ?_
    refine wl_nil ?_
    refine nx_then ?_
    refine gw_seq ?_
    refine gw_region ?_
    refine wl_ov (ov_move rfl) rfl ?_
    refine wl_ov (ov_move rfl) rfl ?_
    refine wl_ov (ov_move rfl) rfl ?_
    refine wl_callv (v := .int .i64 IB) rfl cb41 rfl rfl (fun wx hm => (by rw [hIB]; exact rClassAt_any l A 4 c kb wx (hm.fact 0 rfl).1 (by omega))) ?_
    refine wl_ov (ov_lss rfl rfl) rfl ?_
    refine wl_callw rfl cb15 rfl rfl (fun wx hm => (rwhen_any _ _ wx)) ?_
    refine wl_buildSlice (e := 38) (cs := [.int .i64 E1, .int .i64 (whenE (decide (IB < 0)) 8)]) rfl (by kernel_rfl) rfl fun g4 => ?_
    refine wl_callw (v := .int .i64 E2) rfl cb13 rfl rfl (fun wx hm => (by have h := errs_any [E1, whenE (decide (IB < 0)) 8] g4 2 _ wx (hm.blkI 0 rfl) (by simp); rw [show firstE [E1, whenE (decide (IB < 0)) 8] = E2 from by rw [htwo]] at h; exact h)) ?_
    refine wl_ov (ov_assign rfl) rfl ?_
    refine wl_nil ?_
    refine nx_then ?_
    refine gw_seq ?_
    refine gw_seq ?_
    refine gw_region ?_
    refine wl_ov (ov_move rfl) rfl ?_
    refine wl_callv (v := .int .i64 CE) rfl cb42 rfl rfl (fun wx hm => (by rw [hCE]; exact checkClasses_any l A 4 c wx (hm.fact 0 rfl).1 hok (by omega))) ?_
    refine wl_ov (ov_move rfl) rfl ?_
    refine wl_ov (ov_neq rfl rfl) rfl ?_
    refine wl_set 61 (v' := .bool false) rfl (congrArg Value.bool (by simp)) ?_
    refine wl_ov (ov_move rfl) rfl ?_
    refine wl_guard_on rfl rfl rfl ?_
    refine wl_ov (ov_move rfl) rfl ?_
    refine wl_guard_on rfl rfl rfl ?_
    refine wl_ov (ov_move rfl) rfl ?_
    refine wl_guard_on rfl rfl rfl ?_
    refine wl_ov (ov_neq rfl rfl) rfl ?_
    refine wl_set 65 (v' := .bool false) rfl (congrArg Value.bool (by simp)) ?_
    refine wl_ov (ov_pick_f rfl rfl) rfl ?_
    refine wl_ov (ov_move rfl) rfl ?_
    refine wl_guard_on rfl rfl rfl ?_
    refine wl_ov (ov_move rfl) rfl ?_
    refine wl_guard_on rfl rfl rfl ?_
    refine wl_ov (ov_move rfl) rfl ?_
    refine wl_guard_on rfl rfl rfl ?_
    refine wl_ov (ov_neq rfl rfl) rfl ?_
    refine wl_set 70 (v' := .bool false) rfl (congrArg Value.bool (by simp)) ?_
    refine wl_ov (ov_pick_f rfl rfl) rfl ?_
    refine wl_ov (ov_move rfl) rfl ?_
    refine wl_guard_on rfl rfl rfl ?_
    refine wl_ov (ov_move rfl) rfl ?_
    refine wl_guard_on rfl rfl rfl ?_
    refine wl_ov (ov_neq rfl rfl) rfl ?_
    refine wl_set 74 (v' := .bool true) rfl (congrArg Value.bool (by rw [decide_eq_false h1]; rfl)) ?_
    refine wl_guard_on rfl rfl rfl ?_
    refine wl_ov (ov_move rfl) rfl ?_
    refine wl_guard_on rfl rfl rfl ?_
    refine wl_ov (ov_move rfl) rfl ?_
    refine wl_guard_on rfl rfl rfl ?_
    refine wl_ov (ov_len es76 rfl) rfl ?_
    refine wl_set 77 (v' := .int .i64 0) rfl rfl ?_
    refine wl_guard_on rfl rfl rfl ?_
    refine wl_ov (ov_gtr rfl rfl) rfl ?_
    refine wl_set 78 (v' := .bool false) rfl (congrArg Value.bool (by decide)) ?_
    refine wl_guard_on rfl rfl rfl ?_
    refine wl_ov (ov_pick_t rfl rfl) rfl ?_
    refine wl_ov (ov_pick_f rfl rfl) rfl ?_
    refine wl_nil ?_
    refine nx_then ?_
    refine gw_cond rfl (fun hh => by cases hh) (fun _ => ?_)
    refine gw_skip ?_
    refine nx_then ?_
    refine gw_seq ?_
    refine gw_seq ?_
    refine gw_region ?_
    refine wl_ov (ov_move rfl) rfl ?_
    refine wl_ov (ov_eql rfl rfl) rfl ?_
    refine wl_set 82 (v' := .bool false) rfl (congrArg Value.bool (decide_eq_false h1)) ?_
    refine wl_ov (ov_move rfl) rfl ?_
    refine wl_guard_off rfl rfl rfl (by decide) rfl ?_
    refine wl_guard_off rfl rfl rfl (by decide) rfl ?_
    refine wl_guard_off rfl rfl rfl (by decide) rfl ?_
    refine wl_guard_off rfl rfl rfl (by decide) rfl ?_
    refine wl_guard_off rfl rfl rfl (by decide) rfl ?_
    refine wl_guard_off rfl rfl rfl (by decide) rfl ?_
    refine wl_ov (ov_pick_f rfl rfl) rfl ?_
    refine wl_nil ?_
    refine nx_then ?_
    refine gw_cond rfl (fun hh => by cases hh) (fun _ => ?_)
    refine gw_skip ?_
    refine nx_then ?_
    refine gw_seq ?_
    refine gw_seq ?_
    refine gw_region ?_
    refine wl_ov (ov_move rfl) rfl ?_
    refine wl_ov (ov_neq rfl rfl) rfl ?_
    refine wl_set 92 (v' := .bool true) rfl (congrArg Value.bool (by rw [decide_eq_false h2]; rfl)) ?_
    refine wl_nil ?_
    refine nx_then ?_
    refine gw_cond rfl (fun _ => ?_) (fun hh => by cases hh)
    refine gw_seq ?_
    refine gw_region ?_
    refine wl_ov (ov_move rfl) rfl ?_
    refine wl_ov (ov_eql rfl rfl) rfl ?_
    refine wl_set 94 (v' := .bool true) rfl (congrArg Value.bool (by decide)) ?_
    refine wl_ov (ov_move rfl) rfl ?_
    refine wl_guard_on rfl rfl rfl ?_
    refine wl_ov (ov_move rfl) rfl ?_
    refine wl_guard_on rfl rfl rfl ?_
    refine wl_ov (ov_un_not rfl) rfl ?_
    refine wl_set 97 (v' := .bool true) rfl (congrArg Value.bool (by decide)) ?_
    refine wl_ov (ov_pick_t rfl rfl) rfl ?_
    refine wl_ov (ov_move rfl) rfl ?_
    refine wl_guard_on rfl rfl rfl ?_
    refine wl_callv rfl cb35 rfl rfl (fun wx hm => (lots_any wx)) ?_
    refine wl_ov (ov_pick_t rfl rfl) rfl ?_
    refine wl_ov (ov_assign rfl) rfl ?_
    refine wl_nil ?_
    refine nx_then ?_
    refine gw_ret ?_
    refine nx_then_ret ?_
    refine nx_ret1 rfl rfl fun wx hm => ?_
    exact ⟨rfl, law_end hg1 hsb (grow_trans hm_w2.g (grow_weak hm.g))⟩

end Go.Proofs.YtcggbojhalbkjaaDoor
