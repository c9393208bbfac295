/- Several texts as one: Goc Sp Bd Bx Gof -/
import Derived.Test.YtpikhokaclpbhaaGreatDoorN2c
import Derived.Test.YtpikhokaclpbhaaGreatDoorN2b
import Derived.Test.YtpikhokaclpbhaaGreatDoorN2a
set_option maxRecDepth 100000
set_option maxHeartbeats 4000000
namespace Go.Proofs.YtpikhokaclpbhaaGreatDoor
open Go.RowKit
theorem frB_of {l : List Bk} (h : formE l = 0) : ∀ x ∈ l, FrB x := fun x hx => by
  have := form_tim h x hx
  unfold FrB
  omega
theorem greedyOf_any (cs : List Cs) (A0 : Option Addr) (n0 c0 : Nat) (sl : List Sk) (A1 : Option Addr) (n1 c1 : Nat) (l : List Bk) (A : Option Addr) (n c : Nat) (w : World) (hcs : SlT csEnc 2 145 w A0 n0 cs) (hco : ∀ x ∈ cs, CsOk x) (hn0 : n0 ≤ 30) (hcl : Closed cs) (hlo : loopB cs cs.length = false) (hs : SlT skEnc 2 237 w A1 n1 sl) (hso : ∀ x ∈ sl, SkOk x) (hn1 : n1 ≤ 1000) (hmany : ∀ k, manyV sl k ≤ 100) (hl : SlT bkEnc 6 181 w A n l) (hn : n ≤ 9) (hf : formE l = 0) :
  Calls Tryz.prog 43 #[.slice A0 n0 c0, .slice A1 n1 c1, .slice A n c] w (fun e w' => ∃ (Ag : Option Addr) (k cg : Nat) (Al : Option Addr) (q cl : Nat), e = .returned (.tuple #[.slice Ag k cg, .slice Al q cl]) ∧ SlT gvEnc 3 91 w' Ag k (givenE cs sl l) ∧ SlT sgEnc 1 9 w' Al q (waitE cs sl l) ∧ k ≤ 9 ∧ q ≤ 9 ∧ w.grownBy w' none) := by
 refine gw_enter ⟨56, w, none, []⟩ Tryz.func43 rfl Tryz.ntmps43 rfl (mem0 (X := [SlOld csEnc 2 145 w.heap.size none A0 n0 cs, SlOld skEnc 2 237 w.heap.size none A1 n1 sl, SlOld bkEnc 6 181 w.heap.size none A n l]) (allF_cons hcs.old (allF_cons hs.old (allF_cons hl.old allF_nil))) (allL_cons SlOld.lasts (allL_cons SlOld.lasts (allL_cons SlOld.lasts allL_nil)))) ?_
 refine sr_ ?_
 have hlen := hl.len
 obtain ⟨S, hS⟩ : ∃ z, z = isort grLt l := ⟨_, rfl⟩
 have hSl : S.length = n := by rw [hS, isort_len]; exact hlen
 have hSm : ∀ x ∈ S, x ∈ l := fun x hx => isort_mem.1 (by rw [hS] at hx; exact hx)
 have htl := form_tim hf
 have hgv := given_eq (cs := cs) (sl := sl) hf
 have hwt := wait_eq (cs := cs) (sl := sl) bsLt_bl hf
 rw [← hS] at hgv hwt
 obtain ⟨CD, hCD⟩ : ∃ z, z = cdB cs sl := ⟨_, rfl⟩
 rw [← hCD] at hgv hwt
 rw [← hgv, ← hwt]
 refine sg_ rfl (sg_ rfl (nn_ (sr_ (mv_ rfl ?_))))
 refine wl_callgo (γ := Option Addr × Nat) (val := (fun g => .slice g.1 n g.2)) (φ := (fun g => True)) (fun g => ⟨.slice g.1 n g.2, 181, 6, n, l.flatMap bkEnc⟩) rfl cb132 rfl rfl (fun wx hm => (cloneBks_any l A n c wx (hm.fact 2 rfl).1 (by omega)).mono fun _ _ ⟨A, c, he, ho, hg⟩ => ⟨(A, c), he, trivial, ho, hg⟩) ?_
 rintro ⟨A2, c2⟩ hphi
 dsimp only at hphi ⊢
 refine sg_ rfl (nn_ ?_)
 refine gw_cut (γ := Option Addr) (I := (fun (A3 : Option Addr) => True)) (S' := (fun (A3 : Option Addr) => [(0, .slice A0 n0 c0), (1, .slice A1 n1 c1), (6, .slice none 0 0), (7, .slice none 0 0), (8, .slice A3 n c2)])) (K' := (fun (A3 : Option Addr) => fun _ => True)) (L' := (fun (A3 : Option Addr) => [])) (O' := (fun (A3 : Option Addr) => [⟨.slice A3 n c2, 181, 6, n, S.flatMap bkEnc⟩])) (X' := (fun (A3 : Option Addr) => [SlOld csEnc 2 145 w.heap.size none A0 n0 cs, SlOld skEnc 2 237 w.heap.size none A1 n1 sl, SlOld bkEnc 6 181 w.heap.size none A n l])) ?_ ?_
 ·refine gw_region (mv_ rfl ?_)
  by_cases h0 : n = 0
  ·refine wl_callv (v := .tuple #[]) rfl cb133 rfl rfl (fun wx hm => (by subst h0; exact stable0_gr A2 c2 wx)) ?_
   have hl0 : l = [] := List.length_eq_zero_iff.1 (by omega)
   rw [show l.flatMap bkEnc = S.flatMap bkEnc from by rw [hS, hl0]; rfl]
   refine wl_nil ?_
   exact nx_meet A2 trivial ⟨rfl, rfl, rfl, rfl, rfl, trivial⟩ (fun _ hm => hm.pick [] [0] [0, 1, 2] rfl rfl)
  refine wl_look (R := ∃ g, A2 = some ⟨g, 0, none⟩) (fun wx hm => own_addr (hm.ownI 0 rfl) (by omega)) ?_
  rintro ⟨g5, rfl⟩
  refine wl_callr (v := .tuple #[]) (xs' := S.flatMap bkEnc) 0 rfl rfl rfl cb133 rfl rfl (fun wx hm => (by have h := stable_gr l g5 n c2 _ wx (hm.ownI 0 rfl) hlen (by omega) (frB_of hf); rw [← hS] at h; exact h)) ?_
  refine wl_nil ?_
  exact nx_meet (some ⟨g5, 0, none⟩) trivial ⟨rfl, rfl, rfl, rfl, rfl, trivial⟩ (fun _ hm => hm.pick [] [0] [0, 1, 2] rfl rfl)
 intro A3 hinv
 replace hinv : True := hinv
 refine sr_ ?_
 refine wl_nilOwn 9 1 ?_
 refine wl_nilOwn 91 3 ?_
 refine wl_nilOwn 181 6 ?_
 refine sg_ rfl (nn_ (sr_ (sg_ rfl (nn_ (sr_ (sg_ rfl (nn_ (gw_seq ?_))))))))
 refine sr_ (mv_ rfl (wl_ov (ov_len es78 rfl) rfl (mv_ rfl (nn_ (gw_block ?_)))))
 refine gw_loop (γ := Nat × Nat × Nat × Value × Value × Value) (fun g => g.1 ≤ n ∧ (hadOf (gAll CD (S.take g.1))).length = g.2.1 ∧ (givOf (gAll CD (S.take g.1))).length = g.2.1 ∧ (leftOf (gAll CD (S.take g.1))).length = g.2.2.1 ∧ g.2.1 ≤ g.1 ∧ g.2.2.1 ≤ g.1) (fun g => [(0, .slice A0 n0 c0), (1, .slice A1 n1 c1), (6, .slice none 0 0), (7, .slice none 0 0), (9, g.2.2.2.1), (10, g.2.2.2.2.1), (11, g.2.2.2.2.2), (19, .slice A3 n c2), (20, .int .i64 ((n : Nat) : Int)), (21, .int .i64 ((g.1 : Nat) : Int))]) (fun g => fun _ => True) (fun g => []) (fun g => [⟨g.2.2.2.1, 181, 6, g.2.1, (hadOf (gAll CD (S.take g.1))).flatMap bkEnc⟩, ⟨g.2.2.2.2.1, 91, 3, g.2.1, (givOf (gAll CD (S.take g.1))).flatMap gvEnc⟩, ⟨g.2.2.2.2.2, 9, 1, g.2.2.1, (leftOf (gAll CD (S.take g.1))).flatMap sgEnc⟩, ⟨.slice A3 n c2, 181, 6, n, S.flatMap bkEnc⟩]) (fun g => [SlOld csEnc 2 145 w.heap.size none A0 n0 cs, SlOld skEnc 2 237 w.heap.size none A1 n1 sl, SlOld bkEnc 6 181 w.heap.size none A n l]) (fun g => n - g.1) (0, 0, 0, .slice none 0 0, .slice none 0 0, .slice none 0 0) ⟨Nat.zero_le _, rfl, rfl, rfl, Nat.zero_le _, Nat.zero_le _⟩ ⟨rfl, rfl, rfl, rfl, rfl, rfl, rfl, rfl, rfl, rfl, trivial⟩ (fun _ hm => hm.pick [] [0, 1, 2, 3] [0, 1, 2] rfl rfl) ?_
 rintro ⟨i, k, q, v1, v2, v3⟩ hinv
 replace hinv : i ≤ n ∧ (hadOf (gAll CD (S.take i))).length = k ∧ (givOf (gAll CD (S.take i))).length = k ∧ (leftOf (gAll CD (S.take i))).length = q ∧ k ≤ i ∧ q ≤ i := hinv
 dsimp only
 refine sr_ ?_
 obtain ⟨hi0, hhl, hgl, hll, hki, hqi⟩ := hinv
 refine wl_ov (ov_lss rfl rfl) rfl (nn_ (gw_seq ?_))
 refine gw_cond rfl (fun hh => ?_) (fun hh => ?_)
 ·have hi : ((i : Nat) : Int) < ((n : Nat) : Int) := by simpa using hh
  clear hh
  refine gw_skip (nx_then (gw_seq (gw_block (sr_ ?_))))
  refine wl_look (R := ∃ A cc, v1 = .slice A k cc) (fun wx hm => own_slice (hm.ownI 0 rfl)) ?_
  rintro ⟨H, hc, rfl⟩
  refine wl_look (R := ∃ A cc, v2 = .slice A k cc) (fun wx hm => own_slice (hm.ownI 1 rfl)) ?_
  rintro ⟨G, gc, rfl⟩
  refine wl_look (R := ∃ g, A3 = some ⟨g, 0, none⟩) (fun wx hm => own_addr (hm.ownI 3 rfl) (by omega)) ?_
  rintro ⟨g6, rfl⟩
  obtain ⟨x, hx⟩ : ∃ x, S[i]? = some x := ⟨_, List.getElem?_eq_getElem (by omega)⟩
  obtain ⟨x0, x1, x2, x3, x4, x5⟩ := x
  have hxl := hSm _ (List.mem_of_getElem? hx)
  have htx := htl _ hxl
  dsimp only at htx
  have hat := gAll_at (cd := CD) hx
  have hhad : ∀ b ∈ hadOf (gAll CD (S.take i)), b.fr < b.to_ := fun b hb => (htl _ (hSm _ (List.mem_of_mem_take (had_mem hb)))).2.1
  refine wl_ov (ov_index (j := i) es78 rfl rfl (by omega)) rfl ?_
  refine wl_ov (ov_elem (vs := [.string x0, .string x1, .int .i64 x2, .int .i64 x3, .int .i64 x4, .int .i64 x5]) rz181 rfl (fun _ hm => (SlT.ofOwn bk_len (hm.ownI 3 rfl) hSl)) hx rfl rfl) rfl ?_
  refine wl_alloc zc181 rfl fun g1 => ?_
  refine wl_stores (cs' := [.string x0, .string x1, .int .i64 x2, .int .i64 x3, .int .i64 x4, .int .i64 x5]) 0 rz181 rfl rfl rfl rfl rfl rfl rfl rfl ?_
  refine nn_ (sr_ (mv_ rfl (mv_ rfl (mv_ rfl (mv_ rfl ?_)))))
  refine wl_ov (ov_loads rz181 rfl (fun _ hm => hm.blkI 0 rfl) rfl rfl) rfl ?_
  refine wl_callgo (γ := Option Addr × Nat × Nat) (val := (fun g => .slice g.1 g.2.1 g.2.2)) (φ := (fun g => (chR CD (hadOf (gAll CD (S.take i))) (givOf (gAll CD (S.take i))) (⟨x0, x1, x2, x3, x4, x5⟩ : Bk)).length = g.2.1 ∧ g.2.1 ≤ 3100)) (fun g => ⟨.slice g.1 g.2.1 g.2.2, 91, 3, g.2.1, (chR CD (hadOf (gAll CD (S.take i))) (givOf (gAll CD (S.take i))) (⟨x0, x1, x2, x3, x4, x5⟩ : Bk)).flatMap gvEnc⟩) rfl cb136 rfl rfl (fun wx hm => (by have h := choices_any cs A0 n0 c0 sl A1 n1 c1 (hadOf (gAll CD (S.take i))) (givOf (gAll CD (S.take i))) H G k hc gc x0 x1 x2 x3 x4 x5 wx (hm.fact 0 rfl).1 hco hn0 hcl hlo (hm.fact 1 rfl).1 hso hn1 hmany (SlT.ofOwn bk_len (hm.ownI 0 rfl) hhl) (SlT.ofOwn gv_len (hm.ownI 1 rfl) hgl) (by omega) hhad (by omega); rw [← chR_chF, ← hCD] at h; exact h.mono fun _ _ ⟨A8, k2, c8, he, ho, hln, hk3, hg⟩ => ⟨(A8, k2, c8), he, ⟨hln, hk3⟩, ho, hg⟩)) ?_
  rintro ⟨A5, n5, c5⟩ hch
  dsimp only at hch ⊢
  obtain ⟨hcn, hc3⟩ := hch
  refine sg_ rfl (nn_ (sr_ (mv_ rfl (wl_ov (ov_len es82 rfl) rfl ?_))))
  refine wl_ov (ov_gtr rfl rfl) rfl ?_
  refine nn_ ?_
  refine gw_cond rfl (fun hh => ?_) (fun hh => ?_)
  ·have hn5 : 0 < ((n5 : Nat) : Int) := by simpa using hh
   clear hh
   refine gw_look (R := ∃ g, A5 = some ⟨g, 0, none⟩) (fun wx hm => own_addr (hm.ownI 0 rfl) (by omega)) ?_
   rintro ⟨g7, rfl⟩
   obtain ⟨gg, rr, hgr⟩ : ∃ g r, chR CD (hadOf (gAll CD (S.take i))) (givOf (gAll CD (S.take i))) (⟨x0, x1, x2, x3, x4, x5⟩ : Bk) = g :: r := List.exists_cons_of_length_pos (by omega)
   obtain ⟨cc, hp, hge⟩ := pick_some hgr
   obtain ⟨hs1, hs2, hs3⟩ := step_some hp
   rw [← hat] at hs1 hs2 hs3
   have hx5 : (chR CD (hadOf (gAll CD (S.take i))) (givOf (gAll CD (S.take i))) (⟨x0, x1, x2, x3, x4, x5⟩ : Bk))[0]? = some (⟨x0, cc.1, cc.2⟩ : Gv) := by rw [hgr, hge]; rfl
   rw [hge] at hgr
   obtain ⟨z1, z2⟩ := cc
   dsimp only at hs1 hs2 hs3 hx5
   refine gd (fun wz => Blk wz g1 181 [.string x0, .string x1, .int .i64 x2, .int .i64 x3, .int .i64 x4, .int .i64 x5] ∧ (SlOld csEnc 2 145 w.heap.size none A0 n0 cs) wz ∧ (SlOld skEnc 2 237 w.heap.size none A1 n1 sl) wz ∧ (SlOld bkEnc 6 181 w.heap.size none A n l) wz ∧ True) mixed (fun _ hm => ⟨hm.bl 0, hm.fa 0, hm.fa 1, hm.fa 2, trivial⟩) fun z => ?_
   refine wt 0 12 1 rfl z (ov_move rfl) ?_
   refine wt 1 12 3 rfl z (ov_loads rz181 rfl (fun _ hm => hm.1) rfl rfl) ?_
   refine wt 4 12 19 rfl z (ov_move rfl) ?_
   refine wt 5 12 51 rfl z (ov_move rfl) ?_
   refine wt 6 12 115 rfl z (ov_index (j := 0) es82 rfl rfl (by omega)) ?_
   refine wa_all [2, 7] (by kernel_rfl) rfl ⟨⟨_, rfl, ?_⟩, ⟨_, rfl, ?_⟩, trivial⟩
   ·refine wl_buildSlice (e := 181) (cs := [.string x0, .string x1, .int .i64 x2, .int .i64 x3, .int .i64 x4, .int .i64 x5]) rfl (by kernel_rfl) rfl fun g2 => ?_
    refine wl_nil ?_
    refine nw 12 119 (fun _ hm => ⟨hm.bl 1, hm.fa 0, hm.fa 1, hm.fa 2, trivial⟩) fun z => ?_
    refine wa_all [3, 7] (by kernel_rfl) rfl ⟨⟨_, rfl, ?_⟩, ⟨_, rfl, ?_⟩, trivial⟩
    ·refine wl_append (news := [.string x0, .string x1, .int .i64 x2, .int .i64 x3, .int .i64 x4, .int .i64 x5]) 1 0 ap78 rfl rfl rfl rfl rfl rfl rfl (by omega) (by unfold maxLen; omega) rfl rfl fun u1 hu1 => ?_
     rw [show (hadOf (gAll CD (S.take i))).flatMap bkEnc ++ ([.string x0, .string x1, .int .i64 x2, .int .i64 x3, .int .i64 x4, .int .i64 x5] : List Value) = (hadOf (gAll CD (S.take (i + 1)))).flatMap bkEnc from by rw [hs1]; simp [bkEnc]]
     refine wl_nil ?_
     refine nw 12 127 (fun _ hm => ⟨hm.bl 1, hm.fa 0, hm.fa 1, hm.fa 2, trivial⟩) fun z => ?_
     refine wa1 7 rfl ?_
     refine wl_ov (ov_elem (vs := [.string x0, .string z1, .int .i64 z2]) rz91 rfl (fun _ hm => (SlT.ofOwn gv_len (hm.ownI 0 rfl) hcn)) hx5 rfl rfl) rfl ?_
     refine wl_nil ?_
     refine nw 12 255 (fun _ hm => ⟨hm.bl 1, hm.fa 0, hm.fa 1, hm.fa 2, trivial⟩) fun z => ?_
     refine wa1 8 rfl ?_
     refine wl_buildSlice (e := 91) (cs := [.string x0, .string z1, .int .i64 z2]) rfl (by kernel_rfl) rfl fun g3 => ?_
     refine wl_nil ?_
     refine nw 12 511 (fun _ hm => ⟨hm.bl 2, hm.fa 0, hm.fa 1, hm.fa 2, trivial⟩) fun z => ?_
     refine wa1 9 rfl ?_
     refine wl_append (news := [.string x0, .string z1, .int .i64 z2]) 2 0 ap82 rfl rfl rfl rfl rfl rfl rfl (by omega) (by unfold maxLen; omega) rfl rfl fun u2 hu2 => ?_
     rw [show (givOf (gAll CD (S.take i))).flatMap gvEnc ++ ([.string x0, .string z1, .int .i64 z2] : List Value) = (givOf (gAll CD (S.take (i + 1)))).flatMap gvEnc from by rw [hs2]; simp [gvEnc]]
     refine wl_nil ?_
     refine nw 12 1023 (fun _ hm => ⟨hm.bl 2, hm.fa 0, hm.fa 1, hm.fa 2, trivial⟩) fun z => ?_
     refine wt 10 12 2047 rfl z (ov_assign rfl) ?_
     refine wt 11 12 4095 rfl z (ov_assign rfl) ?_
     refine wa_done (by kernel_rfl) ?_
     refine nx_blk_nrm (nx_then (gw_region (ad_ rfl rfl (mv_ rfl (wl_nil ?_)))))
     rw [show (leftOf (gAll CD (S.take i))).flatMap sgEnc = (leftOf (gAll CD (S.take (i + 1)))).flatMap sgEnc from by rw [hs3]]
     exact nx_round (i + 1, k + 1, q, u1, u2, v3) ⟨by dsimp only; omega, by dsimp only; rw [hs1]; simp [hhl], by dsimp only; rw [hs2]; simp [hgl], by dsimp only; rw [hs3]; exact hll, by dsimp only; omega, by dsimp only; omega⟩ (by dsimp only; omega) ⟨rfl, rfl, rfl, rfl, rfl, rfl, rfl, rfl, rfl, (some_int (by omega)), trivial⟩ (fun _ hm => hm.pick [] [1, 2, 3, 4] [0, 1, 2] rfl rfl)
    refine wl_ov (ov_elem (vs := [.string x0, .string z1, .int .i64 z2]) rz91 rfl (fun _ hm => (SlT.ofOwn gv_len (hm.ownI 0 rfl) hcn)) hx5 rfl rfl) rfl ?_
    refine wl_nil ?_
    refine nw 12 247 (fun _ hm => ⟨hm.bl 1, hm.fa 0, hm.fa 1, hm.fa 2, trivial⟩) fun z => ?_
    refine wa_all [3, 8] (by kernel_rfl) rfl ⟨⟨_, rfl, ?_⟩, ⟨_, rfl, ?_⟩, trivial⟩
    ·refine wl_append (news := [.string x0, .string x1, .int .i64 x2, .int .i64 x3, .int .i64 x4, .int .i64 x5]) 1 0 ap78 rfl rfl rfl rfl rfl rfl rfl (by omega) (by unfold maxLen; omega) rfl rfl fun u1 hu1 => ?_
     rw [show (hadOf (gAll CD (S.take i))).flatMap bkEnc ++ ([.string x0, .string x1, .int .i64 x2, .int .i64 x3, .int .i64 x4, .int .i64 x5] : List Value) = (hadOf (gAll CD (S.take (i + 1)))).flatMap bkEnc from by rw [hs1]; simp [bkEnc]]
     refine wl_nil ?_
     refine nw 12 255 (fun _ hm => ⟨hm.bl 1, hm.fa 0, hm.fa 1, hm.fa 2, trivial⟩) fun z => ?_
     refine wa1 8 rfl ?_
     refine wl_buildSlice (e := 91) (cs := [.string x0, .string z1, .int .i64 z2]) rfl (by kernel_rfl) rfl fun g4 => ?_
     refine wl_nil ?_
     refine nw 12 511 (fun _ hm => ⟨hm.bl 2, hm.fa 0, hm.fa 1, hm.fa 2, trivial⟩) fun z => ?_
     refine wa1 9 rfl ?_
     refine wl_append (news := [.string x0, .string z1, .int .i64 z2]) 2 0 ap82 rfl rfl rfl rfl rfl rfl rfl (by omega) (by unfold maxLen; omega) rfl rfl fun u2 hu2 => ?_
     rw [show (givOf (gAll CD (S.take i))).flatMap gvEnc ++ ([.string x0, .string z1, .int .i64 z2] : List Value) = (givOf (gAll CD (S.take (i + 1)))).flatMap gvEnc from by rw [hs2]; simp [gvEnc]]
     refine wl_nil ?_
     refine nw 12 1023 (fun _ hm => ⟨hm.bl 2, hm.fa 0, hm.fa 1, hm.fa 2, trivial⟩) fun z => ?_
     refine wt 10 12 2047 rfl z (ov_assign rfl) ?_
     refine wt 11 12 4095 rfl z (ov_assign rfl) ?_
     refine wa_done (by kernel_rfl) ?_
     refine nx_blk_nrm (nx_then (gw_region (ad_ rfl rfl (mv_ rfl (wl_nil ?_)))))
     rw [show (leftOf (gAll CD (S.take i))).flatMap sgEnc = (leftOf (gAll CD (S.take (i + 1)))).flatMap sgEnc from by rw [hs3]]
     exact nx_round (i + 1, k + 1, q, u1, u2, v3) ⟨by dsimp only; omega, by dsimp only; rw [hs1]; simp [hhl], by dsimp only; rw [hs2]; simp [hgl], by dsimp only; rw [hs3]; exact hll, by dsimp only; omega, by dsimp only; omega⟩ (by dsimp only; omega) ⟨rfl, rfl, rfl, rfl, rfl, rfl, rfl, rfl, rfl, (some_int (by omega)), trivial⟩ (fun _ hm => hm.pick [] [1, 2, 3, 4] [0, 1, 2] rfl rfl)
    refine wl_buildSlice (e := 91) (cs := [.string x0, .string z1, .int .i64 z2]) rfl (by kernel_rfl) rfl fun g5 => ?_
    refine wl_nil ?_
    refine nw 12 503 (fun _ hm => ⟨hm.bl 2, hm.fa 0, hm.fa 1, hm.fa 2, trivial⟩) fun z => ?_
    refine wa1 3 rfl ?_
    refine wl_append (news := [.string x0, .string x1, .int .i64 x2, .int .i64 x3, .int .i64 x4, .int .i64 x5]) 1 1 ap78 rfl rfl rfl rfl rfl rfl rfl (by omega) (by unfold maxLen; omega) rfl rfl fun u1 hu1 => ?_
    rw [show (hadOf (gAll CD (S.take i))).flatMap bkEnc ++ ([.string x0, .string x1, .int .i64 x2, .int .i64 x3, .int .i64 x4, .int .i64 x5] : List Value) = (hadOf (gAll CD (S.take (i + 1)))).flatMap bkEnc from by rw [hs1]; simp [bkEnc]]
    refine wl_nil ?_
    refine nw 12 511 (fun _ hm => ⟨hm.bl 2, hm.fa 0, hm.fa 1, hm.fa 2, trivial⟩) fun z => ?_
    refine wa1 9 rfl ?_
    refine wl_append (news := [.string x0, .string z1, .int .i64 z2]) 2 0 ap82 rfl rfl rfl rfl rfl rfl rfl (by omega) (by unfold maxLen; omega) rfl rfl fun u2 hu2 => ?_
    rw [show (givOf (gAll CD (S.take i))).flatMap gvEnc ++ ([.string x0, .string z1, .int .i64 z2] : List Value) = (givOf (gAll CD (S.take (i + 1)))).flatMap gvEnc from by rw [hs2]; simp [gvEnc]]
    refine wl_nil ?_
    refine nw 12 1023 (fun _ hm => ⟨hm.bl 2, hm.fa 0, hm.fa 1, hm.fa 2, trivial⟩) fun z => ?_
    refine wt 10 12 2047 rfl z (ov_assign rfl) ?_
    refine wt 11 12 4095 rfl z (ov_assign rfl) ?_
    refine wa_done (by kernel_rfl) ?_
    refine nx_blk_nrm (nx_then (gw_region (ad_ rfl rfl (mv_ rfl (wl_nil ?_)))))
    rw [show (leftOf (gAll CD (S.take i))).flatMap sgEnc = (leftOf (gAll CD (S.take (i + 1)))).flatMap sgEnc from by rw [hs3]]
    exact nx_round (i + 1, k + 1, q, u1, u2, v3) ⟨by dsimp only; omega, by dsimp only; rw [hs1]; simp [hhl], by dsimp only; rw [hs2]; simp [hgl], by dsimp only; rw [hs3]; exact hll, by dsimp only; omega, by dsimp only; omega⟩ (by dsimp only; omega) ⟨rfl, rfl, rfl, rfl, rfl, rfl, rfl, rfl, rfl, (some_int (by omega)), trivial⟩ (fun _ hm => hm.pick [] [1, 2, 3, 4] [0, 1, 2] rfl rfl)
   refine wl_ov (ov_elem (vs := [.string x0, .string z1, .int .i64 z2]) rz91 rfl (fun _ hm => (SlT.ofOwn gv_len (hm.ownI 0 rfl) hcn)) hx5 rfl rfl) rfl ?_
   refine wl_nil ?_
   refine nw 12 243 (fun _ hm => ⟨hm.bl 0, hm.fa 0, hm.fa 1, hm.fa 2, trivial⟩) fun z => ?_
   refine wa_all [2, 8] (by kernel_rfl) rfl ⟨⟨_, rfl, ?_⟩, ⟨_, rfl, ?_⟩, trivial⟩
   ·refine wl_buildSlice (e := 181) (cs := [.string x0, .string x1, .int .i64 x2, .int .i64 x3, .int .i64 x4, .int .i64 x5]) rfl (by kernel_rfl) rfl fun g6 => ?_
    refine wl_nil ?_
    refine nw 12 247 (fun _ hm => ⟨hm.bl 1, hm.fa 0, hm.fa 1, hm.fa 2, trivial⟩) fun z => ?_
    refine wa_all [3, 8] (by kernel_rfl) rfl ⟨⟨_, rfl, ?_⟩, ⟨_, rfl, ?_⟩, trivial⟩
    ·refine wl_append (news := [.string x0, .string x1, .int .i64 x2, .int .i64 x3, .int .i64 x4, .int .i64 x5]) 1 0 ap78 rfl rfl rfl rfl rfl rfl rfl (by omega) (by unfold maxLen; omega) rfl rfl fun u1 hu1 => ?_
     rw [show (hadOf (gAll CD (S.take i))).flatMap bkEnc ++ ([.string x0, .string x1, .int .i64 x2, .int .i64 x3, .int .i64 x4, .int .i64 x5] : List Value) = (hadOf (gAll CD (S.take (i + 1)))).flatMap bkEnc from by rw [hs1]; simp [bkEnc]]
     refine wl_nil ?_
     refine nw 12 255 (fun _ hm => ⟨hm.bl 1, hm.fa 0, hm.fa 1, hm.fa 2, trivial⟩) fun z => ?_
     refine wa1 8 rfl ?_
     refine wl_buildSlice (e := 91) (cs := [.string x0, .string z1, .int .i64 z2]) rfl (by kernel_rfl) rfl fun g7 => ?_
     refine wl_nil ?_
     refine nw 12 511 (fun _ hm => ⟨hm.bl 2, hm.fa 0, hm.fa 1, hm.fa 2, trivial⟩) fun z => ?_
     refine wa1 9 rfl ?_
     refine wl_append (news := [.string x0, .string z1, .int .i64 z2]) 2 0 ap82 rfl rfl rfl rfl rfl rfl rfl (by omega) (by unfold maxLen; omega) rfl rfl fun u2 hu2 => ?_
     rw [show (givOf (gAll CD (S.take i))).flatMap gvEnc ++ ([.string x0, .string z1, .int .i64 z2] : List Value) = (givOf (gAll CD (S.take (i + 1)))).flatMap gvEnc from by rw [hs2]; simp [gvEnc]]
     refine wl_nil ?_
     refine nw 12 1023 (fun _ hm => ⟨hm.bl 2, hm.fa 0, hm.fa 1, hm.fa 2, trivial⟩) fun z => ?_
     refine wt 10 12 2047 rfl z (ov_assign rfl) ?_
     refine wt 11 12 4095 rfl z (ov_assign rfl) ?_
     refine wa_done (by kernel_rfl) ?_
     refine nx_blk_nrm (nx_then (gw_region (ad_ rfl rfl (mv_ rfl (wl_nil ?_)))))
     rw [show (leftOf (gAll CD (S.take i))).flatMap sgEnc = (leftOf (gAll CD (S.take (i + 1)))).flatMap sgEnc from by rw [hs3]]
     exact nx_round (i + 1, k + 1, q, u1, u2, v3) ⟨by dsimp only; omega, by dsimp only; rw [hs1]; simp [hhl], by dsimp only; rw [hs2]; simp [hgl], by dsimp only; rw [hs3]; exact hll, by dsimp only; omega, by dsimp only; omega⟩ (by dsimp only; omega) ⟨rfl, rfl, rfl, rfl, rfl, rfl, rfl, rfl, rfl, (some_int (by omega)), trivial⟩ (fun _ hm => hm.pick [] [1, 2, 3, 4] [0, 1, 2] rfl rfl)
    refine wl_buildSlice (e := 91) (cs := [.string x0, .string z1, .int .i64 z2]) rfl (by kernel_rfl) rfl fun g8 => ?_
    refine wl_nil ?_
    refine nw 12 503 (fun _ hm => ⟨hm.bl 2, hm.fa 0, hm.fa 1, hm.fa 2, trivial⟩) fun z => ?_
    refine wa1 3 rfl ?_
    refine wl_append (news := [.string x0, .string x1, .int .i64 x2, .int .i64 x3, .int .i64 x4, .int .i64 x5]) 1 1 ap78 rfl rfl rfl rfl rfl rfl rfl (by omega) (by unfold maxLen; omega) rfl rfl fun u1 hu1 => ?_
    rw [show (hadOf (gAll CD (S.take i))).flatMap bkEnc ++ ([.string x0, .string x1, .int .i64 x2, .int .i64 x3, .int .i64 x4, .int .i64 x5] : List Value) = (hadOf (gAll CD (S.take (i + 1)))).flatMap bkEnc from by rw [hs1]; simp [bkEnc]]
    refine wl_nil ?_
    refine nw 12 511 (fun _ hm => ⟨hm.bl 2, hm.fa 0, hm.fa 1, hm.fa 2, trivial⟩) fun z => ?_
    refine wa1 9 rfl ?_
    refine wl_append (news := [.string x0, .string z1, .int .i64 z2]) 2 0 ap82 rfl rfl rfl rfl rfl rfl rfl (by omega) (by unfold maxLen; omega) rfl rfl fun u2 hu2 => ?_
    rw [show (givOf (gAll CD (S.take i))).flatMap gvEnc ++ ([.string x0, .string z1, .int .i64 z2] : List Value) = (givOf (gAll CD (S.take (i + 1)))).flatMap gvEnc from by rw [hs2]; simp [gvEnc]]
    refine wl_nil ?_
    refine nw 12 1023 (fun _ hm => ⟨hm.bl 2, hm.fa 0, hm.fa 1, hm.fa 2, trivial⟩) fun z => ?_
    refine wt 10 12 2047 rfl z (ov_assign rfl) ?_
    refine wt 11 12 4095 rfl z (ov_assign rfl) ?_
    refine wa_done (by kernel_rfl) ?_
    refine nx_blk_nrm (nx_then (gw_region (ad_ rfl rfl (mv_ rfl (wl_nil ?_)))))
    rw [show (leftOf (gAll CD (S.take i))).flatMap sgEnc = (leftOf (gAll CD (S.take (i + 1)))).flatMap sgEnc from by rw [hs3]]
    exact nx_round (i + 1, k + 1, q, u1, u2, v3) ⟨by dsimp only; omega, by dsimp only; rw [hs1]; simp [hhl], by dsimp only; rw [hs2]; simp [hgl], by dsimp only; rw [hs3]; exact hll, by dsimp only; omega, by dsimp only; omega⟩ (by dsimp only; omega) ⟨rfl, rfl, rfl, rfl, rfl, rfl, rfl, rfl, rfl, (some_int (by omega)), trivial⟩ (fun _ hm => hm.pick [] [1, 2, 3, 4] [0, 1, 2] rfl rfl)
   refine wl_buildSlice (e := 91) (cs := [.string x0, .string z1, .int .i64 z2]) rfl (by kernel_rfl) rfl fun g9 => ?_
   refine wl_nil ?_
   refine nw 12 499 (fun _ hm => ⟨hm.bl 1, hm.fa 0, hm.fa 1, hm.fa 2, trivial⟩) fun z => ?_
   refine wa1 2 rfl ?_
   refine wl_buildSlice (e := 181) (cs := [.string x0, .string x1, .int .i64 x2, .int .i64 x3, .int .i64 x4, .int .i64 x5]) rfl (by kernel_rfl) rfl fun g10 => ?_
   refine wl_nil ?_
   refine nw 12 503 (fun _ hm => ⟨hm.bl 2, hm.fa 0, hm.fa 1, hm.fa 2, trivial⟩) fun z => ?_
   refine wa1 3 rfl ?_
   refine wl_append (news := [.string x0, .string x1, .int .i64 x2, .int .i64 x3, .int .i64 x4, .int .i64 x5]) 1 0 ap78 rfl rfl rfl rfl rfl rfl rfl (by omega) (by unfold maxLen; omega) rfl rfl fun u1 hu1 => ?_
   rw [show (hadOf (gAll CD (S.take i))).flatMap bkEnc ++ ([.string x0, .string x1, .int .i64 x2, .int .i64 x3, .int .i64 x4, .int .i64 x5] : List Value) = (hadOf (gAll CD (S.take (i + 1)))).flatMap bkEnc from by rw [hs1]; simp [bkEnc]]
   refine wl_nil ?_
   refine nw 12 511 (fun _ hm => ⟨hm.bl 2, hm.fa 0, hm.fa 1, hm.fa 2, trivial⟩) fun z => ?_
   refine wa1 9 rfl ?_
   refine wl_append (news := [.string x0, .string z1, .int .i64 z2]) 2 1 ap82 rfl rfl rfl rfl rfl rfl rfl (by omega) (by unfold maxLen; omega) rfl rfl fun u2 hu2 => ?_
   rw [show (givOf (gAll CD (S.take i))).flatMap gvEnc ++ ([.string x0, .string z1, .int .i64 z2] : List Value) = (givOf (gAll CD (S.take (i + 1)))).flatMap gvEnc from by rw [hs2]; simp [gvEnc]]
   refine wl_nil ?_
   refine nw 12 1023 (fun _ hm => ⟨hm.bl 2, hm.fa 0, hm.fa 1, hm.fa 2, trivial⟩) fun z => ?_
   refine wt 10 12 2047 rfl z (ov_assign rfl) ?_
   refine wt 11 12 4095 rfl z (ov_assign rfl) ?_
   refine wa_done (by kernel_rfl) ?_
   refine nx_blk_nrm (nx_then (gw_region (ad_ rfl rfl (mv_ rfl (wl_nil ?_)))))
   rw [show (leftOf (gAll CD (S.take i))).flatMap sgEnc = (leftOf (gAll CD (S.take (i + 1)))).flatMap sgEnc from by rw [hs3]]
   exact nx_round (i + 1, k + 1, q, u1, u2, v3) ⟨by dsimp only; omega, by dsimp only; rw [hs1]; simp [hhl], by dsimp only; rw [hs2]; simp [hgl], by dsimp only; rw [hs3]; exact hll, by dsimp only; omega, by dsimp only; omega⟩ (by dsimp only; omega) ⟨rfl, rfl, rfl, rfl, rfl, rfl, rfl, rfl, rfl, (some_int (by omega)), trivial⟩ (fun _ hm => hm.pick [] [1, 2, 3, 4] [0, 1, 2] rfl rfl)
  have hn5 : ¬ (0 < ((n5 : Nat) : Int)) := by simpa using hh
  clear hh
  refine gw_region ?_
  have hn50 : chR CD (hadOf (gAll CD (S.take i))) (givOf (gAll CD (S.take i))) (⟨x0, x1, x2, x3, x4, x5⟩ : Bk) = [] := List.length_eq_zero_iff.1 (by omega)
  obtain ⟨hs1, hs2, hs3⟩ := step_none (pick_none hn50)
  rw [← hat] at hs1 hs2 hs3
  dsimp only at hs3
  refine mv_ rfl (fd_ fo181_0 rfl rfl (lk_ sc9 0 rfl rfl rfl ?_))
  refine wl_buildSlice (e := 9) (cs := [.string x0]) rfl (by kernel_rfl) rfl fun g11 => ?_
  refine wl_append (news := [.string x0]) 3 0 ap83 rfl rfl rfl rfl rfl rfl rfl (by omega) (by unfold maxLen; omega) rfl rfl fun u3 hu3 => ?_
  rw [show (leftOf (gAll CD (S.take i))).flatMap sgEnc ++ ([.string x0] : List Value) = (leftOf (gAll CD (S.take (i + 1)))).flatMap sgEnc from by rw [hs3]; simp [sgEnc]]
  rw [show (hadOf (gAll CD (S.take i))).flatMap bkEnc = (hadOf (gAll CD (S.take (i + 1)))).flatMap bkEnc from by rw [hs1], show (givOf (gAll CD (S.take i))).flatMap gvEnc = (givOf (gAll CD (S.take (i + 1)))).flatMap gvEnc from by rw [hs2]]
  refine sg_ rfl (wl_nil (nx_blk_nrm (nx_then (gw_region (ad_ rfl rfl (mv_ rfl (wl_nil ?_)))))))
  exact nx_round (i + 1, k, q + 1, .slice H k hc, .slice G k gc, u3) ⟨by dsimp only; omega, by dsimp only; rw [hs1]; exact hhl, by dsimp only; rw [hs2]; exact hgl, by dsimp only; rw [hs3]; simp [hll], by dsimp only; omega, by dsimp only; omega⟩ (by dsimp only; omega) ⟨rfl, rfl, rfl, rfl, rfl, rfl, rfl, rfl, rfl, (some_int (by omega)), trivial⟩ (fun _ hm => hm.pick [] [1, 2, 3, 4] [0, 1, 2] rfl rfl)
 have hi : ¬ (((i : Nat) : Int) < ((n : Nat) : Int)) := by simpa using hh
 clear hh
 refine gw_exit ?_
 refine nx_then_exit (nx_then_exit ?_)
 refine nx_blk_here ?_
 refine nx_then (sr_ ?_)
 have hall : S.take i = S := List.take_of_length_le (by omega)
 rw [hall] at hhl hgl hll ⊢
 refine wl_look (R := ∃ A cc, v2 = .slice A k cc) (fun wx hm => own_slice (hm.ownI 1 rfl)) ?_
 rintro ⟨G, gc, rfl⟩
 refine wl_look (R := ∃ A cc, v3 = .slice A q cc) (fun wx hm => own_slice (hm.ownI 2 rfl)) ?_
 rintro ⟨Lf, lc, rfl⟩
 refine mv_ rfl ?_
 by_cases h0giv : k = 0
 ·refine wl_callv (v := .tuple #[]) rfl cb137 rfl rfl (fun wx hm => (by subst h0giv; exact sort0_gv G gc wx)) ?_
  rw [show (givOf (gAll CD S)).flatMap gvEnc = (isort gvLt (givOf (gAll CD S))).flatMap gvEnc from by rw [List.length_eq_zero_iff.1 (hgl.trans h0giv)]; rfl]
  refine nn_ (sr_ (mv_ rfl ?_))
  by_cases h0left : q = 0
  ·refine wl_callv (v := .tuple #[]) rfl cb140 rfl rfl (fun wx hm => (by subst h0left; exact sort0_so Lf lc wx)) ?_
   rw [show (leftOf (gAll CD S)).flatMap sgEnc = (isort bsLt (leftOf (gAll CD S))).flatMap sgEnc from by rw [List.length_eq_zero_iff.1 (hll.trans h0left)]; rfl]
   refine nn_ (sr_ (mv_ rfl (mv_ rfl (sg_ rfl (sg_ rfl (nn_ ?_))))))
   refine gw_ret ?_
   refine nx_ret2 rfl rfl rfl fun wx hm => ?_
   exact ⟨_, k, _, _, q, _, rfl, SlT.ofOwn gv_len (hm.ownI 1 rfl) (by rw [isort_len]; exact hgl), SlT.ofOwn sg_len (hm.ownI 2 rfl) (by rw [isort_len]; exact hll), by omega, by omega, hm.g⟩
  refine wl_look (R := ∃ g, Lf = some ⟨g, 0, none⟩) (fun wx hm => own_addr (hm.ownI 2 rfl) (by omega)) ?_
  rintro ⟨g9, rfl⟩
  refine wl_callr (v := .tuple #[]) (xs' := (isort bsLt (leftOf (gAll CD S))).flatMap sgEnc) 2 rfl rfl rfl cb140 rfl rfl (fun wx hm => sort_so (leftOf (gAll CD S)) g9 q lc _ wx (hm.ownI 2 rfl) hll (by omega)) ?_
  refine nn_ (sr_ (mv_ rfl (mv_ rfl (sg_ rfl (sg_ rfl (nn_ ?_))))))
  refine gw_ret ?_
  refine nx_ret2 rfl rfl rfl fun wx hm => ?_
  exact ⟨_, k, _, _, q, _, rfl, SlT.ofOwn gv_len (hm.ownI 1 rfl) (by rw [isort_len]; exact hgl), SlT.ofOwn sg_len (hm.ownI 2 rfl) (by rw [isort_len]; exact hll), by omega, by omega, hm.g⟩
 refine wl_look (R := ∃ g, G = some ⟨g, 0, none⟩) (fun wx hm => own_addr (hm.ownI 1 rfl) (by omega)) ?_
 rintro ⟨g8, rfl⟩
 refine wl_callr (v := .tuple #[]) (xs' := (isort gvLt (givOf (gAll CD S))).flatMap gvEnc) 1 rfl rfl rfl cb137 rfl rfl (fun wx hm => sort_gv (givOf (gAll CD S)) g8 k gc _ wx (hm.ownI 1 rfl) hgl (by omega)) ?_
 refine nn_ (sr_ (mv_ rfl ?_))
 by_cases h0left : q = 0
 ·refine wl_callv (v := .tuple #[]) rfl cb140 rfl rfl (fun wx hm => (by subst h0left; exact sort0_so Lf lc wx)) ?_
  rw [show (leftOf (gAll CD S)).flatMap sgEnc = (isort bsLt (leftOf (gAll CD S))).flatMap sgEnc from by rw [List.length_eq_zero_iff.1 (hll.trans h0left)]; rfl]
  refine nn_ (sr_ (mv_ rfl (mv_ rfl (sg_ rfl (sg_ rfl (nn_ ?_))))))
  refine gw_ret ?_
  refine nx_ret2 rfl rfl rfl fun wx hm => ?_
  exact ⟨_, k, _, _, q, _, rfl, SlT.ofOwn gv_len (hm.ownI 1 rfl) (by rw [isort_len]; exact hgl), SlT.ofOwn sg_len (hm.ownI 2 rfl) (by rw [isort_len]; exact hll), by omega, by omega, hm.g⟩
 refine wl_look (R := ∃ g, Lf = some ⟨g, 0, none⟩) (fun wx hm => own_addr (hm.ownI 2 rfl) (by omega)) ?_
 rintro ⟨g9, rfl⟩
 refine wl_callr (v := .tuple #[]) (xs' := (isort bsLt (leftOf (gAll CD S))).flatMap sgEnc) 2 rfl rfl rfl cb140 rfl rfl (fun wx hm => sort_so (leftOf (gAll CD S)) g9 q lc _ wx (hm.ownI 2 rfl) hll (by omega)) ?_
 refine nn_ (sr_ (mv_ rfl (mv_ rfl (sg_ rfl (sg_ rfl (nn_ ?_))))))
 refine gw_ret ?_
 refine nx_ret2 rfl rfl rfl fun wx hm => ?_
 exact ⟨_, k, _, _, q, _, rfl, SlT.ofOwn gv_len (hm.ownI 1 rfl) (by rw [isort_len]; exact hgl), SlT.ofOwn sg_len (hm.ownI 2 rfl) (by rw [isort_len]; exact hll), by omega, by omega, hm.g⟩
end Go.Proofs.YtpikhokaclpbhaaGreatDoor
namespace Go.Proofs.YtpikhokaclpbhaaGreatDoor
open Go.RowKit
structure Fr where
  num : Int
  den : Int
def frEnc (x : Fr) : List Value := [.int .i64 x.num, .int .i64 x.den]
theorem fr_len (x : Fr) : (frEnc x).length = 2 := rfl
/-- The lowest terms of n / d. -/
def lowF (n d : Nat) : Fr := ⟨((n / Nat.gcd n d : Nat) : Int), ((d / Nat.gcd n d : Nat) : Int)⟩
theorem gcd_step {a b g : Nat} (h : Nat.gcd a b = g) : Nat.gcd b (a % b) = g := by
  rw [Nat.gcd_comm, ← Nat.gcd_rec, Nat.gcd_comm]; exact h
def oddsE (l : List Bk) : Int := firstE [formE l, whenE (decide (9 < (l.length : Int))) 2]
theorem lowest_any (n d : Nat) (w : World) (hn : n ≤ 1000000000000000000) (hd : d ≤ 1000000000000000000) (hd0 : 0 < d) :
  Calls Tryz.prog 206 #[.int .i64 ((n : Nat) : Int), .int .i64 ((d : Nat) : Int)] w (fun e w' => e = .returned (.agg #[.int .i64 (lowF n d).num, .int .i64 (lowF n d).den]) ∧ w.grownBy w' none) := by
 refine gw_enter ⟨25, w, none, []⟩ Tryz.func206 rfl Tryz.ntmps206 rfl (mem0 (X := []) allF_nil allL_nil) ?_
 refine sr_ ?_
 refine wl_alloc zc192 rfl fun g1 => ?_
 refine nn_ (sr_ (mv_ rfl (mv_ rfl ?_)))
 refine wl_ov (ov_neg rfl (by omega) (by omega)) rfl ?_
 refine wl_ov (ov_max rfl rfl) rfl ?_
 refine mv_ rfl (sg_ rfl (sg_ rfl (nn_ (gw_seq (gw_block ?_)))))
 refine gw_loop (γ := Nat × Nat) (fun g => Nat.gcd g.1 g.2 = Nat.gcd n d ∧ g.1 ≤ 1000000000000000000 ∧ g.2 ≤ 1000000000000000000) (fun g => [(0, .int .i64 ((n : Nat) : Int)), (1, .int .i64 ((d : Nat) : Int)), (4, .pointer (some ⟨g1, 0, none⟩)), (5, .int .i64 ((g.1 : Nat) : Int)), (6, .int .i64 ((g.2 : Nat) : Int))]) (fun g => fun _ => True) (fun g => [(g1, 192, [.int .i64 0, .int .i64 0])]) (fun g => []) (fun g => []) (fun g => g.2) (n, d) ⟨rfl, by omega, by omega⟩ ⟨rfl, rfl, rfl, (some_int (by omega)), rfl, trivial⟩ (fun _ hm => hm.pick [0] [] [] rfl rfl) ?_
 rintro ⟨a, b⟩ hinv
 replace hinv : Nat.gcd a b = Nat.gcd n d ∧ a ≤ 1000000000000000000 ∧ b ≤ 1000000000000000000 := hinv
 dsimp only
 refine gw_seq (sr_ (mv_ rfl (wl_ov (ov_neq rfl rfl) rfl (nn_ ?_))))
 refine gw_cond rfl (fun hh => ?_) (fun hh => ?_)
 ·have hb : ¬ (((b : Nat) : Int) = 0) := by simpa using hh
  clear hh
  refine gw_skip (nx_then (gw_block ?_))
  have hb0 : 0 < b := by omega
  have hlt := Nat.mod_lt a hb0
  refine gd (fun wz => Blk wz g1 192 [.int .i64 0, .int .i64 0] ∧ True) mixed (fun _ hm => ⟨hm.bl 0, trivial⟩) fun z => ?_
  refine wt 0 6 1 rfl z (ov_move rfl) ?_
  refine wt 1 6 3 rfl z (ov_move rfl) ?_
  refine wt 2 6 7 rfl z (ov_move rfl) ?_
  refine wt 3 6 15 rfl z (ov_rem rfl rfl (by omega) (by omega) (by omega)) ?_
  refine wt 4 6 31 rfl z (ov_assign rfl) ?_
  refine wt 5 6 63 rfl z (ov_assign rfl) ?_
  refine wa_done (by kernel_rfl) ?_
  refine nx_blk_nrm ?_
  exact nx_round (b, a % b) ⟨gcd_step hinv.1, by dsimp only; omega, by dsimp only; omega⟩ hlt ⟨rfl, rfl, rfl, rfl, (some_int (Int.natCast_emod a b).symm), trivial⟩ (fun _ hm => hm.pick [0] [] [] rfl rfl)
 have hb : ((b : Nat) : Int) = 0 := by simpa using hh
 clear hh
 refine gw_exit ?_
 refine nx_then_exit (nx_then_exit ?_)
 refine nx_blk_here ?_
 refine nx_then (gw_seq ?_)
 have hb0 : b = 0 := by omega
 subst hb0
 have hga : a = Nat.gcd n d := by rw [← hinv.1, Nat.gcd_zero_right]
 have ha0 : 0 < a := by rw [hga]; exact Nat.gcd_pos_of_pos_right n hd0
 refine gd (fun wz => True) mixed (fun _ _ => trivial) fun z => ?_
 refine wt 0 8 1 rfl z (ov_move rfl) ?_
 refine wt 1 8 3 rfl z (ov_move rfl) ?_
 refine wt 2 8 7 rfl z (ov_quo rfl rfl (by omega) (by omega) (by omega)) ?_
 refine wt 3 8 15 rfl z (ov_move rfl) ?_
 refine wt 4 8 31 rfl z (ov_move rfl) ?_
 refine wt 5 8 63 rfl z (ov_quo rfl rfl (by omega) (by omega) (by omega)) ?_
 refine wt 6 8 127 rfl z (ov_build (cs := [.int .i64 (((n : Nat) : Int) / ((a : Nat) : Int)), .int .i64 (((d : Nat) : Int) / ((a : Nat) : Int))]) rfl (by kernel_rfl)) ?_
 refine wa1 7 rfl ?_
 refine wl_stores (cs' := [.int .i64 (((n : Nat) : Int) / ((a : Nat) : Int)), .int .i64 (((d : Nat) : Int) / ((a : Nat) : Int))]) 0 rz192 rfl rfl rfl rfl rfl rfl rfl rfl ?_
 refine wl_nil ?_
 refine nw 8 255 (fun _ _ => trivial) fun z => ?_
 refine wa_done (by kernel_rfl) ?_
 refine nx_then ?_
 refine gw_ret ?_
 refine nx_retc 0 rfl rz192 rfl rfl rfl fun wx hm => ?_
 refine ⟨?_, hm.g⟩
 unfold lowF
 rw [← hga, Int.natCast_ediv, Int.natCast_ediv]
theorem checkOdds_any (l : List Bk) (A : Option Addr) (n c : Nat) (w : World) (hl : SlT bkEnc 6 181 w A n l) (hok : ∀ b ∈ l, BkOk b) (hn : n ≤ 1000000) :
  Calls Tryz.prog 204 #[.slice A n c] w (GotE w (oddsE l)) := by
 refine gw_enter ⟨11, w, none, []⟩ Tryz.func204 rfl Tryz.ntmps204 rfl (mem0 (X := [SlOld bkEnc 6 181 w.heap.size none A n l]) (allF_cons hl.old allF_nil) (allL_cons SlOld.lasts allL_nil)) ?_
 refine sr_ ?_
 have hlen := hl.len
 refine sg_ rfl (nn_ (sr_ (mv_ rfl ?_)))
 refine wl_callv rfl cb252 rfl rfl (fun wx hm => (formed_any l A n c wx (hm.fact 0 rfl).1 hok hn)) ?_
 refine mv_ rfl (wl_ov (ov_len es78 rfl) rfl ?_)
 refine wl_ov (ov_gtr rfl rfl) rfl ?_
 refine wl_callw rfl cb77 rfl rfl (fun wx hm => (when_any _ _ wx)) ?_
 refine wl_buildSlice (e := 28) (cs := [.int .i64 (formE l), .int .i64 (whenE (decide (9 < ((n : Nat) : Int))) 2)]) rfl (by kernel_rfl) rfl fun g1 => ?_
 refine wl_callw rfl cb75 rfl rfl (fun wx hm => (first_any [formE l, whenE (decide (9 < ((n : Nat) : Int))) 2] _ _ _ wx (hm.blkI 0 rfl) (by simp))) ?_
 refine sg_ rfl (nn_ ?_)
 refine gw_ret ?_
 refine nx_ret1 rfl rfl fun wx hm => ?_
 exact ⟨ret_int (by unfold oddsE; rw [hlen]), hm.g⟩
theorem spread_one (A : Option Addr) (c : Nat) (w : World) (hl : SlT bkEnc 6 181 w A 1 [⟨⟨#[97]⟩, ⟨#[99]⟩, 0, 1, 0, 50⟩]) :
  Calls Tryz.prog 205 #[.slice A 1 c] w (fun e w' => ∃ A2 c2, e = .returned (.tuple #[.slice A2 2 c2, .int .i64 100]) ∧ w.grownBy w' none ∧ w'.ownsRow w.heap.size 3 1 (.slice A2 2 c2) 2 [.int .i64 50, .int .i64 50]) := by
 refine gw_enter ⟨58, w, none, []⟩ Tryz.func205 rfl Tryz.ntmps205 rfl (mem0 (X := [SlOld bkEnc 6 181 w.heap.size none A 1 [⟨⟨#[97]⟩, ⟨#[99]⟩, 0, 1, 0, 50⟩]]) (allF_cons hl.old allF_nil) (allL_cons SlOld.lasts allL_nil)) ?_
 refine sr_ (sg_ rfl (sg_ rfl (nn_ (sr_ ?_))))
 refine wl_buildSlice (e := 3) (cs := [.int .i64 1]) rfl (by kernel_rfl) rfl fun g1 => ?_
 refine sg_ rfl (sg_ rfl (nn_ (gw_seq (sr_ (mv_ rfl (wl_ov (ov_len es78 rfl) rfl ?_))))))
 refine wl_set 13 (v' := .int .i64 1) rfl rfl ?_
 refine mv_ rfl (nn_ (gw_block ?_))
 obtain ⟨b, off, hA, _, _⟩ := hl.get (by omega)
 subst hA
 refine gw_rounds 3 ?_
 refine gr_next ?_
 refine sr_ (wl_ov (ov_lss rfl rfl) rfl ?_)
 refine wl_set 15 (v' := .bool true) rfl (congrArg Value.bool (by decide)) ?_
 refine nn_ (gw_seq (ct_ rfl (gw_skip (nx_then (gw_seq (gw_block (sr_ ?_)))))))
 refine wl_ov (ov_index (j := 0) es78 rfl rfl (by omega)) rfl ?_
 refine wl_ov (ov_elem (vs := [.string ⟨#[97]⟩, .string ⟨#[99]⟩, .int .i64 0, .int .i64 1, .int .i64 0, .int .i64 50]) rz181 rfl (fun _ hm => (hm.fact 0 rfl).1) (rfl : [(⟨⟨#[97]⟩, ⟨#[99]⟩, 0, 1, 0, 50⟩ : Bk)][0]? = some ⟨⟨#[97]⟩, ⟨#[99]⟩, 0, 1, 0, 50⟩) rfl rfl) rfl ?_
 refine wl_alloc zc181 rfl fun g2 => ?_
 refine wl_stores (cs' := [.string ⟨#[97]⟩, .string ⟨#[99]⟩, .int .i64 0, .int .i64 1, .int .i64 0, .int .i64 50]) 0 rz181 rfl rfl rfl rfl rfl rfl rfl rfl ?_
 refine nn_ (sr_ (mv_ rfl (wl_ov (ov_len es22 rfl) rfl ?_)))
 refine wl_set 19 (v' := .int .i64 1) rfl rfl ?_
 refine ad_ rfl rfl ?_
 refine wl_set 20 (v' := .int .i64 2) rfl rfl ?_
 refine wl_makeB (n := 2) (e := 3) (by_ := 8) (z := .int .i64 0) (cs := [.int .i64 0, .int .i64 0]) (by kernel_rfl) (by kernel_rfl) rfl rfl rfl rfl rfl (by kernel_rfl) rfl fun g3 => ?_
 refine sg_ rfl (nn_ (gw_seq (sr_ (mv_ rfl (wl_ov (ov_len es22 rfl) rfl ?_)))))
 refine wl_set 23 (v' := .int .i64 1) rfl rfl ?_
 refine mv_ rfl (nn_ (gw_block ?_))
 refine gw_rounds 3 ?_
 refine gr_next ?_
 refine sr_ (wl_ov (ov_lss rfl rfl) rfl ?_)
 refine wl_set 25 (v' := .bool true) rfl (congrArg Value.bool (by decide)) ?_
 refine nn_ (gw_seq (ct_ rfl (gw_skip (nx_then (gw_seq (gw_block (sr_ (mv_ rfl ?_))))))))
 refine wl_ov (ov_index (j := 0) es22 rfl rfl (by decide)) rfl ?_
 refine lk_ sc3 2 rfl rfl rfl (sg_ rfl (sg_ rfl (nn_ (gw_seq ?_))))
 refine gd (fun wz => Blk wz g2 181 [.string ⟨#[97]⟩, .string ⟨#[99]⟩, .int .i64 0, .int .i64 1, .int .i64 0, .int .i64 50] ∧ Blk wz g1 3 [.int .i64 1] ∧ (SlOld bkEnc 6 181 w.heap.size none (some ⟨b, off, none⟩) 1 [⟨⟨#[97]⟩, ⟨#[99]⟩, 0, 1, 0, 50⟩]) wz ∧ True) mixed (fun _ hm => ⟨hm.bl 1, hm.bl 2, hm.fa 0, trivial⟩) fun z => ?_
 refine wt 0 12 1 rfl z (ov_move rfl) ?_
 refine wt 1 12 3 rfl z (ov_move rfl) ?_
 refine wt 2 12 7 rfl z (ov_index (j := 0) es22 rfl rfl (by decide)) ?_
 refine wt 4 12 23 rfl z (ov_move rfl) ?_
 refine wt 5 12 55 rfl z (ov_field fo181_4 rfl rfl) ?_
 refine wt 6 12 119 rfl z (ov_load sc3 rfl (fun _ hm => hm.1) rfl) ?_
 refine wt 7 12 247 rfl z (ov_sub rfl rfl (by omega) (by omega)) ?_
 refine wa_set 36 (v' := .int .i64 50) rfl rfl ?_
 refine wt 8 12 503 rfl z (ov_mul rfl rfl (by omega) (by omega)) ?_
 refine wa_set 37 (v' := .int .i64 50) rfl rfl ?_
 refine wa1 3 rfl ?_
 refine lk_ sc3 0 rfl rfl rfl (wl_nil ?_)
 refine nw 12 511 (fun _ hm => ⟨hm.bl 1, hm.bl 2, hm.fa 0, trivial⟩) fun z => ?_
 refine wt 9 12 1023 rfl z (ov_add rfl rfl (by omega) (by omega)) ?_
 refine wa_set 38 (v' := .int .i64 50) rfl rfl ?_
 refine wt 10 12 2047 rfl z (ov_index (j := 0) es22 rfl rfl (by decide)) ?_
 refine wa1 11 rfl ?_
 refine wl_store 0 sc3 rfl rfl rfl rfl rfl rfl ?_
 refine wl_nil ?_
 refine nw 12 4095 (fun _ hm => ⟨hm.bl 1, hm.bl 2, hm.fa 0, trivial⟩) fun z => ?_
 refine wa_done (by kernel_rfl) ?_
 refine nx_then ?_
 refine gd (fun wz => Blk wz g2 181 [.string ⟨#[97]⟩, .string ⟨#[99]⟩, .int .i64 0, .int .i64 1, .int .i64 0, .int .i64 50] ∧ Blk wz g1 3 [.int .i64 1] ∧ (SlOld bkEnc 6 181 w.heap.size none (some ⟨b, off, none⟩) 1 [⟨⟨#[97]⟩, ⟨#[99]⟩, 0, 1, 0, 50⟩]) wz ∧ True) mixed (fun _ hm => ⟨hm.bl 1, hm.bl 2, hm.fa 0, trivial⟩) fun z => ?_
 refine wt 0 12 1 rfl z (ov_move rfl) ?_
 refine wt 1 12 3 rfl z (ov_move rfl) ?_
 refine wt 2 12 7 rfl z (ov_add rfl rfl (by omega) (by omega)) ?_
 refine wa_set 42 (v' := .int .i64 1) rfl rfl ?_
 refine wt 3 12 15 rfl z (ov_index (j := 1) es22 rfl rfl (by decide)) ?_
 refine wt 5 12 47 rfl z (ov_move rfl) ?_
 refine wt 6 12 111 rfl z (ov_field fo181_4 rfl rfl) ?_
 refine wt 7 12 239 rfl z (ov_load sc3 rfl (fun _ hm => hm.1) rfl) ?_
 refine wt 8 12 495 rfl z (ov_mul rfl rfl (by omega) (by omega)) ?_
 refine wa_set 48 (v' := .int .i64 50) rfl rfl ?_
 refine wa1 4 rfl ?_
 refine lk_ sc3 0 rfl rfl rfl (wl_nil ?_)
 refine nw 12 511 (fun _ hm => ⟨hm.bl 1, hm.bl 2, hm.fa 0, trivial⟩) fun z => ?_
 refine wt 9 12 1023 rfl z (ov_add rfl rfl (by omega) (by omega)) ?_
 refine wa_set 49 (v' := .int .i64 50) rfl rfl ?_
 refine wt 10 12 2047 rfl z (ov_index (j := 1) es22 rfl rfl (by decide)) ?_
 refine wa1 11 rfl ?_
 refine wl_store 0 sc3 rfl rfl rfl rfl rfl rfl ?_
 refine wl_nil ?_
 refine nw 12 4095 (fun _ hm => ⟨hm.bl 1, hm.bl 2, hm.fa 0, trivial⟩) fun z => ?_
 refine wa_done (by kernel_rfl) ?_
 refine nx_blk_nrm (nx_then (gw_region (ad_ rfl rfl ?_)))
 refine wl_set 51 (v' := .int .i64 1) rfl rfl ?_
 refine mv_ rfl (wl_nil ?_)
 refine nx_next ?_
 refine gr_next ?_
 refine sr_ (wl_ov (ov_lss rfl rfl) rfl ?_)
 refine wl_set 25 (v' := .bool false) rfl (congrArg Value.bool (by decide)) ?_
 refine nn_ (gw_seq (cf_ rfl ?_))
 refine gw_exit ?_
 refine nx_then_exit (nx_then_exit ?_)
 refine nx_blk_here ?_
 refine nx_then (gw_region (mv_ rfl (mv_ rfl ?_)))
 refine wl_ov (ov_mul rfl rfl (by omega) (by omega)) rfl ?_
 refine wl_set 54 (v' := .int .i64 100) rfl rfl ?_
 refine sg_ rfl (sg_ rfl (wl_nil (nx_blk_nrm (nx_then (gw_region (ad_ rfl rfl ?_))))))
 refine wl_set 55 (v' := .int .i64 1) rfl rfl ?_
 refine mv_ rfl (wl_nil ?_)
 refine nx_next ?_
 refine gr_next ?_
 refine sr_ (wl_ov (ov_lss rfl rfl) rfl ?_)
 refine wl_set 15 (v' := .bool false) rfl (congrArg Value.bool (by decide)) ?_
 refine nn_ (gw_seq (cf_ rfl ?_))
 refine gw_exit ?_
 refine nx_then_exit (nx_then_exit ?_)
 refine nx_blk_here ?_
 refine nx_then (sr_ (mv_ rfl (mv_ rfl (sg_ rfl (sg_ rfl (nn_ ?_))))))
 refine gw_ret ?_
 refine nx_ret2 rfl rfl rfl fun wx hm => ?_
 exact ⟨_, 2, rfl, hm.g, hm.rowOf 0 rfl rfl (by decide)⟩
end Go.Proofs.YtpikhokaclpbhaaGreatDoor
namespace Go.Proofs.YtpikhokaclpbhaaGreatDoor
open Go.RowKit
set_option maxRecDepth 100000 in
theorem same_fraction_neq (x0 : Int) (x1 : Int) (w : World) : (binOp .neq 192 (.agg #[.int .i64 x0, .int .i64 x1]) (.agg #[.int .i64 x0, .int .i64 x1])).run Tryz.prog w = .ok (.bool false) w := by
  have hS : Tryz.prog.underlying 192 = some (.struct (Tryz.prog.fieldsOf 192)) := by kernel_rfl
  have hp : Tryz.prog.stoodInHeld 192 = false := by kernel_rfl
  rw [run_neq_struct, show (10000 : Nat) = 9999 + 1 from rfl, run_equalIn_agg w 9999 192 _ _ hS hp]
  simp only [Program.fieldsOf, Tryz.underlying192]
  have u3 := Tryz.underlying3
  clear hS hp
  go_simp
theorem guard_fraction : Tryz.prog.eqGuardType Tryz.prog.depth 192 = false := by kernel_rfl
theorem equal_fraction_any (l : List Fr) (A1 A2 : Option Addr) (n c1 c2 : Nat) (w : World) (h1 : SlT frEnc 2 192 w A1 n l) (h2 : SlT frEnc 2 192 w A2 n l) (hn : n ≤ 1000000) :
  Calls Tryz.prog 131 #[.slice A1 n c1, .slice A2 n c2] w (fun e w' => e = .returned (.bool true) ∧ w.grownBy w' none) := by
 refine gw_enter ⟨26, w, none, []⟩ Tryz.func131 rfl Tryz.ntmps131 rfl (mem0 (X := [SlOld frEnc 2 192 w.heap.size none A1 n l, SlOld frEnc 2 192 w.heap.size none A2 n l]) (allF_cons h1.old (allF_cons h2.old allF_nil)) (allL_cons SlOld.lasts (allL_cons SlOld.lasts allL_nil))) ?_
 refine sr_ ?_
 have hlen := h1.len
 refine sg_ rfl (nn_ (gw_seq (sr_ (mv_ rfl (wl_ov (ov_len es187 rfl) rfl (mv_ rfl (wl_ov (ov_len es187 rfl) rfl (wl_ov (ov_neq rfl rfl) rfl ?_))))))))
 refine wl_set 10 (v' := .bool false) rfl (congrArg Value.bool (by simp)) ?_
 refine nn_ (cf_ rfl (gw_skip (nx_then (gw_seq (sr_ (mv_ rfl (wl_ov (ov_len es187 rfl) rfl (mv_ rfl (nn_ (gw_block ?_))))))))))
 refine gw_loop (γ := Nat) (fun (k : Nat) => k ≤ n) (fun (k : Nat) => [(0, .slice A1 n c1), (1, .slice A2 n c2), (12, .int .i64 ((n : Nat) : Int)), (13, .int .i64 ((k : Nat) : Int))]) (fun (k : Nat) => fun _ => True) (fun (k : Nat) => []) (fun (k : Nat) => []) (fun (k : Nat) => [SlOld frEnc 2 192 w.heap.size none A1 n l, SlOld frEnc 2 192 w.heap.size none A2 n l]) (fun (k : Nat) => n - k) 0 (Nat.zero_le _) ⟨rfl, rfl, rfl, rfl, trivial⟩ (fun _ hm => hm.pick [] [] [0, 1] rfl rfl) ?_
 intro k hinv
 replace hinv : k ≤ n := hinv
 refine sr_ (wl_ov (ov_lss rfl rfl) rfl (nn_ (gw_seq ?_)))
 refine gw_cond rfl (fun hh => ?_) (fun hh => ?_)
 ·have hk : ((k : Nat) : Int) < ((n : Nat) : Int) := by simpa using hh
  clear hh
  refine gw_skip (nx_then (gw_seq (gw_block (sr_ ?_))))
  obtain ⟨b1, o1, hA, _, _⟩ := h1.get (by omega)
  subst hA
  obtain ⟨b2, o2, hA, _, _⟩ := h2.get (by omega)
  subst hA
  obtain ⟨x, hx⟩ : ∃ x, l[k]? = some x := ⟨_, List.getElem?_eq_getElem (by omega)⟩
  obtain ⟨x0, x1⟩ := x
  refine mv_ rfl (sg_ rfl (nn_ (gw_seq ?_)))
  refine gd (fun wz => (SlOld frEnc 2 192 w.heap.size none (some ⟨b1, o1, none⟩) n l) wz ∧ (SlOld frEnc 2 192 w.heap.size none (some ⟨b2, o2, none⟩) n l) wz ∧ True) mixed (fun _ hm => ⟨hm.fa 0, hm.fa 1, trivial⟩) fun z => ?_
  refine wt 0 9 1 rfl z (ov_move rfl) ?_
  refine wt 1 9 3 rfl z (ov_move rfl) ?_
  refine wt 2 9 7 rfl z (ov_index (j := k) es187 rfl rfl (by omega)) ?_
  refine wt 3 9 15 rfl z (ov_elem (vs := [.int .i64 x0, .int .i64 x1]) rz192 rfl (fun _ hm => (hm.1).1) hx rfl rfl) ?_
  refine wt 4 9 31 rfl z (ov_move rfl) ?_
  refine wt 5 9 63 rfl z (ov_move rfl) ?_
  refine wt 6 9 127 rfl z (ov_index (j := k) es187 rfl rfl (by omega)) ?_
  refine wt 7 9 255 rfl z (ov_elem (vs := [.int .i64 x0, .int .i64 x1]) rz192 rfl (fun _ hm => (hm.2.1).1) hx rfl rfl) ?_
  refine wt 8 9 511 rfl z (ov_bin rfl rfl (cmp_agg guard_fraction (fun wx => same_fraction_neq x0 x1 wx))) ?_
  refine wa_done (by kernel_rfl) ?_
  refine nx_then (cf_ rfl (gw_skip (nx_blk_nrm (nx_then (gw_region (ad_ rfl rfl (mv_ rfl (wl_nil ?_))))))))
  exact nx_round (k + 1) (by omega) (by omega) ⟨rfl, rfl, rfl, (some_int (by omega)), trivial⟩ (fun _ hm => hm.pick [] [] [0, 1] rfl rfl)
 have hk : ¬ (((k : Nat) : Int) < ((n : Nat) : Int)) := by simpa using hh
 clear hh
 refine gw_exit ?_
 refine nx_then_exit (nx_then_exit ?_)
 refine nx_blk_here ?_
 refine nx_then (sr_ (sg_ rfl (nn_ ?_)))
 refine gw_ret ?_
 refine nx_ret1 rfl rfl fun wx hm => ?_
 exact ⟨rfl, hm.g⟩
def inEnc (z : Int) : List Value := [.int .i64 z]
theorem in_len (z : Int) : (inEnc z).length = 1 := rfl
theorem one_ok : ∀ b ∈ [(⟨⟨#[97]⟩, ⟨#[99]⟩, 0, 1, 0, 50⟩ : Bk)], BkOk b := fun b hb => by
  rw [List.mem_singleton.1 hb]; exact ⟨by decide, by decide⟩
theorem one_zero : oddsE [⟨⟨#[97]⟩, ⟨#[99]⟩, 0, 1, 0, 50⟩] = 0 := by decide +kernel
theorem lowF_50 : lowF 50 100 = ⟨1, 2⟩ := by simp [lowF]
theorem bspread_one (A : Option Addr) (c : Nat) (w : World) (hl : SlT bkEnc 6 181 w A 1 [⟨⟨#[97]⟩, ⟨#[99]⟩, 0, 1, 0, 50⟩]) :
  Calls Tryz.prog 130 #[.slice A 1 c] w (fun e w' => ∃ A2 c2, e = .returned (.tuple #[.slice A2 2 c2, .int .i64 0]) ∧ w.grownBy w' none ∧ SlT frEnc 2 192 w' A2 2 [⟨1, 2⟩, ⟨1, 2⟩]) := by
 refine gw_enter ⟨34, w, none, []⟩ Tryz.func130 rfl Tryz.ntmps130 rfl (mem0 (X := [SlOld bkEnc 6 181 w.heap.size none A 1 [⟨⟨#[97]⟩, ⟨#[99]⟩, 0, 1, 0, 50⟩]]) (allF_cons hl.old allF_nil) (allL_cons SlOld.lasts allL_nil)) ?_
 refine sr_ (sg_ rfl (sg_ rfl (nn_ (gw_seq (sr_ (mv_ rfl ?_))))))
 refine wl_callv (v := .int .i64 0) rfl cb204 rfl rfl (fun wx hm => (by rw [← one_zero]; exact checkOdds_any [⟨⟨#[97]⟩, ⟨#[99]⟩, 0, 1, 0, 50⟩] A 1 c wx (hm.fact 0 rfl).1 one_ok (by omega))) ?_
 refine sg_ rfl (nn_ (sr_ (mv_ rfl (wl_ov (ov_neq rfl rfl) rfl ?_))))
 refine wl_set 13 (v' := .bool false) rfl (congrArg Value.bool (by decide)) ?_
 refine nn_ (cf_ rfl (gw_skip (nx_then (sr_ (mv_ rfl ?_)))))
 refine wl_callgo (γ := Option Addr × Nat) (val := (fun g => .tuple #[.slice g.1 2 g.2, .int .i64 100])) (φ := (fun g => True)) (fun g => ⟨.slice g.1 2 g.2, 3, 1, 2, [.int .i64 50, .int .i64 50]⟩) rfl cb205 rfl rfl (fun wx hm => (spread_one A c wx (hm.fact 0 rfl).1).mono fun _ _ ⟨A2, c2, he, hg, ho⟩ => ⟨(A2, c2), he, trivial, ho, hg⟩) ?_
 rintro ⟨A2, c2⟩ hphi
 dsimp only at hphi ⊢
 clear hphi
 refine wl_look (R := ∃ g, A2 = some ⟨g, 0, none⟩) (fun wx hm => own_addr (hm.ownI 0 rfl) (by omega)) ?_
 rintro ⟨b2, rfl⟩
 refine wl_nilOwn 192 2 ?_
 refine mv_ rfl (wl_ov (ov_extract rfl rfl) rfl (wl_ov (ov_extract rfl rfl) rfl (sg_ rfl (sg_ rfl (nn_ (sr_ (sg_ rfl (nn_ (gw_seq (gw_seq ?_))))))))))
 refine gw_region (mv_ rfl (wl_ov (ov_len es22 rfl) rfl ?_))
 refine wl_set 21 (v' := .int .i64 2) rfl rfl ?_
 refine mv_ rfl (nn_ (gw_block ?_))
 refine gw_rounds 4 ?_
 refine gr_next ?_
 refine sr_ (wl_ov (ov_lss rfl rfl) rfl ?_)
 refine wl_set 23 (v' := .bool true) rfl (congrArg Value.bool (by decide)) ?_
 refine nn_ (gw_seq (ct_ rfl (gw_skip (nx_then (gw_seq (gw_block (sr_ ?_)))))))
 refine wl_ov (ov_index (j := 0) es22 rfl rfl (by decide)) rfl ?_
 refine wl_ov (ov_elem1 (k := 0) (v := .int .i64 50) sc3 rfl (fun _ hm => (SlT.ofOwn (l := [50, 50]) in_len (hm.ownI 1 rfl) rfl)) (rfl : [(50 : Int), 50][0]? = some 50) rfl rfl) rfl ?_
 refine sg_ rfl (nn_ (gw_region (mv_ rfl (mv_ rfl (mv_ rfl ?_)))))
 refine wl_callv (v := .agg #[.int .i64 1, .int .i64 2]) rfl cb206 rfl rfl (fun wx hm => (by have h := lowest_any 50 100 wx (by omega) (by omega) (by omega); rw [lowF_50] at h; exact h)) ?_
 refine wl_buildSlice (e := 192) (cs := [.int .i64 1, .int .i64 2]) rfl (by kernel_rfl) rfl fun g1 => ?_
 refine wl_append (news := [.int .i64 1, .int .i64 2]) 0 0 ap187 rfl rfl rfl rfl rfl rfl rfl (by decide) (by decide) rfl rfl fun v1 hv1 => ?_
 refine sg_ rfl (wl_nil (nx_blk_nrm (nx_then (gw_region (ad_ rfl rfl ?_)))))
 refine wl_set 32 (v' := .int .i64 1) rfl rfl ?_
 refine mv_ rfl (wl_nil ?_)
 refine nx_next ?_
 refine gr_next ?_
 refine sr_ (wl_ov (ov_lss rfl rfl) rfl ?_)
 refine wl_set 23 (v' := .bool true) rfl (congrArg Value.bool (by decide)) ?_
 refine nn_ (gw_seq (ct_ rfl (gw_skip (nx_then (gw_seq (gw_block (sr_ ?_)))))))
 refine wl_ov (ov_index (j := 1) es22 rfl rfl (by decide)) rfl ?_
 refine wl_ov (ov_elem1 (k := 0) (v := .int .i64 50) sc3 rfl (fun _ hm => (SlT.ofOwn (l := [50, 50]) in_len (hm.ownI 1 rfl) rfl)) (rfl : [(50 : Int), 50][1]? = some 50) rfl rfl) rfl ?_
 refine sg_ rfl (nn_ (gw_region (mv_ rfl (mv_ rfl (mv_ rfl ?_)))))
 refine wl_callv (v := .agg #[.int .i64 1, .int .i64 2]) rfl cb206 rfl rfl (fun wx hm => (by have h := lowest_any 50 100 wx (by omega) (by omega) (by omega); rw [lowF_50] at h; exact h)) ?_
 refine wl_buildSlice (e := 192) (cs := [.int .i64 1, .int .i64 2]) rfl (by kernel_rfl) rfl fun g2 => ?_
 refine wl_append (news := [.int .i64 1, .int .i64 2]) 0 0 ap187 rfl rfl rfl rfl rfl rfl rfl (by decide) (by decide) rfl rfl fun v2 hv2 => ?_
 refine sg_ rfl (wl_nil (nx_blk_nrm (nx_then (gw_region (ad_ rfl rfl ?_)))))
 refine wl_set 32 (v' := .int .i64 2) rfl rfl ?_
 refine mv_ rfl (wl_nil ?_)
 refine nx_next ?_
 refine gr_next ?_
 refine sr_ (wl_ov (ov_lss rfl rfl) rfl ?_)
 refine wl_set 23 (v' := .bool false) rfl (congrArg Value.bool (by decide)) ?_
 refine nn_ (gw_seq (cf_ rfl ?_))
 refine gw_exit ?_
 refine nx_then_exit (nx_then_exit ?_)
 refine nx_blk_here ?_
 refine nx_then (sr_ (mv_ rfl (sg_ rfl (sg_ rfl (nn_ ?_)))))
 refine gw_ret ?_
 refine nx_look (R := ∃ A cc, v2 = .slice A (0 + 1 + 1) cc) (fun wx hm => own_slice (hm.ownI 0 rfl)) ?_
 rintro ⟨A3, c3, rfl⟩
 refine nx_ret2 rfl rfl rfl fun wx hm => ?_
 exact ⟨A3, c3, rfl, hm.g, SlT.ofOwn (l := [⟨1, 2⟩, ⟨1, 2⟩]) fr_len (hm.ownI 0 rfl) rfl⟩
theorem booked_any (w : World) : Calls Tryz.prog 42 #[] w (fun e w' => e = .returned (.bool true) ∧ w.grownBy w' none) := by
 refine gw_enter ⟨19, w, none, [192]⟩ Tryz.func42 rfl Tryz.ntmps42 rfl (mem0 (X := []) allF_nil allL_nil) ?_
 refine sr_ (sg_ rfl (nn_ (sr_ ?_)))
 refine wl_ov (ov_build (cs := [.int .i64 0, .int .i64 1]) rfl (by kernel_rfl)) rfl ?_
 refine wl_ov (ov_build (cs := [.string ⟨#[97]⟩, .string ⟨#[99]⟩, .int .i64 0, .int .i64 1, .int .i64 0, .int .i64 50]) rfl (by kernel_rfl)) rfl ?_
 refine wl_buildSlice (e := 181) (cs := [.string ⟨#[97]⟩, .string ⟨#[99]⟩, .int .i64 0, .int .i64 1, .int .i64 0, .int .i64 50]) rfl (by kernel_rfl) rfl fun g1 => ?_
 refine wl_callx (γ := Option Addr × Nat) (val := (fun g => .tuple #[.slice g.1 2 g.2, .int .i64 0])) (φ := (fun g => True)) (Y := (fun g => fun wy => SlT frEnc 2 192 wy g.1 2 [⟨1, 2⟩, ⟨1, 2⟩])) rfl cb130 rfl rfl (fun wx hm => (bspread_one _ _ wx (SlT.ofBlk (l := [⟨⟨#[97]⟩, ⟨#[99]⟩, 0, 1, 0, 50⟩]) bk_len (hm.blkI 0 rfl))).mono fun _ _ ⟨A2, c2, he, hg, hs⟩ => ⟨(A2, c2), he, trivial, hg, hs⟩) (fun _ => SlT.lasts2 rfl) ?_
 rintro ⟨A2, c2⟩ hphi
 dsimp only
 clear hphi
 refine mv_ rfl (wl_ov (ov_extract rfl rfl) rfl (wl_ov (ov_extract rfl rfl) rfl (sg_ rfl (sg_ rfl (nn_ (sr_ (mv_ rfl (wl_ov (ov_eql rfl rfl) rfl ?_))))))))
 refine wl_set 11 (v' := .bool true) rfl (congrArg Value.bool (by decide)) ?_
 refine mv_ rfl (wl_guard_on rfl rfl rfl (mv_ rfl (wl_guard_on rfl rfl rfl ?_)))
 refine wl_ov (ov_build (cs := [.int .i64 1, .int .i64 2]) rfl (by kernel_rfl)) rfl ?_
 refine wl_guard_on rfl rfl rfl ?_
 refine wl_ov (ov_build (cs := [.int .i64 1, .int .i64 2]) rfl (by kernel_rfl)) rfl ?_
 refine wl_guard_on rfl rfl rfl ?_
 refine wl_buildSlice (e := 192) (cs := [.int .i64 1, .int .i64 2, .int .i64 1, .int .i64 2]) rfl (by kernel_rfl) rfl fun g2 => ?_
 refine wl_guard_on rfl rfl rfl ?_
 refine wl_callv rfl cb131 rfl rfl (fun wx hm => (equal_fraction_any [⟨1, 2⟩, ⟨1, 2⟩] A2 _ 2 c2 2 wx (hm.fact 0 rfl) (SlT.ofBlk (l := [⟨1, 2⟩, ⟨1, 2⟩]) fr_len (hm.blkI 0 rfl)) (by omega))) ?_
 refine pt_ rfl rfl (sg_ rfl (nn_ ?_))
 refine gw_ret ?_
 refine nx_ret1 rfl rfl fun wx hm => ?_
 exact ⟨rfl, hm.g⟩
end Go.Proofs.YtpikhokaclpbhaaGreatDoor
namespace Go.Proofs.YtpikhokaclpbhaaGreatDoor
open Go.RowKit
theorem sk_snoc {l : List Sk} {x : Sk} (h : ∀ y ∈ l, SkOk y) (hx : SkOk x) : ∀ y ∈ l ++ [x], SkOk y := fun y hy => by
  rcases List.mem_append.1 hy with hy | hy
  · exact h y hy
  · rw [List.mem_singleton.1 hy]; exact hx
theorem gstock_any (w : World) (B sb m : Nat) (hS : Strm 25 w B sb m) (hm : m ≤ 100000000) :
  Calls Tryz.prog 117 #[.pointer (some ⟨sb, 0, none⟩)] w (fun e w' => ∃ (A : Option Addr) (n c : Nat) (l : List Sk), e = .returned (.slice A n c) ∧ w'.ownsRow w.heap.size 237 2 (.slice A n c) n (l.flatMap skEnc) ∧ l.length = n ∧ (∀ x ∈ l, SkOk x) ∧ n ≤ 5 ∧ Strm 25 w' B sb (m + 100) ∧ w.grownBy w' (some sb)) := by
 refine gw_enter ⟨36, w, (some sb), []⟩ Tryz.func117 rfl Tryz.ntmps117 rfl (memS (X := []) hS allF_nil allL_nil) ?_
 refine sr_ ?_
 refine wl_nilOwn 237 2 ?_
 refine sg_ rfl (nn_ (sr_ (sg_ rfl (nn_ (gw_seq (sr_ ?_))))))
 refine wl_buildSlice (e := 9) (cs := [.string ⟨#[98, 105, 103]⟩, .string ⟨#[109, 97, 120, 105]⟩, .string ⟨#[109, 105, 100, 105]⟩, .string ⟨#[109, 105, 110, 105]⟩]) rfl (by kernel_rfl) rfl fun g1 => ?_
 refine wl_ov (ov_len es83 rfl) rfl ?_
 refine wl_set 7 (v' := .int .i64 4) rfl rfl ?_
 refine mv_ rfl (nn_ (gw_block ?_))
 refine gw_loop (γ := Nat × Nat × Value × List Sk × List Value) (fun g => g.1 ≤ 4 ∧ g.2.1 ≤ g.1 ∧ g.2.2.2.1.length = g.2.1 ∧ (∀ x ∈ g.2.2.2.1, SkOk x) ∧ g.2.2.2.2 = g.2.2.2.1.flatMap skEnc) (fun g => [(0, .pointer (some ⟨sb, 0, none⟩)), (2, .slice none 0 0), (3, g.2.2.1), (6, .slice (some ⟨g1, 0, none⟩) 4 4), (7, .int .i64 4), (8, .int .i64 ((g.1 : Nat) : Int))]) (fun g => fun w => Strm 25 w B sb (m + 2 * g.1)) (fun g => [(g1, 9, [.string ⟨#[98, 105, 103]⟩, .string ⟨#[109, 97, 120, 105]⟩, .string ⟨#[109, 105, 100, 105]⟩, .string ⟨#[109, 105, 110, 105]⟩])]) (fun g => [⟨g.2.2.1, 237, 2, g.2.1, g.2.2.2.2⟩]) (fun g => []) (fun g => 4 - g.1) (0, 0, .slice none 0 0, [], []) ⟨Nat.zero_le _, Nat.le_refl _, rfl, (fun _ h => by cases h), rfl⟩ ⟨rfl, rfl, rfl, rfl, rfl, rfl, trivial⟩ (fun _ hm => (hm.more rfl (by first | omega | (dsimp only; omega))).pick [0] [0] [] rfl rfl) ?_
 rintro ⟨i, k, v, l, xs⟩ hinv
 replace hinv : i ≤ 4 ∧ k ≤ i ∧ l.length = k ∧ (∀ x ∈ l, SkOk x) ∧ xs = l.flatMap skEnc := hinv
 dsimp only
 refine sr_ ?_
 obtain ⟨hi0, hki, hl, hok, rfl⟩ := hinv
 refine wl_ov (ov_lss rfl rfl) rfl (nn_ (gw_seq ?_))
 refine gw_cond rfl (fun hh => ?_) (fun hh => ?_)
 ·have hi : ((i : Nat) : Int) < 4 := by simpa using hh
  clear hh
  refine gw_skip (nx_then (gw_seq (gw_block (sr_ ?_))))
  obtain ⟨nm, hx⟩ : ∃ x, ([⟨#[98, 105, 103]⟩, ⟨#[109, 97, 120, 105]⟩, ⟨#[109, 105, 100, 105]⟩, ⟨#[109, 105, 110, 105]⟩] : List ByteArray)[i]? = some x := ⟨_, List.getElem?_eq_getElem (by simp; omega)⟩
  have hnm : nm.size ≤ 100 := mem_sz (List.mem_of_getElem? hx) (by decide)
  refine wl_ov (ov_index (j := i) es83 rfl rfl (by omega)) rfl ?_
  refine wl_ov (ov_elem1 (k := 0) (v := .string nm) sc9 rfl (fun _ hm => (SlT.ofBlk (l := [⟨#[98, 105, 103]⟩, ⟨#[109, 97, 120, 105]⟩, ⟨#[109, 105, 100, 105]⟩, ⟨#[109, 105, 110, 105]⟩]) sg_len (hm.blkI 0 rfl))) hx rfl rfl) rfl ?_
  refine sg_ rfl (nn_ (sr_ (mv_ rfl ?_)))
  refine wl_got (γ := Bool) (val := fun v => .bool v) (φ := fun v => True) rfl cb34 rfl rfl rfl rfl (fun wx hm => ((flip_any _ wx B sb _ hm.k (by omega) (by omega) (by omega)).mono fun _ _ ⟨v, he, hS, hg⟩ => ⟨v, trivial, he, hS, hg⟩)) fun f2 _ => ?_
  refine wl_ov (ov_un_not rfl) rfl (nn_ ?_)
  refine gw_cond rfl (fun hh => ?_) (fun hh => ?_)
  ·have hf : f2 = false := by simpa using hh
   clear hh
   refine gw_region (mv_ rfl (mv_ rfl (mv_ rfl ?_)))
   refine wl_buildSlice (e := 3) (cs := [.int .i64 0, .int .i64 1, .int .i64 1, .int .i64 2, .int .i64 3]) rfl (by kernel_rfl) rfl fun g3 => ?_
   refine wl_got (γ := Int) (val := fun v => .int .i64 v) (φ := fun v => v ∈ ([0, 1, 1, 2, 3] : List Int)) rfl cb20 rfl rfl rfl rfl (fun wx hm => (pick_any [0, 1, 1, 2, 3] _ _ _ wx B sb _ hm.k (by omega) (by simp) (by simp) (hm.blkI 0 rfl) (hm.neRow 0 rfl rfl))) fun v4 hv4 => ?_
   have bv4 : 0 ≤ v4 ∧ v4 ≤ 3 := mem_rng hv4 (by decide)
   have bv40 := bv4.1
   have bv41 := bv4.2
   clear bv4
   refine wl_ov (ov_build (cs := [.string nm, .int .i64 v4]) rfl (by kernel_rfl)) rfl ?_
   refine wl_buildSlice (e := 237) (cs := [.string nm, .int .i64 v4]) rfl (by kernel_rfl) rfl fun g5 => ?_
   refine wl_append (news := [.string nm, .int .i64 v4]) 0 0 ap77 rfl rfl rfl rfl rfl rfl rfl (by omega) (by unfold maxLen; omega) rfl rfl fun v2 hv2 => ?_
   refine sg_ rfl (wl_nil (nx_blk_nrm (nx_then (gw_region (ad_ rfl rfl (mv_ rfl (wl_nil ?_)))))))
   exact nx_round (i + 1, k + 1, v2, l ++ [⟨nm, v4⟩], l.flatMap skEnc ++ ([.string nm, .int .i64 v4] : List Value)) ⟨by dsimp only; omega, by dsimp only; omega, by simp [hl], sk_snoc hok ⟨by dsimp only; omega, by dsimp only; omega, by dsimp only; omega⟩, by simp [skEnc]⟩ (by dsimp only; omega) ⟨rfl, rfl, rfl, rfl, rfl, (some_int (by omega)), trivial⟩ (fun _ hm => (hm.more rfl (by first | omega | (dsimp only; omega))).pick [2] [0] [] rfl rfl)
  have hf : f2 = true := by simpa using hh
  clear hh
  refine gw_skip (nx_blk_nrm (nx_then (gw_region (ad_ rfl rfl (mv_ rfl (wl_nil ?_))))))
  exact nx_round (i + 1, k, v, l, l.flatMap skEnc) ⟨by dsimp only; omega, by dsimp only; omega, hl, hok, rfl⟩ (by dsimp only; omega) ⟨rfl, rfl, rfl, rfl, rfl, (some_int (by omega)), trivial⟩ (fun _ hm => (hm.more rfl (by first | omega | (dsimp only; omega))).pick [0] [0] [] rfl rfl)
 have hi : ¬ (((i : Nat) : Int) < 4) := by simpa using hh
 clear hh
 refine gw_exit ?_
 refine nx_then_exit (nx_then_exit ?_)
 refine nx_blk_here ?_
 refine nx_then (gw_seq (sr_ (mv_ rfl ?_)))
 refine wl_got (γ := Bool) (val := fun v => .bool v) (φ := fun v => True) rfl cb34 rfl rfl rfl rfl (fun wx hm => ((flip_any _ wx B sb _ hm.k (by omega) (by omega) (by omega)).mono fun _ _ ⟨v, he, hS, hg⟩ => ⟨v, trivial, he, hS, hg⟩)) fun f6 _ => ?_
 refine nn_ ?_
 refine gw_cond rfl (fun hh => ?_) (fun hh => ?_)
 ·have hf : f6 = true := by simpa using hh
  clear hh
  refine gw_region (mv_ rfl (mv_ rfl ?_))
  refine wl_buildSlice (e := 9) (cs := [.string ⟨#[109, 105, 110, 105]⟩, .string ⟨#[110, 111, 110, 101]⟩, .string ⟨#[98, 105, 103]⟩]) rfl (by kernel_rfl) rfl fun g7 => ?_
  refine wl_got (γ := ByteArray) (val := fun v => .string v) (φ := fun v => v ∈ ([⟨#[109, 105, 110, 105]⟩, ⟨#[110, 111, 110, 101]⟩, ⟨#[98, 105, 103]⟩] : List ByteArray)) rfl cb48 rfl rfl rfl rfl (fun wx hm => (some_any [⟨#[109, 105, 110, 105]⟩, ⟨#[110, 111, 110, 101]⟩, ⟨#[98, 105, 103]⟩] _ _ _ wx B sb _ hm.k (by omega) (by simp) (by simp) (hm.blkI 0 rfl) (hm.neRow 0 rfl rfl))) fun s8 hs8 => ?_
  have zs8 : s8.size ≤ 100 := mem_sz hs8 (by decide)
  refine mv_ rfl ?_
  refine wl_got (γ := Int) (val := fun v => .int .i64 v) (φ := fun v => -2000000000000000 ≤ v ∧ v ≤ 2000000000000000) rfl cb49 rfl rfl rfl rfl (fun wx hm => (odd_any _ _ wx B sb _ hm.k (by omega) (by omega) (by omega) (by omega))) fun v9 hv9 => ?_
  refine wl_ov (ov_build (cs := [.string s8, .int .i64 v9]) rfl (by kernel_rfl)) rfl ?_
  refine wl_buildSlice (e := 237) (cs := [.string s8, .int .i64 v9]) rfl (by kernel_rfl) rfl fun g10 => ?_
  refine wl_append (news := [.string s8, .int .i64 v9]) 0 0 ap77 rfl rfl rfl rfl rfl rfl rfl (by omega) (by unfold maxLen; omega) rfl rfl fun v2 hv2 => ?_
  refine wl_look (R := ∃ A cc, v2 = .slice A (k + 1) cc) (fun wx hm => own_slice (hm.ownI 0 rfl)) ?_
  rintro ⟨A, c, rfl⟩
  refine sg_ rfl (nn_ (sr_ (mv_ rfl (sg_ rfl (nn_ ?_)))))
  refine gw_ret ?_
  refine nx_ret1 rfl rfl fun wx hm => ?_
  exact ⟨A, k + 1, c, l ++ [⟨s8, v9⟩], rfl, by have h := hm.ownI 0 rfl; simpa [skEnc] using h, by simp [hl], sk_snoc hok ⟨by dsimp only; omega, by dsimp only; omega, by dsimp only; omega⟩, by omega, hm.k.more (by omega), hm.g⟩
 have hf : f6 = false := by simpa using hh
 clear hh
 refine gw_skip (nx_then (sr_ ?_))
 refine wl_look (R := ∃ A cc, v = .slice A k cc) (fun wx hm => own_slice (hm.ownI 0 rfl)) ?_
 rintro ⟨A, c, rfl⟩
 refine mv_ rfl (sg_ rfl (nn_ ?_))
 refine gw_ret ?_
 refine nx_ret1 rfl rfl fun wx hm => ?_
 exact ⟨A, k, c, l, rfl, by have h := hm.ownI 0 rfl; simpa [skEnc] using h, hl, hok, by omega, hm.k.more (by omega), hm.g⟩
theorem counterOf_any (q : Nat) (w : World) (B sb m : Nat) (hS : Strm 25 w B sb m) (hm : m ≤ 10000000) (hq : q ≤ 9) :
  Calls Tryz.prog 39 #[.pointer (some ⟨sb, 0, none⟩), .int .i64 ((q : Nat) : Int)] w (fun e w' => ∃ (A0 : Option Addr) (c0 : Nat) (cs : List Cs) (A1 : Option Addr) (n1 c1 : Nat) (sl : List Sk) (A : Option Addr) (n c : Nat) (l : List Bk), e = .returned (.agg #[.slice A0 4 c0, .slice A1 n1 c1, .slice A n c, .int .i64 (stockE cs sl), .int .i64 (checkE cs l)]) ∧ SlT csEnc 2 145 w' A0 4 cs ∧ SlT skEnc 2 237 w' A1 n1 sl ∧ SlT bkEnc 6 181 w' A n l ∧ (∀ x ∈ cs, CsOk x) ∧ (∀ x ∈ sl, SkOk x) ∧ (∀ x ∈ l, BkOk x) ∧ n1 ≤ 5 ∧ n ≤ 9 ∧ Strm 25 w' B sb (m + 2000) ∧ w.grownBy w' (some sb)) := by
 refine gw_enter ⟨27, w, (some sb), []⟩ Tryz.func39 rfl Tryz.ntmps39 rfl (memS (X := []) hS allF_nil allL_nil) ?_
 refine sr_ ?_
 refine wl_alloc zc80 rfl fun g1 => ?_
 refine nn_ (sr_ (mv_ rfl ?_))
 refine wl_callgs (γ := Option Addr × Nat × List Cs) (val := (fun g => .slice g.1 4 g.2.1)) (φ := (fun g => g.2.2.length = 4 ∧ (∀ x ∈ g.2.2, CsOk x))) (m' := m + 40) (fun g => ⟨.slice g.1 4 g.2.1, 145, 2, 4, g.2.2.flatMap csEnc⟩) rfl cb116 rfl rfl rfl rfl (fun wx hm => (ganyClasses_any wx B sb _ hm.k (by omega)).mono fun _ _ ⟨A0, c0, cs, he, ho, hl, hok, hS, hg⟩ => ⟨(A0, c0, cs), he, ⟨hl, hok⟩, hS, hg, ho⟩) ?_
 rintro ⟨A0, c0, cs⟩ hcs
 dsimp only at hcs ⊢
 obtain ⟨hc4, hco⟩ := hcs
 refine mv_ rfl ?_
 refine wl_callgs (γ := Option Addr × Nat × Nat × List Sk) (val := (fun g => .slice g.1 g.2.1 g.2.2.1)) (φ := (fun g => g.2.2.2.length = g.2.1 ∧ (∀ x ∈ g.2.2.2, SkOk x) ∧ g.2.1 ≤ 5)) (m' := m + 40 + 100) (fun g => ⟨.slice g.1 g.2.1 g.2.2.1, 237, 2, g.2.1, g.2.2.2.flatMap skEnc⟩) rfl cb117 rfl rfl rfl rfl (fun wx hm => (gstock_any wx B sb _ hm.k (by omega)).mono fun _ _ ⟨A1, n1, c1, sl, he, ho, hl, hok, hn, hS, hg⟩ => ⟨(A1, n1, c1, sl), he, ⟨hl, hok, hn⟩, hS, hg, ho⟩) ?_
 rintro ⟨A1, n1, c1, sl⟩ hss
 dsimp only at hss ⊢
 obtain ⟨hs1, hso, hn5⟩ := hss
 refine mv_ rfl (mv_ rfl ?_)
 refine wl_callgs (γ := Option Addr × Nat × Nat × List Bk) (val := (fun g => .slice g.1 g.2.1 g.2.2.1)) (φ := (fun g => (∀ b ∈ g.2.2.2, BkOk b) ∧ g.2.1 ≤ 9 ∧ g.2.2.2.length = g.2.1)) (m' := m + 40 + 100 + 1000) (fun g => ⟨.slice g.1 g.2.1 g.2.2.1, 181, 6, g.2.1, g.2.2.2.flatMap bkEnc⟩) rfl cb118 rfl rfl rfl rfl (fun wx hm => (gbookings_own q wx B sb _ hm.k (by omega) hq).mono fun _ _ ⟨A, n, c, l, he, ho, hl, hok, hn, hnc, hS, hg⟩ => ⟨(A, n, c, l), he, ⟨hok, hn, hl⟩, hS, hg, ho⟩) ?_
 rintro ⟨A, n, c, l⟩ hbb
 dsimp only at hbb ⊢
 obtain ⟨hok, hn9, hlen⟩ := hbb
 obtain ⟨SE, hSE⟩ : ∃ E, E = stockE cs sl := ⟨_, rfl⟩
 obtain ⟨KE, hKE⟩ : ∃ E, E = checkE cs l := ⟨_, rfl⟩
 refine wl_ov (ov_build (cs := [.slice A0 4 c0, .slice A1 n1 c1, .slice A n c, .int .i64 0, .int .i64 0]) rfl (by kernel_rfl)) rfl ?_
 refine wl_alloc zc80 rfl fun g2 => ?_
 refine wl_stores (cs' := [.slice A0 4 c0, .slice A1 n1 c1, .slice A n c, .int .i64 0, .int .i64 0]) 0 rz80 rfl rfl rfl rfl rfl rfl rfl rfl ?_
 refine nn_ (gw_seq ?_)
 refine gd (fun wz => Blk wz g1 80 [.slice none 0 0, .slice none 0 0, .slice none 0 0, .int .i64 0, .int .i64 0] ∧ True) mixed (fun _ hm => ⟨hm.bl 1, trivial⟩) fun z => ?_
 refine wt 0 14 1 rfl z (ov_field fo80_0 rfl rfl) ?_
 refine wt 2 14 5 rfl z (ov_field fo80_1 rfl rfl) ?_
 refine wt 5 14 37 rfl z (ov_field fo80_0 rfl rfl) ?_
 refine wt 7 14 165 rfl z (ov_field fo80_2 rfl rfl) ?_
 refine wa_open fun W hW => ?_
 have T255 : W 6 (lb 14 255) [(4, .pointer (some ⟨g1, 0, none⟩)), (5, .pointer (some ⟨g2, 0, none⟩)), (18, .int .i64 SE), (20, .slice A0 4 c0), (21, .pointer (some ⟨g2, 2, none⟩))] (fun w => Strm 25 w B sb (m + 40 + 100 + 1000)) [(g1, 80, [.slice none 0 0, .slice none 0 0, .slice none 0 0, .int .i64 0, .int .i64 0]), (g2, 80, [.slice A0 4 c0, .slice A1 n1 c1, .slice A n c, .int .i64 0, .int .i64 0])] [⟨.slice A n c, 181, 6, n, l.flatMap bkEnc⟩, ⟨.slice A1 n1 c1, 237, 2, n1, sl.flatMap skEnc⟩, ⟨.slice A0 4 c0, 145, 2, 4, cs.flatMap csEnc⟩] [] := by
  skip
  rw [hW]
  refine wa1 8 rfl ?_
  refine lk_ sc78 1 rfl rfl rfl (wl_nil ?_)
  refine nw 14 511 (fun _ hm => ⟨hm.bl 0, trivial⟩) fun z => ?_
  refine wt 10 14 1535 rfl z (ov_field fo80_3 rfl rfl) ?_
  refine wa1 9 rfl ?_
  refine wl_callv (v := .int .i64 KE) rfl cb120 rfl rfl (fun wx hm => (by rw [hKE]; exact bookingsFault_any cs A0 4 c0 l A n c wx (SlT.ofOwn cs_len (hm.ownI 2 rfl) hc4) hco (by omega) (SlT.ofOwn bk_len (hm.ownI 0 rfl) hlen) hok (by omega))) ?_
  refine wl_nil ?_
  refine nw 14 2047 (fun _ hm => ⟨hm.bl 0, trivial⟩) fun z => ?_
  refine wa1 11 rfl ?_
  refine wl_store 1 sc28 rfl rfl rfl rfl rfl rfl ?_
  refine wl_nil ?_
  refine nw 14 4095 (fun _ hm => ⟨hm.bl 0, trivial⟩) fun z => ?_
  refine wt 12 14 8191 rfl z (ov_field fo80_4 rfl rfl) ?_
  refine wa1 13 rfl ?_
  refine wl_store 1 sc28 rfl rfl rfl rfl rfl rfl ?_
  refine wl_nil ?_
  refine nw 14 16383 (fun _ hm => ⟨hm.bl 0, trivial⟩) fun z => ?_
  refine wa_done (by kernel_rfl) ?_
  refine nx_then (sr_ ?_)
  refine wl_ov (ov_loads rz80 rfl (fun _ hm => hm.blkI 1 rfl) rfl rfl) rfl ?_
  refine wl_stores (cs' := [.slice A0 4 c0, .slice A1 n1 c1, .slice A n c, .int .i64 SE, .int .i64 KE]) 0 rz80 rfl rfl rfl rfl rfl rfl rfl rfl ?_
  refine nn_ ?_
  refine gw_ret ?_
  refine nx_retc 0 rfl rz80 rfl rfl rfl fun wx hm => ?_
  exact ⟨A0, c0, cs, A1, n1, c1, sl, A, n, c, l, by rw [← hSE, ← hKE], (SlT.ofOwn cs_len (hm.ownI 2 rfl) hc4), (SlT.ofOwn sk_len (hm.ownI 1 rfl) hs1), (SlT.ofOwn bk_len (hm.ownI 0 rfl) hlen), hco, hso, hok, hn5, hn9, hm.k.more (by omega), hm.g⟩
 have T447 : W 6 (lb 14 447) [(4, .pointer (some ⟨g1, 0, none⟩)), (5, .pointer (some ⟨g2, 0, none⟩)), (18, .int .i64 SE), (19, .pointer (some ⟨g2, 0, none⟩)), (22, .slice A n c)] (fun w => Strm 25 w B sb (m + 40 + 100 + 1000)) [(g1, 80, [.slice none 0 0, .slice none 0 0, .slice none 0 0, .int .i64 0, .int .i64 0]), (g2, 80, [.slice A0 4 c0, .slice A1 n1 c1, .slice A n c, .int .i64 0, .int .i64 0])] [⟨.slice A n c, 181, 6, n, l.flatMap bkEnc⟩, ⟨.slice A1 n1 c1, 237, 2, n1, sl.flatMap skEnc⟩, ⟨.slice A0 4 c0, 145, 2, 4, cs.flatMap csEnc⟩] [] := by
  skip
  rw [hW]
  refine wa1 6 rfl ?_
  refine lk_ sc42 1 rfl rfl rfl (wl_nil ?_)
  refine nw 14 511 (fun _ hm => ⟨hm.bl 0, trivial⟩) fun z => ?_
  refine wt 10 14 1535 rfl z (ov_field fo80_3 rfl rfl) ?_
  refine wa1 9 rfl ?_
  refine wl_callv (v := .int .i64 KE) rfl cb120 rfl rfl (fun wx hm => (by rw [hKE]; exact bookingsFault_any cs A0 4 c0 l A n c wx (SlT.ofOwn cs_len (hm.ownI 2 rfl) hc4) hco (by omega) (SlT.ofOwn bk_len (hm.ownI 0 rfl) hlen) hok (by omega))) ?_
  refine wl_nil ?_
  refine nw 14 2047 (fun _ hm => ⟨hm.bl 0, trivial⟩) fun z => ?_
  refine wa1 11 rfl ?_
  refine wl_store 1 sc28 rfl rfl rfl rfl rfl rfl ?_
  refine wl_nil ?_
  refine nw 14 4095 (fun _ hm => ⟨hm.bl 0, trivial⟩) fun z => ?_
  refine wt 12 14 8191 rfl z (ov_field fo80_4 rfl rfl) ?_
  refine wa1 13 rfl ?_
  refine wl_store 1 sc28 rfl rfl rfl rfl rfl rfl ?_
  refine wl_nil ?_
  refine nw 14 16383 (fun _ hm => ⟨hm.bl 0, trivial⟩) fun z => ?_
  refine wa_done (by kernel_rfl) ?_
  refine nx_then (sr_ ?_)
  refine wl_ov (ov_loads rz80 rfl (fun _ hm => hm.blkI 1 rfl) rfl rfl) rfl ?_
  refine wl_stores (cs' := [.slice A0 4 c0, .slice A1 n1 c1, .slice A n c, .int .i64 SE, .int .i64 KE]) 0 rz80 rfl rfl rfl rfl rfl rfl rfl rfl ?_
  refine nn_ ?_
  refine gw_ret ?_
  refine nx_retc 0 rfl rz80 rfl rfl rfl fun wx hm => ?_
  exact ⟨A0, c0, cs, A1, n1, c1, sl, A, n, c, l, by rw [← hSE, ← hKE], (SlT.ofOwn cs_len (hm.ownI 2 rfl) hc4), (SlT.ofOwn sk_len (hm.ownI 1 rfl) hs1), (SlT.ofOwn bk_len (hm.ownI 0 rfl) hlen), hco, hso, hok, hn5, hn9, hm.k.more (by omega), hm.g⟩
 have J191 : W 7 (lb 14 191) [(4, .pointer (some ⟨g1, 0, none⟩)), (5, .pointer (some ⟨g2, 0, none⟩)), (18, .int .i64 SE), (19, .pointer (some ⟨g2, 0, none⟩)), (21, .pointer (some ⟨g2, 2, none⟩))] (fun w => Strm 25 w B sb (m + 40 + 100 + 1000)) [(g1, 80, [.slice none 0 0, .slice none 0 0, .slice none 0 0, .int .i64 0, .int .i64 0]), (g2, 80, [.slice A0 4 c0, .slice A1 n1 c1, .slice A n c, .int .i64 0, .int .i64 0])] [⟨.slice A n c, 181, 6, n, l.flatMap bkEnc⟩, ⟨.slice A1 n1 c1, 237, 2, n1, sl.flatMap skEnc⟩, ⟨.slice A0 4 c0, 145, 2, 4, cs.flatMap csEnc⟩] [] := by
  skip
  rw [hW]
  refine wa_all [6, 8] (by kernel_rfl) rfl ⟨⟨_, rfl, ?_⟩, ⟨_, rfl, ?_⟩, trivial⟩
  ·refine lk_ sc42 1 rfl rfl rfl (wl_nil ?_)
   refine nw 14 255 (fun _ hm => ⟨hm.bl 0, trivial⟩) fun z => ?_
   have h := T255 
   rw [hW] at h
   refine wa_weak ?_ ?_ h
   ·exact ⟨rfl, rfl, rfl, rfl, rfl, trivial⟩
   exact fun _ hm => hm.pick [0, 1] [0, 1, 2] [] rfl rfl
  refine lk_ sc78 1 rfl rfl rfl (wl_nil ?_)
  refine nw 14 447 (fun _ hm => ⟨hm.bl 0, trivial⟩) fun z => ?_
  have h := T447 
  rw [hW] at h
  refine wa_weak ?_ ?_ h
  ·exact ⟨rfl, rfl, rfl, rfl, rfl, trivial⟩
  exact fun _ hm => hm.pick [0, 1] [0, 1, 2] [] rfl rfl
 have T495 : W 6 (lb 14 495) [(4, .pointer (some ⟨g1, 0, none⟩)), (5, .pointer (some ⟨g2, 0, none⟩)), (15, .slice A0 4 c0), (17, .slice A1 n1 c1), (20, .slice A0 4 c0), (22, .slice A n c)] (fun w => Strm 25 w B sb (m + 40 + 100 + 1000)) [(g1, 80, [.slice none 0 0, .slice none 0 0, .slice none 0 0, .int .i64 0, .int .i64 0]), (g2, 80, [.slice A0 4 c0, .slice A1 n1 c1, .slice A n c, .int .i64 0, .int .i64 0])] [⟨.slice A n c, 181, 6, n, l.flatMap bkEnc⟩, ⟨.slice A1 n1 c1, 237, 2, n1, sl.flatMap skEnc⟩, ⟨.slice A0 4 c0, 145, 2, 4, cs.flatMap csEnc⟩] [] := by
  skip
  rw [hW]
  refine wa1 4 rfl ?_
  refine wl_callv (v := .int .i64 SE) rfl cb119 rfl rfl (fun wx hm => (by rw [hSE]; exact stockFault_any cs A0 4 c0 sl A1 n1 c1 wx (SlT.ofOwn cs_len (hm.ownI 2 rfl) hc4) hco (by omega) (SlT.ofOwn sk_len (hm.ownI 1 rfl) hs1) hso (by omega))) ?_
  refine wl_nil ?_
  refine nw 14 511 (fun _ hm => ⟨hm.bl 0, trivial⟩) fun z => ?_
  refine wt 10 14 1535 rfl z (ov_field fo80_3 rfl rfl) ?_
  refine wa1 9 rfl ?_
  refine wl_callv (v := .int .i64 KE) rfl cb120 rfl rfl (fun wx hm => (by rw [hKE]; exact bookingsFault_any cs A0 4 c0 l A n c wx (SlT.ofOwn cs_len (hm.ownI 2 rfl) hc4) hco (by omega) (SlT.ofOwn bk_len (hm.ownI 0 rfl) hlen) hok (by omega))) ?_
  refine wl_nil ?_
  refine nw 14 2047 (fun _ hm => ⟨hm.bl 0, trivial⟩) fun z => ?_
  refine wa1 11 rfl ?_
  refine wl_store 1 sc28 rfl rfl rfl rfl rfl rfl ?_
  refine wl_nil ?_
  refine nw 14 4095 (fun _ hm => ⟨hm.bl 0, trivial⟩) fun z => ?_
  refine wt 12 14 8191 rfl z (ov_field fo80_4 rfl rfl) ?_
  refine wa1 13 rfl ?_
  refine wl_store 1 sc28 rfl rfl rfl rfl rfl rfl ?_
  refine wl_nil ?_
  refine nw 14 16383 (fun _ hm => ⟨hm.bl 0, trivial⟩) fun z => ?_
  refine wa_done (by kernel_rfl) ?_
  refine nx_then (sr_ ?_)
  refine wl_ov (ov_loads rz80 rfl (fun _ hm => hm.blkI 1 rfl) rfl rfl) rfl ?_
  refine wl_stores (cs' := [.slice A0 4 c0, .slice A1 n1 c1, .slice A n c, .int .i64 SE, .int .i64 KE]) 0 rz80 rfl rfl rfl rfl rfl rfl rfl rfl ?_
  refine nn_ ?_
  refine gw_ret ?_
  refine nx_retc 0 rfl rz80 rfl rfl rfl fun wx hm => ?_
  exact ⟨A0, c0, cs, A1, n1, c1, sl, A, n, c, l, by rw [← hSE, ← hKE], (SlT.ofOwn cs_len (hm.ownI 2 rfl) hc4), (SlT.ofOwn sk_len (hm.ownI 1 rfl) hs1), (SlT.ofOwn bk_len (hm.ownI 0 rfl) hlen), hco, hso, hok, hn5, hn9, hm.k.more (by omega), hm.g⟩
 have J239 : W 7 (lb 14 239) [(4, .pointer (some ⟨g1, 0, none⟩)), (5, .pointer (some ⟨g2, 0, none⟩)), (15, .slice A0 4 c0), (17, .slice A1 n1 c1), (20, .slice A0 4 c0), (21, .pointer (some ⟨g2, 2, none⟩))] (fun w => Strm 25 w B sb (m + 40 + 100 + 1000)) [(g1, 80, [.slice none 0 0, .slice none 0 0, .slice none 0 0, .int .i64 0, .int .i64 0]), (g2, 80, [.slice A0 4 c0, .slice A1 n1 c1, .slice A n c, .int .i64 0, .int .i64 0])] [⟨.slice A n c, 181, 6, n, l.flatMap bkEnc⟩, ⟨.slice A1 n1 c1, 237, 2, n1, sl.flatMap skEnc⟩, ⟨.slice A0 4 c0, 145, 2, 4, cs.flatMap csEnc⟩] [] := by
  skip
  rw [hW]
  refine wa_all [4, 8] (by kernel_rfl) rfl ⟨⟨_, rfl, ?_⟩, ⟨_, rfl, ?_⟩, trivial⟩
  ·refine wl_callv (v := .int .i64 SE) rfl cb119 rfl rfl (fun wx hm => (by rw [hSE]; exact stockFault_any cs A0 4 c0 sl A1 n1 c1 wx (SlT.ofOwn cs_len (hm.ownI 2 rfl) hc4) hco (by omega) (SlT.ofOwn sk_len (hm.ownI 1 rfl) hs1) hso (by omega))) ?_
   refine wl_nil ?_
   refine nw 14 255 (fun _ hm => ⟨hm.bl 0, trivial⟩) fun z => ?_
   have h := T255 
   rw [hW] at h
   refine wa_weak ?_ ?_ h
   ·exact ⟨rfl, rfl, rfl, rfl, rfl, trivial⟩
   exact fun _ hm => hm.pick [0, 1] [0, 1, 2] [] rfl rfl
  refine lk_ sc78 1 rfl rfl rfl (wl_nil ?_)
  refine nw 14 495 (fun _ hm => ⟨hm.bl 0, trivial⟩) fun z => ?_
  have h := T495 
  rw [hW] at h
  refine wa_weak ?_ ?_ h
  ·exact ⟨rfl, rfl, rfl, rfl, rfl, rfl, trivial⟩
  exact fun _ hm => hm.pick [0, 1] [0, 1, 2] [] rfl rfl
 have J431 : W 7 (lb 14 431) [(4, .pointer (some ⟨g1, 0, none⟩)), (5, .pointer (some ⟨g2, 0, none⟩)), (15, .slice A0 4 c0), (17, .slice A1 n1 c1), (19, .pointer (some ⟨g2, 0, none⟩)), (22, .slice A n c)] (fun w => Strm 25 w B sb (m + 40 + 100 + 1000)) [(g1, 80, [.slice none 0 0, .slice none 0 0, .slice none 0 0, .int .i64 0, .int .i64 0]), (g2, 80, [.slice A0 4 c0, .slice A1 n1 c1, .slice A n c, .int .i64 0, .int .i64 0])] [⟨.slice A n c, 181, 6, n, l.flatMap bkEnc⟩, ⟨.slice A1 n1 c1, 237, 2, n1, sl.flatMap skEnc⟩, ⟨.slice A0 4 c0, 145, 2, 4, cs.flatMap csEnc⟩] [] := by
  skip
  rw [hW]
  refine wa_all [4, 6] (by kernel_rfl) rfl ⟨⟨_, rfl, ?_⟩, ⟨_, rfl, ?_⟩, trivial⟩
  ·refine wl_callv (v := .int .i64 SE) rfl cb119 rfl rfl (fun wx hm => (by rw [hSE]; exact stockFault_any cs A0 4 c0 sl A1 n1 c1 wx (SlT.ofOwn cs_len (hm.ownI 2 rfl) hc4) hco (by omega) (SlT.ofOwn sk_len (hm.ownI 1 rfl) hs1) hso (by omega))) ?_
   refine wl_nil ?_
   refine nw 14 447 (fun _ hm => ⟨hm.bl 0, trivial⟩) fun z => ?_
   have h := T447 
   rw [hW] at h
   refine wa_weak ?_ ?_ h
   ·exact ⟨rfl, rfl, rfl, rfl, rfl, trivial⟩
   exact fun _ hm => hm.pick [0, 1] [0, 1, 2] [] rfl rfl
  refine lk_ sc42 1 rfl rfl rfl (wl_nil ?_)
  refine nw 14 495 (fun _ hm => ⟨hm.bl 0, trivial⟩) fun z => ?_
  have h := T495 
  rw [hW] at h
  refine wa_weak ?_ ?_ h
  ·exact ⟨rfl, rfl, rfl, rfl, rfl, rfl, trivial⟩
  exact fun _ hm => hm.pick [0, 1] [0, 1, 2] [] rfl rfl
 have J175 : W 8 (lb 14 175) [(4, .pointer (some ⟨g1, 0, none⟩)), (5, .pointer (some ⟨g2, 0, none⟩)), (15, .slice A0 4 c0), (17, .slice A1 n1 c1), (19, .pointer (some ⟨g2, 0, none⟩)), (21, .pointer (some ⟨g2, 2, none⟩))] (fun w => Strm 25 w B sb (m + 40 + 100 + 1000)) [(g1, 80, [.slice none 0 0, .slice none 0 0, .slice none 0 0, .int .i64 0, .int .i64 0]), (g2, 80, [.slice A0 4 c0, .slice A1 n1 c1, .slice A n c, .int .i64 0, .int .i64 0])] [⟨.slice A n c, 181, 6, n, l.flatMap bkEnc⟩, ⟨.slice A1 n1 c1, 237, 2, n1, sl.flatMap skEnc⟩, ⟨.slice A0 4 c0, 145, 2, 4, cs.flatMap csEnc⟩] [] := by
  skip
  rw [hW]
  refine wa_all [4, 6, 8] (by kernel_rfl) rfl ⟨⟨_, rfl, ?_⟩, ⟨_, rfl, ?_⟩, ⟨_, rfl, ?_⟩, trivial⟩
  ·refine wl_callv (v := .int .i64 SE) rfl cb119 rfl rfl (fun wx hm => (by rw [hSE]; exact stockFault_any cs A0 4 c0 sl A1 n1 c1 wx (SlT.ofOwn cs_len (hm.ownI 2 rfl) hc4) hco (by omega) (SlT.ofOwn sk_len (hm.ownI 1 rfl) hs1) hso (by omega))) ?_
   refine wl_nil ?_
   refine nw 14 191 (fun _ hm => ⟨hm.bl 0, trivial⟩) fun z => ?_
   have h := J191 
   rw [hW] at h
   refine wa_weak ?_ ?_ h
   ·exact ⟨rfl, rfl, rfl, rfl, rfl, trivial⟩
   exact fun _ hm => hm.pick [0, 1] [0, 1, 2] [] rfl rfl
  ·refine lk_ sc42 1 rfl rfl rfl (wl_nil ?_)
   refine nw 14 239 (fun _ hm => ⟨hm.bl 0, trivial⟩) fun z => ?_
   have h := J239 
   rw [hW] at h
   refine wa_weak ?_ ?_ h
   ·exact ⟨rfl, rfl, rfl, rfl, rfl, rfl, trivial⟩
   exact fun _ hm => hm.pick [0, 1] [0, 1, 2] [] rfl rfl
  refine lk_ sc78 1 rfl rfl rfl (wl_nil ?_)
  refine nw 14 431 (fun _ hm => ⟨hm.bl 0, trivial⟩) fun z => ?_
  have h := J431 
  rw [hW] at h
  refine wa_weak ?_ ?_ h
  ·exact ⟨rfl, rfl, rfl, rfl, rfl, rfl, trivial⟩
  exact fun _ hm => hm.pick [0, 1] [0, 1, 2] [] rfl rfl
 have T487 : W 7 (lb 14 487) [(4, .pointer (some ⟨g1, 0, none⟩)), (5, .pointer (some ⟨g2, 0, none⟩)), (15, .slice A0 4 c0), (16, .pointer (some ⟨g2, 1, none⟩)), (20, .slice A0 4 c0), (22, .slice A n c)] (fun w => Strm 25 w B sb (m + 40 + 100 + 1000)) [(g1, 80, [.slice none 0 0, .slice none 0 0, .slice none 0 0, .int .i64 0, .int .i64 0]), (g2, 80, [.slice A0 4 c0, .slice A1 n1 c1, .slice A n c, .int .i64 0, .int .i64 0])] [⟨.slice A n c, 181, 6, n, l.flatMap bkEnc⟩, ⟨.slice A1 n1 c1, 237, 2, n1, sl.flatMap skEnc⟩, ⟨.slice A0 4 c0, 145, 2, 4, cs.flatMap csEnc⟩] [] := by
  skip
  rw [hW]
  refine wa1 3 rfl ?_
  refine lk_ sc77 1 rfl rfl rfl (wl_nil ?_)
  refine nw 14 495 (fun _ hm => ⟨hm.bl 0, trivial⟩) fun z => ?_
  refine wa1 4 rfl ?_
  refine wl_callv (v := .int .i64 SE) rfl cb119 rfl rfl (fun wx hm => (by rw [hSE]; exact stockFault_any cs A0 4 c0 sl A1 n1 c1 wx (SlT.ofOwn cs_len (hm.ownI 2 rfl) hc4) hco (by omega) (SlT.ofOwn sk_len (hm.ownI 1 rfl) hs1) hso (by omega))) ?_
  refine wl_nil ?_
  refine nw 14 511 (fun _ hm => ⟨hm.bl 0, trivial⟩) fun z => ?_
  refine wt 10 14 1535 rfl z (ov_field fo80_3 rfl rfl) ?_
  refine wa1 9 rfl ?_
  refine wl_callv (v := .int .i64 KE) rfl cb120 rfl rfl (fun wx hm => (by rw [hKE]; exact bookingsFault_any cs A0 4 c0 l A n c wx (SlT.ofOwn cs_len (hm.ownI 2 rfl) hc4) hco (by omega) (SlT.ofOwn bk_len (hm.ownI 0 rfl) hlen) hok (by omega))) ?_
  refine wl_nil ?_
  refine nw 14 2047 (fun _ hm => ⟨hm.bl 0, trivial⟩) fun z => ?_
  refine wa1 11 rfl ?_
  refine wl_store 1 sc28 rfl rfl rfl rfl rfl rfl ?_
  refine wl_nil ?_
  refine nw 14 4095 (fun _ hm => ⟨hm.bl 0, trivial⟩) fun z => ?_
  refine wt 12 14 8191 rfl z (ov_field fo80_4 rfl rfl) ?_
  refine wa1 13 rfl ?_
  refine wl_store 1 sc28 rfl rfl rfl rfl rfl rfl ?_
  refine wl_nil ?_
  refine nw 14 16383 (fun _ hm => ⟨hm.bl 0, trivial⟩) fun z => ?_
  refine wa_done (by kernel_rfl) ?_
  refine nx_then (sr_ ?_)
  refine wl_ov (ov_loads rz80 rfl (fun _ hm => hm.blkI 1 rfl) rfl rfl) rfl ?_
  refine wl_stores (cs' := [.slice A0 4 c0, .slice A1 n1 c1, .slice A n c, .int .i64 SE, .int .i64 KE]) 0 rz80 rfl rfl rfl rfl rfl rfl rfl rfl ?_
  refine nn_ ?_
  refine gw_ret ?_
  refine nx_retc 0 rfl rz80 rfl rfl rfl fun wx hm => ?_
  exact ⟨A0, c0, cs, A1, n1, c1, sl, A, n, c, l, by rw [← hSE, ← hKE], (SlT.ofOwn cs_len (hm.ownI 2 rfl) hc4), (SlT.ofOwn sk_len (hm.ownI 1 rfl) hs1), (SlT.ofOwn bk_len (hm.ownI 0 rfl) hlen), hco, hso, hok, hn5, hn9, hm.k.more (by omega), hm.g⟩
 have J231 : W 8 (lb 14 231) [(4, .pointer (some ⟨g1, 0, none⟩)), (5, .pointer (some ⟨g2, 0, none⟩)), (15, .slice A0 4 c0), (16, .pointer (some ⟨g2, 1, none⟩)), (20, .slice A0 4 c0), (21, .pointer (some ⟨g2, 2, none⟩))] (fun w => Strm 25 w B sb (m + 40 + 100 + 1000)) [(g1, 80, [.slice none 0 0, .slice none 0 0, .slice none 0 0, .int .i64 0, .int .i64 0]), (g2, 80, [.slice A0 4 c0, .slice A1 n1 c1, .slice A n c, .int .i64 0, .int .i64 0])] [⟨.slice A n c, 181, 6, n, l.flatMap bkEnc⟩, ⟨.slice A1 n1 c1, 237, 2, n1, sl.flatMap skEnc⟩, ⟨.slice A0 4 c0, 145, 2, 4, cs.flatMap csEnc⟩] [] := by
  skip
  rw [hW]
  refine wa_all [3, 8] (by kernel_rfl) rfl ⟨⟨_, rfl, ?_⟩, ⟨_, rfl, ?_⟩, trivial⟩
  ·refine lk_ sc77 1 rfl rfl rfl (wl_nil ?_)
   refine nw 14 239 (fun _ hm => ⟨hm.bl 0, trivial⟩) fun z => ?_
   have h := J239 
   rw [hW] at h
   refine wa_weak ?_ ?_ h
   ·exact ⟨rfl, rfl, rfl, rfl, rfl, rfl, trivial⟩
   exact fun _ hm => hm.pick [0, 1] [0, 1, 2] [] rfl rfl
  refine lk_ sc78 1 rfl rfl rfl (wl_nil ?_)
  refine nw 14 487 (fun _ hm => ⟨hm.bl 0, trivial⟩) fun z => ?_
  have h := T487 
  rw [hW] at h
  refine wa_weak ?_ ?_ h
  ·exact ⟨rfl, rfl, rfl, rfl, rfl, rfl, trivial⟩
  exact fun _ hm => hm.pick [0, 1] [0, 1, 2] [] rfl rfl
 have J423 : W 8 (lb 14 423) [(4, .pointer (some ⟨g1, 0, none⟩)), (5, .pointer (some ⟨g2, 0, none⟩)), (15, .slice A0 4 c0), (16, .pointer (some ⟨g2, 1, none⟩)), (19, .pointer (some ⟨g2, 0, none⟩)), (22, .slice A n c)] (fun w => Strm 25 w B sb (m + 40 + 100 + 1000)) [(g1, 80, [.slice none 0 0, .slice none 0 0, .slice none 0 0, .int .i64 0, .int .i64 0]), (g2, 80, [.slice A0 4 c0, .slice A1 n1 c1, .slice A n c, .int .i64 0, .int .i64 0])] [⟨.slice A n c, 181, 6, n, l.flatMap bkEnc⟩, ⟨.slice A1 n1 c1, 237, 2, n1, sl.flatMap skEnc⟩, ⟨.slice A0 4 c0, 145, 2, 4, cs.flatMap csEnc⟩] [] := by
  skip
  rw [hW]
  refine wa_all [3, 6] (by kernel_rfl) rfl ⟨⟨_, rfl, ?_⟩, ⟨_, rfl, ?_⟩, trivial⟩
  ·refine lk_ sc77 1 rfl rfl rfl (wl_nil ?_)
   refine nw 14 431 (fun _ hm => ⟨hm.bl 0, trivial⟩) fun z => ?_
   have h := J431 
   rw [hW] at h
   refine wa_weak ?_ ?_ h
   ·exact ⟨rfl, rfl, rfl, rfl, rfl, rfl, trivial⟩
   exact fun _ hm => hm.pick [0, 1] [0, 1, 2] [] rfl rfl
  refine lk_ sc42 1 rfl rfl rfl (wl_nil ?_)
  refine nw 14 487 (fun _ hm => ⟨hm.bl 0, trivial⟩) fun z => ?_
  have h := T487 
  rw [hW] at h
  refine wa_weak ?_ ?_ h
  ·exact ⟨rfl, rfl, rfl, rfl, rfl, rfl, trivial⟩
  exact fun _ hm => hm.pick [0, 1] [0, 1, 2] [] rfl rfl
 have J167 : W 9 (lb 14 167) [(4, .pointer (some ⟨g1, 0, none⟩)), (5, .pointer (some ⟨g2, 0, none⟩)), (15, .slice A0 4 c0), (16, .pointer (some ⟨g2, 1, none⟩)), (19, .pointer (some ⟨g2, 0, none⟩)), (21, .pointer (some ⟨g2, 2, none⟩))] (fun w => Strm 25 w B sb (m + 40 + 100 + 1000)) [(g1, 80, [.slice none 0 0, .slice none 0 0, .slice none 0 0, .int .i64 0, .int .i64 0]), (g2, 80, [.slice A0 4 c0, .slice A1 n1 c1, .slice A n c, .int .i64 0, .int .i64 0])] [⟨.slice A n c, 181, 6, n, l.flatMap bkEnc⟩, ⟨.slice A1 n1 c1, 237, 2, n1, sl.flatMap skEnc⟩, ⟨.slice A0 4 c0, 145, 2, 4, cs.flatMap csEnc⟩] [] := by
  skip
  rw [hW]
  refine wa_all [3, 6, 8] (by kernel_rfl) rfl ⟨⟨_, rfl, ?_⟩, ⟨_, rfl, ?_⟩, ⟨_, rfl, ?_⟩, trivial⟩
  ·refine lk_ sc77 1 rfl rfl rfl (wl_nil ?_)
   refine nw 14 175 (fun _ hm => ⟨hm.bl 0, trivial⟩) fun z => ?_
   have h := J175 
   rw [hW] at h
   refine wa_weak ?_ ?_ h
   ·exact ⟨rfl, rfl, rfl, rfl, rfl, rfl, trivial⟩
   exact fun _ hm => hm.pick [0, 1] [0, 1, 2] [] rfl rfl
  ·refine lk_ sc42 1 rfl rfl rfl (wl_nil ?_)
   refine nw 14 231 (fun _ hm => ⟨hm.bl 0, trivial⟩) fun z => ?_
   have h := J231 
   rw [hW] at h
   refine wa_weak ?_ ?_ h
   ·exact ⟨rfl, rfl, rfl, rfl, rfl, rfl, trivial⟩
   exact fun _ hm => hm.pick [0, 1] [0, 1, 2] [] rfl rfl
  refine lk_ sc78 1 rfl rfl rfl (wl_nil ?_)
  refine nw 14 423 (fun _ hm => ⟨hm.bl 0, trivial⟩) fun z => ?_
  have h := J423 
  rw [hW] at h
  refine wa_weak ?_ ?_ h
  ·exact ⟨rfl, rfl, rfl, rfl, rfl, rfl, trivial⟩
  exact fun _ hm => hm.pick [0, 1] [0, 1, 2] [] rfl rfl
 have T493 : W 7 (lb 14 493) [(4, .pointer (some ⟨g1, 0, none⟩)), (5, .pointer (some ⟨g2, 0, none⟩)), (14, .pointer (some ⟨g2, 0, none⟩)), (17, .slice A1 n1 c1), (20, .slice A0 4 c0), (22, .slice A n c)] (fun w => Strm 25 w B sb (m + 40 + 100 + 1000)) [(g1, 80, [.slice none 0 0, .slice none 0 0, .slice none 0 0, .int .i64 0, .int .i64 0]), (g2, 80, [.slice A0 4 c0, .slice A1 n1 c1, .slice A n c, .int .i64 0, .int .i64 0])] [⟨.slice A n c, 181, 6, n, l.flatMap bkEnc⟩, ⟨.slice A1 n1 c1, 237, 2, n1, sl.flatMap skEnc⟩, ⟨.slice A0 4 c0, 145, 2, 4, cs.flatMap csEnc⟩] [] := by
  skip
  rw [hW]
  refine wa1 1 rfl ?_
  refine lk_ sc42 1 rfl rfl rfl (wl_nil ?_)
  refine nw 14 495 (fun _ hm => ⟨hm.bl 0, trivial⟩) fun z => ?_
  refine wa1 4 rfl ?_
  refine wl_callv (v := .int .i64 SE) rfl cb119 rfl rfl (fun wx hm => (by rw [hSE]; exact stockFault_any cs A0 4 c0 sl A1 n1 c1 wx (SlT.ofOwn cs_len (hm.ownI 2 rfl) hc4) hco (by omega) (SlT.ofOwn sk_len (hm.ownI 1 rfl) hs1) hso (by omega))) ?_
  refine wl_nil ?_
  refine nw 14 511 (fun _ hm => ⟨hm.bl 0, trivial⟩) fun z => ?_
  refine wt 10 14 1535 rfl z (ov_field fo80_3 rfl rfl) ?_
  refine wa1 9 rfl ?_
  refine wl_callv (v := .int .i64 KE) rfl cb120 rfl rfl (fun wx hm => (by rw [hKE]; exact bookingsFault_any cs A0 4 c0 l A n c wx (SlT.ofOwn cs_len (hm.ownI 2 rfl) hc4) hco (by omega) (SlT.ofOwn bk_len (hm.ownI 0 rfl) hlen) hok (by omega))) ?_
  refine wl_nil ?_
  refine nw 14 2047 (fun _ hm => ⟨hm.bl 0, trivial⟩) fun z => ?_
  refine wa1 11 rfl ?_
  refine wl_store 1 sc28 rfl rfl rfl rfl rfl rfl ?_
  refine wl_nil ?_
  refine nw 14 4095 (fun _ hm => ⟨hm.bl 0, trivial⟩) fun z => ?_
  refine wt 12 14 8191 rfl z (ov_field fo80_4 rfl rfl) ?_
  refine wa1 13 rfl ?_
  refine wl_store 1 sc28 rfl rfl rfl rfl rfl rfl ?_
  refine wl_nil ?_
  refine nw 14 16383 (fun _ hm => ⟨hm.bl 0, trivial⟩) fun z => ?_
  refine wa_done (by kernel_rfl) ?_
  refine nx_then (sr_ ?_)
  refine wl_ov (ov_loads rz80 rfl (fun _ hm => hm.blkI 1 rfl) rfl rfl) rfl ?_
  refine wl_stores (cs' := [.slice A0 4 c0, .slice A1 n1 c1, .slice A n c, .int .i64 SE, .int .i64 KE]) 0 rz80 rfl rfl rfl rfl rfl rfl rfl rfl ?_
  refine nn_ ?_
  refine gw_ret ?_
  refine nx_retc 0 rfl rz80 rfl rfl rfl fun wx hm => ?_
  exact ⟨A0, c0, cs, A1, n1, c1, sl, A, n, c, l, by rw [← hSE, ← hKE], (SlT.ofOwn cs_len (hm.ownI 2 rfl) hc4), (SlT.ofOwn sk_len (hm.ownI 1 rfl) hs1), (SlT.ofOwn bk_len (hm.ownI 0 rfl) hlen), hco, hso, hok, hn5, hn9, hm.k.more (by omega), hm.g⟩
 have J237 : W 8 (lb 14 237) [(4, .pointer (some ⟨g1, 0, none⟩)), (5, .pointer (some ⟨g2, 0, none⟩)), (14, .pointer (some ⟨g2, 0, none⟩)), (17, .slice A1 n1 c1), (20, .slice A0 4 c0), (21, .pointer (some ⟨g2, 2, none⟩))] (fun w => Strm 25 w B sb (m + 40 + 100 + 1000)) [(g1, 80, [.slice none 0 0, .slice none 0 0, .slice none 0 0, .int .i64 0, .int .i64 0]), (g2, 80, [.slice A0 4 c0, .slice A1 n1 c1, .slice A n c, .int .i64 0, .int .i64 0])] [⟨.slice A n c, 181, 6, n, l.flatMap bkEnc⟩, ⟨.slice A1 n1 c1, 237, 2, n1, sl.flatMap skEnc⟩, ⟨.slice A0 4 c0, 145, 2, 4, cs.flatMap csEnc⟩] [] := by
  skip
  rw [hW]
  refine wa_all [1, 8] (by kernel_rfl) rfl ⟨⟨_, rfl, ?_⟩, ⟨_, rfl, ?_⟩, trivial⟩
  ·refine lk_ sc42 1 rfl rfl rfl (wl_nil ?_)
   refine nw 14 239 (fun _ hm => ⟨hm.bl 0, trivial⟩) fun z => ?_
   have h := J239 
   rw [hW] at h
   refine wa_weak ?_ ?_ h
   ·exact ⟨rfl, rfl, rfl, rfl, rfl, rfl, trivial⟩
   exact fun _ hm => hm.pick [0, 1] [0, 1, 2] [] rfl rfl
  refine lk_ sc78 1 rfl rfl rfl (wl_nil ?_)
  refine nw 14 493 (fun _ hm => ⟨hm.bl 0, trivial⟩) fun z => ?_
  have h := T493 
  rw [hW] at h
  refine wa_weak ?_ ?_ h
  ·exact ⟨rfl, rfl, rfl, rfl, rfl, rfl, trivial⟩
  exact fun _ hm => hm.pick [0, 1] [0, 1, 2] [] rfl rfl
 have J429 : W 8 (lb 14 429) [(4, .pointer (some ⟨g1, 0, none⟩)), (5, .pointer (some ⟨g2, 0, none⟩)), (14, .pointer (some ⟨g2, 0, none⟩)), (17, .slice A1 n1 c1), (19, .pointer (some ⟨g2, 0, none⟩)), (22, .slice A n c)] (fun w => Strm 25 w B sb (m + 40 + 100 + 1000)) [(g1, 80, [.slice none 0 0, .slice none 0 0, .slice none 0 0, .int .i64 0, .int .i64 0]), (g2, 80, [.slice A0 4 c0, .slice A1 n1 c1, .slice A n c, .int .i64 0, .int .i64 0])] [⟨.slice A n c, 181, 6, n, l.flatMap bkEnc⟩, ⟨.slice A1 n1 c1, 237, 2, n1, sl.flatMap skEnc⟩, ⟨.slice A0 4 c0, 145, 2, 4, cs.flatMap csEnc⟩] [] := by
  skip
  rw [hW]
  refine wa_all [1, 6] (by kernel_rfl) rfl ⟨⟨_, rfl, ?_⟩, ⟨_, rfl, ?_⟩, trivial⟩
  ·refine lk_ sc42 1 rfl rfl rfl (wl_nil ?_)
   refine nw 14 431 (fun _ hm => ⟨hm.bl 0, trivial⟩) fun z => ?_
   have h := J431 
   rw [hW] at h
   refine wa_weak ?_ ?_ h
   ·exact ⟨rfl, rfl, rfl, rfl, rfl, rfl, trivial⟩
   exact fun _ hm => hm.pick [0, 1] [0, 1, 2] [] rfl rfl
  refine lk_ sc42 1 rfl rfl rfl (wl_nil ?_)
  refine nw 14 493 (fun _ hm => ⟨hm.bl 0, trivial⟩) fun z => ?_
  have h := T493 
  rw [hW] at h
  refine wa_weak ?_ ?_ h
  ·exact ⟨rfl, rfl, rfl, rfl, rfl, rfl, trivial⟩
  exact fun _ hm => hm.pick [0, 1] [0, 1, 2] [] rfl rfl
 have J173 : W 9 (lb 14 173) [(4, .pointer (some ⟨g1, 0, none⟩)), (5, .pointer (some ⟨g2, 0, none⟩)), (14, .pointer (some ⟨g2, 0, none⟩)), (17, .slice A1 n1 c1), (19, .pointer (some ⟨g2, 0, none⟩)), (21, .pointer (some ⟨g2, 2, none⟩))] (fun w => Strm 25 w B sb (m + 40 + 100 + 1000)) [(g1, 80, [.slice none 0 0, .slice none 0 0, .slice none 0 0, .int .i64 0, .int .i64 0]), (g2, 80, [.slice A0 4 c0, .slice A1 n1 c1, .slice A n c, .int .i64 0, .int .i64 0])] [⟨.slice A n c, 181, 6, n, l.flatMap bkEnc⟩, ⟨.slice A1 n1 c1, 237, 2, n1, sl.flatMap skEnc⟩, ⟨.slice A0 4 c0, 145, 2, 4, cs.flatMap csEnc⟩] [] := by
  skip
  rw [hW]
  refine wa_all [1, 6, 8] (by kernel_rfl) rfl ⟨⟨_, rfl, ?_⟩, ⟨_, rfl, ?_⟩, ⟨_, rfl, ?_⟩, trivial⟩
  ·refine lk_ sc42 1 rfl rfl rfl (wl_nil ?_)
   refine nw 14 175 (fun _ hm => ⟨hm.bl 0, trivial⟩) fun z => ?_
   have h := J175 
   rw [hW] at h
   refine wa_weak ?_ ?_ h
   ·exact ⟨rfl, rfl, rfl, rfl, rfl, rfl, trivial⟩
   exact fun _ hm => hm.pick [0, 1] [0, 1, 2] [] rfl rfl
  ·refine lk_ sc42 1 rfl rfl rfl (wl_nil ?_)
   refine nw 14 237 (fun _ hm => ⟨hm.bl 0, trivial⟩) fun z => ?_
   have h := J237 
   rw [hW] at h
   refine wa_weak ?_ ?_ h
   ·exact ⟨rfl, rfl, rfl, rfl, rfl, rfl, trivial⟩
   exact fun _ hm => hm.pick [0, 1] [0, 1, 2] [] rfl rfl
  refine lk_ sc78 1 rfl rfl rfl (wl_nil ?_)
  refine nw 14 429 (fun _ hm => ⟨hm.bl 0, trivial⟩) fun z => ?_
  have h := J429 
  rw [hW] at h
  refine wa_weak ?_ ?_ h
  ·exact ⟨rfl, rfl, rfl, rfl, rfl, rfl, trivial⟩
  exact fun _ hm => hm.pick [0, 1] [0, 1, 2] [] rfl rfl
 have J485 : W 8 (lb 14 485) [(4, .pointer (some ⟨g1, 0, none⟩)), (5, .pointer (some ⟨g2, 0, none⟩)), (14, .pointer (some ⟨g2, 0, none⟩)), (16, .pointer (some ⟨g2, 1, none⟩)), (20, .slice A0 4 c0), (22, .slice A n c)] (fun w => Strm 25 w B sb (m + 40 + 100 + 1000)) [(g1, 80, [.slice none 0 0, .slice none 0 0, .slice none 0 0, .int .i64 0, .int .i64 0]), (g2, 80, [.slice A0 4 c0, .slice A1 n1 c1, .slice A n c, .int .i64 0, .int .i64 0])] [⟨.slice A n c, 181, 6, n, l.flatMap bkEnc⟩, ⟨.slice A1 n1 c1, 237, 2, n1, sl.flatMap skEnc⟩, ⟨.slice A0 4 c0, 145, 2, 4, cs.flatMap csEnc⟩] [] := by
  skip
  rw [hW]
  refine wa_all [1, 3] (by kernel_rfl) rfl ⟨⟨_, rfl, ?_⟩, ⟨_, rfl, ?_⟩, trivial⟩
  ·refine lk_ sc42 1 rfl rfl rfl (wl_nil ?_)
   refine nw 14 487 (fun _ hm => ⟨hm.bl 0, trivial⟩) fun z => ?_
   have h := T487 
   rw [hW] at h
   refine wa_weak ?_ ?_ h
   ·exact ⟨rfl, rfl, rfl, rfl, rfl, rfl, trivial⟩
   exact fun _ hm => hm.pick [0, 1] [0, 1, 2] [] rfl rfl
  refine lk_ sc77 1 rfl rfl rfl (wl_nil ?_)
  refine nw 14 493 (fun _ hm => ⟨hm.bl 0, trivial⟩) fun z => ?_
  have h := T493 
  rw [hW] at h
  refine wa_weak ?_ ?_ h
  ·exact ⟨rfl, rfl, rfl, rfl, rfl, rfl, trivial⟩
  exact fun _ hm => hm.pick [0, 1] [0, 1, 2] [] rfl rfl
 have J229 : W 9 (lb 14 229) [(4, .pointer (some ⟨g1, 0, none⟩)), (5, .pointer (some ⟨g2, 0, none⟩)), (14, .pointer (some ⟨g2, 0, none⟩)), (16, .pointer (some ⟨g2, 1, none⟩)), (20, .slice A0 4 c0), (21, .pointer (some ⟨g2, 2, none⟩))] (fun w => Strm 25 w B sb (m + 40 + 100 + 1000)) [(g1, 80, [.slice none 0 0, .slice none 0 0, .slice none 0 0, .int .i64 0, .int .i64 0]), (g2, 80, [.slice A0 4 c0, .slice A1 n1 c1, .slice A n c, .int .i64 0, .int .i64 0])] [⟨.slice A n c, 181, 6, n, l.flatMap bkEnc⟩, ⟨.slice A1 n1 c1, 237, 2, n1, sl.flatMap skEnc⟩, ⟨.slice A0 4 c0, 145, 2, 4, cs.flatMap csEnc⟩] [] := by
  skip
  rw [hW]
  refine wa_all [1, 3, 8] (by kernel_rfl) rfl ⟨⟨_, rfl, ?_⟩, ⟨_, rfl, ?_⟩, ⟨_, rfl, ?_⟩, trivial⟩
  ·refine lk_ sc42 1 rfl rfl rfl (wl_nil ?_)
   refine nw 14 231 (fun _ hm => ⟨hm.bl 0, trivial⟩) fun z => ?_
   have h := J231 
   rw [hW] at h
   refine wa_weak ?_ ?_ h
   ·exact ⟨rfl, rfl, rfl, rfl, rfl, rfl, trivial⟩
   exact fun _ hm => hm.pick [0, 1] [0, 1, 2] [] rfl rfl
  ·refine lk_ sc77 1 rfl rfl rfl (wl_nil ?_)
   refine nw 14 237 (fun _ hm => ⟨hm.bl 0, trivial⟩) fun z => ?_
   have h := J237 
   rw [hW] at h
   refine wa_weak ?_ ?_ h
   ·exact ⟨rfl, rfl, rfl, rfl, rfl, rfl, trivial⟩
   exact fun _ hm => hm.pick [0, 1] [0, 1, 2] [] rfl rfl
  refine lk_ sc78 1 rfl rfl rfl (wl_nil ?_)
  refine nw 14 485 (fun _ hm => ⟨hm.bl 0, trivial⟩) fun z => ?_
  have h := J485 
  rw [hW] at h
  refine wa_weak ?_ ?_ h
  ·exact ⟨rfl, rfl, rfl, rfl, rfl, rfl, trivial⟩
  exact fun _ hm => hm.pick [0, 1] [0, 1, 2] [] rfl rfl
 have J421 : W 9 (lb 14 421) [(4, .pointer (some ⟨g1, 0, none⟩)), (5, .pointer (some ⟨g2, 0, none⟩)), (14, .pointer (some ⟨g2, 0, none⟩)), (16, .pointer (some ⟨g2, 1, none⟩)), (19, .pointer (some ⟨g2, 0, none⟩)), (22, .slice A n c)] (fun w => Strm 25 w B sb (m + 40 + 100 + 1000)) [(g1, 80, [.slice none 0 0, .slice none 0 0, .slice none 0 0, .int .i64 0, .int .i64 0]), (g2, 80, [.slice A0 4 c0, .slice A1 n1 c1, .slice A n c, .int .i64 0, .int .i64 0])] [⟨.slice A n c, 181, 6, n, l.flatMap bkEnc⟩, ⟨.slice A1 n1 c1, 237, 2, n1, sl.flatMap skEnc⟩, ⟨.slice A0 4 c0, 145, 2, 4, cs.flatMap csEnc⟩] [] := by
  skip
  rw [hW]
  refine wa_all [1, 3, 6] (by kernel_rfl) rfl ⟨⟨_, rfl, ?_⟩, ⟨_, rfl, ?_⟩, ⟨_, rfl, ?_⟩, trivial⟩
  ·refine lk_ sc42 1 rfl rfl rfl (wl_nil ?_)
   refine nw 14 423 (fun _ hm => ⟨hm.bl 0, trivial⟩) fun z => ?_
   have h := J423 
   rw [hW] at h
   refine wa_weak ?_ ?_ h
   ·exact ⟨rfl, rfl, rfl, rfl, rfl, rfl, trivial⟩
   exact fun _ hm => hm.pick [0, 1] [0, 1, 2] [] rfl rfl
  ·refine lk_ sc77 1 rfl rfl rfl (wl_nil ?_)
   refine nw 14 429 (fun _ hm => ⟨hm.bl 0, trivial⟩) fun z => ?_
   have h := J429 
   rw [hW] at h
   refine wa_weak ?_ ?_ h
   ·exact ⟨rfl, rfl, rfl, rfl, rfl, rfl, trivial⟩
   exact fun _ hm => hm.pick [0, 1] [0, 1, 2] [] rfl rfl
  refine lk_ sc42 1 rfl rfl rfl (wl_nil ?_)
  refine nw 14 485 (fun _ hm => ⟨hm.bl 0, trivial⟩) fun z => ?_
  have h := J485 
  rw [hW] at h
  refine wa_weak ?_ ?_ h
  ·exact ⟨rfl, rfl, rfl, rfl, rfl, rfl, trivial⟩
  exact fun _ hm => hm.pick [0, 1] [0, 1, 2] [] rfl rfl
 have J165 : W 10 (lb 14 165) [(4, .pointer (some ⟨g1, 0, none⟩)), (5, .pointer (some ⟨g2, 0, none⟩)), (14, .pointer (some ⟨g2, 0, none⟩)), (16, .pointer (some ⟨g2, 1, none⟩)), (19, .pointer (some ⟨g2, 0, none⟩)), (21, .pointer (some ⟨g2, 2, none⟩))] (fun w => Strm 25 w B sb (m + 40 + 100 + 1000)) [(g1, 80, [.slice none 0 0, .slice none 0 0, .slice none 0 0, .int .i64 0, .int .i64 0]), (g2, 80, [.slice A0 4 c0, .slice A1 n1 c1, .slice A n c, .int .i64 0, .int .i64 0])] [⟨.slice A n c, 181, 6, n, l.flatMap bkEnc⟩, ⟨.slice A1 n1 c1, 237, 2, n1, sl.flatMap skEnc⟩, ⟨.slice A0 4 c0, 145, 2, 4, cs.flatMap csEnc⟩] [] := by
  skip
  rw [hW]
  refine wa_all [1, 3, 6, 8] (by kernel_rfl) rfl ⟨⟨_, rfl, ?_⟩, ⟨_, rfl, ?_⟩, ⟨_, rfl, ?_⟩, ⟨_, rfl, ?_⟩, trivial⟩
  ·refine lk_ sc42 1 rfl rfl rfl (wl_nil ?_)
   refine nw 14 167 (fun _ hm => ⟨hm.bl 0, trivial⟩) fun z => ?_
   have h := J167 
   rw [hW] at h
   refine wa_weak ?_ ?_ h
   ·exact ⟨rfl, rfl, rfl, rfl, rfl, rfl, trivial⟩
   exact fun _ hm => hm.pick [0, 1] [0, 1, 2] [] rfl rfl
  ·refine lk_ sc77 1 rfl rfl rfl (wl_nil ?_)
   refine nw 14 173 (fun _ hm => ⟨hm.bl 0, trivial⟩) fun z => ?_
   have h := J173 
   rw [hW] at h
   refine wa_weak ?_ ?_ h
   ·exact ⟨rfl, rfl, rfl, rfl, rfl, rfl, trivial⟩
   exact fun _ hm => hm.pick [0, 1] [0, 1, 2] [] rfl rfl
  ·refine lk_ sc42 1 rfl rfl rfl (wl_nil ?_)
   refine nw 14 229 (fun _ hm => ⟨hm.bl 0, trivial⟩) fun z => ?_
   have h := J229 
   rw [hW] at h
   refine wa_weak ?_ ?_ h
   ·exact ⟨rfl, rfl, rfl, rfl, rfl, rfl, trivial⟩
   exact fun _ hm => hm.pick [0, 1] [0, 1, 2] [] rfl rfl
  refine lk_ sc78 1 rfl rfl rfl (wl_nil ?_)
  refine nw 14 421 (fun _ hm => ⟨hm.bl 0, trivial⟩) fun z => ?_
  have h := J421 
  rw [hW] at h
  refine wa_weak ?_ ?_ h
  ·exact ⟨rfl, rfl, rfl, rfl, rfl, rfl, trivial⟩
  exact fun _ hm => hm.pick [0, 1] [0, 1, 2] [] rfl rfl
 rw [hW]
 have h := J165 
 rw [hW] at h
 refine wa_weak ?_ ?_ h
 ·exact ⟨rfl, rfl, rfl, rfl, rfl, rfl, trivial⟩
 exact fun _ hm => hm.pick [1, 0] [0, 1, 2] [] rfl rfl
theorem call_any (A0 A1 A : Option Addr) (n0 c0 n1 c1 n c : Nat) (x y : Int) (w : World) :
  Calls Tryz.prog 41 #[.agg #[.slice A0 n0 c0, .slice A1 n1 c1, .slice A n c, .int .i64 x, .int .i64 y]] w (GotE w (firstE [x, y])) := by
 refine gw_enter ⟨9, w, none, []⟩ Tryz.func41 rfl Tryz.ntmps41 rfl (mem0 (X := []) allF_nil allL_nil) ?_
 refine sr_ ?_
 refine wl_box rfl rfl rfl fun g1 => ?_
 refine sg_ rfl (nn_ (sr_ (fd_ fo80_3 rfl rfl (lk_ sc28 0 rfl rfl rfl (fd_ fo80_4 rfl rfl (lk_ sc28 0 rfl rfl rfl ?_))))))
 refine wl_buildSlice (e := 28) (cs := [.int .i64 x, .int .i64 y]) rfl (by kernel_rfl) rfl fun g2 => ?_
 refine wl_callw rfl cb129 rfl rfl (fun wx hm => (errs_any [x, y] _ _ _ wx (hm.blkI 0 rfl) (by simp))) ?_
 refine sg_ rfl (nn_ ?_)
 refine gw_ret ?_
 refine nx_ret1 rfl rfl fun wx hm => ?_
 exact ⟨rfl, hm.g⟩
end Go.Proofs.YtpikhokaclpbhaaGreatDoor
namespace Go.Proofs.YtpikhokaclpbhaaGreatDoor
open Go.RowKit
set_option maxRecDepth 100000 in
theorem same_gvn_neq (x0 : ByteArray) (x1 : ByteArray) (x2 : Int) (w : World) : (binOp .neq 91 (.agg #[.string x0, .string x1, .int .i64 x2]) (.agg #[.string x0, .string x1, .int .i64 x2])).run Tryz.prog w = .ok (.bool false) w := by
  have hS : Tryz.prog.underlying 91 = some (.struct (Tryz.prog.fieldsOf 91)) := by kernel_rfl
  have hp : Tryz.prog.stoodInHeld 91 = false := by kernel_rfl
  rw [run_neq_struct, show (10000 : Nat) = 9999 + 1 from rfl, run_equalIn_agg w 9999 91 _ _ hS hp]
  simp only [Program.fieldsOf, Tryz.underlying91]
  have u3 := Tryz.underlying3
  have u9 := Tryz.underlying9
  clear hS hp
  go_simp
theorem guard_gvn : Tryz.prog.eqGuardType Tryz.prog.depth 91 = false := by kernel_rfl
theorem equal_gv (l : List Gv) (A1 A2 : Option Addr) (n c1 c2 : Nat) (w : World) (h1 : SlT gvEnc 3 91 w A1 n l) (h2 : SlT gvEnc 3 91 w A2 n l) (hn : n ≤ 1000000) :
  Calls Tryz.prog 44 #[.slice A1 n c1, .slice A2 n c2] w (fun e w' => e = .returned (.bool true) ∧ w.grownBy w' none) := by
 refine gw_enter ⟨26, w, none, []⟩ Tryz.func44 rfl Tryz.ntmps44 rfl (mem0 (X := [SlOld gvEnc 3 91 w.heap.size none A1 n l, SlOld gvEnc 3 91 w.heap.size none A2 n l]) (allF_cons h1.old (allF_cons h2.old allF_nil)) (allL_cons SlOld.lasts (allL_cons SlOld.lasts allL_nil))) ?_
 refine sr_ ?_
 have hlen := h1.len
 refine sg_ rfl (nn_ (gw_seq (sr_ (mv_ rfl (wl_ov (ov_len es82 rfl) rfl (mv_ rfl (wl_ov (ov_len es82 rfl) rfl (wl_ov (ov_neq rfl rfl) rfl ?_))))))))
 refine wl_set 10 (v' := .bool false) rfl (congrArg Value.bool (by simp)) ?_
 refine nn_ (cf_ rfl (gw_skip (nx_then (gw_seq (sr_ (mv_ rfl (wl_ov (ov_len es82 rfl) rfl (mv_ rfl (nn_ (gw_block ?_))))))))))
 refine gw_loop (γ := Nat) (fun (k : Nat) => k ≤ n) (fun (k : Nat) => [(0, .slice A1 n c1), (1, .slice A2 n c2), (12, .int .i64 ((n : Nat) : Int)), (13, .int .i64 ((k : Nat) : Int))]) (fun (k : Nat) => fun _ => True) (fun (k : Nat) => []) (fun (k : Nat) => []) (fun (k : Nat) => [SlOld gvEnc 3 91 w.heap.size none A1 n l, SlOld gvEnc 3 91 w.heap.size none A2 n l]) (fun (k : Nat) => n - k) 0 (Nat.zero_le _) ⟨rfl, rfl, rfl, rfl, trivial⟩ (fun _ hm => hm.pick [] [] [0, 1] rfl rfl) ?_
 intro k hinv
 replace hinv : k ≤ n := hinv
 refine sr_ (wl_ov (ov_lss rfl rfl) rfl (nn_ (gw_seq ?_)))
 refine gw_cond rfl (fun hh => ?_) (fun hh => ?_)
 ·have hk : ((k : Nat) : Int) < ((n : Nat) : Int) := by simpa using hh
  clear hh
  refine gw_skip (nx_then (gw_seq (gw_block (sr_ ?_))))
  obtain ⟨b1, o1, hA, _, _⟩ := h1.get (by omega)
  subst hA
  obtain ⟨b2, o2, hA, _, _⟩ := h2.get (by omega)
  subst hA
  obtain ⟨x, hx⟩ : ∃ x, l[k]? = some x := ⟨_, List.getElem?_eq_getElem (by omega)⟩
  obtain ⟨r0, r1, r2⟩ := x
  refine mv_ rfl (sg_ rfl (nn_ (gw_seq ?_)))
  refine gd (fun wz => (SlOld gvEnc 3 91 w.heap.size none (some ⟨b1, o1, none⟩) n l) wz ∧ (SlOld gvEnc 3 91 w.heap.size none (some ⟨b2, o2, none⟩) n l) wz ∧ True) mixed (fun _ hm => ⟨hm.fa 0, hm.fa 1, trivial⟩) fun z => ?_
  refine wt 0 9 1 rfl z (ov_move rfl) ?_
  refine wt 1 9 3 rfl z (ov_move rfl) ?_
  refine wt 2 9 7 rfl z (ov_index (j := k) es82 rfl rfl (by omega)) ?_
  refine wt 3 9 15 rfl z (ov_elem (vs := [.string r0, .string r1, .int .i64 r2]) rz91 rfl (fun _ hm => (hm.1).1) hx rfl rfl) ?_
  refine wt 4 9 31 rfl z (ov_move rfl) ?_
  refine wt 5 9 63 rfl z (ov_move rfl) ?_
  refine wt 6 9 127 rfl z (ov_index (j := k) es82 rfl rfl (by omega)) ?_
  refine wt 7 9 255 rfl z (ov_elem (vs := [.string r0, .string r1, .int .i64 r2]) rz91 rfl (fun _ hm => (hm.2.1).1) hx rfl rfl) ?_
  refine wt 8 9 511 rfl z (ov_bin rfl rfl (cmp_agg guard_gvn (fun wx => same_gvn_neq r0 r1 r2 wx))) ?_
  refine wa_done (by kernel_rfl) ?_
  refine nx_then (cf_ rfl (gw_skip (nx_blk_nrm (nx_then (gw_region (ad_ rfl rfl (mv_ rfl (wl_nil ?_))))))))
  exact nx_round (k + 1) (by omega) (by omega) ⟨rfl, rfl, rfl, (some_int (by omega)), trivial⟩ (fun _ hm => hm.pick [] [] [0, 1] rfl rfl)
 have hk : ¬ (((k : Nat) : Int) < ((n : Nat) : Int)) := by simpa using hh
 clear hh
 refine gw_exit ?_
 refine nx_then_exit (nx_then_exit ?_)
 refine nx_blk_here ?_
 refine nx_then (sr_ (sg_ rfl (nn_ ?_)))
 refine gw_ret ?_
 refine nx_ret1 rfl rfl fun wx hm => ?_
 exact ⟨rfl, hm.g⟩
theorem greedyGives_walk (a0 : Option Addr) (len0 cap0 : Nat) (z0 : List Int) (w : World) (hR : RowIn w a0 len0 cap0 z0) :
  Calls Tryz.prog 6 #[.slice a0 len0 cap0] w fun e w' => e = .returned (.bool true) ∧ Below w.heap.size w w' := by
 refine gw_enter ⟨74, w, none, []⟩ Tryz.func6 rfl Tryz.ntmps6 rfl (mem0 (X := []) allF_nil allL_nil) ?_
 refine sr_ (sg_ rfl (nn_ (sr_ (mv_ rfl ?_))))
 refine wl_ov (ov_build (cs := [.slice a0 len0 cap0, .int .i64 0]) rfl (by kernel_rfl)) rfl ?_
 refine wl_box rfl rfl rfl fun sb => ?_
 refine sg_ rfl (nn_ (sr_ (mv_ rfl (mv_ rfl ?_))))
 refine wl_law [145, 237, 181] hR 0 rfl fun w1 B hg1 hsb => ?_
 refine wl_got (γ := Int) (val := fun v => .int .i64 v) (φ := fun v => 0 ≤ v ∧ (v ≤ 9 ∨ v = 0)) rfl cb17 rfl rfl rfl rfl (fun wx hm => (range_any _ _ wx B sb _ hm.k (by omega) (by omega) (by omega) (by omega) (by omega))) fun v1 hv1 => ?_
 obtain ⟨q, rfl⟩ := Int.eq_ofNat_of_zero_le (show 0 ≤ v1 by omega)
 have hq9 : q ≤ 9 := by omega
 refine wl_calls (γ := Option Addr × Nat × List Cs × Option Addr × Nat × Nat × List Sk × Option Addr × Nat × Nat × List Bk) (val := (fun g => .agg #[.slice g.1 4 g.2.1, .slice g.2.2.2.1 g.2.2.2.2.1 g.2.2.2.2.2.1, .slice g.2.2.2.2.2.2.2.1 g.2.2.2.2.2.2.2.2.1 g.2.2.2.2.2.2.2.2.2.1, .int .i64 (stockE g.2.2.1 g.2.2.2.2.2.2.1), .int .i64 (checkE g.2.2.1 g.2.2.2.2.2.2.2.2.2.2)])) (φ := (fun g => (∀ x ∈ g.2.2.1, CsOk x) ∧ (∀ x ∈ g.2.2.2.2.2.2.1, SkOk x) ∧ (∀ x ∈ g.2.2.2.2.2.2.2.2.2.2, BkOk x) ∧ g.2.2.2.2.1 ≤ 5 ∧ g.2.2.2.2.2.2.2.2.1 ≤ 9)) (Y := (fun g => fun wy => SlT csEnc 2 145 wy g.1 4 g.2.2.1 ∧ SlT skEnc 2 237 wy g.2.2.2.1 g.2.2.2.2.1 g.2.2.2.2.2.2.1 ∧ SlT bkEnc 6 181 wy g.2.2.2.2.2.2.2.1 g.2.2.2.2.2.2.2.2.1 g.2.2.2.2.2.2.2.2.2.2)) (m' := 0 + 1 + 2000) rfl cb39 rfl rfl rfl rfl (fun wx hm => (counterOf_any q wx B sb _ hm.k (by omega) hq9).mono fun _ _ ⟨A0, c0, cs, A1, n1, c1, sl, A, n, c, l, he, h0, h1, h2, hco, hso, hok, hn1, hn, hS, hg⟩ => ⟨(A0, c0, cs, A1, n1, c1, sl, A, n, c, l), he, ⟨hco, hso, hok, hn1, hn⟩, hS, hg, ⟨h0, h1, h2⟩⟩) (fun _ => (SlT.lasts2 rfl).and_ ((SlT.lasts2 rfl).and_ (SlT.lasts2 rfl))) ?_
 rintro ⟨A0, c0, cs, A1, n1, c1, sl, A, n, c, l⟩ hH
 dsimp only at hH ⊢
 obtain ⟨hco, hso, hok, hn5, hn9⟩ := hH
 refine wl_alloc zc80 rfl fun g2 => ?_
 refine wl_stores (cs' := [.slice A0 4 c0, .slice A1 n1 c1, .slice A n c, .int .i64 (stockE cs sl), .int .i64 (checkE cs l)]) 0 rz80 rfl rfl rfl rfl rfl rfl rfl rfl ?_
 refine nn_ (sr_ (fd_ fo80_0 rfl rfl (lk_ sc42 0 rfl rfl rfl (fd_ fo80_1 rfl rfl (lk_ sc77 0 rfl rfl rfl (fd_ fo80_2 rfl rfl (lk_ sc78 0 rfl rfl rfl ?_)))))))
 refine wl_nest none [91, 9] fun w2 hm_w2 => ⟨_, _, _, _, mem0 (X := [BlkOld w2.heap.size none g2 80 [.slice A0 4 c0, .slice A1 n1 c1, .slice A n c, .int .i64 (stockE cs sl), .int .i64 (checkE cs l)], SlOld csEnc 2 145 w2.heap.size none A0 4 cs, SlOld skEnc 2 237 w2.heap.size none A1 n1 sl, SlOld bkEnc 6 181 w2.heap.size none A n l]) (allF_cons (hm_w2.blkI 0 rfl).old (allF_cons (SlT.old (hm_w2.fact 0 rfl).1) (allF_cons (SlT.old (hm_w2.fact 0 rfl).2.1) (allF_cons (SlT.old (hm_w2.fact 0 rfl).2.2) allF_nil)))) (allL_cons BlkOld.lasts (allL_cons SlOld.lasts (allL_cons SlOld.lasts (allL_cons SlOld.lasts allL_nil)))), ?_⟩
 by_cases h0 : firstE [stockE cs sl, checkE cs l] = 0
 ·refine wl_callx (γ := Option Addr × Nat × Nat × Option Addr × Nat × Nat) (val := (fun g => .tuple #[.slice g.1 g.2.1 g.2.2.1, .slice g.2.2.2.1 g.2.2.2.2.1 g.2.2.2.2.2, .int .i64 0])) (φ := (fun g => g.2.1 ≤ 9 ∧ g.2.2.2.2.1 ≤ 9)) (Y := (fun g => fun wy => SlT gvEnc 3 91 wy g.1 g.2.1 (givenE cs sl l) ∧ SlT sgEnc 1 9 wy g.2.2.2.1 g.2.2.2.2.1 (waitE cs sl l))) rfl cb40 rfl rfl (fun wx hm => (greedy_right cs A0 4 c0 sl A1 n1 c1 l A n c wx (hm.fact 1 rfl).1 hco (by omega) (hm.fact 2 rfl).1 hso (by omega) (hm.fact 3 rfl).1 hok hn9 h0).mono fun _ _ ⟨Ag, k, cg, Al, q, cw, he, h1, h2, hk, hq, hg⟩ => ⟨(Ag, k, cg, Al, q, cw), he, ⟨hk, hq⟩, hg, ⟨h1, h2⟩⟩) (fun _ => (SlT.lasts2 rfl).and_ (SlT.lasts2 rfl)) ?_
  rintro ⟨Ag, k, cg, Al, p, cw⟩ hkp
  dsimp only at hkp ⊢
  obtain ⟨hk9, hp9⟩ := hkp
  have hst0 : stockE cs sl = 0 := fe_all h0 _ (by simp)
  have hck0 : checkE cs l = 0 := fe_all h0 _ (by simp)
  obtain ⟨hc0, hf0, _⟩ := gcheckE_ok hck0
  have hmany := many_le hst0
  obtain ⟨h30, hcl, hlo⟩ := classesE_ok hc0
  refine mv_ rfl (wl_ov (ov_extract rfl rfl) rfl (wl_ov (ov_extract rfl rfl) rfl (wl_ov (ov_extract rfl rfl) rfl (sg_ rfl (sg_ rfl (sg_ rfl (nn_ (sr_ ?_))))))))
  refine wl_ov (ov_loads (vs := [.slice A0 4 c0, .slice A1 n1 c1, .slice A n c, .int .i64 (stockE cs sl), .int .i64 (checkE cs l)]) rz80 rfl (fun _ hm => (hm.fact 1 rfl).2) rfl rfl) rfl ?_
  refine wl_callv rfl cb41 rfl rfl (fun wx hm => (call_any _ _ _ _ _ _ _ _ _ _ _ wx)) ?_
  refine sg_ rfl (nn_ (gw_seq (sr_ (mv_ rfl (wl_ov (ov_neq rfl rfl) rfl ?_)))))
  refine wl_set 32 (v' := .bool false) rfl (congrArg Value.bool (by rw [h0]; rfl)) ?_
  refine nn_ (cf_ rfl (gw_skip (nx_then (sr_ (fd_ fo80_0 rfl rfl ?_)))))
  refine wl_ov (ov_load (v := .slice A0 4 c0) sc42 rfl (fun _ hm => (hm.fact 1 rfl).2) rfl) rfl ?_
  refine fd_ fo80_1 rfl rfl ?_
  refine wl_ov (ov_load (v := .slice A1 n1 c1) sc77 rfl (fun _ hm => (hm.fact 1 rfl).2) rfl) rfl ?_
  refine fd_ fo80_2 rfl rfl ?_
  refine wl_ov (ov_load (v := .slice A n c) sc78 rfl (fun _ hm => (hm.fact 1 rfl).2) rfl) rfl ?_
  refine wl_callx (γ := Option Addr × Nat × Nat × Option Addr × Nat × Nat) (val := (fun g => .tuple #[.slice g.1 g.2.1 g.2.2.1, .slice g.2.2.2.1 g.2.2.2.2.1 g.2.2.2.2.2])) (φ := (fun g => g.2.1 ≤ 9 ∧ g.2.2.2.2.1 ≤ 9)) (Y := (fun g => fun wy => SlT gvEnc 3 91 wy g.1 g.2.1 (givenE cs sl l) ∧ SlT sgEnc 1 9 wy g.2.2.2.1 g.2.2.2.2.1 (waitE cs sl l))) rfl cb43 rfl rfl (fun wx hm => (greedyOf_any cs A0 4 c0 sl A1 n1 c1 l A n c wx (hm.fact 2 rfl).1 hco (by omega) hcl hlo (hm.fact 3 rfl).1 hso (by omega) hmany (hm.fact 4 rfl).1 hn9 hf0).mono fun _ _ ⟨Ag, k, cg, Al, q, cw, he, h1, h2, hk, hq, hg⟩ => ⟨(Ag, k, cg, Al, q, cw), he, ⟨hk, hq⟩, hg, ⟨h1, h2⟩⟩) (fun _ => (SlT.lasts2 rfl).and_ (SlT.lasts2 rfl)) ?_
  rintro ⟨Bg, k3, dg, Bl, p3, dw⟩ hkp3
  dsimp only at hkp3 ⊢
  refine wl_look (R := k = k3) (fun wx hm => by have h3 := ((hm.fact 1 rfl).1).len; have h4 := ((hm.fact 0 rfl).1).len; omega) ?_
  intro hbd
  subst hbd
  refine wl_look (R := p = p3) (fun wx hm => by have h3 := ((hm.fact 1 rfl).2).len; have h4 := ((hm.fact 0 rfl).2).len; omega) ?_
  intro hbd
  subst hbd
  refine mv_ rfl (wl_ov (ov_extract rfl rfl) rfl (wl_ov (ov_extract rfl rfl) rfl (sg_ rfl (sg_ rfl (nn_ (sr_ (mv_ rfl (wl_ov (ov_eql rfl rfl) rfl ?_))))))))
  refine wl_set 60 (v' := .bool true) rfl (congrArg Value.bool (by rfl)) ?_
  refine mv_ rfl (wl_guard_on rfl rfl rfl (mv_ rfl (wl_guard_on rfl rfl rfl (mv_ rfl (wl_guard_on rfl rfl rfl ?_)))))
  refine wl_callv rfl cb44 rfl rfl (fun wx hm => (equal_gv (givenE cs sl l) Ag Bg k cg dg wx (hm.fact 1 rfl).1 (hm.fact 0 rfl).1 (by omega))) ?_
  refine pt_ rfl rfl (mv_ rfl (wl_guard_on rfl rfl rfl (mv_ rfl (wl_guard_on rfl rfl rfl (mv_ rfl (wl_guard_on rfl rfl rfl ?_))))))
  refine wl_callv rfl cb45 rfl rfl (fun wx hm => (equal_strs (waitE cs sl l) Al Bl p cw dw wx (hm.fact 1 rfl).2 (hm.fact 0 rfl).2 (by omega))) ?_
  refine pt_ rfl rfl (mv_ rfl (wl_guard_on rfl rfl rfl ?_))
  refine wl_callv rfl cb42 rfl rfl (fun wx hm => (booked_any wx)) ?_
  refine pt_ rfl rfl (sg_ rfl (nn_ ?_))
  refine gw_ret ?_
  refine nx_ret1 rfl rfl fun wx hm => ?_
  exact ⟨rfl, law_end hg1 hsb (grow_trans hm_w2.g (grow_weak hm.g))⟩
 refine wl_callv rfl cb40 rfl rfl (fun wx hm => (greedy_bad cs A0 4 c0 sl A1 n1 c1 l A n c wx (hm.fact 1 rfl).1 hco (by omega) (hm.fact 2 rfl).1 hso (by omega) (hm.fact 3 rfl).1 hok hn9 h0)) ?_
 refine mv_ rfl (wl_ov (ov_extract rfl rfl) rfl (wl_ov (ov_extract rfl rfl) rfl (wl_ov (ov_extract rfl rfl) rfl (sg_ rfl (sg_ rfl (sg_ rfl (nn_ (sr_ ?_))))))))
 refine wl_ov (ov_loads (vs := [.slice A0 4 c0, .slice A1 n1 c1, .slice A n c, .int .i64 (stockE cs sl), .int .i64 (checkE cs l)]) rz80 rfl (fun _ hm => (hm.fact 0 rfl).2) rfl rfl) rfl ?_
 refine wl_callv rfl cb41 rfl rfl (fun wx hm => (call_any _ _ _ _ _ _ _ _ _ _ _ wx)) ?_
 refine sg_ rfl (nn_ (gw_seq (sr_ (mv_ rfl (wl_ov (ov_neq rfl rfl) rfl ?_)))))
 refine wl_set 32 (v' := .bool true) rfl (congrArg Value.bool (by rw [decide_eq_false h0]; rfl)) ?_
 refine nn_ (ct_ rfl (sr_ (mv_ rfl (mv_ rfl (wl_ov (ov_eql rfl rfl) rfl ?_)))))
 refine wl_set 35 (v' := .bool true) rfl (congrArg Value.bool (decide_eq_true rfl)) ?_
 refine mv_ rfl (wl_guard_on rfl rfl rfl (mv_ rfl (wl_guard_on rfl rfl rfl (wl_ov (ov_len es82 rfl) rfl ?_))))
 refine wl_set 38 (v' := .int .i64 0) rfl rfl ?_
 refine wl_guard_on rfl rfl rfl (wl_ov (ov_eql rfl rfl) rfl ?_)
 refine wl_set 39 (v' := .bool true) rfl (congrArg Value.bool (by rfl)) ?_
 refine pt_ rfl rfl (mv_ rfl (wl_guard_on rfl rfl rfl (mv_ rfl (wl_guard_on rfl rfl rfl (wl_ov (ov_len es83 rfl) rfl ?_)))))
 refine wl_set 43 (v' := .int .i64 0) rfl rfl ?_
 refine wl_guard_on rfl rfl rfl (wl_ov (ov_eql rfl rfl) rfl ?_)
 refine wl_set 44 (v' := .bool true) rfl (congrArg Value.bool (by rfl)) ?_
 refine pt_ rfl rfl (mv_ rfl (wl_guard_on rfl rfl rfl ?_))
 refine wl_callv rfl cb42 rfl rfl (fun wx hm => (booked_any wx)) ?_
 refine pt_ rfl rfl (sg_ rfl (nn_ ?_))
 refine gw_ret ?_
 refine nx_then_ret ?_
 refine nx_ret1 rfl rfl fun wx hm => ?_
 exact ⟨rfl, law_end hg1 hsb (grow_trans hm_w2.g (grow_weak hm.g))⟩
end Go.Proofs.YtpikhokaclpbhaaGreatDoor
