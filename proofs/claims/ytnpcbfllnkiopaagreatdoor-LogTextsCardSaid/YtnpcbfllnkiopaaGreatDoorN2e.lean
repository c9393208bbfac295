/- Several texts as one: Rx Gs Eh Gp Ej Lga Buk Lgb -/
import Derived.Test.YtnpcbfllnkiopaaGreatDoorN2d
import Derived.Test.YtnpcbfllnkiopaaGreatDoorN2b
import Derived.Test.YtnpcbfllnkiopaaGreatDoorN2a
import Derived.Test.YtnpcbfllnkiopaaGreatDoorN2c
import Derived.Lib.OthersKept
set_option maxRecDepth 100000
set_option maxHeartbeats 4000000
namespace Go.Proofs.YtnpcbfllnkiopaaGreatDoor
open Go.RowKit
/-- What the generators' fleets are. -/
def FlOk (sl : List St) (cl : List Cs) (vl : List Vh) (pl : List Pl) (sn vn pn : Nat) : Prop := ((∀ x ∈ sl, StOk x) ∧ sn ≤ 10) ∧ (∀ x ∈ cl, CsOk x) ∧ ((∀ x ∈ vl, VhB x) ∧ vn ≤ 10) ∧ (∀ x ∈ pl, PlB x) ∧ pn ≤ 10
theorem s0_ok : ∀ h ∈ ([0, 0, 0, 0, 0, 0, 0, 0, 0, 0, 0, 0, 0, 0] : List Int), -9223372036854775808 ≤ h ∧ h ≤ 9223372036854775807 := by decide
theorem stB_all {l : List St} (h : ∀ x ∈ l, StB x) : ∀ x ∈ l, StOk x := fun x hx => stB_ok (h x hx)
theorem gclassKey2_any (w : World) (B sb m : Nat) (hS : Strm 25 w B sb m) (hm : m ≤ 100000000000) :
  Calls Tryz.prog 126 #[.pointer (some ⟨sb, 0, none⟩)] w (fun e w' => ∃ v : ByteArray, e = .returned (.string v) ∧ v.size ≤ 100 ∧ Strm 25 w' B sb (m + 1) ∧ w.grownBy w' (some sb)) := by
 refine gw_enter ⟨6, w, (some sb), []⟩ Tryz.func126 rfl Tryz.ntmps126 rfl (memS (X := []) hS allF_nil allL_nil) ?_
 refine sr_ (sg_ rfl (nn_ (sr_ (mv_ rfl ?_))))
 refine wl_buildSlice (e := 9) (cs := [.string ⟨#[109, 105, 110, 105]⟩, .string ⟨#[109, 105, 110, 105]⟩, .string ⟨#[109, 105, 100, 105]⟩, .string ⟨#[109, 97, 120, 105]⟩, .string ⟨#[98, 105, 103]⟩, .string ⟨#[109, 105, 110, 105]⟩, .string ⟨#[110, 111, 110, 101]⟩, .string ⟨#[]⟩, .string ⟨#[65]⟩]) rfl (by kernel_rfl) rfl fun g1 => ?_
 refine wl_got (γ := ByteArray) (val := fun v => .string v) (φ := fun v => v ∈ ([⟨#[109, 105, 110, 105]⟩, ⟨#[109, 105, 110, 105]⟩, ⟨#[109, 105, 100, 105]⟩, ⟨#[109, 97, 120, 105]⟩, ⟨#[98, 105, 103]⟩, ⟨#[109, 105, 110, 105]⟩, ⟨#[110, 111, 110, 101]⟩, ⟨#[]⟩, ⟨#[65]⟩] : List ByteArray)) rfl cb57 rfl rfl rfl rfl (fun wx hm => (some_any [⟨#[109, 105, 110, 105]⟩, ⟨#[109, 105, 110, 105]⟩, ⟨#[109, 105, 100, 105]⟩, ⟨#[109, 97, 120, 105]⟩, ⟨#[98, 105, 103]⟩, ⟨#[109, 105, 110, 105]⟩, ⟨#[110, 111, 110, 101]⟩, ⟨#[]⟩, ⟨#[65]⟩] _ _ _ wx B sb _ hm.k (by omega) (by simp) (by simp) (hm.blkI 0 rfl) (hm.neRow 0 rfl rfl))) fun s2 hs2 => ?_
 have zs2 : s2.size ≤ 100 := mem_sz hs2 (by decide)
 refine sg_ rfl (nn_ ?_)
 refine gw_ret ?_
 refine nx_ret1 rfl rfl fun wx hm => ?_
 exact ⟨s2, rfl, by omega, hm.k, hm.g⟩
theorem fleet_any (w : World) (B sb m : Nat) (hS : Strm 25 w B sb m) (hm : m ≤ 10000000) :
  Calls Tryz.prog 40 #[.pointer (some ⟨sb, 0, none⟩)] w (fun e w' => ∃ (sA cA vA pA : Option Addr) (sn sc cc vn vc pn pc : Nat) (sl : List St) (cl : List Cs) (vl : List Vh) (pl : List Pl), e = .returned (.agg #[.slice sA sn sc, .slice cA 4 cc, .slice vA vn vc, .slice pA pn pc]) ∧ FlOk sl cl vl pl sn vn pn ∧ Strm 25 w' B sb (m + 400) ∧ w.grownBy w' (some sb) ∧ SlT stEnc 15 168 w' sA sn sl ∧ SlT csEnc 2 170 w' cA 4 cl ∧ SlT vhEnc 2 158 w' vA vn vl ∧ SlT plEnc 3 161 w' pA pn pl ∧ ShapeA pA pn pc ∧ pn ≤ pc) := by
 refine gw_enter ⟨56, w, (some sb), [170]⟩ Tryz.func40 rfl Tryz.ntmps40 rfl (memS (X := []) hS allF_nil allL_nil) ?_
 refine sr_ ?_
 refine wl_alloc zc66 rfl fun g1 => ?_
 refine nn_ (sr_ (mv_ rfl ?_))
 refine wl_calls3 (γ := Option Addr × Option Addr × Option Addr × Option Addr × Nat × Nat × Nat × Nat × Nat × Nat × Nat × List St × List Cs × List Vh × List Pl) (val := (fun g => .agg #[.slice g.1 g.2.2.2.2.1 g.2.2.2.2.2.1, .slice g.2.1 4 g.2.2.2.2.2.2.1, .slice g.2.2.1 g.2.2.2.2.2.2.2.1 g.2.2.2.2.2.2.2.2.1, .slice g.2.2.2.1 g.2.2.2.2.2.2.2.2.2.1 g.2.2.2.2.2.2.2.2.2.2.1])) (φ := (fun g => RfOk g.2.2.2.2.2.2.2.2.2.2.2.1 g.2.2.2.2.2.2.2.2.2.2.2.2.1 g.2.2.2.2.2.2.2.2.2.2.2.2.2.1 g.2.2.2.2.2.2.2.2.2.2.2.2.2.2 g.2.2.2.2.1 g.2.2.2.2.2.2.2.1 g.2.2.2.2.2.2.2.2.2.1)) (Y := (fun g => fun wy => SlT csEnc 2 170 wy g.2.1 4 g.2.2.2.2.2.2.2.2.2.2.2.2.1)) (m' := m + 300) (fun g => ⟨.slice g.1 g.2.2.2.2.1 g.2.2.2.2.2.1, 168, 15, g.2.2.2.2.1, g.2.2.2.2.2.2.2.2.2.2.2.1.flatMap stEnc⟩) (fun g => ⟨.slice g.2.2.1 g.2.2.2.2.2.2.2.1 g.2.2.2.2.2.2.2.2.1, 158, 2, g.2.2.2.2.2.2.2.1, g.2.2.2.2.2.2.2.2.2.2.2.2.2.1.flatMap vhEnc⟩) (fun g => ⟨.slice g.2.2.2.1 g.2.2.2.2.2.2.2.2.2.1 g.2.2.2.2.2.2.2.2.2.2.1, 161, 3, g.2.2.2.2.2.2.2.2.2.1, g.2.2.2.2.2.2.2.2.2.2.2.2.2.2.flatMap plEnc⟩) rfl cb124 rfl rfl rfl rfl (fun _ => rfl) (fun _ => rfl) (fun _ => rfl) (fun wx hm => (rightFleet_any wx B sb _ hm.k (by omega)).mono fun _ _ ⟨sA, cA, vA, pA, sn, sc, cc, vn, vc, pn, pc, sl, cl, vl, pl, he, hok, hS, hg, h1, h2, h3, h4⟩ => ⟨(sA, cA, vA, pA, sn, sc, cc, vn, vc, pn, pc, sl, cl, vl, pl), he, hok, hS, hg, h1, h2, h3, h4⟩) (fun _ => SlT.lasts2 rfl) ?_
 rintro ⟨sA, cA, vA, pA, sn, sc, cc, vn, vc, pn, pc, sl, cl, vl, pl⟩ hrf
 dsimp only at hrf ⊢
 obtain ⟨⟨hsl, hsB, hs1, hs3⟩, ⟨hcl4, hcok⟩, ⟨hvl, hvB, hv4⟩, hpl, hpB, hp5⟩ := hrf
 refine wl_alloc zc66 rfl fun g2 => ?_
 refine wl_stores (cs' := [.slice sA sn sc, .slice cA 4 cc, .slice vA vn vc, .slice pA pn pc]) 0 rz66 rfl rfl rfl rfl rfl rfl rfl rfl ?_
 refine nn_ (gw_seq (sr_ (mv_ rfl ?_)))
 refine wl_got (γ := Bool) (val := fun v => .bool v) (φ := fun v => True) rfl cb25 rfl rfl rfl rfl (fun wx hm => ((flip_any _ wx B sb _ hm.k (by omega) (by omega) (by omega)).mono fun _ _ ⟨v, he, hS, hg⟩ => ⟨v, trivial, he, hS, hg⟩)) fun f3 _ => ?_
 refine wl_ov (ov_un_not rfl) rfl (nn_ ?_)
 refine gw_cond rfl (fun hh => ?_) (fun hh => ?_)
 ·have hf : f3 = false := by simpa using hh
  clear hh
  refine sr_ ?_
  refine wl_ov (ov_loads rz66 rfl (fun _ hm => hm.blkI 0 rfl) rfl rfl) rfl ?_
  refine wl_stores (cs' := [.slice sA sn sc, .slice cA 4 cc, .slice vA vn vc, .slice pA pn pc]) 1 rz66 rfl rfl rfl rfl rfl rfl rfl rfl ?_
  refine nn_ ?_
  refine gw_ret ?_
  refine nx_then_ret ?_
  refine nx_retc 1 rfl rz66 rfl rfl rfl fun wx hm => ?_
  exact ⟨sA, cA, vA, pA, sn, sc, cc, vn, vc, pn, pc, sl, cl, vl, pl, rfl, ⟨⟨stB_all hsB, by omega⟩, hcok, ⟨hvB, by omega⟩, hpB, by omega⟩, hm.k.more (by omega), hm.g, SlT.ofOwnL stEnc_lenL (stB_all hsB) (hm.ownI 0 rfl) hsl, (hm.fact 0 rfl), SlT.ofOwn vh_len (hm.ownI 1 rfl) hvl, SlT.ofOwn pl_len (hm.ownI 2 rfl) hpl, own_shape (hm.ownI 2 rfl), own_cap (hm.ownI 2 rfl)⟩
 have hf : f3 = true := by simpa using hh
 clear hh
 refine gw_skip (nx_then (gw_seq (sr_ (mv_ rfl ?_))))
 refine wl_got (γ := Int) (val := fun v => .int .i64 v) (φ := fun v => IsBelow 4 v) rfl cb56 rfl rfl rfl rfl (fun wx hm => (next_any _ wx B sb _ hm.k (by omega) (by omega) (by omega))) fun vj hvj => ?_
 refine nn_ (gw_block (sr_ (wl_ov (ov_eql rfl rfl) rfl (sg_ rfl (nn_ ?_)))))
 refine gw_cond rfl (fun hh => ?_) (fun hh => ?_)
 ·have h0 : vj = 0 := by simpa using hh
  clear hh
  refine gd (fun wz => Blk wz g1 66 [.slice none 0 0, .slice none 0 0, .slice none 0 0, .slice none 0 0] ∧ (fun wy => SlT csEnc 2 170 wy cA 4 cl) wz ∧ True) mixed (fun _ hm => ⟨hm.bl 1, hm.fa 0, trivial⟩) fun z => ?_
  refine wt 0 10 1 rfl z (ov_field fo66_0 rfl rfl) ?_
  refine wt 2 10 5 rfl z (ov_move rfl) ?_
  refine wa_all [1, 3] (by kernel_rfl) rfl ⟨⟨_, rfl, ?_⟩, ⟨_, rfl, ?_⟩, trivial⟩
  ·refine lk_ sc61 0 rfl rfl rfl (wl_nil ?_)
   refine nw 10 7 (fun _ hm => ⟨hm.bl 1, hm.fa 0, trivial⟩) fun z => ?_
   refine wa1 3 rfl ?_
   refine wl_buildSlice (e := 9) (cs := [.string ⟨#[]⟩, .string ⟨#[65]⟩, .string ⟨#[115, 49]⟩, .string ⟨#[115, 57]⟩]) rfl (by kernel_rfl) rfl fun g4 => ?_
   refine wl_nil ?_
   refine nw 10 15 (fun _ hm => ⟨hm.bl 2, hm.fa 0, trivial⟩) fun z => ?_
   refine wa1 4 rfl ?_
   refine wl_got (γ := ByteArray) (val := fun v => .string v) (φ := fun v => v ∈ ([⟨#[]⟩, ⟨#[65]⟩, ⟨#[115, 49]⟩, ⟨#[115, 57]⟩] : List ByteArray)) rfl cb57 rfl rfl rfl rfl (fun wx hm => (some_any [⟨#[]⟩, ⟨#[65]⟩, ⟨#[115, 49]⟩, ⟨#[115, 57]⟩] _ _ _ wx B sb _ hm.k (by omega) (by simp) (by simp) (hm.blkI 0 rfl) (hm.neRow 0 rfl rfl))) fun s5 hs5 => ?_
   have zs5 : s5.size ≤ 100 := mem_sz hs5 (by decide)
   refine wl_nil ?_
   refine nw 10 31 (fun _ hm => ⟨hm.bl 2, hm.fa 0, trivial⟩) fun z => ?_
   refine wt 5 10 63 rfl z (ov_build (cs := [.string s5, .int .i64 0, .int .i64 0, .int .i64 0, .int .i64 0, .int .i64 0, .int .i64 0, .int .i64 0, .int .i64 0, .int .i64 0, .int .i64 0, .int .i64 0, .int .i64 0, .int .i64 0, .int .i64 0]) rfl (by kernel_rfl)) ?_
   refine wa1 6 rfl ?_
   refine wl_buildSlice (e := 168) (cs := [.string s5, .int .i64 0, .int .i64 0, .int .i64 0, .int .i64 0, .int .i64 0, .int .i64 0, .int .i64 0, .int .i64 0, .int .i64 0, .int .i64 0, .int .i64 0, .int .i64 0, .int .i64 0, .int .i64 0]) rfl (by kernel_rfl) rfl fun g6 => ?_
   refine wl_nil ?_
   refine nw 10 127 (fun _ hm => ⟨hm.bl 3, hm.fa 0, trivial⟩) fun z => ?_
   refine wa1 7 rfl ?_
   refine wl_append (news := [.string s5, .int .i64 0, .int .i64 0, .int .i64 0, .int .i64 0, .int .i64 0, .int .i64 0, .int .i64 0, .int .i64 0, .int .i64 0, .int .i64 0, .int .i64 0, .int .i64 0, .int .i64 0, .int .i64 0]) 0 0 ap61 rfl rfl rfl rfl rfl rfl rfl (by omega) (by unfold maxLen; omega) rfl rfl fun v2 hv2 => ?_
   refine wl_look (R := ∃ A cc, v2 = .slice A (sn + 1) cc) (fun wx hm => own_slice (hm.ownI 0 rfl)) ?_
   rintro ⟨A2, c2, rfl⟩
   have hxs : sl.flatMap stEnc ++ ([.string s5, .int .i64 0, .int .i64 0, .int .i64 0, .int .i64 0, .int .i64 0, .int .i64 0, .int .i64 0, .int .i64 0, .int .i64 0, .int .i64 0, .int .i64 0, .int .i64 0, .int .i64 0, .int .i64 0] : List Value) = (sl ++ [(⟨s5, [0, 0, 0, 0, 0, 0, 0, 0, 0, 0, 0, 0, 0, 0]⟩ : St)]).flatMap stEnc := by simp [stEnc, stCells]
   rw [hxs]
   refine wl_nil ?_
   refine nw 10 255 (fun _ hm => ⟨hm.bl 3, hm.fa 0, trivial⟩) fun z => ?_
   refine wt 8 10 511 rfl z (ov_field fo66_0 rfl rfl) ?_
   refine wa1 9 rfl ?_
   refine wl_store 2 sc61 rfl rfl rfl rfl rfl rfl ?_
   refine wl_nil ?_
   refine nw 10 1023 (fun _ hm => ⟨hm.bl 3, hm.fa 0, trivial⟩) fun z => ?_
   refine wa_done (by kernel_rfl) ?_
   refine nx_blk_nrm (nx_then (sr_ ?_))
   refine wl_ov (ov_loads rz66 rfl (fun _ hm => hm.blkI 2 rfl) rfl rfl) rfl ?_
   refine wl_stores (cs' := [.slice A2 (sn + 1) c2, .slice cA 4 cc, .slice vA vn vc, .slice pA pn pc]) 3 rz66 rfl rfl rfl rfl rfl rfl rfl rfl ?_
   refine nn_ ?_
   refine gw_ret ?_
   refine nx_retc 3 rfl rz66 rfl rfl rfl fun wx hm => ?_
   exact ⟨A2, cA, vA, pA, sn + 1, c2, cc, vn, vc, pn, pc, sl ++ [(⟨s5, [0, 0, 0, 0, 0, 0, 0, 0, 0, 0, 0, 0, 0, 0]⟩ : St)], cl, vl, pl, rfl, ⟨⟨all_snoc (stB_all hsB) ⟨rfl, by dsimp only; omega, s0_ok⟩, by omega⟩, hcok, ⟨hvB, by omega⟩, hpB, by omega⟩, hm.k.more (by omega), hm.g, SlT.ofOwnL stEnc_lenL (all_snoc (stB_all hsB) ⟨rfl, by dsimp only; omega, s0_ok⟩) (hm.ownI 0 rfl) (by simp [hsl]), (hm.fact 0 rfl), SlT.ofOwn vh_len (hm.ownI 1 rfl) hvl, SlT.ofOwn pl_len (hm.ownI 2 rfl) hpl, own_shape (hm.ownI 2 rfl), own_cap (hm.ownI 2 rfl)⟩
  refine wl_buildSlice (e := 9) (cs := [.string ⟨#[]⟩, .string ⟨#[65]⟩, .string ⟨#[115, 49]⟩, .string ⟨#[115, 57]⟩]) rfl (by kernel_rfl) rfl fun g7 => ?_
  refine wl_nil ?_
  refine nw 10 13 (fun _ hm => ⟨hm.bl 2, hm.fa 0, trivial⟩) fun z => ?_
  refine wa_all [1, 4] (by kernel_rfl) rfl ⟨⟨_, rfl, ?_⟩, ⟨_, rfl, ?_⟩, trivial⟩
  ·refine lk_ sc61 1 rfl rfl rfl (wl_nil ?_)
   refine nw 10 15 (fun _ hm => ⟨hm.bl 2, hm.fa 0, trivial⟩) fun z => ?_
   refine wa1 4 rfl ?_
   refine wl_got (γ := ByteArray) (val := fun v => .string v) (φ := fun v => v ∈ ([⟨#[]⟩, ⟨#[65]⟩, ⟨#[115, 49]⟩, ⟨#[115, 57]⟩] : List ByteArray)) rfl cb57 rfl rfl rfl rfl (fun wx hm => (some_any [⟨#[]⟩, ⟨#[65]⟩, ⟨#[115, 49]⟩, ⟨#[115, 57]⟩] _ _ _ wx B sb _ hm.k (by omega) (by simp) (by simp) (hm.blkI 0 rfl) (hm.neRow 0 rfl rfl))) fun s8 hs8 => ?_
   have zs8 : s8.size ≤ 100 := mem_sz hs8 (by decide)
   refine wl_nil ?_
   refine nw 10 31 (fun _ hm => ⟨hm.bl 2, hm.fa 0, trivial⟩) fun z => ?_
   refine wt 5 10 63 rfl z (ov_build (cs := [.string s8, .int .i64 0, .int .i64 0, .int .i64 0, .int .i64 0, .int .i64 0, .int .i64 0, .int .i64 0, .int .i64 0, .int .i64 0, .int .i64 0, .int .i64 0, .int .i64 0, .int .i64 0, .int .i64 0]) rfl (by kernel_rfl)) ?_
   refine wa1 6 rfl ?_
   refine wl_buildSlice (e := 168) (cs := [.string s8, .int .i64 0, .int .i64 0, .int .i64 0, .int .i64 0, .int .i64 0, .int .i64 0, .int .i64 0, .int .i64 0, .int .i64 0, .int .i64 0, .int .i64 0, .int .i64 0, .int .i64 0, .int .i64 0]) rfl (by kernel_rfl) rfl fun g9 => ?_
   refine wl_nil ?_
   refine nw 10 127 (fun _ hm => ⟨hm.bl 3, hm.fa 0, trivial⟩) fun z => ?_
   refine wa1 7 rfl ?_
   refine wl_append (news := [.string s8, .int .i64 0, .int .i64 0, .int .i64 0, .int .i64 0, .int .i64 0, .int .i64 0, .int .i64 0, .int .i64 0, .int .i64 0, .int .i64 0, .int .i64 0, .int .i64 0, .int .i64 0, .int .i64 0]) 0 0 ap61 rfl rfl rfl rfl rfl rfl rfl (by omega) (by unfold maxLen; omega) rfl rfl fun v2 hv2 => ?_
   refine wl_look (R := ∃ A cc, v2 = .slice A (sn + 1) cc) (fun wx hm => own_slice (hm.ownI 0 rfl)) ?_
   rintro ⟨A2, c2, rfl⟩
   have hxs : sl.flatMap stEnc ++ ([.string s8, .int .i64 0, .int .i64 0, .int .i64 0, .int .i64 0, .int .i64 0, .int .i64 0, .int .i64 0, .int .i64 0, .int .i64 0, .int .i64 0, .int .i64 0, .int .i64 0, .int .i64 0, .int .i64 0] : List Value) = (sl ++ [(⟨s8, [0, 0, 0, 0, 0, 0, 0, 0, 0, 0, 0, 0, 0, 0]⟩ : St)]).flatMap stEnc := by simp [stEnc, stCells]
   rw [hxs]
   refine wl_nil ?_
   refine nw 10 255 (fun _ hm => ⟨hm.bl 3, hm.fa 0, trivial⟩) fun z => ?_
   refine wt 8 10 511 rfl z (ov_field fo66_0 rfl rfl) ?_
   refine wa1 9 rfl ?_
   refine wl_store 2 sc61 rfl rfl rfl rfl rfl rfl ?_
   refine wl_nil ?_
   refine nw 10 1023 (fun _ hm => ⟨hm.bl 3, hm.fa 0, trivial⟩) fun z => ?_
   refine wa_done (by kernel_rfl) ?_
   refine nx_blk_nrm (nx_then (sr_ ?_))
   refine wl_ov (ov_loads rz66 rfl (fun _ hm => hm.blkI 2 rfl) rfl rfl) rfl ?_
   refine wl_stores (cs' := [.slice A2 (sn + 1) c2, .slice cA 4 cc, .slice vA vn vc, .slice pA pn pc]) 3 rz66 rfl rfl rfl rfl rfl rfl rfl rfl ?_
   refine nn_ ?_
   refine gw_ret ?_
   refine nx_retc 3 rfl rz66 rfl rfl rfl fun wx hm => ?_
   exact ⟨A2, cA, vA, pA, sn + 1, c2, cc, vn, vc, pn, pc, sl ++ [(⟨s8, [0, 0, 0, 0, 0, 0, 0, 0, 0, 0, 0, 0, 0, 0]⟩ : St)], cl, vl, pl, rfl, ⟨⟨all_snoc (stB_all hsB) ⟨rfl, by dsimp only; omega, s0_ok⟩, by omega⟩, hcok, ⟨hvB, by omega⟩, hpB, by omega⟩, hm.k.more (by omega), hm.g, SlT.ofOwnL stEnc_lenL (all_snoc (stB_all hsB) ⟨rfl, by dsimp only; omega, s0_ok⟩) (hm.ownI 0 rfl) (by simp [hsl]), (hm.fact 0 rfl), SlT.ofOwn vh_len (hm.ownI 1 rfl) hvl, SlT.ofOwn pl_len (hm.ownI 2 rfl) hpl, own_shape (hm.ownI 2 rfl), own_cap (hm.ownI 2 rfl)⟩
  refine wl_got (γ := ByteArray) (val := fun v => .string v) (φ := fun v => v ∈ ([⟨#[]⟩, ⟨#[65]⟩, ⟨#[115, 49]⟩, ⟨#[115, 57]⟩] : List ByteArray)) rfl cb57 rfl rfl rfl rfl (fun wx hm => (some_any [⟨#[]⟩, ⟨#[65]⟩, ⟨#[115, 49]⟩, ⟨#[115, 57]⟩] _ _ _ wx B sb _ hm.k (by omega) (by simp) (by simp) (hm.blkI 0 rfl) (hm.neRow 0 rfl rfl))) fun s10 hs10 => ?_
  have zs10 : s10.size ≤ 100 := mem_sz hs10 (by decide)
  refine wl_nil ?_
  refine nw 10 29 (fun _ hm => ⟨hm.bl 2, hm.fa 0, trivial⟩) fun z => ?_
  refine wt 5 10 61 rfl z (ov_build (cs := [.string s10, .int .i64 0, .int .i64 0, .int .i64 0, .int .i64 0, .int .i64 0, .int .i64 0, .int .i64 0, .int .i64 0, .int .i64 0, .int .i64 0, .int .i64 0, .int .i64 0, .int .i64 0, .int .i64 0]) rfl (by kernel_rfl)) ?_
  refine wa_all [1, 6] (by kernel_rfl) rfl ⟨⟨_, rfl, ?_⟩, ⟨_, rfl, ?_⟩, trivial⟩
  ·refine lk_ sc61 1 rfl rfl rfl (wl_nil ?_)
   refine nw 10 63 (fun _ hm => ⟨hm.bl 2, hm.fa 0, trivial⟩) fun z => ?_
   refine wa1 6 rfl ?_
   refine wl_buildSlice (e := 168) (cs := [.string s10, .int .i64 0, .int .i64 0, .int .i64 0, .int .i64 0, .int .i64 0, .int .i64 0, .int .i64 0, .int .i64 0, .int .i64 0, .int .i64 0, .int .i64 0, .int .i64 0, .int .i64 0, .int .i64 0]) rfl (by kernel_rfl) rfl fun g11 => ?_
   refine wl_nil ?_
   refine nw 10 127 (fun _ hm => ⟨hm.bl 3, hm.fa 0, trivial⟩) fun z => ?_
   refine wa1 7 rfl ?_
   refine wl_append (news := [.string s10, .int .i64 0, .int .i64 0, .int .i64 0, .int .i64 0, .int .i64 0, .int .i64 0, .int .i64 0, .int .i64 0, .int .i64 0, .int .i64 0, .int .i64 0, .int .i64 0, .int .i64 0, .int .i64 0]) 0 0 ap61 rfl rfl rfl rfl rfl rfl rfl (by omega) (by unfold maxLen; omega) rfl rfl fun v2 hv2 => ?_
   refine wl_look (R := ∃ A cc, v2 = .slice A (sn + 1) cc) (fun wx hm => own_slice (hm.ownI 0 rfl)) ?_
   rintro ⟨A2, c2, rfl⟩
   have hxs : sl.flatMap stEnc ++ ([.string s10, .int .i64 0, .int .i64 0, .int .i64 0, .int .i64 0, .int .i64 0, .int .i64 0, .int .i64 0, .int .i64 0, .int .i64 0, .int .i64 0, .int .i64 0, .int .i64 0, .int .i64 0, .int .i64 0] : List Value) = (sl ++ [(⟨s10, [0, 0, 0, 0, 0, 0, 0, 0, 0, 0, 0, 0, 0, 0]⟩ : St)]).flatMap stEnc := by simp [stEnc, stCells]
   rw [hxs]
   refine wl_nil ?_
   refine nw 10 255 (fun _ hm => ⟨hm.bl 3, hm.fa 0, trivial⟩) fun z => ?_
   refine wt 8 10 511 rfl z (ov_field fo66_0 rfl rfl) ?_
   refine wa1 9 rfl ?_
   refine wl_store 2 sc61 rfl rfl rfl rfl rfl rfl ?_
   refine wl_nil ?_
   refine nw 10 1023 (fun _ hm => ⟨hm.bl 3, hm.fa 0, trivial⟩) fun z => ?_
   refine wa_done (by kernel_rfl) ?_
   refine nx_blk_nrm (nx_then (sr_ ?_))
   refine wl_ov (ov_loads rz66 rfl (fun _ hm => hm.blkI 2 rfl) rfl rfl) rfl ?_
   refine wl_stores (cs' := [.slice A2 (sn + 1) c2, .slice cA 4 cc, .slice vA vn vc, .slice pA pn pc]) 3 rz66 rfl rfl rfl rfl rfl rfl rfl rfl ?_
   refine nn_ ?_
   refine gw_ret ?_
   refine nx_retc 3 rfl rz66 rfl rfl rfl fun wx hm => ?_
   exact ⟨A2, cA, vA, pA, sn + 1, c2, cc, vn, vc, pn, pc, sl ++ [(⟨s10, [0, 0, 0, 0, 0, 0, 0, 0, 0, 0, 0, 0, 0, 0]⟩ : St)], cl, vl, pl, rfl, ⟨⟨all_snoc (stB_all hsB) ⟨rfl, by dsimp only; omega, s0_ok⟩, by omega⟩, hcok, ⟨hvB, by omega⟩, hpB, by omega⟩, hm.k.more (by omega), hm.g, SlT.ofOwnL stEnc_lenL (all_snoc (stB_all hsB) ⟨rfl, by dsimp only; omega, s0_ok⟩) (hm.ownI 0 rfl) (by simp [hsl]), (hm.fact 0 rfl), SlT.ofOwn vh_len (hm.ownI 1 rfl) hvl, SlT.ofOwn pl_len (hm.ownI 2 rfl) hpl, own_shape (hm.ownI 2 rfl), own_cap (hm.ownI 2 rfl)⟩
  refine wl_buildSlice (e := 168) (cs := [.string s10, .int .i64 0, .int .i64 0, .int .i64 0, .int .i64 0, .int .i64 0, .int .i64 0, .int .i64 0, .int .i64 0, .int .i64 0, .int .i64 0, .int .i64 0, .int .i64 0, .int .i64 0, .int .i64 0]) rfl (by kernel_rfl) rfl fun g12 => ?_
  refine wl_nil ?_
  refine nw 10 125 (fun _ hm => ⟨hm.bl 3, hm.fa 0, trivial⟩) fun z => ?_
  refine wa1 1 rfl ?_
  refine lk_ sc61 2 rfl rfl rfl (wl_nil ?_)
  refine nw 10 127 (fun _ hm => ⟨hm.bl 3, hm.fa 0, trivial⟩) fun z => ?_
  refine wa1 7 rfl ?_
  refine wl_append (news := [.string s10, .int .i64 0, .int .i64 0, .int .i64 0, .int .i64 0, .int .i64 0, .int .i64 0, .int .i64 0, .int .i64 0, .int .i64 0, .int .i64 0, .int .i64 0, .int .i64 0, .int .i64 0, .int .i64 0]) 0 0 ap61 rfl rfl rfl rfl rfl rfl rfl (by omega) (by unfold maxLen; omega) rfl rfl fun v2 hv2 => ?_
  refine wl_look (R := ∃ A cc, v2 = .slice A (sn + 1) cc) (fun wx hm => own_slice (hm.ownI 0 rfl)) ?_
  rintro ⟨A2, c2, rfl⟩
  have hxs : sl.flatMap stEnc ++ ([.string s10, .int .i64 0, .int .i64 0, .int .i64 0, .int .i64 0, .int .i64 0, .int .i64 0, .int .i64 0, .int .i64 0, .int .i64 0, .int .i64 0, .int .i64 0, .int .i64 0, .int .i64 0, .int .i64 0] : List Value) = (sl ++ [(⟨s10, [0, 0, 0, 0, 0, 0, 0, 0, 0, 0, 0, 0, 0, 0]⟩ : St)]).flatMap stEnc := by simp [stEnc, stCells]
  rw [hxs]
  refine wl_nil ?_
  refine nw 10 255 (fun _ hm => ⟨hm.bl 3, hm.fa 0, trivial⟩) fun z => ?_
  refine wt 8 10 511 rfl z (ov_field fo66_0 rfl rfl) ?_
  refine wa1 9 rfl ?_
  refine wl_store 2 sc61 rfl rfl rfl rfl rfl rfl ?_
  refine wl_nil ?_
  refine nw 10 1023 (fun _ hm => ⟨hm.bl 3, hm.fa 0, trivial⟩) fun z => ?_
  refine wa_done (by kernel_rfl) ?_
  refine nx_blk_nrm (nx_then (sr_ ?_))
  refine wl_ov (ov_loads rz66 rfl (fun _ hm => hm.blkI 2 rfl) rfl rfl) rfl ?_
  refine wl_stores (cs' := [.slice A2 (sn + 1) c2, .slice cA 4 cc, .slice vA vn vc, .slice pA pn pc]) 3 rz66 rfl rfl rfl rfl rfl rfl rfl rfl ?_
  refine nn_ ?_
  refine gw_ret ?_
  refine nx_retc 3 rfl rz66 rfl rfl rfl fun wx hm => ?_
  exact ⟨A2, cA, vA, pA, sn + 1, c2, cc, vn, vc, pn, pc, sl ++ [(⟨s10, [0, 0, 0, 0, 0, 0, 0, 0, 0, 0, 0, 0, 0, 0]⟩ : St)], cl, vl, pl, rfl, ⟨⟨all_snoc (stB_all hsB) ⟨rfl, by dsimp only; omega, s0_ok⟩, by omega⟩, hcok, ⟨hvB, by omega⟩, hpB, by omega⟩, hm.k.more (by omega), hm.g, SlT.ofOwnL stEnc_lenL (all_snoc (stB_all hsB) ⟨rfl, by dsimp only; omega, s0_ok⟩) (hm.ownI 0 rfl) (by simp [hsl]), (hm.fact 0 rfl), SlT.ofOwn vh_len (hm.ownI 1 rfl) hvl, SlT.ofOwn pl_len (hm.ownI 2 rfl) hpl, own_shape (hm.ownI 2 rfl), own_cap (hm.ownI 2 rfl)⟩
 have h0 : ¬ (vj = 0) := by simpa using hh
 clear hh
 refine sr_ (wl_ov (ov_eql rfl rfl) rfl (sg_ rfl (nn_ ?_)))
 refine gw_cond rfl (fun hh => ?_) (fun hh => ?_)
 ·have h1 : vj = 1 := by simpa using hh
  clear hh
  refine gw_region (mv_ rfl ?_)
  refine wl_calls (γ := Option Addr × Nat × List Cs) (val := (fun g => .slice g.1 4 g.2.1)) (φ := (fun g => g.2.2.length = 4 ∧ (∀ x ∈ g.2.2, CsOk x))) (Y := (fun g => fun wy => SlT csEnc 2 170 wy g.1 4 g.2.2)) (m' := m + 300 + 1 + 1 + 40) rfl cb125 rfl rfl rfl rfl (fun wx hm => (ganyClasses_any wx B sb _ hm.k (by omega)).mono fun _ _ ⟨A, c, l, he, ho, hl, hok, hS, hg⟩ => ⟨(A, c, l), he, ⟨hl, hok⟩, hS, hg, SlT.ofOwn cs_len ho hl⟩) (fun _ => SlT.lasts2 rfl) ?_
  rintro ⟨cA2, cc2, cl2⟩ hphi
  dsimp only at hphi ⊢
  obtain ⟨hcl42, hcok2⟩ := hphi
  refine fd_ fo66_1 rfl rfl ?_
  refine wl_store 0 sc62 rfl rfl rfl rfl rfl rfl ?_
  refine wl_nil (nx_blk_nrm (nx_then (sr_ ?_)))
  refine wl_ov (ov_loads rz66 rfl (fun _ hm => hm.blkI 0 rfl) rfl rfl) rfl ?_
  refine wl_stores (cs' := [.slice sA sn sc, .slice cA2 4 cc2, .slice vA vn vc, .slice pA pn pc]) 1 rz66 rfl rfl rfl rfl rfl rfl rfl rfl ?_
  refine nn_ ?_
  refine gw_ret ?_
  refine nx_retc 1 rfl rz66 rfl rfl rfl fun wx hm => ?_
  exact ⟨sA, cA2, vA, pA, sn, sc, cc2, vn, vc, pn, pc, sl, cl2, vl, pl, rfl, ⟨⟨stB_all hsB, by omega⟩, hcok2, ⟨hvB, by omega⟩, hpB, by omega⟩, hm.k.more (by omega), hm.g, SlT.ofOwnL stEnc_lenL (stB_all hsB) (hm.ownI 0 rfl) hsl, (hm.fact 0 rfl), SlT.ofOwn vh_len (hm.ownI 1 rfl) hvl, SlT.ofOwn pl_len (hm.ownI 2 rfl) hpl, own_shape (hm.ownI 2 rfl), own_cap (hm.ownI 2 rfl)⟩
 have h1 : ¬ (vj = 1) := by simpa using hh
 clear hh
 refine sr_ (wl_ov (ov_eql rfl rfl) rfl (sg_ rfl (nn_ ?_)))
 refine gw_cond rfl (fun hh => ?_) (fun hh => ?_)
 ·have h2 : vj = 2 := by simpa using hh
  clear hh
  refine gd (fun wz => Blk wz g1 66 [.slice none 0 0, .slice none 0 0, .slice none 0 0, .slice none 0 0] ∧ (fun wy => SlT csEnc 2 170 wy cA 4 cl) wz ∧ True) mixed (fun _ hm => ⟨hm.bl 1, hm.fa 0, trivial⟩) fun z => ?_
  refine wt 0 12 1 rfl z (ov_field fo66_2 rfl rfl) ?_
  refine wt 2 12 5 rfl z (ov_move rfl) ?_
  refine wt 5 12 37 rfl z (ov_move rfl) ?_
  refine wa_all [1, 3] (by kernel_rfl) rfl ⟨⟨_, rfl, ?_⟩, ⟨_, rfl, ?_⟩, trivial⟩
  ·refine lk_ sc63 0 rfl rfl rfl (wl_nil ?_)
   refine nw 12 39 (fun _ hm => ⟨hm.bl 1, hm.fa 0, trivial⟩) fun z => ?_
   refine wa1 3 rfl ?_
   refine wl_buildSlice (e := 9) (cs := [.string ⟨#[]⟩, .string ⟨#[118, 49]⟩, .string ⟨#[118, 57]⟩]) rfl (by kernel_rfl) rfl fun g13 => ?_
   refine wl_nil ?_
   refine nw 12 47 (fun _ hm => ⟨hm.bl 2, hm.fa 0, trivial⟩) fun z => ?_
   refine wa1 4 rfl ?_
   refine wl_got (γ := ByteArray) (val := fun v => .string v) (φ := fun v => v ∈ ([⟨#[]⟩, ⟨#[118, 49]⟩, ⟨#[118, 57]⟩] : List ByteArray)) rfl cb57 rfl rfl rfl rfl (fun wx hm => (some_any [⟨#[]⟩, ⟨#[118, 49]⟩, ⟨#[118, 57]⟩] _ _ _ wx B sb _ hm.k (by omega) (by simp) (by simp) (hm.blkI 0 rfl) (hm.neRow 0 rfl rfl))) fun s14 hs14 => ?_
   have zs14 : s14.size ≤ 100 := mem_sz hs14 (by decide)
   refine wl_nil ?_
   refine nw 12 63 (fun _ hm => ⟨hm.bl 2, hm.fa 0, trivial⟩) fun z => ?_
   refine wa1 6 rfl ?_
   refine wl_calls (γ := ByteArray) (val := (fun g => .string g)) (φ := (fun g => g.size ≤ 100)) (Y := (fun g => fun _ => True)) (m' := m + 300 + 1 + 1 + 1 + 1) rfl cb126 rfl rfl rfl rfl (fun wx hm => (gclassKey2_any wx B sb _ hm.k (by omega)).mono fun _ _ ⟨v, he, hz, hS, hg⟩ => ⟨v, he, hz, hS, hg, trivial⟩) (fun _ => Lasts2.true_) ?_
   rintro ck hck
   refine wl_nil ?_
   refine nw 12 127 (fun _ hm => ⟨hm.bl 2, hm.fa 1, trivial⟩) fun z => ?_
   refine wt 7 12 255 rfl z (ov_build (cs := [.string s14, .string ck]) rfl (by kernel_rfl)) ?_
   refine wa1 8 rfl ?_
   refine wl_buildSlice (e := 158) (cs := [.string s14, .string ck]) rfl (by kernel_rfl) rfl fun g16 => ?_
   refine wl_nil ?_
   refine nw 12 511 (fun _ hm => ⟨hm.bl 3, hm.fa 1, trivial⟩) fun z => ?_
   refine wa1 9 rfl ?_
   refine wl_append (news := [.string s14, .string ck]) 1 0 ap63 rfl rfl rfl rfl rfl rfl rfl (by omega) (by unfold maxLen; omega) rfl rfl fun v2 hv2 => ?_
   refine wl_look (R := ∃ A cc, v2 = .slice A (vn + 1) cc) (fun wx hm => own_slice (hm.ownI 1 rfl)) ?_
   rintro ⟨A2, c2, rfl⟩
   have hxs : vl.flatMap vhEnc ++ ([.string s14, .string ck] : List Value) = (vl ++ [(⟨s14, ck⟩ : Vh)]).flatMap vhEnc := by simp [vhEnc]
   rw [hxs]
   refine wl_nil ?_
   refine nw 12 1023 (fun _ hm => ⟨hm.bl 3, hm.fa 1, trivial⟩) fun z => ?_
   refine wt 10 12 2047 rfl z (ov_field fo66_2 rfl rfl) ?_
   refine wa1 11 rfl ?_
   refine wl_store 2 sc63 rfl rfl rfl rfl rfl rfl ?_
   refine wl_nil ?_
   refine nw 12 4095 (fun _ hm => ⟨hm.bl 3, hm.fa 1, trivial⟩) fun z => ?_
   refine wa_done (by kernel_rfl) ?_
   refine nx_blk_nrm (nx_then (sr_ ?_))
   refine wl_ov (ov_loads rz66 rfl (fun _ hm => hm.blkI 2 rfl) rfl rfl) rfl ?_
   refine wl_stores (cs' := [.slice sA sn sc, .slice cA 4 cc, .slice A2 (vn + 1) c2, .slice pA pn pc]) 3 rz66 rfl rfl rfl rfl rfl rfl rfl rfl ?_
   refine nn_ ?_
   refine gw_ret ?_
   refine nx_retc 3 rfl rz66 rfl rfl rfl fun wx hm => ?_
   exact ⟨sA, cA, A2, pA, sn, sc, cc, vn + 1, c2, pn, pc, sl, cl, vl ++ [(⟨s14, ck⟩ : Vh)], pl, rfl, ⟨⟨stB_all hsB, by omega⟩, hcok, ⟨all_snoc hvB ⟨by dsimp only; omega, by dsimp only; omega⟩, by omega⟩, hpB, by omega⟩, hm.k.more (by omega), hm.g, SlT.ofOwnL stEnc_lenL (stB_all hsB) (hm.ownI 0 rfl) hsl, (hm.fact 1 rfl), SlT.ofOwn vh_len (hm.ownI 1 rfl) (by simp [hvl]), SlT.ofOwn pl_len (hm.ownI 2 rfl) hpl, own_shape (hm.ownI 2 rfl), own_cap (hm.ownI 2 rfl)⟩
  refine wl_buildSlice (e := 9) (cs := [.string ⟨#[]⟩, .string ⟨#[118, 49]⟩, .string ⟨#[118, 57]⟩]) rfl (by kernel_rfl) rfl fun g17 => ?_
  refine wl_nil ?_
  refine nw 12 45 (fun _ hm => ⟨hm.bl 2, hm.fa 0, trivial⟩) fun z => ?_
  refine wa_all [1, 4] (by kernel_rfl) rfl ⟨⟨_, rfl, ?_⟩, ⟨_, rfl, ?_⟩, trivial⟩
  ·refine lk_ sc63 1 rfl rfl rfl (wl_nil ?_)
   refine nw 12 47 (fun _ hm => ⟨hm.bl 2, hm.fa 0, trivial⟩) fun z => ?_
   refine wa1 4 rfl ?_
   refine wl_got (γ := ByteArray) (val := fun v => .string v) (φ := fun v => v ∈ ([⟨#[]⟩, ⟨#[118, 49]⟩, ⟨#[118, 57]⟩] : List ByteArray)) rfl cb57 rfl rfl rfl rfl (fun wx hm => (some_any [⟨#[]⟩, ⟨#[118, 49]⟩, ⟨#[118, 57]⟩] _ _ _ wx B sb _ hm.k (by omega) (by simp) (by simp) (hm.blkI 0 rfl) (hm.neRow 0 rfl rfl))) fun s18 hs18 => ?_
   have zs18 : s18.size ≤ 100 := mem_sz hs18 (by decide)
   refine wl_nil ?_
   refine nw 12 63 (fun _ hm => ⟨hm.bl 2, hm.fa 0, trivial⟩) fun z => ?_
   refine wa1 6 rfl ?_
   refine wl_calls (γ := ByteArray) (val := (fun g => .string g)) (φ := (fun g => g.size ≤ 100)) (Y := (fun g => fun _ => True)) (m' := m + 300 + 1 + 1 + 1 + 1) rfl cb126 rfl rfl rfl rfl (fun wx hm => (gclassKey2_any wx B sb _ hm.k (by omega)).mono fun _ _ ⟨v, he, hz, hS, hg⟩ => ⟨v, he, hz, hS, hg, trivial⟩) (fun _ => Lasts2.true_) ?_
   rintro ck hck
   refine wl_nil ?_
   refine nw 12 127 (fun _ hm => ⟨hm.bl 2, hm.fa 1, trivial⟩) fun z => ?_
   refine wt 7 12 255 rfl z (ov_build (cs := [.string s18, .string ck]) rfl (by kernel_rfl)) ?_
   refine wa1 8 rfl ?_
   refine wl_buildSlice (e := 158) (cs := [.string s18, .string ck]) rfl (by kernel_rfl) rfl fun g20 => ?_
   refine wl_nil ?_
   refine nw 12 511 (fun _ hm => ⟨hm.bl 3, hm.fa 1, trivial⟩) fun z => ?_
   refine wa1 9 rfl ?_
   refine wl_append (news := [.string s18, .string ck]) 1 0 ap63 rfl rfl rfl rfl rfl rfl rfl (by omega) (by unfold maxLen; omega) rfl rfl fun v2 hv2 => ?_
   refine wl_look (R := ∃ A cc, v2 = .slice A (vn + 1) cc) (fun wx hm => own_slice (hm.ownI 1 rfl)) ?_
   rintro ⟨A2, c2, rfl⟩
   have hxs : vl.flatMap vhEnc ++ ([.string s18, .string ck] : List Value) = (vl ++ [(⟨s18, ck⟩ : Vh)]).flatMap vhEnc := by simp [vhEnc]
   rw [hxs]
   refine wl_nil ?_
   refine nw 12 1023 (fun _ hm => ⟨hm.bl 3, hm.fa 1, trivial⟩) fun z => ?_
   refine wt 10 12 2047 rfl z (ov_field fo66_2 rfl rfl) ?_
   refine wa1 11 rfl ?_
   refine wl_store 2 sc63 rfl rfl rfl rfl rfl rfl ?_
   refine wl_nil ?_
   refine nw 12 4095 (fun _ hm => ⟨hm.bl 3, hm.fa 1, trivial⟩) fun z => ?_
   refine wa_done (by kernel_rfl) ?_
   refine nx_blk_nrm (nx_then (sr_ ?_))
   refine wl_ov (ov_loads rz66 rfl (fun _ hm => hm.blkI 2 rfl) rfl rfl) rfl ?_
   refine wl_stores (cs' := [.slice sA sn sc, .slice cA 4 cc, .slice A2 (vn + 1) c2, .slice pA pn pc]) 3 rz66 rfl rfl rfl rfl rfl rfl rfl rfl ?_
   refine nn_ ?_
   refine gw_ret ?_
   refine nx_retc 3 rfl rz66 rfl rfl rfl fun wx hm => ?_
   exact ⟨sA, cA, A2, pA, sn, sc, cc, vn + 1, c2, pn, pc, sl, cl, vl ++ [(⟨s18, ck⟩ : Vh)], pl, rfl, ⟨⟨stB_all hsB, by omega⟩, hcok, ⟨all_snoc hvB ⟨by dsimp only; omega, by dsimp only; omega⟩, by omega⟩, hpB, by omega⟩, hm.k.more (by omega), hm.g, SlT.ofOwnL stEnc_lenL (stB_all hsB) (hm.ownI 0 rfl) hsl, (hm.fact 1 rfl), SlT.ofOwn vh_len (hm.ownI 1 rfl) (by simp [hvl]), SlT.ofOwn pl_len (hm.ownI 2 rfl) hpl, own_shape (hm.ownI 2 rfl), own_cap (hm.ownI 2 rfl)⟩
  refine wl_got (γ := ByteArray) (val := fun v => .string v) (φ := fun v => v ∈ ([⟨#[]⟩, ⟨#[118, 49]⟩, ⟨#[118, 57]⟩] : List ByteArray)) rfl cb57 rfl rfl rfl rfl (fun wx hm => (some_any [⟨#[]⟩, ⟨#[118, 49]⟩, ⟨#[118, 57]⟩] _ _ _ wx B sb _ hm.k (by omega) (by simp) (by simp) (hm.blkI 0 rfl) (hm.neRow 0 rfl rfl))) fun s21 hs21 => ?_
  have zs21 : s21.size ≤ 100 := mem_sz hs21 (by decide)
  refine wl_nil ?_
  refine nw 12 61 (fun _ hm => ⟨hm.bl 2, hm.fa 0, trivial⟩) fun z => ?_
  refine wa_all [1, 6] (by kernel_rfl) rfl ⟨⟨_, rfl, ?_⟩, ⟨_, rfl, ?_⟩, trivial⟩
  ·refine lk_ sc63 1 rfl rfl rfl (wl_nil ?_)
   refine nw 12 63 (fun _ hm => ⟨hm.bl 2, hm.fa 0, trivial⟩) fun z => ?_
   refine wa1 6 rfl ?_
   refine wl_calls (γ := ByteArray) (val := (fun g => .string g)) (φ := (fun g => g.size ≤ 100)) (Y := (fun g => fun _ => True)) (m' := m + 300 + 1 + 1 + 1 + 1) rfl cb126 rfl rfl rfl rfl (fun wx hm => (gclassKey2_any wx B sb _ hm.k (by omega)).mono fun _ _ ⟨v, he, hz, hS, hg⟩ => ⟨v, he, hz, hS, hg, trivial⟩) (fun _ => Lasts2.true_) ?_
   rintro ck hck
   refine wl_nil ?_
   refine nw 12 127 (fun _ hm => ⟨hm.bl 2, hm.fa 1, trivial⟩) fun z => ?_
   refine wt 7 12 255 rfl z (ov_build (cs := [.string s21, .string ck]) rfl (by kernel_rfl)) ?_
   refine wa1 8 rfl ?_
   refine wl_buildSlice (e := 158) (cs := [.string s21, .string ck]) rfl (by kernel_rfl) rfl fun g23 => ?_
   refine wl_nil ?_
   refine nw 12 511 (fun _ hm => ⟨hm.bl 3, hm.fa 1, trivial⟩) fun z => ?_
   refine wa1 9 rfl ?_
   refine wl_append (news := [.string s21, .string ck]) 1 0 ap63 rfl rfl rfl rfl rfl rfl rfl (by omega) (by unfold maxLen; omega) rfl rfl fun v2 hv2 => ?_
   refine wl_look (R := ∃ A cc, v2 = .slice A (vn + 1) cc) (fun wx hm => own_slice (hm.ownI 1 rfl)) ?_
   rintro ⟨A2, c2, rfl⟩
   have hxs : vl.flatMap vhEnc ++ ([.string s21, .string ck] : List Value) = (vl ++ [(⟨s21, ck⟩ : Vh)]).flatMap vhEnc := by simp [vhEnc]
   rw [hxs]
   refine wl_nil ?_
   refine nw 12 1023 (fun _ hm => ⟨hm.bl 3, hm.fa 1, trivial⟩) fun z => ?_
   refine wt 10 12 2047 rfl z (ov_field fo66_2 rfl rfl) ?_
   refine wa1 11 rfl ?_
   refine wl_store 2 sc63 rfl rfl rfl rfl rfl rfl ?_
   refine wl_nil ?_
   refine nw 12 4095 (fun _ hm => ⟨hm.bl 3, hm.fa 1, trivial⟩) fun z => ?_
   refine wa_done (by kernel_rfl) ?_
   refine nx_blk_nrm (nx_then (sr_ ?_))
   refine wl_ov (ov_loads rz66 rfl (fun _ hm => hm.blkI 2 rfl) rfl rfl) rfl ?_
   refine wl_stores (cs' := [.slice sA sn sc, .slice cA 4 cc, .slice A2 (vn + 1) c2, .slice pA pn pc]) 3 rz66 rfl rfl rfl rfl rfl rfl rfl rfl ?_
   refine nn_ ?_
   refine gw_ret ?_
   refine nx_retc 3 rfl rz66 rfl rfl rfl fun wx hm => ?_
   exact ⟨sA, cA, A2, pA, sn, sc, cc, vn + 1, c2, pn, pc, sl, cl, vl ++ [(⟨s21, ck⟩ : Vh)], pl, rfl, ⟨⟨stB_all hsB, by omega⟩, hcok, ⟨all_snoc hvB ⟨by dsimp only; omega, by dsimp only; omega⟩, by omega⟩, hpB, by omega⟩, hm.k.more (by omega), hm.g, SlT.ofOwnL stEnc_lenL (stB_all hsB) (hm.ownI 0 rfl) hsl, (hm.fact 1 rfl), SlT.ofOwn vh_len (hm.ownI 1 rfl) (by simp [hvl]), SlT.ofOwn pl_len (hm.ownI 2 rfl) hpl, own_shape (hm.ownI 2 rfl), own_cap (hm.ownI 2 rfl)⟩
  refine wl_calls (γ := ByteArray) (val := (fun g => .string g)) (φ := (fun g => g.size ≤ 100)) (Y := (fun g => fun _ => True)) (m' := m + 300 + 1 + 1 + 1 + 1) rfl cb126 rfl rfl rfl rfl (fun wx hm => (gclassKey2_any wx B sb _ hm.k (by omega)).mono fun _ _ ⟨v, he, hz, hS, hg⟩ => ⟨v, he, hz, hS, hg, trivial⟩) (fun _ => Lasts2.true_) ?_
  rintro ck hck
  refine wl_nil ?_
  refine nw 12 125 (fun _ hm => ⟨hm.bl 2, hm.fa 1, trivial⟩) fun z => ?_
  refine wt 7 12 253 rfl z (ov_build (cs := [.string s21, .string ck]) rfl (by kernel_rfl)) ?_
  refine wa_all [1, 8] (by kernel_rfl) rfl ⟨⟨_, rfl, ?_⟩, ⟨_, rfl, ?_⟩, trivial⟩
  ·refine lk_ sc63 1 rfl rfl rfl (wl_nil ?_)
   refine nw 12 255 (fun _ hm => ⟨hm.bl 2, hm.fa 1, trivial⟩) fun z => ?_
   refine wa1 8 rfl ?_
   refine wl_buildSlice (e := 158) (cs := [.string s21, .string ck]) rfl (by kernel_rfl) rfl fun g25 => ?_
   refine wl_nil ?_
   refine nw 12 511 (fun _ hm => ⟨hm.bl 3, hm.fa 1, trivial⟩) fun z => ?_
   refine wa1 9 rfl ?_
   refine wl_append (news := [.string s21, .string ck]) 1 0 ap63 rfl rfl rfl rfl rfl rfl rfl (by omega) (by unfold maxLen; omega) rfl rfl fun v2 hv2 => ?_
   refine wl_look (R := ∃ A cc, v2 = .slice A (vn + 1) cc) (fun wx hm => own_slice (hm.ownI 1 rfl)) ?_
   rintro ⟨A2, c2, rfl⟩
   have hxs : vl.flatMap vhEnc ++ ([.string s21, .string ck] : List Value) = (vl ++ [(⟨s21, ck⟩ : Vh)]).flatMap vhEnc := by simp [vhEnc]
   rw [hxs]
   refine wl_nil ?_
   refine nw 12 1023 (fun _ hm => ⟨hm.bl 3, hm.fa 1, trivial⟩) fun z => ?_
   refine wt 10 12 2047 rfl z (ov_field fo66_2 rfl rfl) ?_
   refine wa1 11 rfl ?_
   refine wl_store 2 sc63 rfl rfl rfl rfl rfl rfl ?_
   refine wl_nil ?_
   refine nw 12 4095 (fun _ hm => ⟨hm.bl 3, hm.fa 1, trivial⟩) fun z => ?_
   refine wa_done (by kernel_rfl) ?_
   refine nx_blk_nrm (nx_then (sr_ ?_))
   refine wl_ov (ov_loads rz66 rfl (fun _ hm => hm.blkI 2 rfl) rfl rfl) rfl ?_
   refine wl_stores (cs' := [.slice sA sn sc, .slice cA 4 cc, .slice A2 (vn + 1) c2, .slice pA pn pc]) 3 rz66 rfl rfl rfl rfl rfl rfl rfl rfl ?_
   refine nn_ ?_
   refine gw_ret ?_
   refine nx_retc 3 rfl rz66 rfl rfl rfl fun wx hm => ?_
   exact ⟨sA, cA, A2, pA, sn, sc, cc, vn + 1, c2, pn, pc, sl, cl, vl ++ [(⟨s21, ck⟩ : Vh)], pl, rfl, ⟨⟨stB_all hsB, by omega⟩, hcok, ⟨all_snoc hvB ⟨by dsimp only; omega, by dsimp only; omega⟩, by omega⟩, hpB, by omega⟩, hm.k.more (by omega), hm.g, SlT.ofOwnL stEnc_lenL (stB_all hsB) (hm.ownI 0 rfl) hsl, (hm.fact 1 rfl), SlT.ofOwn vh_len (hm.ownI 1 rfl) (by simp [hvl]), SlT.ofOwn pl_len (hm.ownI 2 rfl) hpl, own_shape (hm.ownI 2 rfl), own_cap (hm.ownI 2 rfl)⟩
  refine wl_buildSlice (e := 158) (cs := [.string s21, .string ck]) rfl (by kernel_rfl) rfl fun g26 => ?_
  refine wl_nil ?_
  refine nw 12 509 (fun _ hm => ⟨hm.bl 3, hm.fa 1, trivial⟩) fun z => ?_
  refine wa1 1 rfl ?_
  refine lk_ sc63 2 rfl rfl rfl (wl_nil ?_)
  refine nw 12 511 (fun _ hm => ⟨hm.bl 3, hm.fa 1, trivial⟩) fun z => ?_
  refine wa1 9 rfl ?_
  refine wl_append (news := [.string s21, .string ck]) 1 0 ap63 rfl rfl rfl rfl rfl rfl rfl (by omega) (by unfold maxLen; omega) rfl rfl fun v2 hv2 => ?_
  refine wl_look (R := ∃ A cc, v2 = .slice A (vn + 1) cc) (fun wx hm => own_slice (hm.ownI 1 rfl)) ?_
  rintro ⟨A2, c2, rfl⟩
  have hxs : vl.flatMap vhEnc ++ ([.string s21, .string ck] : List Value) = (vl ++ [(⟨s21, ck⟩ : Vh)]).flatMap vhEnc := by simp [vhEnc]
  rw [hxs]
  refine wl_nil ?_
  refine nw 12 1023 (fun _ hm => ⟨hm.bl 3, hm.fa 1, trivial⟩) fun z => ?_
  refine wt 10 12 2047 rfl z (ov_field fo66_2 rfl rfl) ?_
  refine wa1 11 rfl ?_
  refine wl_store 2 sc63 rfl rfl rfl rfl rfl rfl ?_
  refine wl_nil ?_
  refine nw 12 4095 (fun _ hm => ⟨hm.bl 3, hm.fa 1, trivial⟩) fun z => ?_
  refine wa_done (by kernel_rfl) ?_
  refine nx_blk_nrm (nx_then (sr_ ?_))
  refine wl_ov (ov_loads rz66 rfl (fun _ hm => hm.blkI 2 rfl) rfl rfl) rfl ?_
  refine wl_stores (cs' := [.slice sA sn sc, .slice cA 4 cc, .slice A2 (vn + 1) c2, .slice pA pn pc]) 3 rz66 rfl rfl rfl rfl rfl rfl rfl rfl ?_
  refine nn_ ?_
  refine gw_ret ?_
  refine nx_retc 3 rfl rz66 rfl rfl rfl fun wx hm => ?_
  exact ⟨sA, cA, A2, pA, sn, sc, cc, vn + 1, c2, pn, pc, sl, cl, vl ++ [(⟨s21, ck⟩ : Vh)], pl, rfl, ⟨⟨stB_all hsB, by omega⟩, hcok, ⟨all_snoc hvB ⟨by dsimp only; omega, by dsimp only; omega⟩, by omega⟩, hpB, by omega⟩, hm.k.more (by omega), hm.g, SlT.ofOwnL stEnc_lenL (stB_all hsB) (hm.ownI 0 rfl) hsl, (hm.fact 1 rfl), SlT.ofOwn vh_len (hm.ownI 1 rfl) (by simp [hvl]), SlT.ofOwn pl_len (hm.ownI 2 rfl) hpl, own_shape (hm.ownI 2 rfl), own_cap (hm.ownI 2 rfl)⟩
 have h2 : ¬ (vj = 2) := by simpa using hh
 clear hh
 refine gd (fun wz => Blk wz g1 66 [.slice none 0 0, .slice none 0 0, .slice none 0 0, .slice none 0 0] ∧ (fun wy => SlT csEnc 2 170 wy cA 4 cl) wz ∧ True) mixed (fun _ hm => ⟨hm.bl 1, hm.fa 0, trivial⟩) fun z => ?_
 refine wt 0 15 1 rfl z (ov_field fo66_3 rfl rfl) ?_
 refine wt 2 15 5 rfl z (ov_move rfl) ?_
 refine wt 4 15 21 rfl z (ov_move rfl) ?_
 refine wt 7 15 149 rfl z (ov_move rfl) ?_
 refine wa_open fun W hW => ?_
 have T255 : ∀ (k3 : Int) (hk3 : -2000000000000000 ≤ k3 ∧ k3 ≤ 2000000000000000) (q5 : Nat) (k6 : ByteArray) (zk6 : k6.size ≤ 100), W 7 (lb 15 255) [(2, .pointer (some ⟨g1, 0, none⟩)), (3, .pointer (some ⟨g2, 0, none⟩)), (13, .slice pA pn pc), (15, .int .i64 k3), (18, .string k6), (19, .pointer (some ⟨sb, 0, none⟩))] (fun w => Strm 25 w B sb (m + 300 + 1 + 1 + 2 + 1)) [(g1, 66, [.slice none 0 0, .slice none 0 0, .slice none 0 0, .slice none 0 0]), (g2, 66, [.slice sA sn sc, .slice cA 4 cc, .slice vA vn vc, .slice pA pn pc]), (q5, 9, [.string ⟨#[118, 49]⟩, .string ⟨#[110, 111, 110, 101]⟩])] [⟨.slice sA sn sc, 168, 15, sn, sl.flatMap stEnc⟩, ⟨.slice vA vn vc, 158, 2, vn, vl.flatMap vhEnc⟩, ⟨.slice pA pn pc, 161, 3, pn, pl.flatMap plEnc⟩] [fun wy => SlT csEnc 2 170 wy cA 4 cl] := by
  intro k3 hk3 q5 k6 zk6
  rw [hW]
  refine wa1 8 rfl ?_
  refine wl_buildSlice (e := 9) (cs := [.string ⟨#[65, 66, 49]⟩, .string ⟨#[97, 49]⟩, .string ⟨#[65]⟩, .string ⟨#[65, 66, 67, 68, 69, 70, 71, 72, 73, 74, 49]⟩, .string ⟨#[65, 66, 49]⟩]) rfl (by kernel_rfl) rfl fun g27 => ?_
  refine wl_nil ?_
  refine nw 15 511 (fun _ hm => ⟨hm.bl 1, hm.fa 0, trivial⟩) fun z => ?_
  refine wa1 9 rfl ?_
  refine wl_got (γ := ByteArray) (val := fun v => .string v) (φ := fun v => v ∈ ([⟨#[65, 66, 49]⟩, ⟨#[97, 49]⟩, ⟨#[65]⟩, ⟨#[65, 66, 67, 68, 69, 70, 71, 72, 73, 74, 49]⟩, ⟨#[65, 66, 49]⟩] : List ByteArray)) rfl cb57 rfl rfl rfl rfl (fun wx hm => (some_any [⟨#[65, 66, 49]⟩, ⟨#[97, 49]⟩, ⟨#[65]⟩, ⟨#[65, 66, 67, 68, 69, 70, 71, 72, 73, 74, 49]⟩, ⟨#[65, 66, 49]⟩] _ _ _ wx B sb _ hm.k (by omega) (by simp) (by simp) (hm.blkI 0 rfl) (hm.neRow 0 rfl rfl))) fun k9 hk9 => ?_
  have zk9 : k9.size ≤ 100 := mem_sz hk9 (by decide)
  refine wl_nil ?_
  refine nw 15 1023 (fun _ hm => ⟨hm.bl 1, hm.fa 0, trivial⟩) fun z => ?_
  refine wt 10 15 2047 rfl z (ov_build (cs := [.int .i64 k3, .string k6, .string k9]) rfl (by kernel_rfl)) ?_
  refine wa1 11 rfl ?_
  refine wl_buildSlice (e := 161) (cs := [.int .i64 k3, .string k6, .string k9]) rfl (by kernel_rfl) rfl fun g28 => ?_
  refine wl_nil ?_
  refine nw 15 4095 (fun _ hm => ⟨hm.bl 2, hm.fa 0, trivial⟩) fun z => ?_
  refine wa1 12 rfl ?_
  refine wl_append (news := [.int .i64 k3, .string k6, .string k9]) 2 0 ap64 rfl rfl rfl rfl rfl rfl rfl (by omega) (by unfold maxLen; omega) rfl rfl fun v2 hv2 => ?_
  refine wl_look (R := ∃ A cc, v2 = .slice A (pn + 1) cc) (fun wx hm => own_slice (hm.ownI 2 rfl)) ?_
  rintro ⟨A2, c2, rfl⟩
  have hxs : pl.flatMap plEnc ++ ([.int .i64 k3, .string k6, .string k9] : List Value) = (pl ++ [(⟨k3, k6, k9⟩ : Pl)]).flatMap plEnc := by simp [plEnc]
  rw [hxs]
  refine wl_nil ?_
  refine nw 15 8191 (fun _ hm => ⟨hm.bl 2, hm.fa 0, trivial⟩) fun z => ?_
  refine wt 13 15 16383 rfl z (ov_field fo66_3 rfl rfl) ?_
  refine wa1 14 rfl ?_
  refine wl_store 3 sc64 rfl rfl rfl rfl rfl rfl ?_
  refine wl_nil ?_
  refine nw 15 32767 (fun _ hm => ⟨hm.bl 2, hm.fa 0, trivial⟩) fun z => ?_
  refine wa_done (by kernel_rfl) ?_
  refine nx_blk_nrm (nx_then (sr_ ?_))
  refine wl_ov (ov_loads rz66 rfl (fun _ hm => hm.blkI 3 rfl) rfl rfl) rfl ?_
  refine wl_stores (cs' := [.slice sA sn sc, .slice cA 4 cc, .slice vA vn vc, .slice A2 (pn + 1) c2]) 2 rz66 rfl rfl rfl rfl rfl rfl rfl rfl ?_
  refine nn_ ?_
  refine gw_ret ?_
  refine nx_retc 2 rfl rz66 rfl rfl rfl fun wx hm => ?_
  exact ⟨sA, cA, vA, A2, sn, sc, cc, vn, vc, pn + 1, c2, sl, cl, vl, pl ++ [(⟨k3, k6, k9⟩ : Pl)], rfl, ⟨⟨stB_all hsB, by omega⟩, hcok, ⟨hvB, by omega⟩, all_snoc hpB ⟨⟨by dsimp only; omega, by dsimp only; omega⟩, by dsimp only; omega, by dsimp only; omega⟩, by omega⟩, hm.k.more (by omega), hm.g, SlT.ofOwnL stEnc_lenL (stB_all hsB) (hm.ownI 0 rfl) hsl, (hm.fact 0 rfl), SlT.ofOwn vh_len (hm.ownI 1 rfl) hvl, SlT.ofOwn pl_len (hm.ownI 2 rfl) (by simp [hpl]), own_shape (hm.ownI 2 rfl), own_cap (hm.ownI 2 rfl)⟩
 have T447 : ∀ (k3 : Int) (hk3 : -2000000000000000 ≤ k3 ∧ k3 ≤ 2000000000000000) (q5 : Nat) (q8 : Nat), W 7 (lb 15 447) [(2, .pointer (some ⟨g1, 0, none⟩)), (3, .pointer (some ⟨g2, 0, none⟩)), (13, .slice pA pn pc), (15, .int .i64 k3), (16, .pointer (some ⟨sb, 0, none⟩)), (17, .slice (some ⟨q5, 0, none⟩) 2 2), (19, .pointer (some ⟨sb, 0, none⟩)), (20, .slice (some ⟨q8, 0, none⟩) 5 5)] (fun w => Strm 25 w B sb (m + 300 + 1 + 1 + 2)) [(g1, 66, [.slice none 0 0, .slice none 0 0, .slice none 0 0, .slice none 0 0]), (g2, 66, [.slice sA sn sc, .slice cA 4 cc, .slice vA vn vc, .slice pA pn pc]), (q5, 9, [.string ⟨#[118, 49]⟩, .string ⟨#[110, 111, 110, 101]⟩]), (q8, 9, [.string ⟨#[65, 66, 49]⟩, .string ⟨#[97, 49]⟩, .string ⟨#[65]⟩, .string ⟨#[65, 66, 67, 68, 69, 70, 71, 72, 73, 74, 49]⟩, .string ⟨#[65, 66, 49]⟩])] [⟨.slice sA sn sc, 168, 15, sn, sl.flatMap stEnc⟩, ⟨.slice vA vn vc, 158, 2, vn, vl.flatMap vhEnc⟩, ⟨.slice pA pn pc, 161, 3, pn, pl.flatMap plEnc⟩] [fun wy => SlT csEnc 2 170 wy cA 4 cl] := by
  intro k3 hk3 q5 q8
  rw [hW]
  refine wa1 6 rfl ?_
  refine wl_got (γ := ByteArray) (val := fun v => .string v) (φ := fun v => v ∈ ([⟨#[118, 49]⟩, ⟨#[110, 111, 110, 101]⟩] : List ByteArray)) rfl cb57 rfl rfl rfl rfl (fun wx hm => (some_any [⟨#[118, 49]⟩, ⟨#[110, 111, 110, 101]⟩] _ _ _ wx B sb _ hm.k (by omega) (by simp) (by simp) (hm.blkI 2 rfl) (hm.neRow 2 rfl rfl))) fun k6 hk6 => ?_
  have zk6 : k6.size ≤ 100 := mem_sz hk6 (by decide)
  refine wl_nil ?_
  refine nw 15 511 (fun _ hm => ⟨hm.bl 0, hm.fa 0, trivial⟩) fun z => ?_
  refine wa1 9 rfl ?_
  refine wl_got (γ := ByteArray) (val := fun v => .string v) (φ := fun v => v ∈ ([⟨#[65, 66, 49]⟩, ⟨#[97, 49]⟩, ⟨#[65]⟩, ⟨#[65, 66, 67, 68, 69, 70, 71, 72, 73, 74, 49]⟩, ⟨#[65, 66, 49]⟩] : List ByteArray)) rfl cb57 rfl rfl rfl rfl (fun wx hm => (some_any [⟨#[65, 66, 49]⟩, ⟨#[97, 49]⟩, ⟨#[65]⟩, ⟨#[65, 66, 67, 68, 69, 70, 71, 72, 73, 74, 49]⟩, ⟨#[65, 66, 49]⟩] _ _ _ wx B sb _ hm.k (by omega) (by simp) (by simp) (hm.blkI 3 rfl) (hm.neRow 3 rfl rfl))) fun k9 hk9 => ?_
  have zk9 : k9.size ≤ 100 := mem_sz hk9 (by decide)
  refine wl_nil ?_
  refine nw 15 1023 (fun _ hm => ⟨hm.bl 0, hm.fa 0, trivial⟩) fun z => ?_
  refine wt 10 15 2047 rfl z (ov_build (cs := [.int .i64 k3, .string k6, .string k9]) rfl (by kernel_rfl)) ?_
  refine wa1 11 rfl ?_
  refine wl_buildSlice (e := 161) (cs := [.int .i64 k3, .string k6, .string k9]) rfl (by kernel_rfl) rfl fun g29 => ?_
  refine wl_nil ?_
  refine nw 15 4095 (fun _ hm => ⟨hm.bl 1, hm.fa 0, trivial⟩) fun z => ?_
  refine wa1 12 rfl ?_
  refine wl_append (news := [.int .i64 k3, .string k6, .string k9]) 2 0 ap64 rfl rfl rfl rfl rfl rfl rfl (by omega) (by unfold maxLen; omega) rfl rfl fun v2 hv2 => ?_
  refine wl_look (R := ∃ A cc, v2 = .slice A (pn + 1) cc) (fun wx hm => own_slice (hm.ownI 2 rfl)) ?_
  rintro ⟨A2, c2, rfl⟩
  have hxs : pl.flatMap plEnc ++ ([.int .i64 k3, .string k6, .string k9] : List Value) = (pl ++ [(⟨k3, k6, k9⟩ : Pl)]).flatMap plEnc := by simp [plEnc]
  rw [hxs]
  refine wl_nil ?_
  refine nw 15 8191 (fun _ hm => ⟨hm.bl 1, hm.fa 0, trivial⟩) fun z => ?_
  refine wt 13 15 16383 rfl z (ov_field fo66_3 rfl rfl) ?_
  refine wa1 14 rfl ?_
  refine wl_store 2 sc64 rfl rfl rfl rfl rfl rfl ?_
  refine wl_nil ?_
  refine nw 15 32767 (fun _ hm => ⟨hm.bl 1, hm.fa 0, trivial⟩) fun z => ?_
  refine wa_done (by kernel_rfl) ?_
  refine nx_blk_nrm (nx_then (sr_ ?_))
  refine wl_ov (ov_loads rz66 rfl (fun _ hm => hm.blkI 2 rfl) rfl rfl) rfl ?_
  refine wl_stores (cs' := [.slice sA sn sc, .slice cA 4 cc, .slice vA vn vc, .slice A2 (pn + 1) c2]) 1 rz66 rfl rfl rfl rfl rfl rfl rfl rfl ?_
  refine nn_ ?_
  refine gw_ret ?_
  refine nx_retc 1 rfl rz66 rfl rfl rfl fun wx hm => ?_
  exact ⟨sA, cA, vA, A2, sn, sc, cc, vn, vc, pn + 1, c2, sl, cl, vl, pl ++ [(⟨k3, k6, k9⟩ : Pl)], rfl, ⟨⟨stB_all hsB, by omega⟩, hcok, ⟨hvB, by omega⟩, all_snoc hpB ⟨⟨by dsimp only; omega, by dsimp only; omega⟩, by dsimp only; omega, by dsimp only; omega⟩, by omega⟩, hm.k.more (by omega), hm.g, SlT.ofOwnL stEnc_lenL (stB_all hsB) (hm.ownI 0 rfl) hsl, (hm.fact 0 rfl), SlT.ofOwn vh_len (hm.ownI 1 rfl) hvl, SlT.ofOwn pl_len (hm.ownI 2 rfl) (by simp [hpl]), own_shape (hm.ownI 2 rfl), own_cap (hm.ownI 2 rfl)⟩
 have J191 : ∀ (k3 : Int) (hk3 : -2000000000000000 ≤ k3 ∧ k3 ≤ 2000000000000000) (q5 : Nat), W 8 (lb 15 191) [(2, .pointer (some ⟨g1, 0, none⟩)), (3, .pointer (some ⟨g2, 0, none⟩)), (13, .slice pA pn pc), (15, .int .i64 k3), (16, .pointer (some ⟨sb, 0, none⟩)), (17, .slice (some ⟨q5, 0, none⟩) 2 2), (19, .pointer (some ⟨sb, 0, none⟩))] (fun w => Strm 25 w B sb (m + 300 + 1 + 1 + 2)) [(g1, 66, [.slice none 0 0, .slice none 0 0, .slice none 0 0, .slice none 0 0]), (g2, 66, [.slice sA sn sc, .slice cA 4 cc, .slice vA vn vc, .slice pA pn pc]), (q5, 9, [.string ⟨#[118, 49]⟩, .string ⟨#[110, 111, 110, 101]⟩])] [⟨.slice sA sn sc, 168, 15, sn, sl.flatMap stEnc⟩, ⟨.slice vA vn vc, 158, 2, vn, vl.flatMap vhEnc⟩, ⟨.slice pA pn pc, 161, 3, pn, pl.flatMap plEnc⟩] [fun wy => SlT csEnc 2 170 wy cA 4 cl] := by
  intro k3 hk3 q5
  rw [hW]
  refine wa_all [6, 8] (by kernel_rfl) rfl ⟨⟨_, rfl, ?_⟩, ⟨_, rfl, ?_⟩, trivial⟩
  ·refine wl_got (γ := ByteArray) (val := fun v => .string v) (φ := fun v => v ∈ ([⟨#[118, 49]⟩, ⟨#[110, 111, 110, 101]⟩] : List ByteArray)) rfl cb57 rfl rfl rfl rfl (fun wx hm => (some_any [⟨#[118, 49]⟩, ⟨#[110, 111, 110, 101]⟩] _ _ _ wx B sb _ hm.k (by omega) (by simp) (by simp) (hm.blkI 2 rfl) (hm.neRow 2 rfl rfl))) fun k6 hk6 => ?_
   have zk6 : k6.size ≤ 100 := mem_sz hk6 (by decide)
   refine wl_nil ?_
   refine nw 15 255 (fun _ hm => ⟨hm.bl 0, hm.fa 0, trivial⟩) fun z => ?_
   have h := T255 k3 hk3 q5 k6 zk6
   rw [hW] at h
   refine wa_weak ?_ ?_ h
   ·exact ⟨rfl, rfl, rfl, rfl, rfl, rfl, trivial⟩
   exact fun _ hm => hm.pick [0, 1, 2] [0, 1, 2] [0] rfl rfl
  refine wl_buildSlice (e := 9) (cs := [.string ⟨#[65, 66, 49]⟩, .string ⟨#[97, 49]⟩, .string ⟨#[65]⟩, .string ⟨#[65, 66, 67, 68, 69, 70, 71, 72, 73, 74, 49]⟩, .string ⟨#[65, 66, 49]⟩]) rfl (by kernel_rfl) rfl fun q8 => ?_
  refine wl_nil ?_
  refine nw 15 447 (fun _ hm => ⟨hm.bl 1, hm.fa 0, trivial⟩) fun z => ?_
  have h := T447 k3 hk3 q5 q8
  rw [hW] at h
  refine wa_weak ?_ ?_ h
  ·exact ⟨rfl, rfl, rfl, rfl, rfl, rfl, rfl, rfl, trivial⟩
  exact fun _ hm => hm.pick [1, 2, 3, 0] [0, 1, 2] [0] rfl rfl
 have T415 : ∀ (k3 : Int) (hk3 : -2000000000000000 ≤ k3 ∧ k3 ≤ 2000000000000000) (q8 : Nat), W 8 (lb 15 415) [(2, .pointer (some ⟨g1, 0, none⟩)), (3, .pointer (some ⟨g2, 0, none⟩)), (13, .slice pA pn pc), (15, .int .i64 k3), (16, .pointer (some ⟨sb, 0, none⟩)), (19, .pointer (some ⟨sb, 0, none⟩)), (20, .slice (some ⟨q8, 0, none⟩) 5 5)] (fun w => Strm 25 w B sb (m + 300 + 1 + 1 + 2)) [(g1, 66, [.slice none 0 0, .slice none 0 0, .slice none 0 0, .slice none 0 0]), (g2, 66, [.slice sA sn sc, .slice cA 4 cc, .slice vA vn vc, .slice pA pn pc]), (q8, 9, [.string ⟨#[65, 66, 49]⟩, .string ⟨#[97, 49]⟩, .string ⟨#[65]⟩, .string ⟨#[65, 66, 67, 68, 69, 70, 71, 72, 73, 74, 49]⟩, .string ⟨#[65, 66, 49]⟩])] [⟨.slice sA sn sc, 168, 15, sn, sl.flatMap stEnc⟩, ⟨.slice vA vn vc, 158, 2, vn, vl.flatMap vhEnc⟩, ⟨.slice pA pn pc, 161, 3, pn, pl.flatMap plEnc⟩] [fun wy => SlT csEnc 2 170 wy cA 4 cl] := by
  intro k3 hk3 q8
  rw [hW]
  refine wa1 5 rfl ?_
  refine wl_buildSlice (e := 9) (cs := [.string ⟨#[118, 49]⟩, .string ⟨#[110, 111, 110, 101]⟩]) rfl (by kernel_rfl) rfl fun g30 => ?_
  refine wl_nil ?_
  refine nw 15 447 (fun _ hm => ⟨hm.bl 1, hm.fa 0, trivial⟩) fun z => ?_
  refine wa1 6 rfl ?_
  refine wl_got (γ := ByteArray) (val := fun v => .string v) (φ := fun v => v ∈ ([⟨#[118, 49]⟩, ⟨#[110, 111, 110, 101]⟩] : List ByteArray)) rfl cb57 rfl rfl rfl rfl (fun wx hm => (some_any [⟨#[118, 49]⟩, ⟨#[110, 111, 110, 101]⟩] _ _ _ wx B sb _ hm.k (by omega) (by simp) (by simp) (hm.blkI 0 rfl) (hm.neRow 0 rfl rfl))) fun k6 hk6 => ?_
  have zk6 : k6.size ≤ 100 := mem_sz hk6 (by decide)
  refine wl_nil ?_
  refine nw 15 511 (fun _ hm => ⟨hm.bl 1, hm.fa 0, trivial⟩) fun z => ?_
  refine wa1 9 rfl ?_
  refine wl_got (γ := ByteArray) (val := fun v => .string v) (φ := fun v => v ∈ ([⟨#[65, 66, 49]⟩, ⟨#[97, 49]⟩, ⟨#[65]⟩, ⟨#[65, 66, 67, 68, 69, 70, 71, 72, 73, 74, 49]⟩, ⟨#[65, 66, 49]⟩] : List ByteArray)) rfl cb57 rfl rfl rfl rfl (fun wx hm => (some_any [⟨#[65, 66, 49]⟩, ⟨#[97, 49]⟩, ⟨#[65]⟩, ⟨#[65, 66, 67, 68, 69, 70, 71, 72, 73, 74, 49]⟩, ⟨#[65, 66, 49]⟩] _ _ _ wx B sb _ hm.k (by omega) (by simp) (by simp) (hm.blkI 3 rfl) (hm.neRow 3 rfl rfl))) fun k9 hk9 => ?_
  have zk9 : k9.size ≤ 100 := mem_sz hk9 (by decide)
  refine wl_nil ?_
  refine nw 15 1023 (fun _ hm => ⟨hm.bl 1, hm.fa 0, trivial⟩) fun z => ?_
  refine wt 10 15 2047 rfl z (ov_build (cs := [.int .i64 k3, .string k6, .string k9]) rfl (by kernel_rfl)) ?_
  refine wa1 11 rfl ?_
  refine wl_buildSlice (e := 161) (cs := [.int .i64 k3, .string k6, .string k9]) rfl (by kernel_rfl) rfl fun g31 => ?_
  refine wl_nil ?_
  refine nw 15 4095 (fun _ hm => ⟨hm.bl 2, hm.fa 0, trivial⟩) fun z => ?_
  refine wa1 12 rfl ?_
  refine wl_append (news := [.int .i64 k3, .string k6, .string k9]) 2 0 ap64 rfl rfl rfl rfl rfl rfl rfl (by omega) (by unfold maxLen; omega) rfl rfl fun v2 hv2 => ?_
  refine wl_look (R := ∃ A cc, v2 = .slice A (pn + 1) cc) (fun wx hm => own_slice (hm.ownI 2 rfl)) ?_
  rintro ⟨A2, c2, rfl⟩
  have hxs : pl.flatMap plEnc ++ ([.int .i64 k3, .string k6, .string k9] : List Value) = (pl ++ [(⟨k3, k6, k9⟩ : Pl)]).flatMap plEnc := by simp [plEnc]
  rw [hxs]
  refine wl_nil ?_
  refine nw 15 8191 (fun _ hm => ⟨hm.bl 2, hm.fa 0, trivial⟩) fun z => ?_
  refine wt 13 15 16383 rfl z (ov_field fo66_3 rfl rfl) ?_
  refine wa1 14 rfl ?_
  refine wl_store 3 sc64 rfl rfl rfl rfl rfl rfl ?_
  refine wl_nil ?_
  refine nw 15 32767 (fun _ hm => ⟨hm.bl 2, hm.fa 0, trivial⟩) fun z => ?_
  refine wa_done (by kernel_rfl) ?_
  refine nx_blk_nrm (nx_then (sr_ ?_))
  refine wl_ov (ov_loads rz66 rfl (fun _ hm => hm.blkI 3 rfl) rfl rfl) rfl ?_
  refine wl_stores (cs' := [.slice sA sn sc, .slice cA 4 cc, .slice vA vn vc, .slice A2 (pn + 1) c2]) 2 rz66 rfl rfl rfl rfl rfl rfl rfl rfl ?_
  refine nn_ ?_
  refine gw_ret ?_
  refine nx_retc 2 rfl rz66 rfl rfl rfl fun wx hm => ?_
  exact ⟨sA, cA, vA, A2, sn, sc, cc, vn, vc, pn + 1, c2, sl, cl, vl, pl ++ [(⟨k3, k6, k9⟩ : Pl)], rfl, ⟨⟨stB_all hsB, by omega⟩, hcok, ⟨hvB, by omega⟩, all_snoc hpB ⟨⟨by dsimp only; omega, by dsimp only; omega⟩, by dsimp only; omega, by dsimp only; omega⟩, by omega⟩, hm.k.more (by omega), hm.g, SlT.ofOwnL stEnc_lenL (stB_all hsB) (hm.ownI 0 rfl) hsl, (hm.fact 0 rfl), SlT.ofOwn vh_len (hm.ownI 1 rfl) hvl, SlT.ofOwn pl_len (hm.ownI 2 rfl) (by simp [hpl]), own_shape (hm.ownI 2 rfl), own_cap (hm.ownI 2 rfl)⟩
 have J159 : ∀ (k3 : Int) (hk3 : -2000000000000000 ≤ k3 ∧ k3 ≤ 2000000000000000), W 9 (lb 15 159) [(2, .pointer (some ⟨g1, 0, none⟩)), (3, .pointer (some ⟨g2, 0, none⟩)), (13, .slice pA pn pc), (15, .int .i64 k3), (16, .pointer (some ⟨sb, 0, none⟩)), (19, .pointer (some ⟨sb, 0, none⟩))] (fun w => Strm 25 w B sb (m + 300 + 1 + 1 + 2)) [(g1, 66, [.slice none 0 0, .slice none 0 0, .slice none 0 0, .slice none 0 0]), (g2, 66, [.slice sA sn sc, .slice cA 4 cc, .slice vA vn vc, .slice pA pn pc])] [⟨.slice sA sn sc, 168, 15, sn, sl.flatMap stEnc⟩, ⟨.slice vA vn vc, 158, 2, vn, vl.flatMap vhEnc⟩, ⟨.slice pA pn pc, 161, 3, pn, pl.flatMap plEnc⟩] [fun wy => SlT csEnc 2 170 wy cA 4 cl] := by
  intro k3 hk3
  rw [hW]
  refine wa_all [5, 8] (by kernel_rfl) rfl ⟨⟨_, rfl, ?_⟩, ⟨_, rfl, ?_⟩, trivial⟩
  ·refine wl_buildSlice (e := 9) (cs := [.string ⟨#[118, 49]⟩, .string ⟨#[110, 111, 110, 101]⟩]) rfl (by kernel_rfl) rfl fun q5 => ?_
   refine wl_nil ?_
   refine nw 15 191 (fun _ hm => ⟨hm.bl 1, hm.fa 0, trivial⟩) fun z => ?_
   have h := J191 k3 hk3 q5
   rw [hW] at h
   refine wa_weak ?_ ?_ h
   ·exact ⟨rfl, rfl, rfl, rfl, rfl, rfl, rfl, trivial⟩
   exact fun _ hm => hm.pick [1, 2, 0] [0, 1, 2] [0] rfl rfl
  refine wl_buildSlice (e := 9) (cs := [.string ⟨#[65, 66, 49]⟩, .string ⟨#[97, 49]⟩, .string ⟨#[65]⟩, .string ⟨#[65, 66, 67, 68, 69, 70, 71, 72, 73, 74, 49]⟩, .string ⟨#[65, 66, 49]⟩]) rfl (by kernel_rfl) rfl fun q8 => ?_
  refine wl_nil ?_
  refine nw 15 415 (fun _ hm => ⟨hm.bl 1, hm.fa 0, trivial⟩) fun z => ?_
  have h := T415 k3 hk3 q8
  rw [hW] at h
  refine wa_weak ?_ ?_ h
  ·exact ⟨rfl, rfl, rfl, rfl, rfl, rfl, rfl, trivial⟩
  exact fun _ hm => hm.pick [1, 2, 0] [0, 1, 2] [0] rfl rfl
 have T439 : ∀ (q5 : Nat) (q8 : Nat), W 8 (lb 15 439) [(2, .pointer (some ⟨g1, 0, none⟩)), (3, .pointer (some ⟨g2, 0, none⟩)), (13, .slice pA pn pc), (14, .pointer (some ⟨sb, 0, none⟩)), (16, .pointer (some ⟨sb, 0, none⟩)), (17, .slice (some ⟨q5, 0, none⟩) 2 2), (19, .pointer (some ⟨sb, 0, none⟩)), (20, .slice (some ⟨q8, 0, none⟩) 5 5)] (fun w => Strm 25 w B sb (m + 300 + 1 + 1)) [(g1, 66, [.slice none 0 0, .slice none 0 0, .slice none 0 0, .slice none 0 0]), (g2, 66, [.slice sA sn sc, .slice cA 4 cc, .slice vA vn vc, .slice pA pn pc]), (q5, 9, [.string ⟨#[118, 49]⟩, .string ⟨#[110, 111, 110, 101]⟩]), (q8, 9, [.string ⟨#[65, 66, 49]⟩, .string ⟨#[97, 49]⟩, .string ⟨#[65]⟩, .string ⟨#[65, 66, 67, 68, 69, 70, 71, 72, 73, 74, 49]⟩, .string ⟨#[65, 66, 49]⟩])] [⟨.slice sA sn sc, 168, 15, sn, sl.flatMap stEnc⟩, ⟨.slice vA vn vc, 158, 2, vn, vl.flatMap vhEnc⟩, ⟨.slice pA pn pc, 161, 3, pn, pl.flatMap plEnc⟩] [fun wy => SlT csEnc 2 170 wy cA 4 cl] := by
  intro q5 q8
  rw [hW]
  refine wa1 3 rfl ?_
  refine wl_got (γ := Int) (val := fun v => .int .i64 v) (φ := fun v => -2000000000000000 ≤ v ∧ v ≤ 2000000000000000) rfl cb58 rfl rfl rfl rfl (fun wx hm => (odd_any _ _ wx B sb _ hm.k (by omega) (by omega) (by omega) (by omega))) fun k3 hk3 => ?_
  refine wl_nil ?_
  refine nw 15 447 (fun _ hm => ⟨hm.bl 0, hm.fa 0, trivial⟩) fun z => ?_
  refine wa1 6 rfl ?_
  refine wl_got (γ := ByteArray) (val := fun v => .string v) (φ := fun v => v ∈ ([⟨#[118, 49]⟩, ⟨#[110, 111, 110, 101]⟩] : List ByteArray)) rfl cb57 rfl rfl rfl rfl (fun wx hm => (some_any [⟨#[118, 49]⟩, ⟨#[110, 111, 110, 101]⟩] _ _ _ wx B sb _ hm.k (by omega) (by simp) (by simp) (hm.blkI 2 rfl) (hm.neRow 2 rfl rfl))) fun k6 hk6 => ?_
  have zk6 : k6.size ≤ 100 := mem_sz hk6 (by decide)
  refine wl_nil ?_
  refine nw 15 511 (fun _ hm => ⟨hm.bl 0, hm.fa 0, trivial⟩) fun z => ?_
  refine wa1 9 rfl ?_
  refine wl_got (γ := ByteArray) (val := fun v => .string v) (φ := fun v => v ∈ ([⟨#[65, 66, 49]⟩, ⟨#[97, 49]⟩, ⟨#[65]⟩, ⟨#[65, 66, 67, 68, 69, 70, 71, 72, 73, 74, 49]⟩, ⟨#[65, 66, 49]⟩] : List ByteArray)) rfl cb57 rfl rfl rfl rfl (fun wx hm => (some_any [⟨#[65, 66, 49]⟩, ⟨#[97, 49]⟩, ⟨#[65]⟩, ⟨#[65, 66, 67, 68, 69, 70, 71, 72, 73, 74, 49]⟩, ⟨#[65, 66, 49]⟩] _ _ _ wx B sb _ hm.k (by omega) (by simp) (by simp) (hm.blkI 3 rfl) (hm.neRow 3 rfl rfl))) fun k9 hk9 => ?_
  have zk9 : k9.size ≤ 100 := mem_sz hk9 (by decide)
  refine wl_nil ?_
  refine nw 15 1023 (fun _ hm => ⟨hm.bl 0, hm.fa 0, trivial⟩) fun z => ?_
  refine wt 10 15 2047 rfl z (ov_build (cs := [.int .i64 k3, .string k6, .string k9]) rfl (by kernel_rfl)) ?_
  refine wa1 11 rfl ?_
  refine wl_buildSlice (e := 161) (cs := [.int .i64 k3, .string k6, .string k9]) rfl (by kernel_rfl) rfl fun g32 => ?_
  refine wl_nil ?_
  refine nw 15 4095 (fun _ hm => ⟨hm.bl 1, hm.fa 0, trivial⟩) fun z => ?_
  refine wa1 12 rfl ?_
  refine wl_append (news := [.int .i64 k3, .string k6, .string k9]) 2 0 ap64 rfl rfl rfl rfl rfl rfl rfl (by omega) (by unfold maxLen; omega) rfl rfl fun v2 hv2 => ?_
  refine wl_look (R := ∃ A cc, v2 = .slice A (pn + 1) cc) (fun wx hm => own_slice (hm.ownI 2 rfl)) ?_
  rintro ⟨A2, c2, rfl⟩
  have hxs : pl.flatMap plEnc ++ ([.int .i64 k3, .string k6, .string k9] : List Value) = (pl ++ [(⟨k3, k6, k9⟩ : Pl)]).flatMap plEnc := by simp [plEnc]
  rw [hxs]
  refine wl_nil ?_
  refine nw 15 8191 (fun _ hm => ⟨hm.bl 1, hm.fa 0, trivial⟩) fun z => ?_
  refine wt 13 15 16383 rfl z (ov_field fo66_3 rfl rfl) ?_
  refine wa1 14 rfl ?_
  refine wl_store 2 sc64 rfl rfl rfl rfl rfl rfl ?_
  refine wl_nil ?_
  refine nw 15 32767 (fun _ hm => ⟨hm.bl 1, hm.fa 0, trivial⟩) fun z => ?_
  refine wa_done (by kernel_rfl) ?_
  refine nx_blk_nrm (nx_then (sr_ ?_))
  refine wl_ov (ov_loads rz66 rfl (fun _ hm => hm.blkI 2 rfl) rfl rfl) rfl ?_
  refine wl_stores (cs' := [.slice sA sn sc, .slice cA 4 cc, .slice vA vn vc, .slice A2 (pn + 1) c2]) 1 rz66 rfl rfl rfl rfl rfl rfl rfl rfl ?_
  refine nn_ ?_
  refine gw_ret ?_
  refine nx_retc 1 rfl rz66 rfl rfl rfl fun wx hm => ?_
  exact ⟨sA, cA, vA, A2, sn, sc, cc, vn, vc, pn + 1, c2, sl, cl, vl, pl ++ [(⟨k3, k6, k9⟩ : Pl)], rfl, ⟨⟨stB_all hsB, by omega⟩, hcok, ⟨hvB, by omega⟩, all_snoc hpB ⟨⟨by dsimp only; omega, by dsimp only; omega⟩, by dsimp only; omega, by dsimp only; omega⟩, by omega⟩, hm.k.more (by omega), hm.g, SlT.ofOwnL stEnc_lenL (stB_all hsB) (hm.ownI 0 rfl) hsl, (hm.fact 0 rfl), SlT.ofOwn vh_len (hm.ownI 1 rfl) hvl, SlT.ofOwn pl_len (hm.ownI 2 rfl) (by simp [hpl]), own_shape (hm.ownI 2 rfl), own_cap (hm.ownI 2 rfl)⟩
 have J183 : ∀ (q5 : Nat), W 9 (lb 15 183) [(2, .pointer (some ⟨g1, 0, none⟩)), (3, .pointer (some ⟨g2, 0, none⟩)), (13, .slice pA pn pc), (14, .pointer (some ⟨sb, 0, none⟩)), (16, .pointer (some ⟨sb, 0, none⟩)), (17, .slice (some ⟨q5, 0, none⟩) 2 2), (19, .pointer (some ⟨sb, 0, none⟩))] (fun w => Strm 25 w B sb (m + 300 + 1 + 1)) [(g1, 66, [.slice none 0 0, .slice none 0 0, .slice none 0 0, .slice none 0 0]), (g2, 66, [.slice sA sn sc, .slice cA 4 cc, .slice vA vn vc, .slice pA pn pc]), (q5, 9, [.string ⟨#[118, 49]⟩, .string ⟨#[110, 111, 110, 101]⟩])] [⟨.slice sA sn sc, 168, 15, sn, sl.flatMap stEnc⟩, ⟨.slice vA vn vc, 158, 2, vn, vl.flatMap vhEnc⟩, ⟨.slice pA pn pc, 161, 3, pn, pl.flatMap plEnc⟩] [fun wy => SlT csEnc 2 170 wy cA 4 cl] := by
  intro q5
  rw [hW]
  refine wa_all [3, 8] (by kernel_rfl) rfl ⟨⟨_, rfl, ?_⟩, ⟨_, rfl, ?_⟩, trivial⟩
  ·refine wl_got (γ := Int) (val := fun v => .int .i64 v) (φ := fun v => -2000000000000000 ≤ v ∧ v ≤ 2000000000000000) rfl cb58 rfl rfl rfl rfl (fun wx hm => (odd_any _ _ wx B sb _ hm.k (by omega) (by omega) (by omega) (by omega))) fun k3 hk3 => ?_
   refine wl_nil ?_
   refine nw 15 191 (fun _ hm => ⟨hm.bl 0, hm.fa 0, trivial⟩) fun z => ?_
   have h := J191 k3 hk3 q5
   rw [hW] at h
   refine wa_weak ?_ ?_ h
   ·exact ⟨rfl, rfl, rfl, rfl, rfl, rfl, rfl, trivial⟩
   exact fun _ hm => hm.pick [0, 1, 2] [0, 1, 2] [0] rfl rfl
  refine wl_buildSlice (e := 9) (cs := [.string ⟨#[65, 66, 49]⟩, .string ⟨#[97, 49]⟩, .string ⟨#[65]⟩, .string ⟨#[65, 66, 67, 68, 69, 70, 71, 72, 73, 74, 49]⟩, .string ⟨#[65, 66, 49]⟩]) rfl (by kernel_rfl) rfl fun q8 => ?_
  refine wl_nil ?_
  refine nw 15 439 (fun _ hm => ⟨hm.bl 1, hm.fa 0, trivial⟩) fun z => ?_
  have h := T439 q5 q8
  rw [hW] at h
  refine wa_weak ?_ ?_ h
  ·exact ⟨rfl, rfl, rfl, rfl, rfl, rfl, rfl, rfl, trivial⟩
  exact fun _ hm => hm.pick [1, 2, 3, 0] [0, 1, 2] [0] rfl rfl
 have J407 : ∀ (q8 : Nat), W 9 (lb 15 407) [(2, .pointer (some ⟨g1, 0, none⟩)), (3, .pointer (some ⟨g2, 0, none⟩)), (13, .slice pA pn pc), (14, .pointer (some ⟨sb, 0, none⟩)), (16, .pointer (some ⟨sb, 0, none⟩)), (19, .pointer (some ⟨sb, 0, none⟩)), (20, .slice (some ⟨q8, 0, none⟩) 5 5)] (fun w => Strm 25 w B sb (m + 300 + 1 + 1)) [(g1, 66, [.slice none 0 0, .slice none 0 0, .slice none 0 0, .slice none 0 0]), (g2, 66, [.slice sA sn sc, .slice cA 4 cc, .slice vA vn vc, .slice pA pn pc]), (q8, 9, [.string ⟨#[65, 66, 49]⟩, .string ⟨#[97, 49]⟩, .string ⟨#[65]⟩, .string ⟨#[65, 66, 67, 68, 69, 70, 71, 72, 73, 74, 49]⟩, .string ⟨#[65, 66, 49]⟩])] [⟨.slice sA sn sc, 168, 15, sn, sl.flatMap stEnc⟩, ⟨.slice vA vn vc, 158, 2, vn, vl.flatMap vhEnc⟩, ⟨.slice pA pn pc, 161, 3, pn, pl.flatMap plEnc⟩] [fun wy => SlT csEnc 2 170 wy cA 4 cl] := by
  intro q8
  rw [hW]
  refine wa_all [3, 5] (by kernel_rfl) rfl ⟨⟨_, rfl, ?_⟩, ⟨_, rfl, ?_⟩, trivial⟩
  ·refine wl_got (γ := Int) (val := fun v => .int .i64 v) (φ := fun v => -2000000000000000 ≤ v ∧ v ≤ 2000000000000000) rfl cb58 rfl rfl rfl rfl (fun wx hm => (odd_any _ _ wx B sb _ hm.k (by omega) (by omega) (by omega) (by omega))) fun k3 hk3 => ?_
   refine wl_nil ?_
   refine nw 15 415 (fun _ hm => ⟨hm.bl 0, hm.fa 0, trivial⟩) fun z => ?_
   have h := T415 k3 hk3 q8
   rw [hW] at h
   refine wa_weak ?_ ?_ h
   ·exact ⟨rfl, rfl, rfl, rfl, rfl, rfl, rfl, trivial⟩
   exact fun _ hm => hm.pick [0, 1, 2] [0, 1, 2] [0] rfl rfl
  refine wl_buildSlice (e := 9) (cs := [.string ⟨#[118, 49]⟩, .string ⟨#[110, 111, 110, 101]⟩]) rfl (by kernel_rfl) rfl fun q5 => ?_
  refine wl_nil ?_
  refine nw 15 439 (fun _ hm => ⟨hm.bl 1, hm.fa 0, trivial⟩) fun z => ?_
  have h := T439 q5 q8
  rw [hW] at h
  refine wa_weak ?_ ?_ h
  ·exact ⟨rfl, rfl, rfl, rfl, rfl, rfl, rfl, rfl, trivial⟩
  exact fun _ hm => hm.pick [1, 2, 0, 3] [0, 1, 2] [0] rfl rfl
 have J151 : W 10 (lb 15 151) [(2, .pointer (some ⟨g1, 0, none⟩)), (3, .pointer (some ⟨g2, 0, none⟩)), (13, .slice pA pn pc), (14, .pointer (some ⟨sb, 0, none⟩)), (16, .pointer (some ⟨sb, 0, none⟩)), (19, .pointer (some ⟨sb, 0, none⟩))] (fun w => Strm 25 w B sb (m + 300 + 1 + 1)) [(g1, 66, [.slice none 0 0, .slice none 0 0, .slice none 0 0, .slice none 0 0]), (g2, 66, [.slice sA sn sc, .slice cA 4 cc, .slice vA vn vc, .slice pA pn pc])] [⟨.slice sA sn sc, 168, 15, sn, sl.flatMap stEnc⟩, ⟨.slice vA vn vc, 158, 2, vn, vl.flatMap vhEnc⟩, ⟨.slice pA pn pc, 161, 3, pn, pl.flatMap plEnc⟩] [fun wy => SlT csEnc 2 170 wy cA 4 cl] := by
  skip
  rw [hW]
  refine wa_all [3, 5, 8] (by kernel_rfl) rfl ⟨⟨_, rfl, ?_⟩, ⟨_, rfl, ?_⟩, ⟨_, rfl, ?_⟩, trivial⟩
  ·refine wl_got (γ := Int) (val := fun v => .int .i64 v) (φ := fun v => -2000000000000000 ≤ v ∧ v ≤ 2000000000000000) rfl cb58 rfl rfl rfl rfl (fun wx hm => (odd_any _ _ wx B sb _ hm.k (by omega) (by omega) (by omega) (by omega))) fun k3 hk3 => ?_
   refine wl_nil ?_
   refine nw 15 159 (fun _ hm => ⟨hm.bl 0, hm.fa 0, trivial⟩) fun z => ?_
   have h := J159 k3 hk3
   rw [hW] at h
   refine wa_weak ?_ ?_ h
   ·exact ⟨rfl, rfl, rfl, rfl, rfl, rfl, trivial⟩
   exact fun _ hm => hm.pick [0, 1] [0, 1, 2] [0] rfl rfl
  ·refine wl_buildSlice (e := 9) (cs := [.string ⟨#[118, 49]⟩, .string ⟨#[110, 111, 110, 101]⟩]) rfl (by kernel_rfl) rfl fun q5 => ?_
   refine wl_nil ?_
   refine nw 15 183 (fun _ hm => ⟨hm.bl 1, hm.fa 0, trivial⟩) fun z => ?_
   have h := J183 q5
   rw [hW] at h
   refine wa_weak ?_ ?_ h
   ·exact ⟨rfl, rfl, rfl, rfl, rfl, rfl, rfl, trivial⟩
   exact fun _ hm => hm.pick [1, 2, 0] [0, 1, 2] [0] rfl rfl
  refine wl_buildSlice (e := 9) (cs := [.string ⟨#[65, 66, 49]⟩, .string ⟨#[97, 49]⟩, .string ⟨#[65]⟩, .string ⟨#[65, 66, 67, 68, 69, 70, 71, 72, 73, 74, 49]⟩, .string ⟨#[65, 66, 49]⟩]) rfl (by kernel_rfl) rfl fun q8 => ?_
  refine wl_nil ?_
  refine nw 15 407 (fun _ hm => ⟨hm.bl 1, hm.fa 0, trivial⟩) fun z => ?_
  have h := J407 q8
  rw [hW] at h
  refine wa_weak ?_ ?_ h
  ·exact ⟨rfl, rfl, rfl, rfl, rfl, rfl, rfl, trivial⟩
  exact fun _ hm => hm.pick [1, 2, 0] [0, 1, 2] [0] rfl rfl
 have T511 : ∀ (k3 : Int) (hk3 : -2000000000000000 ≤ k3 ∧ k3 ≤ 2000000000000000) (q5 : Nat) (k6 : ByteArray) (zk6 : k6.size ≤ 100) (q8 : Nat), W 6 (lb 15 511) [(2, .pointer (some ⟨g1, 0, none⟩)), (3, .pointer (some ⟨g2, 0, none⟩)), (13, .slice pA pn pc), (15, .int .i64 k3), (18, .string k6), (19, .pointer (some ⟨sb, 0, none⟩)), (20, .slice (some ⟨q8, 0, none⟩) 5 5)] (fun w => Strm 25 w B sb (m + 300 + 1 + 1 + 2 + 1)) [(g1, 66, [.slice none 0 0, .slice none 0 0, .slice none 0 0, .slice none 0 0]), (g2, 66, [.slice sA sn sc, .slice cA 4 cc, .slice vA vn vc, .slice pA pn pc]), (q5, 9, [.string ⟨#[118, 49]⟩, .string ⟨#[110, 111, 110, 101]⟩]), (q8, 9, [.string ⟨#[65, 66, 49]⟩, .string ⟨#[97, 49]⟩, .string ⟨#[65]⟩, .string ⟨#[65, 66, 67, 68, 69, 70, 71, 72, 73, 74, 49]⟩, .string ⟨#[65, 66, 49]⟩])] [⟨.slice sA sn sc, 168, 15, sn, sl.flatMap stEnc⟩, ⟨.slice vA vn vc, 158, 2, vn, vl.flatMap vhEnc⟩, ⟨.slice pA pn pc, 161, 3, pn, pl.flatMap plEnc⟩] [fun wy => SlT csEnc 2 170 wy cA 4 cl] := by
  intro k3 hk3 q5 k6 zk6 q8
  rw [hW]
  refine wa1 9 rfl ?_
  refine wl_got (γ := ByteArray) (val := fun v => .string v) (φ := fun v => v ∈ ([⟨#[65, 66, 49]⟩, ⟨#[97, 49]⟩, ⟨#[65]⟩, ⟨#[65, 66, 67, 68, 69, 70, 71, 72, 73, 74, 49]⟩, ⟨#[65, 66, 49]⟩] : List ByteArray)) rfl cb57 rfl rfl rfl rfl (fun wx hm => (some_any [⟨#[65, 66, 49]⟩, ⟨#[97, 49]⟩, ⟨#[65]⟩, ⟨#[65, 66, 67, 68, 69, 70, 71, 72, 73, 74, 49]⟩, ⟨#[65, 66, 49]⟩] _ _ _ wx B sb _ hm.k (by omega) (by simp) (by simp) (hm.blkI 3 rfl) (hm.neRow 3 rfl rfl))) fun k9 hk9 => ?_
  have zk9 : k9.size ≤ 100 := mem_sz hk9 (by decide)
  refine wl_nil ?_
  refine nw 15 1023 (fun _ hm => ⟨hm.bl 0, hm.fa 0, trivial⟩) fun z => ?_
  refine wt 10 15 2047 rfl z (ov_build (cs := [.int .i64 k3, .string k6, .string k9]) rfl (by kernel_rfl)) ?_
  refine wa1 11 rfl ?_
  refine wl_buildSlice (e := 161) (cs := [.int .i64 k3, .string k6, .string k9]) rfl (by kernel_rfl) rfl fun g33 => ?_
  refine wl_nil ?_
  refine nw 15 4095 (fun _ hm => ⟨hm.bl 1, hm.fa 0, trivial⟩) fun z => ?_
  refine wa1 12 rfl ?_
  refine wl_append (news := [.int .i64 k3, .string k6, .string k9]) 2 0 ap64 rfl rfl rfl rfl rfl rfl rfl (by omega) (by unfold maxLen; omega) rfl rfl fun v2 hv2 => ?_
  refine wl_look (R := ∃ A cc, v2 = .slice A (pn + 1) cc) (fun wx hm => own_slice (hm.ownI 2 rfl)) ?_
  rintro ⟨A2, c2, rfl⟩
  have hxs : pl.flatMap plEnc ++ ([.int .i64 k3, .string k6, .string k9] : List Value) = (pl ++ [(⟨k3, k6, k9⟩ : Pl)]).flatMap plEnc := by simp [plEnc]
  rw [hxs]
  refine wl_nil ?_
  refine nw 15 8191 (fun _ hm => ⟨hm.bl 1, hm.fa 0, trivial⟩) fun z => ?_
  refine wt 13 15 16383 rfl z (ov_field fo66_3 rfl rfl) ?_
  refine wa1 14 rfl ?_
  refine wl_store 2 sc64 rfl rfl rfl rfl rfl rfl ?_
  refine wl_nil ?_
  refine nw 15 32767 (fun _ hm => ⟨hm.bl 1, hm.fa 0, trivial⟩) fun z => ?_
  refine wa_done (by kernel_rfl) ?_
  refine nx_blk_nrm (nx_then (sr_ ?_))
  refine wl_ov (ov_loads rz66 rfl (fun _ hm => hm.blkI 2 rfl) rfl rfl) rfl ?_
  refine wl_stores (cs' := [.slice sA sn sc, .slice cA 4 cc, .slice vA vn vc, .slice A2 (pn + 1) c2]) 1 rz66 rfl rfl rfl rfl rfl rfl rfl rfl ?_
  refine nn_ ?_
  refine gw_ret ?_
  refine nx_retc 1 rfl rz66 rfl rfl rfl fun wx hm => ?_
  exact ⟨sA, cA, vA, A2, sn, sc, cc, vn, vc, pn + 1, c2, sl, cl, vl, pl ++ [(⟨k3, k6, k9⟩ : Pl)], rfl, ⟨⟨stB_all hsB, by omega⟩, hcok, ⟨hvB, by omega⟩, all_snoc hpB ⟨⟨by dsimp only; omega, by dsimp only; omega⟩, by dsimp only; omega, by dsimp only; omega⟩, by omega⟩, hm.k.more (by omega), hm.g, SlT.ofOwnL stEnc_lenL (stB_all hsB) (hm.ownI 0 rfl) hsl, (hm.fact 0 rfl), SlT.ofOwn vh_len (hm.ownI 1 rfl) hvl, SlT.ofOwn pl_len (hm.ownI 2 rfl) (by simp [hpl]), own_shape (hm.ownI 2 rfl), own_cap (hm.ownI 2 rfl)⟩
 have T2047 : ∀ (k3 : Int) (hk3 : -2000000000000000 ≤ k3 ∧ k3 ≤ 2000000000000000) (q5 : Nat) (k6 : ByteArray) (zk6 : k6.size ≤ 100) (q8 : Nat) (k9 : ByteArray) (zk9 : k9.size ≤ 100), W 4 (lb 15 2047) [(2, .pointer (some ⟨g1, 0, none⟩)), (3, .pointer (some ⟨g2, 0, none⟩)), (13, .slice pA pn pc), (22, .agg #[.int .i64 k3, .string k6, .string k9])] (fun w => Strm 25 w B sb (m + 300 + 1 + 1 + 2 + 1 + 1)) [(g1, 66, [.slice none 0 0, .slice none 0 0, .slice none 0 0, .slice none 0 0]), (g2, 66, [.slice sA sn sc, .slice cA 4 cc, .slice vA vn vc, .slice pA pn pc]), (q5, 9, [.string ⟨#[118, 49]⟩, .string ⟨#[110, 111, 110, 101]⟩]), (q8, 9, [.string ⟨#[65, 66, 49]⟩, .string ⟨#[97, 49]⟩, .string ⟨#[65]⟩, .string ⟨#[65, 66, 67, 68, 69, 70, 71, 72, 73, 74, 49]⟩, .string ⟨#[65, 66, 49]⟩])] [⟨.slice sA sn sc, 168, 15, sn, sl.flatMap stEnc⟩, ⟨.slice vA vn vc, 158, 2, vn, vl.flatMap vhEnc⟩, ⟨.slice pA pn pc, 161, 3, pn, pl.flatMap plEnc⟩] [fun wy => SlT csEnc 2 170 wy cA 4 cl] := by
  intro k3 hk3 q5 k6 zk6 q8 k9 zk9
  rw [hW]
  refine wa1 11 rfl ?_
  refine wl_buildSlice (e := 161) (cs := [.int .i64 k3, .string k6, .string k9]) rfl (by kernel_rfl) rfl fun g34 => ?_
  refine wl_nil ?_
  refine nw 15 4095 (fun _ hm => ⟨hm.bl 1, hm.fa 0, trivial⟩) fun z => ?_
  refine wa1 12 rfl ?_
  refine wl_append (news := [.int .i64 k3, .string k6, .string k9]) 2 0 ap64 rfl rfl rfl rfl rfl rfl rfl (by omega) (by unfold maxLen; omega) rfl rfl fun v2 hv2 => ?_
  refine wl_look (R := ∃ A cc, v2 = .slice A (pn + 1) cc) (fun wx hm => own_slice (hm.ownI 2 rfl)) ?_
  rintro ⟨A2, c2, rfl⟩
  have hxs : pl.flatMap plEnc ++ ([.int .i64 k3, .string k6, .string k9] : List Value) = (pl ++ [(⟨k3, k6, k9⟩ : Pl)]).flatMap plEnc := by simp [plEnc]
  rw [hxs]
  refine wl_nil ?_
  refine nw 15 8191 (fun _ hm => ⟨hm.bl 1, hm.fa 0, trivial⟩) fun z => ?_
  refine wt 13 15 16383 rfl z (ov_field fo66_3 rfl rfl) ?_
  refine wa1 14 rfl ?_
  refine wl_store 2 sc64 rfl rfl rfl rfl rfl rfl ?_
  refine wl_nil ?_
  refine nw 15 32767 (fun _ hm => ⟨hm.bl 1, hm.fa 0, trivial⟩) fun z => ?_
  refine wa_done (by kernel_rfl) ?_
  refine nx_blk_nrm (nx_then (sr_ ?_))
  refine wl_ov (ov_loads rz66 rfl (fun _ hm => hm.blkI 2 rfl) rfl rfl) rfl ?_
  refine wl_stores (cs' := [.slice sA sn sc, .slice cA 4 cc, .slice vA vn vc, .slice A2 (pn + 1) c2]) 1 rz66 rfl rfl rfl rfl rfl rfl rfl rfl ?_
  refine nn_ ?_
  refine gw_ret ?_
  refine nx_retc 1 rfl rz66 rfl rfl rfl fun wx hm => ?_
  exact ⟨sA, cA, vA, A2, sn, sc, cc, vn, vc, pn + 1, c2, sl, cl, vl, pl ++ [(⟨k3, k6, k9⟩ : Pl)], rfl, ⟨⟨stB_all hsB, by omega⟩, hcok, ⟨hvB, by omega⟩, all_snoc hpB ⟨⟨by dsimp only; omega, by dsimp only; omega⟩, by dsimp only; omega, by dsimp only; omega⟩, by omega⟩, hm.k.more (by omega), hm.g, SlT.ofOwnL stEnc_lenL (stB_all hsB) (hm.ownI 0 rfl) hsl, (hm.fact 0 rfl), SlT.ofOwn vh_len (hm.ownI 1 rfl) hvl, SlT.ofOwn pl_len (hm.ownI 2 rfl) (by simp [hpl]), own_shape (hm.ownI 2 rfl), own_cap (hm.ownI 2 rfl)⟩
 have T4093 : ∀ (k3 : Int) (hk3 : -2000000000000000 ≤ k3 ∧ k3 ≤ 2000000000000000) (q5 : Nat) (k6 : ByteArray) (zk6 : k6.size ≤ 100) (q8 : Nat) (k9 : ByteArray) (zk9 : k9.size ≤ 100) (q11 : Nat), W 4 (lb 15 4093) [(2, .pointer (some ⟨g1, 0, none⟩)), (3, .pointer (some ⟨g2, 0, none⟩)), (12, .pointer (some ⟨g2, 3, none⟩)), (23, .slice (some ⟨q11, 0, none⟩) 1 1)] (fun w => Strm 25 w B sb (m + 300 + 1 + 1 + 2 + 1 + 1)) [(g1, 66, [.slice none 0 0, .slice none 0 0, .slice none 0 0, .slice none 0 0]), (g2, 66, [.slice sA sn sc, .slice cA 4 cc, .slice vA vn vc, .slice pA pn pc]), (q11, 161, [.int .i64 k3, .string k6, .string k9]), (q5, 9, [.string ⟨#[118, 49]⟩, .string ⟨#[110, 111, 110, 101]⟩]), (q8, 9, [.string ⟨#[65, 66, 49]⟩, .string ⟨#[97, 49]⟩, .string ⟨#[65]⟩, .string ⟨#[65, 66, 67, 68, 69, 70, 71, 72, 73, 74, 49]⟩, .string ⟨#[65, 66, 49]⟩])] [⟨.slice sA sn sc, 168, 15, sn, sl.flatMap stEnc⟩, ⟨.slice vA vn vc, 158, 2, vn, vl.flatMap vhEnc⟩, ⟨.slice pA pn pc, 161, 3, pn, pl.flatMap plEnc⟩] [fun wy => SlT csEnc 2 170 wy cA 4 cl] := by
  intro k3 hk3 q5 k6 zk6 q8 k9 zk9 q11
  rw [hW]
  refine wa1 1 rfl ?_
  refine lk_ sc64 1 rfl rfl rfl (wl_nil ?_)
  refine nw 15 4095 (fun _ hm => ⟨hm.bl 0, hm.fa 0, trivial⟩) fun z => ?_
  refine wa1 12 rfl ?_
  refine wl_append (news := [.int .i64 k3, .string k6, .string k9]) 2 2 ap64 rfl rfl rfl rfl rfl rfl rfl (by omega) (by unfold maxLen; omega) rfl rfl fun v2 hv2 => ?_
  refine wl_look (R := ∃ A cc, v2 = .slice A (pn + 1) cc) (fun wx hm => own_slice (hm.ownI 2 rfl)) ?_
  rintro ⟨A2, c2, rfl⟩
  have hxs : pl.flatMap plEnc ++ ([.int .i64 k3, .string k6, .string k9] : List Value) = (pl ++ [(⟨k3, k6, k9⟩ : Pl)]).flatMap plEnc := by simp [plEnc]
  rw [hxs]
  refine wl_nil ?_
  refine nw 15 8191 (fun _ hm => ⟨hm.bl 0, hm.fa 0, trivial⟩) fun z => ?_
  refine wt 13 15 16383 rfl z (ov_field fo66_3 rfl rfl) ?_
  refine wa1 14 rfl ?_
  refine wl_store 1 sc64 rfl rfl rfl rfl rfl rfl ?_
  refine wl_nil ?_
  refine nw 15 32767 (fun _ hm => ⟨hm.bl 0, hm.fa 0, trivial⟩) fun z => ?_
  refine wa_done (by kernel_rfl) ?_
  refine nx_blk_nrm (nx_then (sr_ ?_))
  refine wl_ov (ov_loads rz66 rfl (fun _ hm => hm.blkI 1 rfl) rfl rfl) rfl ?_
  refine wl_stores (cs' := [.slice sA sn sc, .slice cA 4 cc, .slice vA vn vc, .slice A2 (pn + 1) c2]) 0 rz66 rfl rfl rfl rfl rfl rfl rfl rfl ?_
  refine nn_ ?_
  refine gw_ret ?_
  refine nx_retc 0 rfl rz66 rfl rfl rfl fun wx hm => ?_
  exact ⟨sA, cA, vA, A2, sn, sc, cc, vn, vc, pn + 1, c2, sl, cl, vl, pl ++ [(⟨k3, k6, k9⟩ : Pl)], rfl, ⟨⟨stB_all hsB, by omega⟩, hcok, ⟨hvB, by omega⟩, all_snoc hpB ⟨⟨by dsimp only; omega, by dsimp only; omega⟩, by dsimp only; omega, by dsimp only; omega⟩, by omega⟩, hm.k.more (by omega), hm.g, SlT.ofOwnL stEnc_lenL (stB_all hsB) (hm.ownI 0 rfl) hsl, (hm.fact 0 rfl), SlT.ofOwn vh_len (hm.ownI 1 rfl) hvl, SlT.ofOwn pl_len (hm.ownI 2 rfl) (by simp [hpl]), own_shape (hm.ownI 2 rfl), own_cap (hm.ownI 2 rfl)⟩
 have J2045 : ∀ (k3 : Int) (hk3 : -2000000000000000 ≤ k3 ∧ k3 ≤ 2000000000000000) (q5 : Nat) (k6 : ByteArray) (zk6 : k6.size ≤ 100) (q8 : Nat) (k9 : ByteArray) (zk9 : k9.size ≤ 100), W 5 (lb 15 2045) [(2, .pointer (some ⟨g1, 0, none⟩)), (3, .pointer (some ⟨g2, 0, none⟩)), (12, .pointer (some ⟨g2, 3, none⟩)), (22, .agg #[.int .i64 k3, .string k6, .string k9])] (fun w => Strm 25 w B sb (m + 300 + 1 + 1 + 2 + 1 + 1)) [(g1, 66, [.slice none 0 0, .slice none 0 0, .slice none 0 0, .slice none 0 0]), (g2, 66, [.slice sA sn sc, .slice cA 4 cc, .slice vA vn vc, .slice pA pn pc]), (q5, 9, [.string ⟨#[118, 49]⟩, .string ⟨#[110, 111, 110, 101]⟩]), (q8, 9, [.string ⟨#[65, 66, 49]⟩, .string ⟨#[97, 49]⟩, .string ⟨#[65]⟩, .string ⟨#[65, 66, 67, 68, 69, 70, 71, 72, 73, 74, 49]⟩, .string ⟨#[65, 66, 49]⟩])] [⟨.slice sA sn sc, 168, 15, sn, sl.flatMap stEnc⟩, ⟨.slice vA vn vc, 158, 2, vn, vl.flatMap vhEnc⟩, ⟨.slice pA pn pc, 161, 3, pn, pl.flatMap plEnc⟩] [fun wy => SlT csEnc 2 170 wy cA 4 cl] := by
  intro k3 hk3 q5 k6 zk6 q8 k9 zk9
  rw [hW]
  refine wa_all [1, 11] (by kernel_rfl) rfl ⟨⟨_, rfl, ?_⟩, ⟨_, rfl, ?_⟩, trivial⟩
  ·refine lk_ sc64 1 rfl rfl rfl (wl_nil ?_)
   refine nw 15 2047 (fun _ hm => ⟨hm.bl 0, hm.fa 0, trivial⟩) fun z => ?_
   have h := T2047 k3 hk3 q5 k6 zk6 q8 k9 zk9
   rw [hW] at h
   refine wa_weak ?_ ?_ h
   ·exact ⟨rfl, rfl, rfl, rfl, trivial⟩
   exact fun _ hm => hm.pick [0, 1, 2, 3] [0, 1, 2] [0] rfl rfl
  refine wl_buildSlice (e := 161) (cs := [.int .i64 k3, .string k6, .string k9]) rfl (by kernel_rfl) rfl fun q11 => ?_
  refine wl_nil ?_
  refine nw 15 4093 (fun _ hm => ⟨hm.bl 1, hm.fa 0, trivial⟩) fun z => ?_
  have h := T4093 k3 hk3 q5 k6 zk6 q8 k9 zk9 q11
  rw [hW] at h
  refine wa_weak ?_ ?_ h
  ·exact ⟨rfl, rfl, rfl, rfl, trivial⟩
  exact fun _ hm => hm.pick [1, 2, 0, 3, 4] [0, 1, 2] [0] rfl rfl
 have J509 : ∀ (k3 : Int) (hk3 : -2000000000000000 ≤ k3 ∧ k3 ≤ 2000000000000000) (q5 : Nat) (k6 : ByteArray) (zk6 : k6.size ≤ 100) (q8 : Nat), W 7 (lb 15 509) [(2, .pointer (some ⟨g1, 0, none⟩)), (3, .pointer (some ⟨g2, 0, none⟩)), (12, .pointer (some ⟨g2, 3, none⟩)), (15, .int .i64 k3), (18, .string k6), (19, .pointer (some ⟨sb, 0, none⟩)), (20, .slice (some ⟨q8, 0, none⟩) 5 5)] (fun w => Strm 25 w B sb (m + 300 + 1 + 1 + 2 + 1)) [(g1, 66, [.slice none 0 0, .slice none 0 0, .slice none 0 0, .slice none 0 0]), (g2, 66, [.slice sA sn sc, .slice cA 4 cc, .slice vA vn vc, .slice pA pn pc]), (q5, 9, [.string ⟨#[118, 49]⟩, .string ⟨#[110, 111, 110, 101]⟩]), (q8, 9, [.string ⟨#[65, 66, 49]⟩, .string ⟨#[97, 49]⟩, .string ⟨#[65]⟩, .string ⟨#[65, 66, 67, 68, 69, 70, 71, 72, 73, 74, 49]⟩, .string ⟨#[65, 66, 49]⟩])] [⟨.slice sA sn sc, 168, 15, sn, sl.flatMap stEnc⟩, ⟨.slice vA vn vc, 158, 2, vn, vl.flatMap vhEnc⟩, ⟨.slice pA pn pc, 161, 3, pn, pl.flatMap plEnc⟩] [fun wy => SlT csEnc 2 170 wy cA 4 cl] := by
  intro k3 hk3 q5 k6 zk6 q8
  rw [hW]
  refine wa_all [1, 9] (by kernel_rfl) rfl ⟨⟨_, rfl, ?_⟩, ⟨_, rfl, ?_⟩, trivial⟩
  ·refine lk_ sc64 1 rfl rfl rfl (wl_nil ?_)
   refine nw 15 511 (fun _ hm => ⟨hm.bl 0, hm.fa 0, trivial⟩) fun z => ?_
   have h := T511 k3 hk3 q5 k6 zk6 q8
   rw [hW] at h
   refine wa_weak ?_ ?_ h
   ·exact ⟨rfl, rfl, rfl, rfl, rfl, rfl, rfl, trivial⟩
   exact fun _ hm => hm.pick [0, 1, 2, 3] [0, 1, 2] [0] rfl rfl
  refine wl_got (γ := ByteArray) (val := fun v => .string v) (φ := fun v => v ∈ ([⟨#[65, 66, 49]⟩, ⟨#[97, 49]⟩, ⟨#[65]⟩, ⟨#[65, 66, 67, 68, 69, 70, 71, 72, 73, 74, 49]⟩, ⟨#[65, 66, 49]⟩] : List ByteArray)) rfl cb57 rfl rfl rfl rfl (fun wx hm => (some_any [⟨#[65, 66, 49]⟩, ⟨#[97, 49]⟩, ⟨#[65]⟩, ⟨#[65, 66, 67, 68, 69, 70, 71, 72, 73, 74, 49]⟩, ⟨#[65, 66, 49]⟩] _ _ _ wx B sb _ hm.k (by omega) (by simp) (by simp) (hm.blkI 3 rfl) (hm.neRow 3 rfl rfl))) fun k9 hk9 => ?_
  have zk9 : k9.size ≤ 100 := mem_sz hk9 (by decide)
  refine wl_nil ?_
  refine nw 15 1021 (fun _ hm => ⟨hm.bl 0, hm.fa 0, trivial⟩) fun z => ?_
  refine wt 10 15 2045 rfl z (ov_build (cs := [.int .i64 k3, .string k6, .string k9]) rfl (by kernel_rfl)) ?_
  have h := J2045 k3 hk3 q5 k6 zk6 q8 k9 zk9
  rw [hW] at h
  refine wa_weak ?_ ?_ h
  ·exact ⟨rfl, rfl, rfl, rfl, trivial⟩
  exact fun _ hm => hm.pick [0, 1, 2, 3] [0, 1, 2] [0] rfl rfl
 have J253 : ∀ (k3 : Int) (hk3 : -2000000000000000 ≤ k3 ∧ k3 ≤ 2000000000000000) (q5 : Nat) (k6 : ByteArray) (zk6 : k6.size ≤ 100), W 8 (lb 15 253) [(2, .pointer (some ⟨g1, 0, none⟩)), (3, .pointer (some ⟨g2, 0, none⟩)), (12, .pointer (some ⟨g2, 3, none⟩)), (15, .int .i64 k3), (18, .string k6), (19, .pointer (some ⟨sb, 0, none⟩))] (fun w => Strm 25 w B sb (m + 300 + 1 + 1 + 2 + 1)) [(g1, 66, [.slice none 0 0, .slice none 0 0, .slice none 0 0, .slice none 0 0]), (g2, 66, [.slice sA sn sc, .slice cA 4 cc, .slice vA vn vc, .slice pA pn pc]), (q5, 9, [.string ⟨#[118, 49]⟩, .string ⟨#[110, 111, 110, 101]⟩])] [⟨.slice sA sn sc, 168, 15, sn, sl.flatMap stEnc⟩, ⟨.slice vA vn vc, 158, 2, vn, vl.flatMap vhEnc⟩, ⟨.slice pA pn pc, 161, 3, pn, pl.flatMap plEnc⟩] [fun wy => SlT csEnc 2 170 wy cA 4 cl] := by
  intro k3 hk3 q5 k6 zk6
  rw [hW]
  refine wa_all [1, 8] (by kernel_rfl) rfl ⟨⟨_, rfl, ?_⟩, ⟨_, rfl, ?_⟩, trivial⟩
  ·refine lk_ sc64 1 rfl rfl rfl (wl_nil ?_)
   refine nw 15 255 (fun _ hm => ⟨hm.bl 0, hm.fa 0, trivial⟩) fun z => ?_
   have h := T255 k3 hk3 q5 k6 zk6
   rw [hW] at h
   refine wa_weak ?_ ?_ h
   ·exact ⟨rfl, rfl, rfl, rfl, rfl, rfl, trivial⟩
   exact fun _ hm => hm.pick [0, 1, 2] [0, 1, 2] [0] rfl rfl
  refine wl_buildSlice (e := 9) (cs := [.string ⟨#[65, 66, 49]⟩, .string ⟨#[97, 49]⟩, .string ⟨#[65]⟩, .string ⟨#[65, 66, 67, 68, 69, 70, 71, 72, 73, 74, 49]⟩, .string ⟨#[65, 66, 49]⟩]) rfl (by kernel_rfl) rfl fun q8 => ?_
  refine wl_nil ?_
  refine nw 15 509 (fun _ hm => ⟨hm.bl 1, hm.fa 0, trivial⟩) fun z => ?_
  have h := J509 k3 hk3 q5 k6 zk6 q8
  rw [hW] at h
  refine wa_weak ?_ ?_ h
  ·exact ⟨rfl, rfl, rfl, rfl, rfl, rfl, rfl, trivial⟩
  exact fun _ hm => hm.pick [1, 2, 3, 0] [0, 1, 2] [0] rfl rfl
 have J445 : ∀ (k3 : Int) (hk3 : -2000000000000000 ≤ k3 ∧ k3 ≤ 2000000000000000) (q5 : Nat) (q8 : Nat), W 8 (lb 15 445) [(2, .pointer (some ⟨g1, 0, none⟩)), (3, .pointer (some ⟨g2, 0, none⟩)), (12, .pointer (some ⟨g2, 3, none⟩)), (15, .int .i64 k3), (16, .pointer (some ⟨sb, 0, none⟩)), (17, .slice (some ⟨q5, 0, none⟩) 2 2), (19, .pointer (some ⟨sb, 0, none⟩)), (20, .slice (some ⟨q8, 0, none⟩) 5 5)] (fun w => Strm 25 w B sb (m + 300 + 1 + 1 + 2)) [(g1, 66, [.slice none 0 0, .slice none 0 0, .slice none 0 0, .slice none 0 0]), (g2, 66, [.slice sA sn sc, .slice cA 4 cc, .slice vA vn vc, .slice pA pn pc]), (q5, 9, [.string ⟨#[118, 49]⟩, .string ⟨#[110, 111, 110, 101]⟩]), (q8, 9, [.string ⟨#[65, 66, 49]⟩, .string ⟨#[97, 49]⟩, .string ⟨#[65]⟩, .string ⟨#[65, 66, 67, 68, 69, 70, 71, 72, 73, 74, 49]⟩, .string ⟨#[65, 66, 49]⟩])] [⟨.slice sA sn sc, 168, 15, sn, sl.flatMap stEnc⟩, ⟨.slice vA vn vc, 158, 2, vn, vl.flatMap vhEnc⟩, ⟨.slice pA pn pc, 161, 3, pn, pl.flatMap plEnc⟩] [fun wy => SlT csEnc 2 170 wy cA 4 cl] := by
  intro k3 hk3 q5 q8
  rw [hW]
  refine wa_all [1, 6] (by kernel_rfl) rfl ⟨⟨_, rfl, ?_⟩, ⟨_, rfl, ?_⟩, trivial⟩
  ·refine lk_ sc64 1 rfl rfl rfl (wl_nil ?_)
   refine nw 15 447 (fun _ hm => ⟨hm.bl 0, hm.fa 0, trivial⟩) fun z => ?_
   have h := T447 k3 hk3 q5 q8
   rw [hW] at h
   refine wa_weak ?_ ?_ h
   ·exact ⟨rfl, rfl, rfl, rfl, rfl, rfl, rfl, rfl, trivial⟩
   exact fun _ hm => hm.pick [0, 1, 2, 3] [0, 1, 2] [0] rfl rfl
  refine wl_got (γ := ByteArray) (val := fun v => .string v) (φ := fun v => v ∈ ([⟨#[118, 49]⟩, ⟨#[110, 111, 110, 101]⟩] : List ByteArray)) rfl cb57 rfl rfl rfl rfl (fun wx hm => (some_any [⟨#[118, 49]⟩, ⟨#[110, 111, 110, 101]⟩] _ _ _ wx B sb _ hm.k (by omega) (by simp) (by simp) (hm.blkI 2 rfl) (hm.neRow 2 rfl rfl))) fun k6 hk6 => ?_
  have zk6 : k6.size ≤ 100 := mem_sz hk6 (by decide)
  refine wl_nil ?_
  refine nw 15 509 (fun _ hm => ⟨hm.bl 0, hm.fa 0, trivial⟩) fun z => ?_
  have h := J509 k3 hk3 q5 k6 zk6 q8
  rw [hW] at h
  refine wa_weak ?_ ?_ h
  ·exact ⟨rfl, rfl, rfl, rfl, rfl, rfl, rfl, trivial⟩
  exact fun _ hm => hm.pick [0, 1, 2, 3] [0, 1, 2] [0] rfl rfl
 have J189 : ∀ (k3 : Int) (hk3 : -2000000000000000 ≤ k3 ∧ k3 ≤ 2000000000000000) (q5 : Nat), W 9 (lb 15 189) [(2, .pointer (some ⟨g1, 0, none⟩)), (3, .pointer (some ⟨g2, 0, none⟩)), (12, .pointer (some ⟨g2, 3, none⟩)), (15, .int .i64 k3), (16, .pointer (some ⟨sb, 0, none⟩)), (17, .slice (some ⟨q5, 0, none⟩) 2 2), (19, .pointer (some ⟨sb, 0, none⟩))] (fun w => Strm 25 w B sb (m + 300 + 1 + 1 + 2)) [(g1, 66, [.slice none 0 0, .slice none 0 0, .slice none 0 0, .slice none 0 0]), (g2, 66, [.slice sA sn sc, .slice cA 4 cc, .slice vA vn vc, .slice pA pn pc]), (q5, 9, [.string ⟨#[118, 49]⟩, .string ⟨#[110, 111, 110, 101]⟩])] [⟨.slice sA sn sc, 168, 15, sn, sl.flatMap stEnc⟩, ⟨.slice vA vn vc, 158, 2, vn, vl.flatMap vhEnc⟩, ⟨.slice pA pn pc, 161, 3, pn, pl.flatMap plEnc⟩] [fun wy => SlT csEnc 2 170 wy cA 4 cl] := by
  intro k3 hk3 q5
  rw [hW]
  refine wa_all [1, 6, 8] (by kernel_rfl) rfl ⟨⟨_, rfl, ?_⟩, ⟨_, rfl, ?_⟩, ⟨_, rfl, ?_⟩, trivial⟩
  ·refine lk_ sc64 1 rfl rfl rfl (wl_nil ?_)
   refine nw 15 191 (fun _ hm => ⟨hm.bl 0, hm.fa 0, trivial⟩) fun z => ?_
   have h := J191 k3 hk3 q5
   rw [hW] at h
   refine wa_weak ?_ ?_ h
   ·exact ⟨rfl, rfl, rfl, rfl, rfl, rfl, rfl, trivial⟩
   exact fun _ hm => hm.pick [0, 1, 2] [0, 1, 2] [0] rfl rfl
  ·refine wl_got (γ := ByteArray) (val := fun v => .string v) (φ := fun v => v ∈ ([⟨#[118, 49]⟩, ⟨#[110, 111, 110, 101]⟩] : List ByteArray)) rfl cb57 rfl rfl rfl rfl (fun wx hm => (some_any [⟨#[118, 49]⟩, ⟨#[110, 111, 110, 101]⟩] _ _ _ wx B sb _ hm.k (by omega) (by simp) (by simp) (hm.blkI 2 rfl) (hm.neRow 2 rfl rfl))) fun k6 hk6 => ?_
   have zk6 : k6.size ≤ 100 := mem_sz hk6 (by decide)
   refine wl_nil ?_
   refine nw 15 253 (fun _ hm => ⟨hm.bl 0, hm.fa 0, trivial⟩) fun z => ?_
   have h := J253 k3 hk3 q5 k6 zk6
   rw [hW] at h
   refine wa_weak ?_ ?_ h
   ·exact ⟨rfl, rfl, rfl, rfl, rfl, rfl, trivial⟩
   exact fun _ hm => hm.pick [0, 1, 2] [0, 1, 2] [0] rfl rfl
  refine wl_buildSlice (e := 9) (cs := [.string ⟨#[65, 66, 49]⟩, .string ⟨#[97, 49]⟩, .string ⟨#[65]⟩, .string ⟨#[65, 66, 67, 68, 69, 70, 71, 72, 73, 74, 49]⟩, .string ⟨#[65, 66, 49]⟩]) rfl (by kernel_rfl) rfl fun q8 => ?_
  refine wl_nil ?_
  refine nw 15 445 (fun _ hm => ⟨hm.bl 1, hm.fa 0, trivial⟩) fun z => ?_
  have h := J445 k3 hk3 q5 q8
  rw [hW] at h
  refine wa_weak ?_ ?_ h
  ·exact ⟨rfl, rfl, rfl, rfl, rfl, rfl, rfl, rfl, trivial⟩
  exact fun _ hm => hm.pick [1, 2, 3, 0] [0, 1, 2] [0] rfl rfl
 have J413 : ∀ (k3 : Int) (hk3 : -2000000000000000 ≤ k3 ∧ k3 ≤ 2000000000000000) (q8 : Nat), W 9 (lb 15 413) [(2, .pointer (some ⟨g1, 0, none⟩)), (3, .pointer (some ⟨g2, 0, none⟩)), (12, .pointer (some ⟨g2, 3, none⟩)), (15, .int .i64 k3), (16, .pointer (some ⟨sb, 0, none⟩)), (19, .pointer (some ⟨sb, 0, none⟩)), (20, .slice (some ⟨q8, 0, none⟩) 5 5)] (fun w => Strm 25 w B sb (m + 300 + 1 + 1 + 2)) [(g1, 66, [.slice none 0 0, .slice none 0 0, .slice none 0 0, .slice none 0 0]), (g2, 66, [.slice sA sn sc, .slice cA 4 cc, .slice vA vn vc, .slice pA pn pc]), (q8, 9, [.string ⟨#[65, 66, 49]⟩, .string ⟨#[97, 49]⟩, .string ⟨#[65]⟩, .string ⟨#[65, 66, 67, 68, 69, 70, 71, 72, 73, 74, 49]⟩, .string ⟨#[65, 66, 49]⟩])] [⟨.slice sA sn sc, 168, 15, sn, sl.flatMap stEnc⟩, ⟨.slice vA vn vc, 158, 2, vn, vl.flatMap vhEnc⟩, ⟨.slice pA pn pc, 161, 3, pn, pl.flatMap plEnc⟩] [fun wy => SlT csEnc 2 170 wy cA 4 cl] := by
  intro k3 hk3 q8
  rw [hW]
  refine wa_all [1, 5] (by kernel_rfl) rfl ⟨⟨_, rfl, ?_⟩, ⟨_, rfl, ?_⟩, trivial⟩
  ·refine lk_ sc64 1 rfl rfl rfl (wl_nil ?_)
   refine nw 15 415 (fun _ hm => ⟨hm.bl 0, hm.fa 0, trivial⟩) fun z => ?_
   have h := T415 k3 hk3 q8
   rw [hW] at h
   refine wa_weak ?_ ?_ h
   ·exact ⟨rfl, rfl, rfl, rfl, rfl, rfl, rfl, trivial⟩
   exact fun _ hm => hm.pick [0, 1, 2] [0, 1, 2] [0] rfl rfl
  refine wl_buildSlice (e := 9) (cs := [.string ⟨#[118, 49]⟩, .string ⟨#[110, 111, 110, 101]⟩]) rfl (by kernel_rfl) rfl fun q5 => ?_
  refine wl_nil ?_
  refine nw 15 445 (fun _ hm => ⟨hm.bl 1, hm.fa 0, trivial⟩) fun z => ?_
  have h := J445 k3 hk3 q5 q8
  rw [hW] at h
  refine wa_weak ?_ ?_ h
  ·exact ⟨rfl, rfl, rfl, rfl, rfl, rfl, rfl, rfl, trivial⟩
  exact fun _ hm => hm.pick [1, 2, 0, 3] [0, 1, 2] [0] rfl rfl
 have J157 : ∀ (k3 : Int) (hk3 : -2000000000000000 ≤ k3 ∧ k3 ≤ 2000000000000000), W 10 (lb 15 157) [(2, .pointer (some ⟨g1, 0, none⟩)), (3, .pointer (some ⟨g2, 0, none⟩)), (12, .pointer (some ⟨g2, 3, none⟩)), (15, .int .i64 k3), (16, .pointer (some ⟨sb, 0, none⟩)), (19, .pointer (some ⟨sb, 0, none⟩))] (fun w => Strm 25 w B sb (m + 300 + 1 + 1 + 2)) [(g1, 66, [.slice none 0 0, .slice none 0 0, .slice none 0 0, .slice none 0 0]), (g2, 66, [.slice sA sn sc, .slice cA 4 cc, .slice vA vn vc, .slice pA pn pc])] [⟨.slice sA sn sc, 168, 15, sn, sl.flatMap stEnc⟩, ⟨.slice vA vn vc, 158, 2, vn, vl.flatMap vhEnc⟩, ⟨.slice pA pn pc, 161, 3, pn, pl.flatMap plEnc⟩] [fun wy => SlT csEnc 2 170 wy cA 4 cl] := by
  intro k3 hk3
  rw [hW]
  refine wa_all [1, 5, 8] (by kernel_rfl) rfl ⟨⟨_, rfl, ?_⟩, ⟨_, rfl, ?_⟩, ⟨_, rfl, ?_⟩, trivial⟩
  ·refine lk_ sc64 1 rfl rfl rfl (wl_nil ?_)
   refine nw 15 159 (fun _ hm => ⟨hm.bl 0, hm.fa 0, trivial⟩) fun z => ?_
   have h := J159 k3 hk3
   rw [hW] at h
   refine wa_weak ?_ ?_ h
   ·exact ⟨rfl, rfl, rfl, rfl, rfl, rfl, trivial⟩
   exact fun _ hm => hm.pick [0, 1] [0, 1, 2] [0] rfl rfl
  ·refine wl_buildSlice (e := 9) (cs := [.string ⟨#[118, 49]⟩, .string ⟨#[110, 111, 110, 101]⟩]) rfl (by kernel_rfl) rfl fun q5 => ?_
   refine wl_nil ?_
   refine nw 15 189 (fun _ hm => ⟨hm.bl 1, hm.fa 0, trivial⟩) fun z => ?_
   have h := J189 k3 hk3 q5
   rw [hW] at h
   refine wa_weak ?_ ?_ h
   ·exact ⟨rfl, rfl, rfl, rfl, rfl, rfl, rfl, trivial⟩
   exact fun _ hm => hm.pick [1, 2, 0] [0, 1, 2] [0] rfl rfl
  refine wl_buildSlice (e := 9) (cs := [.string ⟨#[65, 66, 49]⟩, .string ⟨#[97, 49]⟩, .string ⟨#[65]⟩, .string ⟨#[65, 66, 67, 68, 69, 70, 71, 72, 73, 74, 49]⟩, .string ⟨#[65, 66, 49]⟩]) rfl (by kernel_rfl) rfl fun q8 => ?_
  refine wl_nil ?_
  refine nw 15 413 (fun _ hm => ⟨hm.bl 1, hm.fa 0, trivial⟩) fun z => ?_
  have h := J413 k3 hk3 q8
  rw [hW] at h
  refine wa_weak ?_ ?_ h
  ·exact ⟨rfl, rfl, rfl, rfl, rfl, rfl, rfl, trivial⟩
  exact fun _ hm => hm.pick [1, 2, 0] [0, 1, 2] [0] rfl rfl
 have J437 : ∀ (q5 : Nat) (q8 : Nat), W 9 (lb 15 437) [(2, .pointer (some ⟨g1, 0, none⟩)), (3, .pointer (some ⟨g2, 0, none⟩)), (12, .pointer (some ⟨g2, 3, none⟩)), (14, .pointer (some ⟨sb, 0, none⟩)), (16, .pointer (some ⟨sb, 0, none⟩)), (17, .slice (some ⟨q5, 0, none⟩) 2 2), (19, .pointer (some ⟨sb, 0, none⟩)), (20, .slice (some ⟨q8, 0, none⟩) 5 5)] (fun w => Strm 25 w B sb (m + 300 + 1 + 1)) [(g1, 66, [.slice none 0 0, .slice none 0 0, .slice none 0 0, .slice none 0 0]), (g2, 66, [.slice sA sn sc, .slice cA 4 cc, .slice vA vn vc, .slice pA pn pc]), (q5, 9, [.string ⟨#[118, 49]⟩, .string ⟨#[110, 111, 110, 101]⟩]), (q8, 9, [.string ⟨#[65, 66, 49]⟩, .string ⟨#[97, 49]⟩, .string ⟨#[65]⟩, .string ⟨#[65, 66, 67, 68, 69, 70, 71, 72, 73, 74, 49]⟩, .string ⟨#[65, 66, 49]⟩])] [⟨.slice sA sn sc, 168, 15, sn, sl.flatMap stEnc⟩, ⟨.slice vA vn vc, 158, 2, vn, vl.flatMap vhEnc⟩, ⟨.slice pA pn pc, 161, 3, pn, pl.flatMap plEnc⟩] [fun wy => SlT csEnc 2 170 wy cA 4 cl] := by
  intro q5 q8
  rw [hW]
  refine wa_all [1, 3] (by kernel_rfl) rfl ⟨⟨_, rfl, ?_⟩, ⟨_, rfl, ?_⟩, trivial⟩
  ·refine lk_ sc64 1 rfl rfl rfl (wl_nil ?_)
   refine nw 15 439 (fun _ hm => ⟨hm.bl 0, hm.fa 0, trivial⟩) fun z => ?_
   have h := T439 q5 q8
   rw [hW] at h
   refine wa_weak ?_ ?_ h
   ·exact ⟨rfl, rfl, rfl, rfl, rfl, rfl, rfl, rfl, trivial⟩
   exact fun _ hm => hm.pick [0, 1, 2, 3] [0, 1, 2] [0] rfl rfl
  refine wl_got (γ := Int) (val := fun v => .int .i64 v) (φ := fun v => -2000000000000000 ≤ v ∧ v ≤ 2000000000000000) rfl cb58 rfl rfl rfl rfl (fun wx hm => (odd_any _ _ wx B sb _ hm.k (by omega) (by omega) (by omega) (by omega))) fun k3 hk3 => ?_
  refine wl_nil ?_
  refine nw 15 445 (fun _ hm => ⟨hm.bl 0, hm.fa 0, trivial⟩) fun z => ?_
  have h := J445 k3 hk3 q5 q8
  rw [hW] at h
  refine wa_weak ?_ ?_ h
  ·exact ⟨rfl, rfl, rfl, rfl, rfl, rfl, rfl, rfl, trivial⟩
  exact fun _ hm => hm.pick [0, 1, 2, 3] [0, 1, 2] [0] rfl rfl
 have J181 : ∀ (q5 : Nat), W 10 (lb 15 181) [(2, .pointer (some ⟨g1, 0, none⟩)), (3, .pointer (some ⟨g2, 0, none⟩)), (12, .pointer (some ⟨g2, 3, none⟩)), (14, .pointer (some ⟨sb, 0, none⟩)), (16, .pointer (some ⟨sb, 0, none⟩)), (17, .slice (some ⟨q5, 0, none⟩) 2 2), (19, .pointer (some ⟨sb, 0, none⟩))] (fun w => Strm 25 w B sb (m + 300 + 1 + 1)) [(g1, 66, [.slice none 0 0, .slice none 0 0, .slice none 0 0, .slice none 0 0]), (g2, 66, [.slice sA sn sc, .slice cA 4 cc, .slice vA vn vc, .slice pA pn pc]), (q5, 9, [.string ⟨#[118, 49]⟩, .string ⟨#[110, 111, 110, 101]⟩])] [⟨.slice sA sn sc, 168, 15, sn, sl.flatMap stEnc⟩, ⟨.slice vA vn vc, 158, 2, vn, vl.flatMap vhEnc⟩, ⟨.slice pA pn pc, 161, 3, pn, pl.flatMap plEnc⟩] [fun wy => SlT csEnc 2 170 wy cA 4 cl] := by
  intro q5
  rw [hW]
  refine wa_all [1, 3, 8] (by kernel_rfl) rfl ⟨⟨_, rfl, ?_⟩, ⟨_, rfl, ?_⟩, ⟨_, rfl, ?_⟩, trivial⟩
  ·refine lk_ sc64 1 rfl rfl rfl (wl_nil ?_)
   refine nw 15 183 (fun _ hm => ⟨hm.bl 0, hm.fa 0, trivial⟩) fun z => ?_
   have h := J183 q5
   rw [hW] at h
   refine wa_weak ?_ ?_ h
   ·exact ⟨rfl, rfl, rfl, rfl, rfl, rfl, rfl, trivial⟩
   exact fun _ hm => hm.pick [0, 1, 2] [0, 1, 2] [0] rfl rfl
  ·refine wl_got (γ := Int) (val := fun v => .int .i64 v) (φ := fun v => -2000000000000000 ≤ v ∧ v ≤ 2000000000000000) rfl cb58 rfl rfl rfl rfl (fun wx hm => (odd_any _ _ wx B sb _ hm.k (by omega) (by omega) (by omega) (by omega))) fun k3 hk3 => ?_
   refine wl_nil ?_
   refine nw 15 189 (fun _ hm => ⟨hm.bl 0, hm.fa 0, trivial⟩) fun z => ?_
   have h := J189 k3 hk3 q5
   rw [hW] at h
   refine wa_weak ?_ ?_ h
   ·exact ⟨rfl, rfl, rfl, rfl, rfl, rfl, rfl, trivial⟩
   exact fun _ hm => hm.pick [0, 1, 2] [0, 1, 2] [0] rfl rfl
  refine wl_buildSlice (e := 9) (cs := [.string ⟨#[65, 66, 49]⟩, .string ⟨#[97, 49]⟩, .string ⟨#[65]⟩, .string ⟨#[65, 66, 67, 68, 69, 70, 71, 72, 73, 74, 49]⟩, .string ⟨#[65, 66, 49]⟩]) rfl (by kernel_rfl) rfl fun q8 => ?_
  refine wl_nil ?_
  refine nw 15 437 (fun _ hm => ⟨hm.bl 1, hm.fa 0, trivial⟩) fun z => ?_
  have h := J437 q5 q8
  rw [hW] at h
  refine wa_weak ?_ ?_ h
  ·exact ⟨rfl, rfl, rfl, rfl, rfl, rfl, rfl, rfl, trivial⟩
  exact fun _ hm => hm.pick [1, 2, 3, 0] [0, 1, 2] [0] rfl rfl
 have J405 : ∀ (q8 : Nat), W 10 (lb 15 405) [(2, .pointer (some ⟨g1, 0, none⟩)), (3, .pointer (some ⟨g2, 0, none⟩)), (12, .pointer (some ⟨g2, 3, none⟩)), (14, .pointer (some ⟨sb, 0, none⟩)), (16, .pointer (some ⟨sb, 0, none⟩)), (19, .pointer (some ⟨sb, 0, none⟩)), (20, .slice (some ⟨q8, 0, none⟩) 5 5)] (fun w => Strm 25 w B sb (m + 300 + 1 + 1)) [(g1, 66, [.slice none 0 0, .slice none 0 0, .slice none 0 0, .slice none 0 0]), (g2, 66, [.slice sA sn sc, .slice cA 4 cc, .slice vA vn vc, .slice pA pn pc]), (q8, 9, [.string ⟨#[65, 66, 49]⟩, .string ⟨#[97, 49]⟩, .string ⟨#[65]⟩, .string ⟨#[65, 66, 67, 68, 69, 70, 71, 72, 73, 74, 49]⟩, .string ⟨#[65, 66, 49]⟩])] [⟨.slice sA sn sc, 168, 15, sn, sl.flatMap stEnc⟩, ⟨.slice vA vn vc, 158, 2, vn, vl.flatMap vhEnc⟩, ⟨.slice pA pn pc, 161, 3, pn, pl.flatMap plEnc⟩] [fun wy => SlT csEnc 2 170 wy cA 4 cl] := by
  intro q8
  rw [hW]
  refine wa_all [1, 3, 5] (by kernel_rfl) rfl ⟨⟨_, rfl, ?_⟩, ⟨_, rfl, ?_⟩, ⟨_, rfl, ?_⟩, trivial⟩
  ·refine lk_ sc64 1 rfl rfl rfl (wl_nil ?_)
   refine nw 15 407 (fun _ hm => ⟨hm.bl 0, hm.fa 0, trivial⟩) fun z => ?_
   have h := J407 q8
   rw [hW] at h
   refine wa_weak ?_ ?_ h
   ·exact ⟨rfl, rfl, rfl, rfl, rfl, rfl, rfl, trivial⟩
   exact fun _ hm => hm.pick [0, 1, 2] [0, 1, 2] [0] rfl rfl
  ·refine wl_got (γ := Int) (val := fun v => .int .i64 v) (φ := fun v => -2000000000000000 ≤ v ∧ v ≤ 2000000000000000) rfl cb58 rfl rfl rfl rfl (fun wx hm => (odd_any _ _ wx B sb _ hm.k (by omega) (by omega) (by omega) (by omega))) fun k3 hk3 => ?_
   refine wl_nil ?_
   refine nw 15 413 (fun _ hm => ⟨hm.bl 0, hm.fa 0, trivial⟩) fun z => ?_
   have h := J413 k3 hk3 q8
   rw [hW] at h
   refine wa_weak ?_ ?_ h
   ·exact ⟨rfl, rfl, rfl, rfl, rfl, rfl, rfl, trivial⟩
   exact fun _ hm => hm.pick [0, 1, 2] [0, 1, 2] [0] rfl rfl
  refine wl_buildSlice (e := 9) (cs := [.string ⟨#[118, 49]⟩, .string ⟨#[110, 111, 110, 101]⟩]) rfl (by kernel_rfl) rfl fun q5 => ?_
  refine wl_nil ?_
  refine nw 15 437 (fun _ hm => ⟨hm.bl 1, hm.fa 0, trivial⟩) fun z => ?_
  have h := J437 q5 q8
  rw [hW] at h
  refine wa_weak ?_ ?_ h
  ·exact ⟨rfl, rfl, rfl, rfl, rfl, rfl, rfl, rfl, trivial⟩
  exact fun _ hm => hm.pick [1, 2, 0, 3] [0, 1, 2] [0] rfl rfl
 have J149 : W 11 (lb 15 149) [(2, .pointer (some ⟨g1, 0, none⟩)), (3, .pointer (some ⟨g2, 0, none⟩)), (12, .pointer (some ⟨g2, 3, none⟩)), (14, .pointer (some ⟨sb, 0, none⟩)), (16, .pointer (some ⟨sb, 0, none⟩)), (19, .pointer (some ⟨sb, 0, none⟩))] (fun w => Strm 25 w B sb (m + 300 + 1 + 1)) [(g1, 66, [.slice none 0 0, .slice none 0 0, .slice none 0 0, .slice none 0 0]), (g2, 66, [.slice sA sn sc, .slice cA 4 cc, .slice vA vn vc, .slice pA pn pc])] [⟨.slice sA sn sc, 168, 15, sn, sl.flatMap stEnc⟩, ⟨.slice vA vn vc, 158, 2, vn, vl.flatMap vhEnc⟩, ⟨.slice pA pn pc, 161, 3, pn, pl.flatMap plEnc⟩] [fun wy => SlT csEnc 2 170 wy cA 4 cl] := by
  skip
  rw [hW]
  refine wa_all [1, 3, 5, 8] (by kernel_rfl) rfl ⟨⟨_, rfl, ?_⟩, ⟨_, rfl, ?_⟩, ⟨_, rfl, ?_⟩, ⟨_, rfl, ?_⟩, trivial⟩
  ·refine lk_ sc64 1 rfl rfl rfl (wl_nil ?_)
   refine nw 15 151 (fun _ hm => ⟨hm.bl 0, hm.fa 0, trivial⟩) fun z => ?_
   have h := J151 
   rw [hW] at h
   refine wa_weak ?_ ?_ h
   ·exact ⟨rfl, rfl, rfl, rfl, rfl, rfl, trivial⟩
   exact fun _ hm => hm.pick [0, 1] [0, 1, 2] [0] rfl rfl
  ·refine wl_got (γ := Int) (val := fun v => .int .i64 v) (φ := fun v => -2000000000000000 ≤ v ∧ v ≤ 2000000000000000) rfl cb58 rfl rfl rfl rfl (fun wx hm => (odd_any _ _ wx B sb _ hm.k (by omega) (by omega) (by omega) (by omega))) fun k3 hk3 => ?_
   refine wl_nil ?_
   refine nw 15 157 (fun _ hm => ⟨hm.bl 0, hm.fa 0, trivial⟩) fun z => ?_
   have h := J157 k3 hk3
   rw [hW] at h
   refine wa_weak ?_ ?_ h
   ·exact ⟨rfl, rfl, rfl, rfl, rfl, rfl, trivial⟩
   exact fun _ hm => hm.pick [0, 1] [0, 1, 2] [0] rfl rfl
  ·refine wl_buildSlice (e := 9) (cs := [.string ⟨#[118, 49]⟩, .string ⟨#[110, 111, 110, 101]⟩]) rfl (by kernel_rfl) rfl fun q5 => ?_
   refine wl_nil ?_
   refine nw 15 181 (fun _ hm => ⟨hm.bl 1, hm.fa 0, trivial⟩) fun z => ?_
   have h := J181 q5
   rw [hW] at h
   refine wa_weak ?_ ?_ h
   ·exact ⟨rfl, rfl, rfl, rfl, rfl, rfl, rfl, trivial⟩
   exact fun _ hm => hm.pick [1, 2, 0] [0, 1, 2] [0] rfl rfl
  refine wl_buildSlice (e := 9) (cs := [.string ⟨#[65, 66, 49]⟩, .string ⟨#[97, 49]⟩, .string ⟨#[65]⟩, .string ⟨#[65, 66, 67, 68, 69, 70, 71, 72, 73, 74, 49]⟩, .string ⟨#[65, 66, 49]⟩]) rfl (by kernel_rfl) rfl fun q8 => ?_
  refine wl_nil ?_
  refine nw 15 405 (fun _ hm => ⟨hm.bl 1, hm.fa 0, trivial⟩) fun z => ?_
  have h := J405 q8
  rw [hW] at h
  refine wa_weak ?_ ?_ h
  ·exact ⟨rfl, rfl, rfl, rfl, rfl, rfl, rfl, trivial⟩
  exact fun _ hm => hm.pick [1, 2, 0] [0, 1, 2] [0] rfl rfl
 rw [hW]
 have h := J149 
 rw [hW] at h
 refine wa_weak ?_ ?_ h
 ·exact ⟨rfl, rfl, rfl, rfl, rfl, rfl, trivial⟩
 exact fun _ hm => hm.pick [1, 0] [0, 1, 2] [0] rfl rfl
end Go.Proofs.YtnpcbfllnkiopaaGreatDoor
namespace Go.Proofs.YtnpcbfllnkiopaaGreatDoor
open Go.RowKit
theorem gvehicleKey_any (w : World) (B sb m : Nat) (hS : Strm 25 w B sb m) (hm : m ≤ 100000000000) :
  Calls Tryz.prog 183 #[.pointer (some ⟨sb, 0, none⟩)] w (fun e w' => ∃ v : ByteArray, e = .returned (.string v) ∧ v.size ≤ 100 ∧ Strm 25 w' B sb (m + 1) ∧ w.grownBy w' (some sb)) := by
 refine gw_enter ⟨6, w, (some sb), []⟩ Tryz.func183 rfl Tryz.ntmps183 rfl (memS (X := []) hS allF_nil allL_nil) ?_
 refine sr_ (sg_ rfl (nn_ (sr_ (mv_ rfl ?_))))
 refine wl_buildSlice (e := 9) (cs := [.string ⟨#[118, 49]⟩, .string ⟨#[118, 49]⟩, .string ⟨#[118, 50]⟩, .string ⟨#[118, 50]⟩, .string ⟨#[118, 51]⟩, .string ⟨#[118, 52]⟩, .string ⟨#[110, 111, 110, 101]⟩, .string ⟨#[]⟩, .string ⟨#[65]⟩]) rfl (by kernel_rfl) rfl fun g1 => ?_
 refine wl_got (γ := ByteArray) (val := fun v => .string v) (φ := fun v => v ∈ ([⟨#[118, 49]⟩, ⟨#[118, 49]⟩, ⟨#[118, 50]⟩, ⟨#[118, 50]⟩, ⟨#[118, 51]⟩, ⟨#[118, 52]⟩, ⟨#[110, 111, 110, 101]⟩, ⟨#[]⟩, ⟨#[65]⟩] : List ByteArray)) rfl cb57 rfl rfl rfl rfl (fun wx hm => (some_any [⟨#[118, 49]⟩, ⟨#[118, 49]⟩, ⟨#[118, 50]⟩, ⟨#[118, 50]⟩, ⟨#[118, 51]⟩, ⟨#[118, 52]⟩, ⟨#[110, 111, 110, 101]⟩, ⟨#[]⟩, ⟨#[65]⟩] _ _ _ wx B sb _ hm.k (by omega) (by simp) (by simp) (hm.blkI 0 rfl) (hm.neRow 0 rfl rfl))) fun s2 hs2 => ?_
 have zs2 : s2.size ≤ 100 := mem_sz hs2 (by decide)
 refine sg_ rfl (nn_ ?_)
 refine gw_ret ?_
 refine nx_ret1 rfl rfl fun wx hm => ?_
 exact ⟨s2, rfl, by omega, hm.k, hm.g⟩
end Go.Proofs.YtnpcbfllnkiopaaGreatDoor
namespace Go.Proofs.YtnpcbfllnkiopaaGreatDoor
open Go.RowKit
theorem cloneEvents_all (l : List Ev) (A : Option Addr) (n c : Nat) (w : World) (hl : SlT evEnc 5 54 w A n l) (hs : ShapeA A n c) (hn : n ≤ 1000000) :
    Calls Tryz.prog 184 #[.slice A n c] w (fun e w' => ∃ A' c', e = .returned (.slice A' n c') ∧ w'.ownsRow w.heap.size 54 5 (.slice A' n c') n (l.flatMap evEnc) ∧ w.grownBy w' none) := by
  rcases hs with ⟨rfl, rfl, rfl⟩ | ⟨b, off, rfl⟩
  · exact cloneEvents_any l none 0 0 w hl (fun _ => ⟨rfl, rfl⟩) hn
  · rcases Nat.eq_zero_or_pos n with rfl | h0
    · have hl0 : l = [] := List.length_eq_zero_iff.1 hl.len
      subst hl0
      exact cloneEvents_empty b off c w
    · exact cloneEvents_pos l _ n c w hl h0 hn
theorem glog_any (sl : List St) (vl : List Vh) (sA cA vA pA : Option Addr) (sn sc cn cc vn vc pn pc q : Nat) (w : World) (B sb m : Nat) (hS : Strm 25 w B sb m) (hm : m ≤ 100000000) (hs : SlT stEnc 15 168 w sA sn sl) (hv : SlT vhEnc 2 158 w vA vn vl) (hsok : ∀ x ∈ sl, StOk x) (hvok : ∀ x ∈ vl, VhOk x) (hsn : sn ≤ 1000) (hvn : vn ≤ 1000) (hq : q ≤ 1000) :
  Calls Tryz.prog 98 #[.pointer (some ⟨sb, 0, none⟩), .agg #[.slice sA sn sc, .slice cA cn cc, .slice vA vn vc, .slice pA pn pc], .int .i64 ((q : Nat) : Int)] w (fun e w' => ∃ (A : Option Addr) (n c : Nat) (l : List Ev), e = .returned (.slice A n c) ∧ w'.ownsRow w.heap.size 54 5 (.slice A n c) n (l.flatMap evEnc) ∧ l.length = n ∧ (∀ x ∈ l, EvOk x) ∧ n ≤ q ∧ Strm 25 w' B sb (m + 20 * q + 20) ∧ w.grownBy w' (some sb)) := by
 obtain ⟨_, _, _, _, hh, _⟩ := hS.pos
 have hso := hs.oldRow hh (by decide)
 have hvo := hv.oldRow hh (by decide)
 refine gw_enter ⟨137, w, (some sb), []⟩ Tryz.func98 rfl Tryz.ntmps98 rfl (memS (X := [SlOld stEnc 15 168 w.heap.size (some sb) sA sn sl, SlOld vhEnc 2 158 w.heap.size (some sb) vA vn vl]) hS (allF_cons hso (allF_cons hvo allF_nil)) (allL_cons SlOld.lasts (allL_cons SlOld.lasts allL_nil))) ?_
 refine sr_ ?_
 have hvl := hv.len
 have hsl := hs.len
 refine wl_nilOwn 54 5 ?_
 refine wl_box rfl rfl rfl fun g1 => ?_
 refine sg_ rfl (nn_ (sr_ (sg_ rfl (nn_ (gw_seq (sr_ (fd_ fo66_2 rfl rfl (lk_ sc63 0 rfl rfl rfl (wl_ov (ov_len es63 rfl) rfl ?_)))))))))
 refine wl_ov (ov_eql rfl rfl) rfl (mv_ rfl ?_)
 rcases Bool.eq_false_or_eq_true (decide (((vn : Nat) : Int) = 0)) with h0 | h0
 ·refine wl_set 16 rfl (congrArg Value.bool h0) ?_
  refine goff rfl rfl rfl (goff rfl rfl rfl (goff rfl rfl rfl (goff rfl rfl rfl (pt_ rfl rfl (nn_ (ct_ rfl (sr_ (mv_ rfl (sg_ rfl (nn_ ?_))))))))))
  refine gw_ret ?_
  refine nx_then_ret ?_
  refine nx_ret1 rfl rfl fun wx hm => ?_
  exact ⟨none, 0, 0, [], rfl, (hm.ownI 0 rfl), rfl, (fun _ h => by cases h), by omega, hm.k.more (by omega), hm.g⟩
 refine wl_set 16 rfl (congrArg Value.bool h0) ?_
 have h0 := of_decide_eq_false h0
 refine wl_guard_on rfl rfl rfl (fd_ fo66_0 rfl rfl (wl_guard_on rfl rfl rfl (lk_ sc61 0 rfl rfl rfl (wl_guard_on rfl rfl rfl (wl_ov (ov_len es61 rfl) rfl (wl_guard_on rfl rfl rfl (wl_ov (ov_eql rfl rfl) rfl (pf_ rfl rfl (nn_ ?_)))))))))
 refine gw_cond rfl (fun hh => ?_) (fun hh => ?_)
 ·have h1 : ((sn : Nat) : Int) = 0 := by simpa using hh
  clear hh
  refine sr_ (mv_ rfl (sg_ rfl (nn_ ?_)))
  refine gw_ret ?_
  refine nx_then_ret ?_
  refine nx_ret1 rfl rfl fun wx hm => ?_
  exact ⟨none, 0, 0, [], rfl, (hm.ownI 0 rfl), rfl, (fun _ h => by cases h), by omega, hm.k.more (by omega), hm.g⟩
 have h1 : ¬ (((sn : Nat) : Int) = 0) := by simpa using hh
 clear hh
 refine gw_skip (nx_then (sr_ ?_))
 have hvn0 : 0 < vn := by omega
 have hsn0 : 0 < sn := by omega
 obtain ⟨bv, ov, hA, _, _⟩ := hv.get (by omega)
 subst hA
 obtain ⟨bs, os, hA, _, _⟩ := hs.get (by omega)
 subst hA
 refine sg_ rfl (nn_ (gw_seq (sr_ (mv_ rfl (mv_ rfl (nn_ (gw_block ?_)))))))
 refine gw_loop (γ := Nat × Nat × Int × Option Addr × Nat × List Ev) (fun g => g.1 ≤ q ∧ g.2.1 ≤ g.1 ∧ (0 ≤ g.2.2.1 ∧ g.2.2.1 ≤ 500 * ((g.1 : Nat) : Int)) ∧ g.2.2.2.2.2.length = g.2.1 ∧ (∀ x ∈ g.2.2.2.2.2, EvOk x)) (fun g => [(0, .pointer (some ⟨sb, 0, none⟩)), (4, .pointer (some ⟨g1, 0, none⟩)), (6, .slice none 0 0), (7, .slice g.2.2.2.1 g.2.1 g.2.2.2.2.1), (8, .int .i64 g.2.2.1), (23, .int .i64 ((q : Nat) : Int)), (24, .int .i64 ((g.1 : Nat) : Int))]) (fun g => fun w => Strm 25 w B sb (m + 20 * g.1)) (fun g => [(g1, 66, [.slice (some ⟨bs, os, none⟩) sn sc, .slice cA cn cc, .slice (some ⟨bv, ov, none⟩) vn vc, .slice pA pn pc])]) (fun g => [⟨.slice g.2.2.2.1 g.2.1 g.2.2.2.2.1, 54, 5, g.2.1, g.2.2.2.2.2.flatMap evEnc⟩]) (fun g => [SlOld stEnc 15 168 w.heap.size (some sb) (some ⟨bs, os, none⟩) sn sl, SlOld vhEnc 2 158 w.heap.size (some sb) (some ⟨bv, ov, none⟩) vn vl]) (fun g => q - g.1) (0, 0, 0, none, 0, []) ⟨Nat.zero_le _, Nat.le_refl _, ⟨Int.le_refl _, by decide⟩, rfl, (fun _ h => by cases h)⟩ ⟨rfl, rfl, rfl, rfl, rfl, rfl, rfl, trivial⟩ (fun _ hm => (hm.more rfl (by first | omega | (dsimp only; omega))).pick [0] [0] [0, 1] rfl rfl) ?_
 rintro ⟨i, k, at_, oA, oc, xl⟩ hinv
 replace hinv : i ≤ q ∧ k ≤ i ∧ (0 ≤ at_ ∧ at_ ≤ 500 * ((i : Nat) : Int)) ∧ xl.length = k ∧ (∀ x ∈ xl, EvOk x) := hinv
 dsimp only
 refine sr_ ?_
 obtain ⟨hi0, hki, ⟨ha0, ha1⟩, hxl, hxok⟩ := hinv
 refine wl_ov (ov_lss rfl rfl) rfl (nn_ (gw_seq ?_))
 refine gw_cond rfl (fun hh => ?_) (fun hh => ?_)
 ·have hi : ((i : Nat) : Int) < ((q : Nat) : Int) := by simpa using hh
  clear hh
  refine gw_skip (nx_then (gw_seq (gw_block (sr_ (mv_ rfl (mv_ rfl ?_))))))
  refine wl_buildSlice (e := 3) (cs := [.int .i64 0, .int .i64 1, .int .i64 10, .int .i64 50, .int .i64 100, .int .i64 500]) rfl (by kernel_rfl) rfl fun g2 => ?_
  refine wl_got (γ := Int) (val := fun v => .int .i64 v) (φ := fun v => v ∈ ([0, 1, 10, 50, 100, 500] : List Int)) rfl cb34 rfl rfl rfl rfl (fun wx hm => (pick_any [0, 1, 10, 50, 100, 500] _ _ _ wx B sb _ hm.k (by omega) (by simp) (by simp) (hm.blkI 0 rfl) (hm.neRow 0 rfl rfl))) fun v3 hv3 => ?_
  have bv3 : 0 ≤ v3 ∧ v3 ≤ 500 := mem_rng hv3 (by decide)
  have bv30 := bv3.1
  have bv31 := bv3.2
  clear bv3
  refine ad_ rfl rfl (sg_ rfl (nn_ (gw_seq ?_)))
  refine gd (fun wz => Blk wz g2 3 [.int .i64 0, .int .i64 1, .int .i64 10, .int .i64 50, .int .i64 100, .int .i64 500] ∧ Blk wz g1 66 [.slice (some ⟨bs, os, none⟩) sn sc, .slice cA cn cc, .slice (some ⟨bv, ov, none⟩) vn vc, .slice pA pn pc] ∧ (SlOld stEnc 15 168 w.heap.size (some sb) (some ⟨bs, os, none⟩) sn sl) wz ∧ (SlOld vhEnc 2 158 w.heap.size (some sb) (some ⟨bv, ov, none⟩) vn vl) wz ∧ True) mixed (fun _ hm => ⟨hm.bl 0, hm.bl 1, hm.fa 0, hm.fa 1, trivial⟩) fun z => ?_
  refine wt 0 11 1 rfl z (ov_field fo66_2 rfl rfl) ?_
  refine wt 1 11 3 rfl z (ov_load sc63 rfl (fun _ hm => hm.2.1) rfl) ?_
  refine wt 2 11 7 rfl z (ov_move rfl) ?_
  refine wt 3 11 15 rfl z (ov_field fo66_2 rfl rfl) ?_
  refine wt 4 11 31 rfl z (ov_load sc63 rfl (fun _ hm => hm.2.1) rfl) ?_
  refine wt 5 11 63 rfl z (ov_len es63 rfl) ?_
  refine wa1 6 rfl ?_
  refine wl_got (γ := Int) (val := fun v => .int .i64 v) (φ := fun v => IsBelow ((vn : Nat) : Int) v) rfl cb56 rfl rfl rfl rfl (fun wx hm => (next_any _ wx B sb _ hm.k (by omega) (by omega) (by omega))) fun vj hvj => ?_
  have hj := isBelow_lt hvj (by omega)
  obtain ⟨j, rfl⟩ := Int.eq_ofNat_of_zero_le hj.1
  have hji : j < vn := by omega
  obtain ⟨y, hy⟩ : ∃ y, vl[j]? = some y := ⟨_, List.getElem?_eq_getElem (by omega)⟩
  obtain ⟨y0, y1⟩ := y
  have hyB := hvok _ (List.mem_of_getElem? hy)
  have hy0 : y0.size ≤ 1000000 := hyB.1
  refine wl_nil ?_
  refine nw 11 127 (fun _ hm => ⟨hm.bl 0, hm.bl 1, hm.fa 0, hm.fa 1, trivial⟩) fun z => ?_
  refine wt 7 11 255 rfl z (ov_index (j := j) es63 rfl rfl (by omega)) ?_
  refine wt 8 11 511 rfl z (ov_field fo158_0 rfl rfl) ?_
  refine wt 9 11 1023 rfl z (ov_elem1 (k := 0) (v := .string y0) sc9 rfl (fun _ hm => (hm.2.2.2.1).1) hy rfl rfl) ?_
  refine wt 10 11 2047 rfl z (ov_assign rfl) ?_
  refine wa_done (by kernel_rfl) ?_
  refine nx_then ?_
  obtain ⟨t8, ht8⟩ : ∃ z, z = at_ + v3 := ⟨_, rfl⟩
  rw [← ht8]
  have ht0 : 0 ≤ t8 := by omega
  have ht1 : t8 ≤ 500 * ((i : Nat) : Int) + 500 := by omega
  refine gw_cut (γ := Nat × ByteArray × Int) (I := (fun g => g.2.1.size ≤ 1000000 ∧ (-4000000000000000000 ≤ g.2.2 ∧ g.2.2 ≤ 4000000000000000000))) (S' := (fun g => [(0, .pointer (some ⟨sb, 0, none⟩)), (4, .pointer (some ⟨g1, 0, none⟩)), (6, .slice none 0 0), (7, .slice oA k oc), (8, .int .i64 t8), (9, .string y0), (10, .pointer (some ⟨g.1, 0, none⟩)), (23, .int .i64 ((q : Nat) : Int)), (24, .int .i64 ((i : Nat) : Int))])) (K' := (fun g => fun w => Strm 25 w B sb (m + 20 * i + 4))) (L' := (fun g => [(g.1, 54, [.int .i64 t8, .string y0, .string g.2.1, .int .i64 g.2.2, .string ⟨#[]⟩]), (g2, 3, [.int .i64 0, .int .i64 1, .int .i64 10, .int .i64 50, .int .i64 100, .int .i64 500]), (g1, 66, [.slice (some ⟨bs, os, none⟩) sn sc, .slice cA cn cc, .slice (some ⟨bv, ov, none⟩) vn vc, .slice pA pn pc])])) (O' := (fun g => [⟨.slice oA k oc, 54, 5, k, xl.flatMap evEnc⟩])) (X' := (fun g => [SlOld stEnc 15 168 w.heap.size (some sb) (some ⟨bs, os, none⟩) sn sl, SlOld vhEnc 2 158 w.heap.size (some sb) (some ⟨bv, ov, none⟩) vn vl])) ?_ ?_
  ·refine gd (fun wz => Blk wz g2 3 [.int .i64 0, .int .i64 1, .int .i64 10, .int .i64 50, .int .i64 100, .int .i64 500] ∧ Blk wz g1 66 [.slice (some ⟨bs, os, none⟩) sn sc, .slice cA cn cc, .slice (some ⟨bv, ov, none⟩) vn vc, .slice pA pn pc] ∧ (SlOld stEnc 15 168 w.heap.size (some sb) (some ⟨bs, os, none⟩) sn sl) wz ∧ (SlOld vhEnc 2 158 w.heap.size (some sb) (some ⟨bv, ov, none⟩) vn vl) wz ∧ True) mixed (fun _ hm => ⟨hm.bl 0, hm.bl 1, hm.fa 0, hm.fa 1, trivial⟩) fun z => ?_
   refine wt 0 17 1 rfl z (ov_move rfl) ?_
   refine wt 1 17 3 rfl z (ov_move rfl) ?_
   refine wt 2 17 7 rfl z (ov_field fo66_0 rfl rfl) ?_
   refine wt 3 17 15 rfl z (ov_load sc61 rfl (fun _ hm => hm.2.1) rfl) ?_
   refine wt 4 17 31 rfl z (ov_move rfl) ?_
   refine wt 5 17 63 rfl z (ov_field fo66_0 rfl rfl) ?_
   refine wt 6 17 127 rfl z (ov_load sc61 rfl (fun _ hm => hm.2.1) rfl) ?_
   refine wt 7 17 255 rfl z (ov_len es61 rfl) ?_
   refine wt 12 17 4351 rfl z (ov_move rfl) ?_
   refine wa_all [8, 15] (by kernel_rfl) rfl ⟨⟨_, rfl, ?_⟩, ⟨_, rfl, ?_⟩, trivial⟩
   ·refine wl_got (γ := Int) (val := fun v => .int .i64 v) (φ := fun v => IsBelow ((sn : Nat) : Int) v) rfl cb56 rfl rfl rfl rfl (fun wx hm => (next_any _ wx B sb _ hm.k (by omega) (by omega) (by omega))) fun vu4 hvu4 => ?_
    have hju4 := isBelow_lt hvu4 (by omega)
    obtain ⟨ju4, rfl⟩ := Int.eq_ofNat_of_zero_le hju4.1
    have hjiu4 : ju4 < sn := by omega
    obtain ⟨zu4, hzu4⟩ : ∃ y, sl[ju4]? = some y := ⟨_, List.getElem?_eq_getElem (by omega)⟩
    obtain ⟨ku4, ru4⟩ := zu4
    have hku4 : ku4.size ≤ 1000000 := (hsok _ (List.mem_of_getElem? hzu4)).2.1
    refine wl_nil ?_
    refine nw 17 4607 (fun _ hm => ⟨hm.bl 0, hm.bl 1, hm.fa 0, hm.fa 1, trivial⟩) fun z => ?_
    refine wt 9 17 5119 rfl z (ov_index (j := ju4) es61 rfl rfl (by omega)) ?_
    refine wt 10 17 6143 rfl z (ov_field fo168_0 rfl rfl) ?_
    refine wt 11 17 8191 rfl z (ov_elem1 (k := 0) (v := .string ku4) sc9 rfl (fun _ hm => (hm.2.2.1).1) hzu4 rfl rfl) ?_
    refine wa_all [13, 15] (by kernel_rfl) rfl ⟨⟨_, rfl, ?_⟩, ⟨_, rfl, ?_⟩, trivial⟩
    ·refine wl_got (γ := Int) (val := fun v => .int .i64 v) (φ := fun v => 1 ≤ v ∧ (v ≤ 8 ∨ v = 1)) rfl cb31 rfl rfl rfl rfl (fun wx hm => (range_any _ _ wx B sb _ hm.k (by omega) (by omega) (by omega) (by omega) (by omega))) fun v5 hv5 => ?_
     refine wl_nil ?_
     refine nw 17 16383 (fun _ hm => ⟨hm.bl 0, hm.bl 1, hm.fa 0, hm.fa 1, trivial⟩) fun z => ?_
     refine wt 14 17 32767 rfl z (ov_build (cs := [.int .i64 t8, .string y0, .string ku4, .int .i64 v5, .string ⟨#[]⟩]) rfl (by kernel_rfl)) ?_
     refine wa1 15 rfl ?_
     refine wl_alloc zc54 rfl fun g6 => ?_
     refine wl_nil ?_
     refine nw 17 65535 (fun _ hm => ⟨hm.bl 1, hm.bl 2, hm.fa 0, hm.fa 1, trivial⟩) fun z => ?_
     refine wa1 16 rfl ?_
     refine wl_stores (cs' := [.int .i64 t8, .string y0, .string ku4, .int .i64 v5, .string ⟨#[]⟩]) 0 rz54 rfl rfl rfl rfl rfl rfl rfl rfl ?_
     refine wl_nil ?_
     refine nw 17 131071 (fun _ hm => ⟨hm.bl 1, hm.bl 2, hm.fa 0, hm.fa 1, trivial⟩) fun z => ?_
     refine wa_done (by kernel_rfl) ?_
     exact nx_meet (g6, ku4, v5) ⟨by dsimp only; omega, by dsimp only; omega, by dsimp only; omega⟩ ⟨rfl, rfl, rfl, rfl, rfl, rfl, rfl, rfl, rfl, trivial⟩ (fun _ hm => (hm.more rfl (by first | omega | (dsimp only; omega))).pick [0, 1, 2] [0] [0, 1] rfl rfl)
    refine wl_alloc zc54 rfl fun g7 => ?_
    refine wl_nil ?_
    refine nw 17 40959 (fun _ hm => ⟨hm.bl 1, hm.bl 2, hm.fa 0, hm.fa 1, trivial⟩) fun z => ?_
    refine wa1 13 rfl ?_
    refine wl_got (γ := Int) (val := fun v => .int .i64 v) (φ := fun v => 1 ≤ v ∧ (v ≤ 8 ∨ v = 1)) rfl cb31 rfl rfl rfl rfl (fun wx hm => (range_any _ _ wx B sb _ hm.k (by omega) (by omega) (by omega) (by omega) (by omega))) fun v8 hv8 => ?_
    refine wl_nil ?_
    refine nw 17 49151 (fun _ hm => ⟨hm.bl 1, hm.bl 2, hm.fa 0, hm.fa 1, trivial⟩) fun z => ?_
    refine wt 14 17 65535 rfl z (ov_build (cs := [.int .i64 t8, .string y0, .string ku4, .int .i64 v8, .string ⟨#[]⟩]) rfl (by kernel_rfl)) ?_
    refine wa1 16 rfl ?_
    refine wl_stores (cs' := [.int .i64 t8, .string y0, .string ku4, .int .i64 v8, .string ⟨#[]⟩]) 0 rz54 rfl rfl rfl rfl rfl rfl rfl rfl ?_
    refine wl_nil ?_
    refine nw 17 131071 (fun _ hm => ⟨hm.bl 1, hm.bl 2, hm.fa 0, hm.fa 1, trivial⟩) fun z => ?_
    refine wa_done (by kernel_rfl) ?_
    exact nx_meet (g7, ku4, v8) ⟨by dsimp only; omega, by dsimp only; omega, by dsimp only; omega⟩ ⟨rfl, rfl, rfl, rfl, rfl, rfl, rfl, rfl, rfl, trivial⟩ (fun _ hm => (hm.more rfl (by first | omega | (dsimp only; omega))).pick [0, 1, 2] [0] [0, 1] rfl rfl)
   refine wl_alloc zc54 rfl fun g9 => ?_
   refine wl_nil ?_
   refine nw 17 37119 (fun _ hm => ⟨hm.bl 1, hm.bl 2, hm.fa 0, hm.fa 1, trivial⟩) fun z => ?_
   refine wa1 8 rfl ?_
   refine wl_got (γ := Int) (val := fun v => .int .i64 v) (φ := fun v => IsBelow ((sn : Nat) : Int) v) rfl cb56 rfl rfl rfl rfl (fun wx hm => (next_any _ wx B sb _ hm.k (by omega) (by omega) (by omega))) fun vu10 hvu10 => ?_
   have hju10 := isBelow_lt hvu10 (by omega)
   obtain ⟨ju10, rfl⟩ := Int.eq_ofNat_of_zero_le hju10.1
   have hjiu10 : ju10 < sn := by omega
   obtain ⟨zu10, hzu10⟩ : ∃ y, sl[ju10]? = some y := ⟨_, List.getElem?_eq_getElem (by omega)⟩
   obtain ⟨ku10, ru10⟩ := zu10
   have hku10 : ku10.size ≤ 1000000 := (hsok _ (List.mem_of_getElem? hzu10)).2.1
   refine wl_nil ?_
   refine nw 17 37375 (fun _ hm => ⟨hm.bl 1, hm.bl 2, hm.fa 0, hm.fa 1, trivial⟩) fun z => ?_
   refine wt 9 17 37887 rfl z (ov_index (j := ju10) es61 rfl rfl (by omega)) ?_
   refine wt 10 17 38911 rfl z (ov_field fo168_0 rfl rfl) ?_
   refine wt 11 17 40959 rfl z (ov_elem1 (k := 0) (v := .string ku10) sc9 rfl (fun _ hm => (hm.2.2.1).1) hzu10 rfl rfl) ?_
   refine wa1 13 rfl ?_
   refine wl_got (γ := Int) (val := fun v => .int .i64 v) (φ := fun v => 1 ≤ v ∧ (v ≤ 8 ∨ v = 1)) rfl cb31 rfl rfl rfl rfl (fun wx hm => (range_any _ _ wx B sb _ hm.k (by omega) (by omega) (by omega) (by omega) (by omega))) fun v11 hv11 => ?_
   refine wl_nil ?_
   refine nw 17 49151 (fun _ hm => ⟨hm.bl 1, hm.bl 2, hm.fa 0, hm.fa 1, trivial⟩) fun z => ?_
   refine wt 14 17 65535 rfl z (ov_build (cs := [.int .i64 t8, .string y0, .string ku10, .int .i64 v11, .string ⟨#[]⟩]) rfl (by kernel_rfl)) ?_
   refine wa1 16 rfl ?_
   refine wl_stores (cs' := [.int .i64 t8, .string y0, .string ku10, .int .i64 v11, .string ⟨#[]⟩]) 0 rz54 rfl rfl rfl rfl rfl rfl rfl rfl ?_
   refine wl_nil ?_
   refine nw 17 131071 (fun _ hm => ⟨hm.bl 1, hm.bl 2, hm.fa 0, hm.fa 1, trivial⟩) fun z => ?_
   refine wa_done (by kernel_rfl) ?_
   exact nx_meet (g9, ku10, v11) ⟨by dsimp only; omega, by dsimp only; omega, by dsimp only; omega⟩ ⟨rfl, rfl, rfl, rfl, rfl, rfl, rfl, rfl, rfl, trivial⟩ (fun _ hm => (hm.more rfl (by first | omega | (dsimp only; omega))).pick [0, 1, 2] [0] [0, 1] rfl rfl)
  rintro ⟨g10, st1, kd1⟩ hinv
  replace hinv : st1.size ≤ 1000000 ∧ (-4000000000000000000 ≤ kd1 ∧ kd1 ≤ 4000000000000000000) := hinv
  dsimp only
  obtain ⟨hst1, hkd1a, hkd1b⟩ := hinv
  refine gw_cut (γ := ByteArray × Int) (I := (fun g => g.1.size ≤ 1000000 ∧ (-4000000000000000000 ≤ g.2 ∧ g.2 ≤ 4000000000000000000))) (S' := (fun g => [(0, .pointer (some ⟨sb, 0, none⟩)), (4, .pointer (some ⟨g1, 0, none⟩)), (6, .slice none 0 0), (7, .slice oA k oc), (8, .int .i64 t8), (10, .pointer (some ⟨g10, 0, none⟩)), (23, .int .i64 ((q : Nat) : Int)), (24, .int .i64 ((i : Nat) : Int))])) (K' := (fun g => fun w => Strm 25 w B sb (m + 20 * i + 6))) (L' := (fun g => [(g10, 54, [.int .i64 t8, .string y0, .string g.1, .int .i64 g.2, .string ⟨#[]⟩]), (g2, 3, [.int .i64 0, .int .i64 1, .int .i64 10, .int .i64 50, .int .i64 100, .int .i64 500]), (g1, 66, [.slice (some ⟨bs, os, none⟩) sn sc, .slice cA cn cc, .slice (some ⟨bv, ov, none⟩) vn vc, .slice pA pn pc])])) (O' := (fun g => [⟨.slice oA k oc, 54, 5, k, xl.flatMap evEnc⟩])) (X' := (fun g => [SlOld stEnc 15 168 w.heap.size (some sb) (some ⟨bs, os, none⟩) sn sl, SlOld vhEnc 2 158 w.heap.size (some sb) (some ⟨bv, ov, none⟩) vn vl])) ?_ ?_
  ·refine sr_ (mv_ rfl ?_)
   refine wl_got (γ := Bool) (val := fun v => .bool v) (φ := fun v => True) rfl cb25 rfl rfl rfl rfl (fun wx hm => ((flip_any _ wx B sb _ hm.k (by omega) (by omega) (by omega)).mono fun _ _ ⟨v, he, hS, hg⟩ => ⟨v, trivial, he, hS, hg⟩)) fun f12 _ => ?_
   refine wl_ov (ov_un_not rfl) rfl (nn_ ?_)
   refine gw_cond rfl (fun hh => ?_) (fun hh => ?_)
   ·have hc13 : f12 = false := by simpa using hh
    clear hh
    refine sr_ (mv_ rfl (mv_ rfl (mv_ rfl ?_)))
    obtain ⟨SS, hSS⟩ : ∃ z, z = stateR xl y0 t8 := ⟨_, rfl⟩
    have hfine : SaFine SS := by rw [hSS]; exact stateR_fine hxok
    obtain ⟨s0, s1, s2⟩ := SS
    obtain ⟨hs00, hs05, hs1z⟩ := hfine
    have hs00 : 0 ≤ s0 := hs00
    have hs05 : s0 ≤ 5 := hs05
    have hs1z : s1.size ≤ 1000000 := hs1z
    obtain ⟨sj, rfl⟩ := Int.eq_ofNat_of_zero_le hs00
    obtain ⟨kv, hkv⟩ : ∃ x, ([1, 2, 3, 5, 7, 1] : List Int)[sj]? = some x := ⟨_, List.getElem?_eq_getElem (by simp; omega)⟩
    have hkvb : 1 ≤ kv ∧ kv ≤ 7 := mem_rng (List.mem_of_getElem? hkv) (by decide)
    refine wl_callv (v := .agg #[.int .i64 ((sj : Nat) : Int), .string s1, .int .i64 s2]) rfl cb182 rfl rfl (fun wx hm => (by have h := rStateAt_any xl oA k oc y0 t8 wx (SlT.ofOwn ev_len (hm.ownI 0 rfl) hxl) (by omega); rw [← hSS] at h; exact h)) ?_
    refine wl_alloc zc172 rfl fun g14 => ?_
    refine wl_stores (cs' := [.int .i64 ((sj : Nat) : Int), .string s1, .int .i64 s2]) 0 rz172 rfl rfl rfl rfl rfl rfl rfl rfl ?_
    refine nn_ (gw_seq (sr_ (fd_ fo172_1 rfl rfl (lk_ sc9 0 rfl rfl rfl (wl_ov (ov_sneq rfl rfl) rfl (nn_ ?_))))))
    refine gw_cond rfl (fun hh => ?_) (fun hh => ?_)
    ·have hc15 : (s1.toList == (⟨#[]⟩ : ByteArray).toList) = false := by simpa using hh
     clear hh
     refine gw_region (fd_ fo172_1 rfl rfl (lk_ sc9 0 rfl rfl rfl (fd_ fo54_2 rfl rfl ?_)))
     refine wl_store 1 sc9 rfl rfl rfl rfl rfl rfl ?_
     refine nn_ (sr_ ?_)
     refine wl_buildSlice (e := 3) (cs := [.int .i64 1, .int .i64 2, .int .i64 3, .int .i64 5, .int .i64 7, .int .i64 1]) rfl (by kernel_rfl) rfl fun g16 => ?_
     refine fd_ fo172_0 rfl rfl (lk_ sc3 1 rfl rfl rfl ?_)
     refine wl_ov (ov_index (j := sj) es22 rfl rfl (by omega)) rfl ?_
     refine wl_ov (ov_elem1 (k := 0) (v := .int .i64 kv) sc3 rfl (fun _ hm => (SlT.ofBlk (l := [1, 2, 3, 5, 7, 1]) it_len1 (hm.blkI 0 rfl))) hkv rfl rfl) rfl ?_
     refine fd_ fo54_3 rfl rfl ?_
     refine wl_store 2 sc3 rfl rfl rfl rfl rfl rfl ?_
     refine nn_ (sr_ (fd_ fo172_0 rfl rfl (lk_ sc3 1 rfl rfl rfl (wl_ov (ov_eql rfl rfl) rfl (nn_ ?_)))))
     refine gw_cond rfl (fun hh => ?_) (fun hh => ?_)
     ·have hc17 : ((sj : Nat) : Int) = 1 := by simpa using hh
      clear hh
      refine gw_region (mv_ rfl ?_)
      refine wl_buildSlice (e := 3) (cs := [.int .i64 2, .int .i64 2, .int .i64 2, .int .i64 4, .int .i64 6, .int .i64 8]) rfl (by kernel_rfl) rfl fun g18 => ?_
      refine wl_got (γ := Int) (val := fun v => .int .i64 v) (φ := fun v => v ∈ ([2, 2, 2, 4, 6, 8] : List Int)) rfl cb34 rfl rfl rfl rfl (fun wx hm => (pick_any [2, 2, 2, 4, 6, 8] _ _ _ wx B sb _ hm.k (by omega) (by simp) (by simp) (hm.blkI 0 rfl) (hm.neRow 0 rfl rfl))) fun v19 hv19 => ?_
      have bv19 : 2 ≤ v19 ∧ v19 ≤ 8 := mem_rng hv19 (by decide)
      have bv190 := bv19.1
      have bv191 := bv19.2
      clear bv19
      refine fd_ fo54_3 rfl rfl ?_
      refine wl_store 3 sc3 rfl rfl rfl rfl rfl rfl ?_
      refine wl_nil ?_
      exact nx_meet (s1, v19) ⟨by dsimp only; omega, by dsimp only; omega, by dsimp only; omega⟩ ⟨rfl, rfl, rfl, rfl, rfl, rfl, rfl, rfl, trivial⟩ (fun _ hm => (hm.more rfl (by first | omega | (dsimp only; omega))).pick [3, 4, 5] [0] [0, 1] rfl rfl)
     have hc17 : ¬ (((sj : Nat) : Int) = 1) := by simpa using hh
     clear hh
     refine gw_skip ?_
     exact nx_meet (s1, kv) ⟨by dsimp only; omega, by dsimp only; omega, by dsimp only; omega⟩ ⟨rfl, rfl, rfl, rfl, rfl, rfl, rfl, rfl, trivial⟩ (fun _ hm => (hm.more rfl (by first | omega | (dsimp only; omega))).pick [2, 3, 4] [0] [0, 1] rfl rfl)
    have hc15 : (s1.toList == (⟨#[]⟩ : ByteArray).toList) = true := by simpa using hh
    clear hh
    refine gw_skip (nx_then (sr_ ?_))
    refine wl_buildSlice (e := 3) (cs := [.int .i64 1, .int .i64 2, .int .i64 3, .int .i64 5, .int .i64 7, .int .i64 1]) rfl (by kernel_rfl) rfl fun g20 => ?_
    refine fd_ fo172_0 rfl rfl (lk_ sc3 1 rfl rfl rfl ?_)
    refine wl_ov (ov_index (j := sj) es22 rfl rfl (by omega)) rfl ?_
    refine wl_ov (ov_elem1 (k := 0) (v := .int .i64 kv) sc3 rfl (fun _ hm => (SlT.ofBlk (l := [1, 2, 3, 5, 7, 1]) it_len1 (hm.blkI 0 rfl))) hkv rfl rfl) rfl ?_
    refine fd_ fo54_3 rfl rfl ?_
    refine wl_store 2 sc3 rfl rfl rfl rfl rfl rfl ?_
    refine nn_ (sr_ (fd_ fo172_0 rfl rfl (lk_ sc3 1 rfl rfl rfl (wl_ov (ov_eql rfl rfl) rfl (nn_ ?_)))))
    refine gw_cond rfl (fun hh => ?_) (fun hh => ?_)
    ·have hc21 : ((sj : Nat) : Int) = 1 := by simpa using hh
     clear hh
     refine gw_region (mv_ rfl ?_)
     refine wl_buildSlice (e := 3) (cs := [.int .i64 2, .int .i64 2, .int .i64 2, .int .i64 4, .int .i64 6, .int .i64 8]) rfl (by kernel_rfl) rfl fun g22 => ?_
     refine wl_got (γ := Int) (val := fun v => .int .i64 v) (φ := fun v => v ∈ ([2, 2, 2, 4, 6, 8] : List Int)) rfl cb34 rfl rfl rfl rfl (fun wx hm => (pick_any [2, 2, 2, 4, 6, 8] _ _ _ wx B sb _ hm.k (by omega) (by simp) (by simp) (hm.blkI 0 rfl) (hm.neRow 0 rfl rfl))) fun v23 hv23 => ?_
     have bv23 : 2 ≤ v23 ∧ v23 ≤ 8 := mem_rng hv23 (by decide)
     have bv230 := bv23.1
     have bv231 := bv23.2
     clear bv23
     refine fd_ fo54_3 rfl rfl ?_
     refine wl_store 3 sc3 rfl rfl rfl rfl rfl rfl ?_
     refine wl_nil ?_
     exact nx_meet (st1, v23) ⟨by dsimp only; omega, by dsimp only; omega, by dsimp only; omega⟩ ⟨rfl, rfl, rfl, rfl, rfl, rfl, rfl, rfl, trivial⟩ (fun _ hm => (hm.more rfl (by first | omega | (dsimp only; omega))).pick [3, 4, 5] [0] [0, 1] rfl rfl)
    have hc21 : ¬ (((sj : Nat) : Int) = 1) := by simpa using hh
    clear hh
    refine gw_skip ?_
    exact nx_meet (st1, kv) ⟨by dsimp only; omega, by dsimp only; omega, by dsimp only; omega⟩ ⟨rfl, rfl, rfl, rfl, rfl, rfl, rfl, rfl, trivial⟩ (fun _ hm => (hm.more rfl (by first | omega | (dsimp only; omega))).pick [2, 3, 4] [0] [0, 1] rfl rfl)
   have hc13 : f12 = true := by simpa using hh
   clear hh
   refine gw_skip ?_
   exact nx_meet (st1, kd1) ⟨by dsimp only; omega, by dsimp only; omega, by dsimp only; omega⟩ ⟨rfl, rfl, rfl, rfl, rfl, rfl, rfl, rfl, trivial⟩ (fun _ hm => (hm.more rfl (by first | omega | (dsimp only; omega))).pick [0, 1, 2] [0] [0, 1] rfl rfl)
  rintro ⟨st2, kd2⟩ hinv
  replace hinv : st2.size ≤ 1000000 ∧ (-4000000000000000000 ≤ kd2 ∧ kd2 ≤ 4000000000000000000) := hinv
  dsimp only
  obtain ⟨hst2, hkd2a, hkd2b⟩ := hinv
  refine gw_cut (γ := ByteArray) (I := (fun (to3 : ByteArray) => to3.size ≤ 1000000)) (S' := (fun (to3 : ByteArray) => [(0, .pointer (some ⟨sb, 0, none⟩)), (4, .pointer (some ⟨g1, 0, none⟩)), (6, .slice none 0 0), (7, .slice oA k oc), (8, .int .i64 t8), (10, .pointer (some ⟨g10, 0, none⟩)), (23, .int .i64 ((q : Nat) : Int)), (24, .int .i64 ((i : Nat) : Int))])) (K' := (fun (to3 : ByteArray) => fun w => Strm 25 w B sb (m + 20 * i + 7))) (L' := (fun (to3 : ByteArray) => [(g10, 54, [.int .i64 t8, .string y0, .string st2, .int .i64 kd2, .string to3]), (g2, 3, [.int .i64 0, .int .i64 1, .int .i64 10, .int .i64 50, .int .i64 100, .int .i64 500]), (g1, 66, [.slice (some ⟨bs, os, none⟩) sn sc, .slice cA cn cc, .slice (some ⟨bv, ov, none⟩) vn vc, .slice pA pn pc])])) (O' := (fun (to3 : ByteArray) => [⟨.slice oA k oc, 54, 5, k, xl.flatMap evEnc⟩])) (X' := (fun (to3 : ByteArray) => [SlOld stEnc 15 168 w.heap.size (some sb) (some ⟨bs, os, none⟩) sn sl, SlOld vhEnc 2 158 w.heap.size (some sb) (some ⟨bv, ov, none⟩) vn vl])) ?_ ?_
  ·refine sr_ (fd_ fo54_3 rfl rfl (lk_ sc3 0 rfl rfl rfl (wl_ov (ov_eql rfl rfl) rfl (nn_ ?_))))
   refine gw_cond rfl (fun hh => ?_) (fun hh => ?_)
   ·have hc6 : kd2 = 6 := by simpa using hh
    clear hh
    refine gd (fun wz => Blk wz g2 3 [.int .i64 0, .int .i64 1, .int .i64 10, .int .i64 50, .int .i64 100, .int .i64 500] ∧ Blk wz g1 66 [.slice (some ⟨bs, os, none⟩) sn sc, .slice cA cn cc, .slice (some ⟨bv, ov, none⟩) vn vc, .slice pA pn pc] ∧ (SlOld stEnc 15 168 w.heap.size (some sb) (some ⟨bs, os, none⟩) sn sl) wz ∧ (SlOld vhEnc 2 158 w.heap.size (some sb) (some ⟨bv, ov, none⟩) vn vl) wz ∧ True) mixed (fun _ hm => ⟨hm.bl 1, hm.bl 2, hm.fa 0, hm.fa 1, trivial⟩) fun z => ?_
    refine wt 0 12 1 rfl z (ov_field fo66_0 rfl rfl) ?_
    refine wt 1 12 3 rfl z (ov_load sc61 rfl (fun _ hm => hm.2.1) rfl) ?_
    refine wt 2 12 7 rfl z (ov_move rfl) ?_
    refine wt 3 12 15 rfl z (ov_field fo66_0 rfl rfl) ?_
    refine wt 4 12 31 rfl z (ov_load sc61 rfl (fun _ hm => hm.2.1) rfl) ?_
    refine wt 5 12 63 rfl z (ov_len es61 rfl) ?_
    refine wa1 6 rfl ?_
    refine wl_got (γ := Int) (val := fun v => .int .i64 v) (φ := fun v => IsBelow ((sn : Nat) : Int) v) rfl cb56 rfl rfl rfl rfl (fun wx hm => (next_any _ wx B sb _ hm.k (by omega) (by omega) (by omega))) fun vu24 hvu24 => ?_
    have hju24 := isBelow_lt hvu24 (by omega)
    obtain ⟨ju24, rfl⟩ := Int.eq_ofNat_of_zero_le hju24.1
    have hjiu24 : ju24 < sn := by omega
    obtain ⟨zu24, hzu24⟩ : ∃ y, sl[ju24]? = some y := ⟨_, List.getElem?_eq_getElem (by omega)⟩
    obtain ⟨ku24, ru24⟩ := zu24
    have hku24 : ku24.size ≤ 1000000 := (hsok _ (List.mem_of_getElem? hzu24)).2.1
    refine wl_nil ?_
    refine nw 12 127 (fun _ hm => ⟨hm.bl 1, hm.bl 2, hm.fa 0, hm.fa 1, trivial⟩) fun z => ?_
    refine wt 7 12 255 rfl z (ov_index (j := ju24) es61 rfl rfl (by omega)) ?_
    refine wt 8 12 511 rfl z (ov_field fo168_0 rfl rfl) ?_
    refine wt 9 12 1023 rfl z (ov_elem1 (k := 0) (v := .string ku24) sc9 rfl (fun _ hm => (hm.2.2.1).1) hzu24 rfl rfl) ?_
    refine wt 10 12 2047 rfl z (ov_field fo54_4 rfl rfl) ?_
    refine wa1 11 rfl ?_
    refine wl_store 0 sc9 rfl rfl rfl rfl rfl rfl ?_
    refine wl_nil ?_
    refine nw 12 4095 (fun _ hm => ⟨hm.bl 1, hm.bl 2, hm.fa 0, hm.fa 1, trivial⟩) fun z => ?_
    refine wa_done (by kernel_rfl) ?_
    exact nx_meet ku24 (by (try dsimp only); omega) ⟨rfl, rfl, rfl, rfl, rfl, rfl, rfl, rfl, trivial⟩ (fun _ hm => (hm.more rfl (by first | omega | (dsimp only; omega))).pick [0, 1, 2] [0] [0, 1] rfl rfl)
   have hc6 : ¬ (kd2 = 6) := by simpa using hh
   clear hh
   refine gw_skip ?_
   exact nx_meet ⟨#[]⟩ (show (⟨#[]⟩ : ByteArray).size ≤ 1000000 by decide) ⟨rfl, rfl, rfl, rfl, rfl, rfl, rfl, rfl, trivial⟩ (fun _ hm => (hm.more rfl (by first | omega | (dsimp only; omega))).pick [0, 1, 2] [0] [0, 1] rfl rfl)
  intro to3 hinv
  replace hinv : to3.size ≤ 1000000 := hinv
  have hto3 : to3.size ≤ 1000000 := hinv
  refine gw_cut (γ := Int × ByteArray × ByteArray × Int × ByteArray) (I := (fun g => EvOk (⟨g.1, g.2.1, g.2.2.1, g.2.2.2.1, g.2.2.2.2⟩ : Ev))) (S' := (fun g => [(0, .pointer (some ⟨sb, 0, none⟩)), (4, .pointer (some ⟨g1, 0, none⟩)), (6, .slice none 0 0), (7, .slice oA k oc), (8, .int .i64 t8), (10, .pointer (some ⟨g10, 0, none⟩)), (23, .int .i64 ((q : Nat) : Int)), (24, .int .i64 ((i : Nat) : Int))])) (K' := (fun g => fun w => Strm 25 w B sb (m + 20 * i + 12))) (L' := (fun g => [(g10, 54, [.int .i64 g.1, .string g.2.1, .string g.2.2.1, .int .i64 g.2.2.2.1, .string g.2.2.2.2]), (g2, 3, [.int .i64 0, .int .i64 1, .int .i64 10, .int .i64 50, .int .i64 100, .int .i64 500]), (g1, 66, [.slice (some ⟨bs, os, none⟩) sn sc, .slice cA cn cc, .slice (some ⟨bv, ov, none⟩) vn vc, .slice pA pn pc])])) (O' := (fun g => [⟨.slice oA k oc, 54, 5, k, xl.flatMap evEnc⟩])) (X' := (fun g => [SlOld stEnc 15 168 w.heap.size (some sb) (some ⟨bs, os, none⟩) sn sl, SlOld vhEnc 2 158 w.heap.size (some sb) (some ⟨bv, ov, none⟩) vn vl])) ?_ ?_
  ·refine sr_ (mv_ rfl ?_)
   refine wl_got (γ := Bool) (val := fun v => .bool v) (φ := fun v => True) rfl cb25 rfl rfl rfl rfl (fun wx hm => ((flip_any _ wx B sb _ hm.k (by omega) (by omega) (by omega)).mono fun _ _ ⟨v, he, hS, hg⟩ => ⟨v, trivial, he, hS, hg⟩)) fun f25 _ => ?_
   refine nn_ ?_
   refine gw_cond rfl (fun hh => ?_) (fun hh => ?_)
   ·have hd26 : f25 = true := by simpa using hh
    clear hh
    refine sr_ (mv_ rfl ?_)
    refine wl_got (γ := Int) (val := fun v => .int .i64 v) (φ := fun v => IsBelow 4 v) rfl cb56 rfl rfl rfl rfl (fun wx hm => (next_any _ wx B sb _ hm.k (by omega) (by omega) (by omega))) fun v4 hv4 => ?_
    refine nn_ (gw_block (sr_ (wl_ov (ov_eql rfl rfl) rfl (sg_ rfl (nn_ ?_)))))
    refine gw_cond rfl (fun hh => ?_) (fun hh => ?_)
    ·have hd27 : v4 = 0 := by simpa using hh
     clear hh
     refine gw_region (mv_ rfl ?_)
     refine wl_got (γ := Int) (val := fun v => .int .i64 v) (φ := fun v => -2000000000000000 ≤ v ∧ v ≤ 2000000000000000) rfl cb58 rfl rfl rfl rfl (fun wx hm => (odd_any _ _ wx B sb _ hm.k (by omega) (by omega) (by omega) (by omega))) fun v28 hv28 => ?_
     refine fd_ fo54_3 rfl rfl ?_
     refine wl_store 0 sc3 rfl rfl rfl rfl rfl rfl ?_
     refine wl_nil (nx_blk_nrm ?_)
     exact nx_meet (t8, y0, st2, v28, to3) ⟨⟨by dsimp only; omega, by dsimp only; omega⟩, ⟨by dsimp only; omega, by dsimp only; omega⟩, by dsimp only; omega, by dsimp only; omega, by dsimp only; omega⟩ ⟨rfl, rfl, rfl, rfl, rfl, rfl, rfl, rfl, trivial⟩ (fun _ hm => (hm.more rfl (by first | omega | (dsimp only; omega))).pick [0, 1, 2] [0] [0, 1] rfl rfl)
    have hd27 : ¬ (v4 = 0) := by simpa using hh
    clear hh
    refine sr_ (wl_ov (ov_eql rfl rfl) rfl (sg_ rfl (nn_ ?_)))
    refine gw_cond rfl (fun hh => ?_) (fun hh => ?_)
    ·have hd29 : v4 = 1 := by simpa using hh
     clear hh
     refine gw_region (mv_ rfl ?_)
     refine wl_buildSlice (e := 9) (cs := [.string ⟨#[115, 49]⟩, .string ⟨#[110, 111, 110, 101]⟩, .string ⟨#[]⟩]) rfl (by kernel_rfl) rfl fun g30 => ?_
     refine wl_got (γ := ByteArray) (val := fun v => .string v) (φ := fun v => v ∈ ([⟨#[115, 49]⟩, ⟨#[110, 111, 110, 101]⟩, ⟨#[]⟩] : List ByteArray)) rfl cb57 rfl rfl rfl rfl (fun wx hm => (some_any [⟨#[115, 49]⟩, ⟨#[110, 111, 110, 101]⟩, ⟨#[]⟩] _ _ _ wx B sb _ hm.k (by omega) (by simp) (by simp) (hm.blkI 0 rfl) (hm.neRow 0 rfl rfl))) fun s31 hs31 => ?_
     have zs31 : s31.size ≤ 100 := mem_sz hs31 (by decide)
     refine fd_ fo54_4 rfl rfl ?_
     refine wl_store 1 sc9 rfl rfl rfl rfl rfl rfl ?_
     refine wl_nil (nx_blk_nrm ?_)
     exact nx_meet (t8, y0, st2, kd2, s31) ⟨⟨by dsimp only; omega, by dsimp only; omega⟩, ⟨by dsimp only; omega, by dsimp only; omega⟩, by dsimp only; omega, by dsimp only; omega, by dsimp only; omega⟩ ⟨rfl, rfl, rfl, rfl, rfl, rfl, rfl, rfl, trivial⟩ (fun _ hm => (hm.more rfl (by first | omega | (dsimp only; omega))).pick [1, 2, 3] [0] [0, 1] rfl rfl)
    have hd29 : ¬ (v4 = 1) := by simpa using hh
    clear hh
    refine sr_ (wl_ov (ov_eql rfl rfl) rfl (sg_ rfl (nn_ ?_)))
    refine gw_cond rfl (fun hh => ?_) (fun hh => ?_)
    ·have hd32 : v4 = 2 := by simpa using hh
     clear hh
     refine gw_region (mv_ rfl ?_)
     refine wl_calls (γ := ByteArray) (val := (fun g => .string g)) (φ := (fun g => g.size ≤ 100)) (Y := (fun g => fun _ => True)) (m' := m + 20 * i + 7 + 1 + 1 + 1) rfl cb183 rfl rfl rfl rfl (fun wx hm => (gvehicleKey_any wx B sb _ hm.k (by omega)).mono fun _ _ ⟨v, he, hv, hS, hg⟩ => ⟨v, he, hv, hS, hg, trivial⟩) (fun _ => Lasts2.true_) ?_
     rintro vk hvk
     refine fd_ fo54_1 rfl rfl ?_
     refine wl_store 0 sc9 rfl rfl rfl rfl rfl rfl ?_
     refine wl_nil (nx_blk_nrm ?_)
     exact nx_meet (t8, vk, st2, kd2, to3) ⟨⟨by dsimp only; omega, by dsimp only; omega⟩, ⟨by dsimp only; omega, by dsimp only; omega⟩, by dsimp only; omega, by dsimp only; omega, by dsimp only; omega⟩ ⟨rfl, rfl, rfl, rfl, rfl, rfl, rfl, rfl, trivial⟩ (fun _ hm => (hm.more rfl (by first | omega | (dsimp only; omega))).pick [0, 1, 2] [0] [1, 2] rfl rfl)
    have hd32 : ¬ (v4 = 2) := by simpa using hh
    clear hh
    refine gw_region (mv_ rfl ?_)
    refine wl_got (γ := Int) (val := fun v => .int .i64 v) (φ := fun v => -2000000000000000 ≤ v ∧ v ≤ 2000000000000000) rfl cb58 rfl rfl rfl rfl (fun wx hm => (odd_any _ _ wx B sb _ hm.k (by omega) (by omega) (by omega) (by omega))) fun v34 hv34 => ?_
    refine fd_ fo54_0 rfl rfl ?_
    refine wl_store 0 sc3 rfl rfl rfl rfl rfl rfl ?_
    refine wl_nil (nx_blk_nrm ?_)
    exact nx_meet (v34, y0, st2, kd2, to3) ⟨⟨by dsimp only; omega, by dsimp only; omega⟩, ⟨by dsimp only; omega, by dsimp only; omega⟩, by dsimp only; omega, by dsimp only; omega, by dsimp only; omega⟩ ⟨rfl, rfl, rfl, rfl, rfl, rfl, rfl, rfl, trivial⟩ (fun _ hm => (hm.more rfl (by first | omega | (dsimp only; omega))).pick [0, 1, 2] [0] [0, 1] rfl rfl)
   have hd26 : f25 = false := by simpa using hh
   clear hh
   refine gw_skip ?_
   exact nx_meet (t8, y0, st2, kd2, to3) ⟨⟨by dsimp only; omega, by dsimp only; omega⟩, ⟨by dsimp only; omega, by dsimp only; omega⟩, by dsimp only; omega, by dsimp only; omega, by dsimp only; omega⟩ ⟨rfl, rfl, rfl, rfl, rfl, rfl, rfl, rfl, trivial⟩ (fun _ hm => (hm.more rfl (by first | omega | (dsimp only; omega))).pick [0, 1, 2] [0] [0, 1] rfl rfl)
  rintro ⟨a4, ve4, st4, kd4, to4⟩ hinv
  replace hinv : EvOk (⟨a4, ve4, st4, kd4, to4⟩ : Ev) := hinv
  dsimp only
  have hx4 : EvOk (⟨a4, ve4, st4, kd4, to4⟩ : Ev) := hinv
  have huok : ∀ x ∈ xl ++ [(⟨a4, ve4, st4, kd4, to4⟩ : Ev)], EvOk x := all_snoc hxok hx4
  have hul : (xl ++ [(⟨a4, ve4, st4, kd4, to4⟩ : Ev)]).length = k + 1 := by simp [hxl]
  obtain ⟨us, hus⟩ : ∃ z, z = xl ++ [(⟨a4, ve4, st4, kd4, to4⟩ : Ev)] := ⟨_, rfl⟩
  rw [← hus] at huok hul
  obtain ⟨LE, hLE⟩ : ∃ z, z = logE sl vl us := ⟨_, rfl⟩
  refine gw_cut (γ := Bool) (I := (fun (bb : Bool) => True)) (S' := (fun (bb : Bool) => [(0, .pointer (some ⟨sb, 0, none⟩)), (4, .pointer (some ⟨g1, 0, none⟩)), (6, .slice none 0 0), (7, .slice oA k oc), (8, .int .i64 t8), (10, .pointer (some ⟨g10, 0, none⟩)), (23, .int .i64 ((q : Nat) : Int)), (24, .int .i64 ((i : Nat) : Int)), (130, .bool bb)])) (K' := (fun (bb : Bool) => fun w => Strm 25 w B sb (m + 20 * i + 13))) (L' := (fun (bb : Bool) => [(g10, 54, [.int .i64 a4, .string ve4, .string st4, .int .i64 kd4, .string to4]), (g2, 3, [.int .i64 0, .int .i64 1, .int .i64 10, .int .i64 50, .int .i64 100, .int .i64 500]), (g1, 66, [.slice (some ⟨bs, os, none⟩) sn sc, .slice cA cn cc, .slice (some ⟨bv, ov, none⟩) vn vc, .slice pA pn pc])])) (O' := (fun (bb : Bool) => [⟨.slice oA k oc, 54, 5, k, xl.flatMap evEnc⟩])) (X' := (fun (bb : Bool) => [SlOld stEnc 15 168 w.heap.size (some sb) (some ⟨bs, os, none⟩) sn sl, SlOld vhEnc 2 158 w.heap.size (some sb) (some ⟨bv, ov, none⟩) vn vl])) ?_ ?_
  ·refine gd (fun wz => Blk wz g10 54 [.int .i64 a4, .string ve4, .string st4, .int .i64 kd4, .string to4] ∧ Blk wz g2 3 [.int .i64 0, .int .i64 1, .int .i64 10, .int .i64 50, .int .i64 100, .int .i64 500] ∧ Blk wz g1 66 [.slice (some ⟨bs, os, none⟩) sn sc, .slice cA cn cc, .slice (some ⟨bv, ov, none⟩) vn vc, .slice pA pn pc] ∧ (SlOld stEnc 15 168 w.heap.size (some sb) (some ⟨bs, os, none⟩) sn sl) wz ∧ (SlOld vhEnc 2 158 w.heap.size (some sb) (some ⟨bv, ov, none⟩) vn vl) wz ∧ True) mixed (fun _ hm => ⟨hm.bl 0, hm.bl 1, hm.bl 2, hm.fa 0, hm.fa 1, trivial⟩) fun z => ?_
   refine wt 0 12 1 rfl z (ov_move rfl) ?_
   refine wa1 1 rfl ?_
   refine wl_got (γ := Bool) (val := fun v => .bool v) (φ := fun v => True) rfl cb25 rfl rfl rfl rfl (fun wx hm => ((flip_any _ wx B sb _ hm.k (by omega) (by omega) (by omega)).mono fun _ _ ⟨v, he, hS, hg⟩ => ⟨v, trivial, he, hS, hg⟩)) fun f35 _ => ?_
   refine wl_nil ?_
   refine nw 12 3 (fun _ hm => ⟨hm.bl 0, hm.bl 1, hm.bl 2, hm.fa 0, hm.fa 1, trivial⟩) fun z => ?_
   refine wt 2 12 7 rfl z (ov_move rfl) ?_
   rcases Bool.eq_false_or_eq_true f35 with hg8 | hg8
   ·refine wa_set 121 rfl (congrArg Value.bool hg8) ?_
    refine wtf 3 12 15 rfl rfl rfl z ?_
    refine wtf 4 12 31 rfl rfl rfl z ?_
    refine wtf 5 12 63 rfl rfl rfl z ?_
    refine wtf 6 12 127 rfl rfl rfl z ?_
    refine wtf 7 12 255 rfl rfl rfl z ?_
    refine wtf 8 12 511 rfl rfl rfl z ?_
    refine wtf 9 12 1023 rfl rfl rfl z ?_
    refine wtf 10 12 2047 rfl rfl rfl z ?_
    refine wt 11 12 4095 rfl z (ov_pick_t rfl rfl) ?_
    refine wa_done (by kernel_rfl) ?_
    exact nx_meet true trivial ⟨rfl, rfl, rfl, rfl, rfl, rfl, rfl, rfl, rfl, trivial⟩ (fun _ hm => (hm.more rfl (by first | omega | (dsimp only; omega))).pick [0, 1, 2] [0] [0, 1] rfl rfl)
   refine wa_set 121 rfl (congrArg Value.bool hg8) ?_
   refine wto 3 12 15 rfl rfl rfl z (ov_loads rz66 rfl (fun _ hm => hm.2.2.1) rfl rfl) ?_
   refine wto 4 12 31 rfl rfl rfl z (ov_move rfl) ?_
   refine wto 6 12 95 rfl rfl rfl z (ov_loads rz54 rfl (fun _ hm => hm.1) rfl rfl) ?_
   refine wa_all [5, 7] (by kernel_rfl) rfl ⟨⟨_, rfl, ?_⟩, ⟨_, rfl, ?_⟩, trivial⟩
   ·refine wl_guard_on rfl rfl rfl ?_
    refine wl_callgo (γ := Option Addr × Nat) (val := (fun g => .slice g.1 k g.2)) (φ := (fun g => True)) (fun g => ⟨.slice g.1 k g.2, 54, 5, k, xl.flatMap evEnc⟩) rfl cb184 rfl rfl (fun wx hm => (cloneEvents_all xl oA k oc wx (SlT.ofOwn ev_len (hm.ownI 0 rfl) hxl) (own_shape (hm.ownI 0 rfl)) (by omega)).mono fun _ _ ⟨A, c, he, ho, hg⟩ => ⟨(A, c), he, trivial, ho, hg⟩) ?_
    rintro ⟨A3, c3⟩ hphi
    dsimp only at hphi ⊢
    refine wl_nil ?_
    refine nw 12 127 (fun _ hm => ⟨hm.bl 0, hm.bl 1, hm.bl 2, hm.fa 0, hm.fa 1, trivial⟩) fun z => ?_
    refine wa1 7 rfl ?_
    refine wl_guard_on rfl rfl rfl ?_
    refine wl_buildSlice (e := 54) (cs := [.int .i64 a4, .string ve4, .string st4, .int .i64 kd4, .string to4]) rfl (by kernel_rfl) rfl fun g36 => ?_
    refine wl_nil ?_
    refine nw 12 255 (fun _ hm => ⟨hm.bl 1, hm.bl 2, hm.bl 3, hm.fa 0, hm.fa 1, trivial⟩) fun z => ?_
    refine wa1 8 rfl ?_
    refine wl_guard_on rfl rfl rfl ?_
    refine wl_append (news := [.int .i64 a4, .string ve4, .string st4, .int .i64 kd4, .string to4]) 0 0 ap47 rfl rfl rfl rfl rfl rfl rfl (by omega) (by unfold maxLen; omega) rfl rfl fun v2 hv2 => ?_
    refine wl_look (R := ∃ A cc, v2 = .slice A (k + 1) cc) (fun wx hm => own_slice (hm.ownI 0 rfl)) ?_
    rintro ⟨A4, c4, rfl⟩
    have hxs : xl.flatMap evEnc ++ ([.int .i64 a4, .string ve4, .string st4, .int .i64 kd4, .string to4] : List Value) = us.flatMap evEnc := by rw [hus]; simp [evEnc]
    rw [hxs]
    refine wl_nil ?_
    refine nw 12 511 (fun _ hm => ⟨hm.bl 1, hm.bl 2, hm.bl 3, hm.fa 0, hm.fa 1, trivial⟩) fun z => ?_
    refine wa1 9 rfl ?_
    refine wl_guard_on rfl rfl rfl ?_
    refine wl_callv (v := .int .i64 LE) rfl cb123 rfl rfl (fun wx hm => (by rw [hLE]; exact logFault_any sl vl (some ⟨bs, os, none⟩) cA (some ⟨bv, ov, none⟩) pA sn sc cn cc vn vc pn pc us A4 (k + 1) c4 wx (hm.fact 0 rfl).1 (hm.fact 1 rfl).1 hsok hsn hvn (SlT.ofOwn ev_len (hm.ownI 0 rfl) hul) huok (by omega))) ?_
    refine wl_nil ?_
    refine nw 12 1023 (fun _ hm => ⟨hm.bl 1, hm.bl 2, hm.bl 3, hm.fa 0, hm.fa 1, trivial⟩) fun z => ?_
    refine wto 10 12 2047 rfl rfl rfl z (ov_eql rfl rfl) ?_
    refine wt 11 12 4095 rfl z (ov_pick_f rfl rfl) ?_
    refine wa_done (by kernel_rfl) ?_
    exact nx_meet (decide (LE = 0)) trivial ⟨rfl, rfl, rfl, rfl, rfl, rfl, rfl, rfl, rfl, trivial⟩ (fun _ hm => (hm.more rfl (by first | omega | (dsimp only; omega))).pick [1, 2, 3] [1] [0, 1] rfl rfl)
   refine wl_guard_on rfl rfl rfl ?_
   refine wl_buildSlice (e := 54) (cs := [.int .i64 a4, .string ve4, .string st4, .int .i64 kd4, .string to4]) rfl (by kernel_rfl) rfl fun g37 => ?_
   refine wl_nil ?_
   refine nw 12 223 (fun _ hm => ⟨hm.bl 1, hm.bl 2, hm.bl 3, hm.fa 0, hm.fa 1, trivial⟩) fun z => ?_
   refine wa1 5 rfl ?_
   refine wl_guard_on rfl rfl rfl ?_
   refine wl_callgo (γ := Option Addr × Nat) (val := (fun g => .slice g.1 k g.2)) (φ := (fun g => True)) (fun g => ⟨.slice g.1 k g.2, 54, 5, k, xl.flatMap evEnc⟩) rfl cb184 rfl rfl (fun wx hm => (cloneEvents_all xl oA k oc wx (SlT.ofOwn ev_len (hm.ownI 0 rfl) hxl) (own_shape (hm.ownI 0 rfl)) (by omega)).mono fun _ _ ⟨A, c, he, ho, hg⟩ => ⟨(A, c), he, trivial, ho, hg⟩) ?_
   rintro ⟨A3, c3⟩ hphi
   dsimp only at hphi ⊢
   refine wl_nil ?_
   refine nw 12 255 (fun _ hm => ⟨hm.bl 1, hm.bl 2, hm.bl 3, hm.fa 0, hm.fa 1, trivial⟩) fun z => ?_
   refine wa1 8 rfl ?_
   refine wl_guard_on rfl rfl rfl ?_
   refine wl_append (news := [.int .i64 a4, .string ve4, .string st4, .int .i64 kd4, .string to4]) 0 0 ap47 rfl rfl rfl rfl rfl rfl rfl (by omega) (by unfold maxLen; omega) rfl rfl fun v2 hv2 => ?_
   refine wl_look (R := ∃ A cc, v2 = .slice A (k + 1) cc) (fun wx hm => own_slice (hm.ownI 0 rfl)) ?_
   rintro ⟨A4, c4, rfl⟩
   have hxs : xl.flatMap evEnc ++ ([.int .i64 a4, .string ve4, .string st4, .int .i64 kd4, .string to4] : List Value) = us.flatMap evEnc := by rw [hus]; simp [evEnc]
   rw [hxs]
   refine wl_nil ?_
   refine nw 12 511 (fun _ hm => ⟨hm.bl 1, hm.bl 2, hm.bl 3, hm.fa 0, hm.fa 1, trivial⟩) fun z => ?_
   refine wa1 9 rfl ?_
   refine wl_guard_on rfl rfl rfl ?_
   refine wl_callv (v := .int .i64 LE) rfl cb123 rfl rfl (fun wx hm => (by rw [hLE]; exact logFault_any sl vl (some ⟨bs, os, none⟩) cA (some ⟨bv, ov, none⟩) pA sn sc cn cc vn vc pn pc us A4 (k + 1) c4 wx (hm.fact 0 rfl).1 (hm.fact 1 rfl).1 hsok hsn hvn (SlT.ofOwn ev_len (hm.ownI 0 rfl) hul) huok (by omega))) ?_
   refine wl_nil ?_
   refine nw 12 1023 (fun _ hm => ⟨hm.bl 1, hm.bl 2, hm.bl 3, hm.fa 0, hm.fa 1, trivial⟩) fun z => ?_
   refine wto 10 12 2047 rfl rfl rfl z (ov_eql rfl rfl) ?_
   refine wt 11 12 4095 rfl z (ov_pick_f rfl rfl) ?_
   refine wa_done (by kernel_rfl) ?_
   exact nx_meet (decide (LE = 0)) trivial ⟨rfl, rfl, rfl, rfl, rfl, rfl, rfl, rfl, rfl, trivial⟩ (fun _ hm => (hm.more rfl (by first | omega | (dsimp only; omega))).pick [1, 2, 3] [1] [0, 1] rfl rfl)
  intro bb hinv
  replace hinv : True := hinv
  refine gw_cond rfl (fun hh => ?_) (fun hh => ?_)
  ·have hbb : bb = true := by simpa using hh
   clear hh
   refine gw_region (mv_ rfl ?_)
   refine wl_ov (ov_loads rz54 rfl (fun _ hm => hm.blkI 0 rfl) rfl rfl) rfl ?_
   refine wl_buildSlice (e := 54) (cs := [.int .i64 a4, .string ve4, .string st4, .int .i64 kd4, .string to4]) rfl (by kernel_rfl) rfl fun g38 => ?_
   refine wl_append (news := [.int .i64 a4, .string ve4, .string st4, .int .i64 kd4, .string to4]) 0 0 ap47 rfl rfl rfl rfl rfl rfl rfl (by omega) (by unfold maxLen; omega) rfl rfl fun v2 hv2 => ?_
   refine wl_look (R := ∃ A cc, v2 = .slice A (k + 1) cc) (fun wx hm => own_slice (hm.ownI 0 rfl)) ?_
   rintro ⟨A4, c4, rfl⟩
   have hxs : xl.flatMap evEnc ++ ([.int .i64 a4, .string ve4, .string st4, .int .i64 kd4, .string to4] : List Value) = us.flatMap evEnc := by rw [hus]; simp [evEnc]
   rw [hxs]
   refine sg_ rfl (wl_nil (nx_blk_nrm (nx_then (gw_region (ad_ rfl rfl (mv_ rfl (wl_nil ?_)))))))
   exact nx_round (i + 1, k + 1, t8, A4, c4, us) ⟨by dsimp only; omega, by dsimp only; omega, ⟨by dsimp only; omega, by dsimp only; omega⟩, hul, huok⟩ (by dsimp only; omega) ⟨rfl, rfl, rfl, rfl, rfl, rfl, (some_int (by omega)), trivial⟩ (fun _ hm => (hm.more rfl (by first | omega | (dsimp only; omega))).pick [3] [0] [0, 1] rfl rfl)
  have hbb : bb = false := by simpa using hh
  clear hh
  refine gw_skip (nx_blk_nrm (nx_then (gw_region (ad_ rfl rfl (mv_ rfl (wl_nil ?_))))))
  exact nx_round (i + 1, k, t8, oA, oc, xl) ⟨by dsimp only; omega, by dsimp only; omega, ⟨by dsimp only; omega, by dsimp only; omega⟩, hxl, hxok⟩ (by dsimp only; omega) ⟨rfl, rfl, rfl, rfl, rfl, rfl, (some_int (by omega)), trivial⟩ (fun _ hm => (hm.more rfl (by first | omega | (dsimp only; omega))).pick [2] [0] [0, 1] rfl rfl)
 have hi : ¬ (((i : Nat) : Int) < ((q : Nat) : Int)) := by simpa using hh
 clear hh
 refine gw_exit ?_
 refine nx_then_exit (nx_then_exit ?_)
 refine nx_blk_here ?_
 refine nx_then (sr_ (mv_ rfl (sg_ rfl (nn_ ?_))))
 refine gw_ret ?_
 refine nx_ret1 rfl rfl fun wx hm => ?_
 exact ⟨oA, k, oc, xl, rfl, (hm.ownI 0 rfl), hxl, hxok, by omega, hm.k.more (by omega), hm.g⟩
end Go.Proofs.YtnpcbfllnkiopaaGreatDoor
namespace Go.Proofs.YtnpcbfllnkiopaaGreatDoor
open Go.RowKit
theorem fleet_rise {sl : List St} {cl : List Cs} {vl : List Vh} {pl : List Pl} (h : fleetE sl cl vl pl = 0) : Rise vl := by
  unfold fleetE at h
  exact (vehs_rise (fe_all h (vehsE cl vl) (by simp))).2
theorem fe_hd {a : Int} {r : List Int} (h : a ≠ 0) : firstE (a :: r) = a := by simp [firstE, h]
theorem fe_tl {r : List Int} : firstE (0 :: r) = firstE r := by simp [firstE]
end Go.Proofs.YtnpcbfllnkiopaaGreatDoor
namespace Go.Proofs.YtnpcbfllnkiopaaGreatDoor
open Go.RowKit
def evsE (sl : List St) (cl : List Cs) (vl : List Vh) (pl : List Pl) (el : List Ev) : Int := firstE [fleetE sl cl vl pl, logE sl vl el]
theorem evs_one {sl : List St} {cl : List Cs} {vl : List Vh} {pl : List Pl} {el : List Ev} (h : fleetE sl cl vl pl ≠ 0) : evsE sl cl vl pl el = fleetE sl cl vl pl := fe_hd h
theorem evs_two {sl : List St} {cl : List Cs} {vl : List Vh} {pl : List Pl} {el : List Ev} (h : fleetE sl cl vl pl = 0) : evsE sl cl vl pl el = logE sl vl el := by
  unfold evsE; rw [h, fe_tl]
  by_cases h2 : logE sl vl el = 0
  · rw [h2]; rfl
  · exact fe_hd h2
theorem evs_ok {sl : List St} {cl : List Cs} {vl : List Vh} {pl : List Pl} {el : List Ev} (h : evsE sl cl vl pl el = 0) : fleetE sl cl vl pl = 0 ∧ logE sl vl el = 0 := ⟨fe_all h _ (by simp), fe_all h _ (by simp)⟩
theorem log_ok {sl : List St} {vl : List Vh} {el : List Ev} (h : logE sl vl el = 0) : ESort el ∧ (∀ x ∈ el, EvFine sl vl x) ∧ el.length ≤ 3000 := by
  unfold logE at h
  split at h
  · cases h
  · obtain ⟨h1, _, h3⟩ := log_fine h
    exact ⟨h1, h3, by omega⟩
theorem eventsFault_any (sl : List St) (cl : List Cs) (vl : List Vh) (pl : List Pl) (sA cA vA pA : Option Addr) (sn sc cn cc vn vc pn pc : Nat) (el : List Ev) (eA : Option Addr) (en ec : Nat) (w : World) (hs : SlT stEnc 15 168 w sA sn sl) (hc : SlT csEnc 2 170 w cA cn cl) (hv : SlT vhEnc 2 158 w vA vn vl) (hp : SlT plEnc 3 161 w pA pn pl) (hsok : ∀ x ∈ sl, StOk x) (hcok : ∀ x ∈ cl, CsOk x) (hvok : ∀ x ∈ vl, VhOk x) (hpok : ∀ x ∈ pl, PlOk x) (hsn : sn ≤ 1000) (hcn : cn ≤ 1000) (hvn : vn ≤ 1000) (hpn : pn ≤ 1000) (hl : SlT evEnc 5 54 w eA en el) (heok : ∀ x ∈ el, EvOk x) (hen : en ≤ 1000000) (hpc : pn ≤ pc) :
  Calls Tryz.prog 99 #[.agg #[.slice sA sn sc, .slice cA cn cc, .slice vA vn vc, .slice pA pn pc], .slice eA en ec] w (GotE w (evsE sl cl vl pl el)) := by
 refine gw_enter ⟨14, w, none, []⟩ Tryz.func99 rfl Tryz.ntmps99 rfl (mem0 (X := [SlOld stEnc 15 168 w.heap.size none sA sn sl, SlOld csEnc 2 170 w.heap.size none cA cn cl, SlOld vhEnc 2 158 w.heap.size none vA vn vl, SlOld plEnc 3 161 w.heap.size none pA pn pl, SlOld evEnc 5 54 w.heap.size none eA en el]) (allF_cons hs.old (allF_cons hc.old (allF_cons hv.old (allF_cons hp.old (allF_cons hl.old allF_nil))))) (allL_cons SlOld.lasts (allL_cons SlOld.lasts (allL_cons SlOld.lasts (allL_cons SlOld.lasts (allL_cons SlOld.lasts allL_nil)))))) ?_
 refine sr_ ?_
 obtain ⟨FE, hFE⟩ : ∃ z, z = fleetE sl cl vl pl := ⟨_, rfl⟩
 obtain ⟨LE, hLE⟩ : ∃ z, z = logE sl vl el := ⟨_, rfl⟩
 refine wl_box rfl rfl rfl fun g1 => ?_
 refine sg_ rfl (nn_ (gw_seq (sr_ ?_)))
 refine wl_ov (ov_loads rz66 rfl (fun _ hm => hm.blkI 0 rfl) rfl rfl) rfl ?_
 refine wl_callv (v := .int .i64 FE) rfl cb37 rfl rfl (fun wx hm => (by rw [hFE]; exact fleetFault_any sl cl vl pl sA cA vA pA sn sc cn cc vn vc pn pc wx (hm.fact 0 rfl).1 (hm.fact 1 rfl).1 (hm.fact 2 rfl).1 (hm.fact 3 rfl).1 hsok hcok hvok hpok hsn hcn hvn hpn hpc)) ?_
 refine sg_ rfl (nn_ (sr_ (mv_ rfl (wl_ov (ov_neq rfl rfl) rfl (nn_ ?_)))))
 refine gw_cond rfl (fun hh => ?_) (fun hh => ?_)
 ·have h1 : ¬ (FE = 0) := by simpa using hh
  clear hh
  refine sr_ (mv_ rfl (sg_ rfl (nn_ ?_)))
  refine gw_ret ?_
  refine nx_then_ret ?_
  refine nx_ret1 rfl rfl fun wx hm => ?_
  exact ⟨ret_int (by rw [evs_one (by rw [← hFE]; simpa using h1)]; exact hFE), hm.g⟩
 have h1 : FE = 0 := by simpa using hh
 clear hh
 refine gw_skip (nx_then (sr_ ?_))
 have h0 : fleetE sl cl vl pl = 0 := by rw [← hFE]; simpa using h1
 refine wl_ov (ov_loads rz66 rfl (fun _ hm => hm.blkI 0 rfl) rfl rfl) rfl ?_
 refine mv_ rfl ?_
 refine wl_callv (v := .int .i64 LE) rfl cb123 rfl rfl (fun wx hm => (by rw [hLE]; exact logFault_any sl vl sA cA vA pA sn sc cn cc vn vc pn pc el eA en ec wx (hm.fact 0 rfl).1 (hm.fact 2 rfl).1 hsok hsn hvn (hm.fact 4 rfl).1 heok hen)) ?_
 refine sg_ rfl (nn_ ?_)
 refine gw_ret ?_
 refine nx_ret1 rfl rfl fun wx hm => ?_
 exact ⟨ret_int (by rw [evs_two h0]; exact hLE), hm.g⟩
theorem check2_any (sl : List St) (cl : List Cs) (vl : List Vh) (pl : List Pl) (sA cA vA pA : Option Addr) (sn sc cn cc vn vc pn pc : Nat) (el : List Ev) (eA : Option Addr) (en ec : Nat) (w : World) (hs : SlT stEnc 15 168 w sA sn sl) (hc : SlT csEnc 2 170 w cA cn cl) (hv : SlT vhEnc 2 158 w vA vn vl) (hp : SlT plEnc 3 161 w pA pn pl) (hsok : ∀ x ∈ sl, StOk x) (hcok : ∀ x ∈ cl, CsOk x) (hvok : ∀ x ∈ vl, VhOk x) (hpok : ∀ x ∈ pl, PlOk x) (hsn : sn ≤ 1000) (hcn : cn ≤ 1000) (hvn : vn ≤ 1000) (hpn : pn ≤ 1000) (hl : SlT evEnc 5 54 w eA en el) (heok : ∀ x ∈ el, EvOk x) (hen : en ≤ 1000000) :
  Calls Tryz.prog 100 #[.agg #[.slice sA sn sc, .slice cA cn cc, .slice vA vn vc, .slice pA pn pc], .slice eA en ec] w (GotE w (evsE sl cl vl pl el)) := by
 refine gw_enter ⟨14, w, none, []⟩ Tryz.func100 rfl Tryz.ntmps100 rfl (mem0 (X := [SlOld stEnc 15 168 w.heap.size none sA sn sl, SlOld csEnc 2 170 w.heap.size none cA cn cl, SlOld vhEnc 2 158 w.heap.size none vA vn vl, SlOld plEnc 3 161 w.heap.size none pA pn pl, SlOld evEnc 5 54 w.heap.size none eA en el]) (allF_cons hs.old (allF_cons hc.old (allF_cons hv.old (allF_cons hp.old (allF_cons hl.old allF_nil))))) (allL_cons SlOld.lasts (allL_cons SlOld.lasts (allL_cons SlOld.lasts (allL_cons SlOld.lasts (allL_cons SlOld.lasts allL_nil)))))) ?_
 refine sr_ ?_
 obtain ⟨FE, hFE⟩ : ∃ z, z = fleetE sl cl vl pl := ⟨_, rfl⟩
 obtain ⟨LE, hLE⟩ : ∃ z, z = logE sl vl el := ⟨_, rfl⟩
 refine wl_box rfl rfl rfl fun g1 => ?_
 refine sg_ rfl (nn_ (gw_seq (sr_ ?_)))
 refine wl_ov (ov_loads rz66 rfl (fun _ hm => hm.blkI 0 rfl) rfl rfl) rfl ?_
 refine wl_callv (v := .int .i64 FE) rfl cb105 rfl rfl (fun wx hm => (by rw [hFE]; exact checkFleet_any sl cl vl pl sA cA vA pA sn sc cn cc vn vc pn pc wx (hm.fact 0 rfl).1 (hm.fact 1 rfl).1 (hm.fact 2 rfl).1 (hm.fact 3 rfl).1 hsok hcok hvok hpok hsn hcn hvn hpn)) ?_
 refine sg_ rfl (nn_ (sr_ (mv_ rfl (wl_ov (ov_neq rfl rfl) rfl (nn_ ?_)))))
 refine gw_cond rfl (fun hh => ?_) (fun hh => ?_)
 ·have h1 : ¬ (FE = 0) := by simpa using hh
  clear hh
  refine sr_ (mv_ rfl (sg_ rfl (nn_ ?_)))
  refine gw_ret ?_
  refine nx_then_ret ?_
  refine nx_ret1 rfl rfl fun wx hm => ?_
  exact ⟨ret_int (by rw [evs_one (by rw [← hFE]; simpa using h1)]; exact hFE), hm.g⟩
 have h1 : FE = 0 := by simpa using hh
 clear hh
 refine gw_skip (nx_then (sr_ ?_))
 have h0 : fleetE sl cl vl pl = 0 := by rw [← hFE]; simpa using h1
 have hrise := fleet_rise h0
 refine wl_ov (ov_loads rz66 rfl (fun _ hm => hm.blkI 0 rfl) rfl rfl) rfl ?_
 refine mv_ rfl ?_
 refine wl_callv (v := .int .i64 LE) rfl cb110 rfl rfl (fun wx hm => (by rw [hLE]; exact check_any sl vl sA cA vA pA sn sc cn cc vn vc pn pc el eA en ec wx (hm.fact 0 rfl).1 (hm.fact 2 rfl).1 hsok hsn hvn (hm.fact 4 rfl).1 heok hen hrise)) ?_
 refine sg_ rfl (nn_ ?_)
 refine gw_ret ?_
 refine nx_ret1 rfl rfl fun wx hm => ?_
 exact ⟨ret_int (by rw [evs_two h0]; exact hLE), hm.g⟩
section
variable {P : Program} {c : Cx} {S : List (Nat × Value)} {K : World → Prop} {L : List (Nat × TypeId × List Value)} {O : List Own} {X : List (World → Prop)} {fn : Func} {R : Ending → World → Prop}
theorem results_ctt {p u r : Tmp} {t : TypeId} (h : fn.results = #[.cell p t, .tmp u, .tmp r]) (tmps : Array Value) (w : World) (g : Nat) (T : TypeId) (cs : Array Value) (fr : Nat × Nat) (d : TypeDesc) (hp : tmps.getD p undef = .pointer (some ⟨g, 0, none⟩)) (hg : w.heap[g]? = some (.cells cs T fr)) (hu : P.underlying t = some d) (hd : (match d with | .struct _ | .array _ _ => true | _ => false) = true) (hi : (P.info? t).map (·.size) = some cs.size) :
    (results fn tmps).run P w = .ok (.tuple #[.agg cs, tmps.getD u undef, tmps.getD r undef]) w := by
  have hp' : tmps[p]?.getD undef = .pointer (some ⟨g, 0, none⟩) := by simpa using hp
  simp [results, h, hp', asAddr, run_loadVar_row w g T t cs fr d hg hu hd hi]
theorem nx_retctt {p u r : Nat} {t T : TypeId} {g n : Nat} {cs : List Value} {v v' : Value} (i : Nat) (hr : fn.results = #[.cell p t, .tmp u, .tmp r]) (hs : rowSz P t = some n) (hp : look S p = some (.pointer (some ⟨g, 0, none⟩))) (hv : look S u = some v) (hv' : look S r = some v') (hL : L[i]? = some (g, T, cs)) (hn : cs.length = n)
    (h : ∀ w, Mem c K L O X w → R (.returned (.tuple #[.agg cs.toArray, v, v'])) w) : Nx c (bodyPost P fn R) .ret S K L O X := fun a w ha hm => by
  obtain ⟨dd, hu, hd, hi⟩ := run_row hs
  have hb : w.heap[g]? = some (.cells cs.toArray T (0, 0)) := hm.blk (List.mem_of_getElem? hL)
  have h1 := results_ctt (P := P) hr a.tmps w g T cs.toArray (0, 0) dd (by simp [Array.getD_eq_getD_getElem?, ha.val p _ hp]) hb hu (by cases dd <;> simp_all [TypeDesc.isRow]) (by simpa [hn] using hi)
  rw [show a.tmps.getD u undef = v by simp [Array.getD_eq_getD_getElem?, ha.val u _ hv], show a.tmps.getD r undef = v' by simp [Array.getD_eq_getD_getElem?, ha.val r _ hv']] at h1
  exact bodyPost_ret h1 ha.df (h w hm)
end
theorem scene_any (q : Nat) (w : World) (B sb m : Nat) (hS : Strm 25 w B sb m) (hm : m ≤ 1000000) (hq : q ≤ 1000) :
  Calls Tryz.prog 30 #[.pointer (some ⟨sb, 0, none⟩), .int .i64 ((q : Nat) : Int)] w (fun e w' => ∃ (sA cA vA pA : Option Addr) (sn sc cc vn vc pn pc : Nat) (sl : List St) (cl : List Cs) (vl : List Vh) (pl : List Pl) (eA : Option Addr) (en ec : Nat) (el : List Ev),  e = .returned (.tuple #[.agg #[.slice sA sn sc, .slice cA 4 cc, .slice vA vn vc, .slice pA pn pc], .slice eA en ec, .int .i64 (evsE sl cl vl pl el)]) ∧ (FlOk sl cl vl pl sn vn pn ∧ ShapeA pA pn pc ∧ pn ≤ pc) ∧ (el.length = en ∧ (∀ x ∈ el, EvOk x) ∧ en ≤ q) ∧ Strm 25 w' B sb (m + 20 * q + 420) ∧ w.grownBy w' (some sb) ∧ w'.ownsRow w.heap.size 54 5 (.slice eA en ec) en (el.flatMap evEnc) ∧ SlT stEnc 15 168 w' sA sn sl ∧ SlT csEnc 2 170 w' cA 4 cl ∧ SlT vhEnc 2 158 w' vA vn vl ∧ SlT plEnc 3 161 w' pA pn pl) := by
 refine gw_enter ⟨20, w, (some sb), [168, 170, 158, 161]⟩ Tryz.func30 rfl Tryz.ntmps30 rfl (memS (X := []) hS allF_nil allL_nil) ?_
 refine sr_ ?_
 refine wl_alloc zc66 rfl fun g1 => ?_
 refine sg_ rfl (sg_ rfl (nn_ (sr_ (mv_ rfl ?_))))
 refine wl_calls (γ := Option Addr × Option Addr × Option Addr × Option Addr × Nat × Nat × Nat × Nat × Nat × Nat × Nat × List St × List Cs × List Vh × List Pl) (val := (fun g => .agg #[.slice g.1 g.2.2.2.2.1 g.2.2.2.2.2.1, .slice g.2.1 4 g.2.2.2.2.2.2.1, .slice g.2.2.1 g.2.2.2.2.2.2.2.1 g.2.2.2.2.2.2.2.2.1, .slice g.2.2.2.1 g.2.2.2.2.2.2.2.2.2.1 g.2.2.2.2.2.2.2.2.2.2.1])) (φ := (fun g => FlOk g.2.2.2.2.2.2.2.2.2.2.2.1 g.2.2.2.2.2.2.2.2.2.2.2.2.1 g.2.2.2.2.2.2.2.2.2.2.2.2.2.1 g.2.2.2.2.2.2.2.2.2.2.2.2.2.2 g.2.2.2.2.1 g.2.2.2.2.2.2.2.1 g.2.2.2.2.2.2.2.2.2.1 ∧ ShapeA g.2.2.2.1 g.2.2.2.2.2.2.2.2.2.1 g.2.2.2.2.2.2.2.2.2.2.1 ∧ g.2.2.2.2.2.2.2.2.2.1 ≤ g.2.2.2.2.2.2.2.2.2.2.1)) (Y := (fun g => fun wy => SlT stEnc 15 168 wy g.1 g.2.2.2.2.1 g.2.2.2.2.2.2.2.2.2.2.2.1 ∧ SlT csEnc 2 170 wy g.2.1 4 g.2.2.2.2.2.2.2.2.2.2.2.2.1 ∧ SlT vhEnc 2 158 wy g.2.2.1 g.2.2.2.2.2.2.2.1 g.2.2.2.2.2.2.2.2.2.2.2.2.2.1 ∧ SlT plEnc 3 161 wy g.2.2.2.1 g.2.2.2.2.2.2.2.2.2.1 g.2.2.2.2.2.2.2.2.2.2.2.2.2.2)) (m' := m + 400) rfl cb40 rfl rfl rfl rfl (fun wx hm => (fleet_any wx B sb _ hm.k (by omega)).mono fun _ _ ⟨sA, cA, vA, pA, sn, sc, cc, vn, vc, pn, pc, sl, cl, vl, pl, he, hok, hS, hg, h1, h2, h3, h4, h5, h6⟩ => ⟨(sA, cA, vA, pA, sn, sc, cc, vn, vc, pn, pc, sl, cl, vl, pl), he, ⟨hok, h5, h6⟩, hS, hg, h1, h2, h3, h4⟩) (fun _ => (SlT.lasts2 rfl).and_ ((SlT.lasts2 rfl).and_ ((SlT.lasts2 rfl).and_ (SlT.lasts2 rfl)))) ?_
 rintro ⟨sA, cA, vA, pA, sn, sc, cc, vn, vc, pn, pc, sl, cl, vl, pl⟩ hfl
 dsimp only at hfl ⊢
 have hfl2 := hfl
 obtain ⟨⟨⟨hsok, hsn10⟩, hcok, ⟨hvB, hvn10⟩, hpB, hpn10⟩, hsh, hpnc⟩ := hfl
 have hvok : ∀ x ∈ vl, VhOk x := fun x hx => vhB_ok (hvB x hx)
 have hpok : ∀ x ∈ pl, PlOk x := fun x hx => plB_ok (hpB x hx)
 refine wl_alloc zc66 rfl fun g2 => ?_
 refine wl_stores (cs' := [.slice sA sn sc, .slice cA 4 cc, .slice vA vn vc, .slice pA pn pc]) 0 rz66 rfl rfl rfl rfl rfl rfl rfl rfl ?_
 refine nn_ (sr_ (mv_ rfl ?_))
 refine wl_ov (ov_loads rz66 rfl (fun _ hm => hm.blkI 0 rfl) rfl rfl) rfl ?_
 refine mv_ rfl ?_
 refine wl_callgs (γ := Option Addr × Nat × Nat × List Ev) (val := (fun g => .slice g.1 g.2.1 g.2.2.1)) (φ := (fun g => g.2.2.2.length = g.2.1 ∧ (∀ x ∈ g.2.2.2, EvOk x) ∧ g.2.1 ≤ q)) (m' := m + 400 + (20 * q + 20)) (fun g => ⟨.slice g.1 g.2.1 g.2.2.1, 54, 5, g.2.1, g.2.2.2.flatMap evEnc⟩) rfl cb98 rfl rfl rfl rfl (fun wx hm => (glog_any sl vl sA cA vA pA sn sc 4 cc vn vc pn pc q wx B sb _ hm.k (by omega) (hm.fact 0 rfl).1 (hm.fact 0 rfl).2.2.1 hsok hvok (by omega) (by omega) (by omega)).mono fun _ _ ⟨A, n, c, l, he, ho, hl, hok, hn, hS, hg⟩ => ⟨(A, n, c, l), he, ⟨hl, hok, hn⟩, hS, hg, ho⟩) ?_
 rintro ⟨eA, en, ec, el⟩ hel
 dsimp only at hel ⊢
 obtain ⟨hell, heok, henq⟩ := hel
 obtain ⟨FE, hFE⟩ : ∃ z, z = evsE sl cl vl pl el := ⟨_, rfl⟩
 refine sg_ rfl (nn_ (gw_seq ?_))
 refine gd (fun wz => Blk wz g2 66 [.slice sA sn sc, .slice cA 4 cc, .slice vA vn vc, .slice pA pn pc] ∧ (fun wy => SlT stEnc 15 168 wy sA sn sl ∧ SlT csEnc 2 170 wy cA 4 cl ∧ SlT vhEnc 2 158 wy vA vn vl ∧ SlT plEnc 3 161 wy pA pn pl) wz ∧ True) mixed (fun _ hm => ⟨hm.bl 0, hm.fa 0, trivial⟩) fun z => ?_
 refine wt 0 8 1 rfl z (ov_loads rz66 rfl (fun _ hm => hm.1) rfl rfl) ?_
 refine wt 1 8 3 rfl z (ov_move rfl) ?_
 refine wt 2 8 7 rfl z (ov_loads rz66 rfl (fun _ hm => hm.1) rfl rfl) ?_
 refine wt 3 8 15 rfl z (ov_move rfl) ?_
 refine wa1 4 rfl ?_
 refine wl_callv (v := .int .i64 FE) rfl cb99 rfl rfl (fun wx hm => (by rw [hFE]; exact eventsFault_any sl cl vl pl sA cA vA pA sn sc 4 cc vn vc pn pc el eA en ec wx (hm.fact 0 rfl).1 (hm.fact 0 rfl).2.1 (hm.fact 0 rfl).2.2.1 (hm.fact 0 rfl).2.2.2 hsok hcok hvok hpok (by omega) (by omega) (by omega) (by omega) (SlT.ofOwn ev_len (hm.ownI 0 rfl) hell) heok (by omega) hpnc)) ?_
 refine wl_nil ?_
 refine nw 8 31 (fun _ hm => ⟨hm.bl 0, hm.fa 0, trivial⟩) fun z => ?_
 refine wa1 5 rfl ?_
 refine wl_stores (cs' := [.slice sA sn sc, .slice cA 4 cc, .slice vA vn vc, .slice pA pn pc]) 1 rz66 rfl rfl rfl rfl rfl rfl rfl rfl ?_
 refine wl_nil ?_
 refine nw 8 63 (fun _ hm => ⟨hm.bl 0, hm.fa 0, trivial⟩) fun z => ?_
 refine wt 6 8 127 rfl z (ov_assign rfl) ?_
 refine wt 7 8 255 rfl z (ov_assign rfl) ?_
 refine wa_done (by kernel_rfl) ?_
 refine nx_then ?_
 refine gw_ret ?_
 refine nx_retctt 1 rfl rz66 rfl rfl rfl rfl rfl fun wx hm => ?_
 exact ⟨sA, cA, vA, pA, sn, sc, cc, vn, vc, pn, pc, sl, cl, vl, pl, eA, en, ec, el, by rw [hFE], hfl2, ⟨hell, heok, henq⟩, hm.k.more (by omega), hm.g, (hm.ownI 0 rfl), (hm.fact 0 rfl)⟩
end Go.Proofs.YtnpcbfllnkiopaaGreatDoor
namespace Go.Proofs.YtnpcbfllnkiopaaGreatDoor
open Go.RowKit
/-- The words of the kinds of events. -/
def kindsL : List ByteArray := [⟨#[]⟩, ⟨#[101, 110, 116, 101, 114]⟩, ⟨#[111, 117, 116]⟩, ⟨#[98, 97, 99, 107]⟩, ⟨#[115, 104, 111, 112]⟩, ⟨#[100, 111, 110, 101]⟩, ⟨#[108, 101, 97, 118, 101]⟩, ⟨#[99, 111, 109, 101]⟩, ⟨#[103, 111, 110, 101]⟩]
def kindW (k : Int) : ByteArray := (kindsL[k.toNat]?).getD ⟨#[]⟩
theorem kinds_at {k : Int} (h : 1 ≤ k ∧ k ≤ 8) : kindsL[k.toNat]? = some (kindW k) := by
  have h2 : k.toNat < kindsL.length := by show k.toNat < 9; omega
  unfold kindW
  rw [List.getElem?_eq_getElem h2]; rfl
theorem kinds_sz : ∀ x ∈ kindsL, x.size ≤ 100 := by decide +kernel
theorem kindW_sz (k : Int) : (kindW k).size ≤ 100 := by
  unfold kindW
  cases h : kindsL[k.toNat]? with
  | none => show (0 : Nat) ≤ 100; omega
  | some x => exact kinds_sz x (List.mem_of_getElem? h)
def EvB (x : Ev) : Prop := x.veh.size ≤ 100 ∧ x.sta.size ≤ 100 ∧ x.to_.size ≤ 100 ∧ (0 ≤ x.at_ ∧ x.at_ ≤ 5761439) ∧ (1 ≤ x.kd ∧ x.kd ≤ 8)
theorem key_sz {s : ByteArray} (h : keyB s = true) : s.size ≤ 100 := by
  have e : s.size = s.data.toList.length := Array.length_toList.symm
  rw [e]
  unfold keyB at h
  cases hs : s.data.toList with
  | nil => exact Nat.zero_le _
  | cons c r =>
    rw [hs] at h
    unfold keyLB at h
    simp only [Bool.and_eq_true, decide_eq_true_eq] at h
    rw [List.length_cons]; omega
theorem sta_sz {sl : List St} (h : stationsE sl = 0) {k : ByteArray} (hk : sl.any (stP k) = true) : k.size ≤ 100 := by
  unfold stationsE at h
  split at h
  · cases h
  · obtain ⟨x, hx, hp⟩ := List.any_eq_true.1 hk
    obtain ⟨q, hq⟩ := scanE_all h x hx
    have e : x.key = k := bytes_ext (by unfold stP at hp; simpa using hp)
    unfold stationE at hq
    split at hq
    · cases hq
    · rename_i h1
      rw [← e]
      exact key_sz (by simpa using h1)
theorem veh_sz {cl : List Cs} {vl : List Vh} (h : vehsE cl vl = 0) {k : ByteArray} (hk : 0 ≤ ixP (vhP k) vl 0) : k.size ≤ 100 := by
  unfold vehsE at h
  split at h
  · cases h
  · rcases ixP_spec (p := vhP k) vl 0 with ⟨h1, _⟩ | ⟨j, y, h1, hj, hp, _⟩
    · omega
    · have e : y.key = k := bytes_ext (by unfold vhP at hp; simpa using hp)
      rw [← e]
      exact key_sz ((rise_of h).2.2 y (List.mem_of_getElem? hj)).1
theorem evB_of {sl : List St} {cl : List Cs} {vl : List Vh} {pl : List Pl} {el : List Ev} (h : evsE sl cl vl pl el = 0) : ∀ x ∈ el, EvB x := fun x hx => by
  obtain ⟨hf, hl⟩ := evs_ok h
  have hs : stationsE sl = 0 := fe_all hf _ (by simp)
  have hv : vehsE cl vl = 0 := fe_all hf _ (by simp)
  obtain ⟨_, hfine, _⟩ := log_ok hl
  obtain ⟨h1, h2, h3, h4, _⟩ := hfine x hx
  refine ⟨veh_sz hv h2, sta_sz hs h3, ?_, h1, h4⟩
  unfold logE at hl
  split at hl
  · cases hl
  · obtain ⟨q, hq⟩ := scanE_all hl x hx
    unfold evE at hq
    repeat (split at hq; · cases hq)
    rename_i k1 k2 k3 k4 k5 k6 k7
    by_cases h6 : x.kd = 6
    · rw [decide_eq_true h6, Bool.true_and] at k5
      exact sta_sz hs (by simpa using k5)
    · rw [decide_eq_false h6, Bool.not_false, Bool.true_and] at k4
      have e : x.to_ = ⟨#[]⟩ := bytes_ext (by simpa using k4)
      rw [e]; exact Nat.zero_le _
/-- The line of an event. -/
def lgParts (x : Ev) : List ByteArray := [itoaS x.at_, x.veh, kindW x.kd, x.sta]
def lgJ (x : Ev) : ByteArray := joinS (lgParts x) ⟨#[32]⟩
def lgTo (x : Ev) : ByteArray := if x.kd = 6 then (⟨#[32]⟩ : ByteArray) ++ x.to_ else ⟨#[]⟩
def lgLn (x : Ev) : ByteArray := (lgJ x ++ lgTo x) ++ (⟨#[10]⟩ : ByteArray)
def lgTxL (l : List Ev) : List UInt8 := l.flatMap fun x => (lgLn x).data.toList
def lgTx (l : List Ev) : ByteArray := ⟨(lgTxL l).toArray⟩
theorem ba_nil (a : ByteArray) : a ++ (⟨#[]⟩ : ByteArray) = a := ba_eq (by rw [ByteArray.data_append, Array.toList_append]; simp)
theorem ba_assoc (a b c : ByteArray) : a ++ b ++ c = a ++ (b ++ c) := ba_eq (by simp only [ByteArray.data_append, Array.toList_append, List.append_assoc])
theorem lgLn_go {x : Ev} (h : ¬ x.kd = 6) : lgLn x = lgJ x ++ (⟨#[10]⟩ : ByteArray) := by
  unfold lgLn lgTo; rw [if_neg h, ba_nil]
theorem lgLn_six {x : Ev} (h : x.kd = 6) : lgLn x = (lgJ x ++ ((⟨#[32]⟩ : ByteArray) ++ x.to_)) ++ (⟨#[10]⟩ : ByteArray) := by
  unfold lgLn lgTo; rw [if_pos h]
theorem lgTxL_at {l : List Ev} {i : Nat} {x : Ev} (h : l[i]? = some x) : lgTxL (l.take (i + 1)) = lgTxL (l.take i) ++ (lgLn x).data.toList := by
  unfold lgTxL
  rw [List.take_add_one, h, Option.toList_some, List.flatMap_append]; simp
theorem lgTx_at {l : List Ev} {i : Nat} {x : Ev} (h : l[i]? = some x) : lgTx (l.take (i + 1)) = lgTx (l.take i) ++ lgLn x := by
  refine ba_eq ?_
  rw [ByteArray.data_append, Array.toList_append]
  unfold lgTx
  simp [lgTxL_at h]
theorem ev_i64 {x : Ev} (h : EvB x) : -9223372036854775808 ≤ x.at_ ∧ x.at_ ≤ 9223372036854775807 := by
  obtain ⟨_, _, _, h1, _⟩ := h; omega
theorem lgParts_sz {x : Ev} (h : EvB x) : ∀ y ∈ lgParts x, y.size ≤ 100 := fun y hy => by
  have e := itoa_sz (ev_i64 h)
  obtain ⟨s0, s1, _⟩ := h
  have k := kindW_sz x.kd
  unfold lgParts at hy
  simp only [List.mem_cons, List.not_mem_nil, or_false] at hy
  rcases hy with rfl | rfl | rfl | rfl <;> omega
theorem lgJ_sz {x : Ev} (h : EvB x) : (lgJ x).size ≤ 404 := by
  have h1 := join_len (sep := ⟨#[32]⟩) (lgParts_sz h)
  have h2 : (lgParts x).length * ((⟨#[32]⟩ : ByteArray).size + 100) = 404 := by
    show 4 * (1 + 100) = 404
    decide
  unfold lgJ
  omega
theorem lgLn_sz {x : Ev} (h : EvB x) : (lgLn x).size ≤ 600 := by
  have h1 := lgJ_sz h
  have h2 := h.2.2.1
  have h3 : (⟨#[10]⟩ : ByteArray).size = 1 := rfl
  have h4 : (⟨#[32]⟩ : ByteArray).size = 1 := rfl
  by_cases h6 : x.kd = 6
  · rw [lgLn_six h6, ByteArray.size_append, ByteArray.size_append, ByteArray.size_append]; omega
  · rw [lgLn_go h6, ByteArray.size_append]; omega
theorem lgTxL_len {l : List Ev} (h : ∀ x ∈ l, EvB x) : (lgTxL l).length ≤ l.length * 600 := by
  induction l with
  | nil => exact Nat.le_refl _
  | cons x r ih =>
    have h1 := ih fun y hy => h y (List.mem_cons_of_mem _ hy)
    have h2 := lgLn_sz (h x (List.mem_cons_self ..))
    have e : lgTxL (x :: r) = (lgLn x).data.toList ++ lgTxL r := rfl
    rw [e, List.length_append, dl_size, List.length_cons]
    omega
theorem lgTx_sz {l : List Ev} (h : ∀ x ∈ l, EvB x) : (lgTx l).size ≤ l.length * 600 := by
  unfold lgTx; rw [sz_mk]; exact lgTxL_len h
theorem lg_take {l : List Ev} (h : ∀ x ∈ l, EvB x) (i : Nat) : ∀ x ∈ l.take i, EvB x := fun x hx => h x (List.mem_of_mem_take hx)
def lgPts (x : Ev) : List Pt := [.n x.at_, .s x.veh, .s (kindW x.kd), .s x.sta]
theorem lgPts_ok {x : Ev} (h : EvB x) : ∀ y ∈ lgPts x, PtOk y := fun y hy => by
  have hi := ev_i64 h
  have k := kindW_sz x.kd
  obtain ⟨s0, s1, _⟩ := h
  unfold lgPts at hy
  simp only [List.mem_cons, List.not_mem_nil, or_false] at hy
  rcases hy with rfl | rfl | rfl | rfl
  · exact hi
  · show x.veh.size ≤ 1000000; omega
  · show (kindW x.kd).size ≤ 1000000; omega
  · show x.sta.size ≤ 1000000; omega
theorem cells_two {l : List UInt8} {a b : ByteArray} : Lib.byteCells l ++ Lib.strCells a ++ Lib.strCells b = Lib.byteCells (l ++ (a ++ b).data.toList) := by
  rw [cells_app, cells_app, ByteArray.data_append, Array.toList_append, List.append_assoc]
theorem cells_three {l : List UInt8} {a b c : ByteArray} : Lib.byteCells l ++ Lib.strCells a ++ Lib.strCells b ++ Lib.strCells c = Lib.byteCells (l ++ (a ++ b ++ c).data.toList) := by
  rw [cells_two, cells_app]
  simp only [ByteArray.data_append, Array.toList_append, List.append_assoc]
def kixV (k : ByteArray) : Int := ixP (eqP k) kindsL 0
theorem kix_bd (k : ByteArray) : -1 ≤ kixV k ∧ kixV k ≤ 8 := by
  have h := ixP_bound (p := eqP k) kindsL
  have h9 : kindsL.length = 9 := rfl
  unfold kixV
  omega
/-- Whether the words are an event's. -/
def lgW (a0 a2 : ByteArray) (n : Nat) : Bool := numB a0 && decide (1 ≤ kixV a2) && decide (n = if kixV a2 = 6 then 5 else 4)
def lgRd (l : List ByteArray) : Option Ev := match l with
  | a0 :: a1 :: a2 :: a3 :: r => if lgW a0 a2 (4 + r.length) = true then some ⟨numV a0, a1, a3, kixV a2, r.headD ⟨#[]⟩⟩ else none
  | _ => none
def lgRdO (t : ByteArray) : Option Ev := if wdB t = true then lgRd (wdL t) else none
def lgRdB (t : ByteArray) : Bool := (lgRdO t).isSome
def lgRdA (t : ByteArray) (acc : List Ev) : List Ev := acc ++ (lgRdO t).toList
def lgStep (t : ByteArray) (acc : List Ev) : List Ev × Bool := (lgRdA t acc, lgRdB t)
theorem lg_four {l : List ByteArray} (h : 4 ≤ l.length) : ∃ a0 a1 a2 a3 r, l = a0 :: a1 :: a2 :: a3 :: r := by
  match l, h with
  | a0 :: a1 :: a2 :: a3 :: r, _ => exact ⟨a0, a1, a2, a3, r, rfl⟩
theorem lg_none {t : ByteArray} {acc : List Ev} (h : lgRdO t = none) : lgRdA t acc = acc ∧ lgRdB t = false := by
  unfold lgRdA lgRdB; rw [h]; exact ⟨List.append_nil _, rfl⟩
theorem lg_some {t : ByteArray} {acc : List Ev} {x : Ev} (h : lgRdO t = some x) : lgRdA t acc = acc ++ [x] ∧ lgRdB t = true := by
  unfold lgRdA lgRdB; rw [h]; exact ⟨rfl, rfl⟩
theorem lg_wd {t : ByteArray} (h : (!wdB t) = true) : lgRdO t = none := by
  unfold lgRdO
  cases hb : wdB t with
  | false => rfl
  | true => rw [hb] at h; cases h
theorem lg_short {t : ByteArray} (h : ¬ 4 ≤ (wdL t).length) : lgRdO t = none := by
  unfold lgRdO
  split
  · unfold lgRd
    split
    · rename_i e; rw [e] at h; simp at h
    · rfl
  · rfl
theorem lg_bad {t a0 a1 a2 a3 : ByteArray} {r : List ByteArray} (hw : wdL t = a0 :: a1 :: a2 :: a3 :: r) (h : lgW a0 a2 (4 + r.length) = false) : lgRdO t = none := by
  unfold lgRdO
  split
  · rw [hw]
    show (if lgW a0 a2 (4 + r.length) = true then _ else none) = none
    rw [if_neg (by rw [h]; decide)]
  · rfl
theorem lg_good {t a0 a1 a2 a3 : ByteArray} {r : List ByteArray} (hb : (!wdB t) = false) (hw : wdL t = a0 :: a1 :: a2 :: a3 :: r) (h : lgW a0 a2 (4 + r.length) = true) : lgRdO t = some ⟨numV a0, a1, a3, kixV a2, r.headD ⟨#[]⟩⟩ := by
  unfold lgRdO
  rw [if_pos (by simpa using hb), hw]
  show (if lgW a0 a2 (4 + r.length) = true then _ else none) = _
  rw [if_pos h]
theorem nd_lt : ∀ (k u : Nat), (Lib.decDigits u).length ≤ k + 1 → u < 10 ^ (k + 1)
  | 0, u, h => by
    by_cases h1 : u < 10
    · simpa using h1
    · rw [Lib.decDigits_length, Lib.nDigits_big h1] at h
      have h2 : (Lib.decDigits (u / 10)).length = Lib.nDigits (u / 10) := Lib.decDigits_length _
      have h3 : Lib.decDigits (u / 10) ≠ [] := (dec_dig _).2
      have h4 : (Lib.decDigits (u / 10)).length ≠ 0 := fun e => h3 (List.eq_nil_of_length_eq_zero e)
      omega
  | k + 1, u, h => by
    by_cases h1 : u < 10
    · have h9 : 0 < 10 ^ (k + 1) := Nat.pow_pos (by decide)
      rw [Nat.pow_succ]; omega
    · rw [Lib.decDigits_length, Lib.nDigits_big h1] at h
      have h2 := nd_lt k (u / 10) (by rw [Lib.decDigits_length]; omega)
      rw [Nat.div_lt_iff_lt_mul (by decide)] at h2
      rw [Nat.pow_succ]; exact h2
theorem numV_bd {s : ByteArray} (h : numB s = true) : -1000000000 ≤ numV s ∧ numV s ≤ 1000000000 := by
  unfold numB at h
  unfold numV
  split at h
  · rename_i v hv
    show -1000000000 ≤ v ∧ v ≤ 1000000000
    simp only [Bool.and_eq_true, decide_eq_true_eq] at h
    obtain ⟨h1, h2⟩ := h
    have h1 : Lib.itoa v = s.data.toList := by simpa using h1
    rw [← h1] at h2
    unfold Lib.itoa at h2
    split at h2
    · have h3 : Lib.trimPrefix (45 :: Lib.decDigits v.natAbs) [45] = Lib.decDigits v.natAbs := rfl
      rw [h3] at h2
      have := nd_lt 8 _ h2
      omega
    · have h4 : (Lib.decDigits v.toNat).length ≤ 9 := by
        have h5 : Lib.trimPrefix (Lib.decDigits v.toNat) [45] = Lib.decDigits v.toNat := by
          cases hd : Lib.decDigits v.toNat with
          | nil => rfl
          | cons c r =>
            have h6 := (dec_dig v.toNat).1
            rw [hd, List.all_cons, Bool.and_eq_true] at h6
            have h7 : (c == 45) = false := by
              cases hc : c == 45 with
              | false => rfl
              | true =>
                have : c = 45 := by simpa using hc
                subst this
                exact absurd h6.1 (by decide)
            have h8 : Lib.hasPrefix (c :: r) [45] = false := by
              show ((45 : UInt8) == c && List.isPrefixOf [] r) = false
              rw [show ((45 : UInt8) == c) = (c == 45) from by rw [Bool.eq_iff_iff]; simp only [beq_iff_eq]; exact eq_comm, h7]; rfl
            unfold Lib.trimPrefix
            rw [h8]; rfl
        rw [h5] at h2; exact h2
      have := nd_lt 8 _ h4
      omega
  · cases h
  · cases h
theorem lgRd_ok {t : ByteArray} (ht : t.size ≤ 1000000) {x : Ev} (h : lgRdO t = some x) : EvOk x := by
  have hz := wdL_sz t
  unfold lgRdO at h
  split at h
  · generalize wdL t = l at h hz
    unfold lgRd at h
    split at h
    · rename_i a0 a1 a2 a3 r
      split at h
      · rename_i hW
        obtain rfl := (Option.some.inj h)
        unfold lgW at hW
        simp only [Bool.and_eq_true] at hW
        have hn := numV_bd hW.1.1
        have hk := kix_bd a2
        refine ⟨by dsimp only; omega, by dsimp only; omega, Nat.le_trans (hz a1 (by simp)) ht, Nat.le_trans (hz a3 (by simp)) ht, ?_⟩
        cases r with
        | nil => exact Nat.zero_le _
        | cons b q => exact Nat.le_trans (hz b (by simp)) ht
      · cases h
    · cases h
  · cases h
theorem lgRdA_len (t : ByteArray) (acc : List Ev) : (lgRdA t acc).length ≤ acc.length + 1 := by
  unfold lgRdA
  rw [List.length_append]
  cases lgRdO t <;> simp
theorem lgOwn_n {w : World} {base n : Nat} {e : TypeId} {v : Value} {l : List Ev} (h : w.ownsRow base e 5 v n (l.flatMap evEnc)) : n = l.length := by
  have h1 : (l.flatMap evEnc).length = n * 5 := h.1
  rw [flat_len evEnc 5 ev_len] at h1
  omega
theorem lgStep_ok (t : ByteArray) (acc : List Ev) (ht : t.size ≤ 200000) (h : ∀ b ∈ acc, EvOk b) : (∀ b ∈ (lgStep t acc).1, EvOk b) ∧ (lgStep t acc).1.length ≤ acc.length + 1 := by
  refine ⟨fun b hb => ?_, lgRdA_len t acc⟩
  have hb : b ∈ lgRdA t acc := hb
  unfold lgRdA at hb
  rcases List.mem_append.1 hb with hb | hb
  · exact h b hb
  · cases ho : lgRdO t with
    | none => rw [ho] at hb; cases hb
    | some x =>
      rw [ho, Option.toList_some, List.mem_singleton] at hb
      rw [hb]; exact lgRd_ok (by omega) ho
def lgR (t : ByteArray) : Int × Bool × List Ev := linesR lgStep [] t
theorem lgR_all {t : ByteArray} (ht : t.size ≤ 200000) : (∀ b ∈ (lgR t).2.2, EvOk b) ∧ (lgR t).2.2.length ≤ t.size := by
  have h := linesR_all (Q := fun l => ∀ b ∈ l, EvOk b) (ms := List.length) (M := 200000) lgStep_ok ht (st := []) (fun _ hb => by cases hb)
  exact ⟨h.1, by have := h.2; rw [List.length_nil, Nat.zero_add] at this; exact this⟩
/-- What a text is read as, the fleet being right: the error, the line, the events. -/
def lgE (sl : List St) (vl : List Vh) (t : ByteArray) : Int := if 200000 < t.size then 2 else if (lgR t).2.1 = false then 9 else logE sl vl (lgR t).2.2
def lgAt (t : ByteArray) : Int := if 200000 < t.size then 0 else if (lgR t).2.1 = false then (lgR t).1 else 0
def lgL (sl : List St) (vl : List Vh) (t : ByteArray) : List Ev := if 200000 < t.size then [] else if (lgR t).2.1 = false then [] else if logE sl vl (lgR t).2.2 = 0 then (lgR t).2.2 else []
section
variable {sl : List St} {vl : List Vh} {t : ByteArray}
theorem lg_big (h : 200000 < t.size) : lgE sl vl t = 2 ∧ lgAt t = 0 ∧ lgL sl vl t = [] := by unfold lgE lgAt lgL; simp [h]
theorem lg_syn (h : ¬ 200000 < t.size) (h2 : (lgR t).2.1 = false) : lgE sl vl t = 9 ∧ lgAt t = (lgR t).1 ∧ lgL sl vl t = [] := by unfold lgE lgAt lgL; simp [h, h2]
theorem lg_form (h : ¬ 200000 < t.size) (h2 : (lgR t).2.1 = true) (h3 : ¬ logE sl vl (lgR t).2.2 = 0) : lgE sl vl t = logE sl vl (lgR t).2.2 ∧ lgAt t = 0 ∧ lgL sl vl t = [] := by unfold lgE lgAt lgL; simp [h, h2, h3]
theorem lg_right (h : ¬ 200000 < t.size) (h2 : (lgR t).2.1 = true) (h3 : logE sl vl (lgR t).2.2 = 0) : lgE sl vl t = 0 ∧ lgAt t = 0 ∧ lgL sl vl t = (lgR t).2.2 := by unfold lgE lgAt lgL; simp [h, h2, h3]
theorem lgL_len (ht : t.size ≤ 200000) : (lgL sl vl t).length ≤ t.size := by
  have h := (lgR_all ht).2
  unfold lgL
  split
  · exact Nat.zero_le _
  · split
    · exact Nat.zero_le _
    · split
      · exact h
      · exact Nat.zero_le _
end
def lgReadK (sl : List St) (vl : List Vh) (t : ByteArray) (w : World) (e : Ending) (w' : World) : Prop := ∃ A n c, e = .returned (.tuple #[.slice A n c, .int .i64 (lgAt t), .int .i64 (lgE sl vl t)]) ∧ SlT evEnc 5 54 w' A n (lgL sl vl t) ∧ w.grownBy w' none
theorem lgReadK.nil {sl : List St} {vl : List Vh} {t : ByteArray} {w w' : World} {N E : Int} (h : lgE sl vl t = E ∧ lgAt t = N ∧ lgL sl vl t = []) (hg : w.grownBy w' none) : lgReadK sl vl t w (.returned (.tuple #[.slice none 0 0, .int .i64 N, .int .i64 E])) w' :=
  ⟨none, 0, 0, by rw [h.1, h.2.1], by rw [h.2.2]; exact SlT.nil_ w' none, hg⟩
end Go.Proofs.YtnpcbfllnkiopaaGreatDoor
namespace Go.Proofs.YtnpcbfllnkiopaaGreatDoor
open Go.RowKit Go.Shelf
theorem tys_ne {L : List (Nat × TypeId × List Value)} {e : TypeId} (h : (L.all fun x => x.2.1 != e) = true) : ∀ x ∈ L, x.2.1 ≠ e := fun x hx he => by
  have h2 := List.all_eq_true.1 h x hx
  rw [he] at h2
  simp at h2
theorem own_cells {w : World} {base n sz : Nat} {e : TypeId} {v : Value} {xs : List Value} (h : w.ownsRow base e sz v n xs) {g : Nat} (hg : v.ownBlock = some g) : ∃ c fz, w.heap[g]? = some (.cells c e fz) := by
  rcases h.2 with ⟨rfl, _⟩ | ⟨g', cap, cur, rfl, _, hh, _⟩
  · cases hg
  · obtain rfl : g' = g := by
      have h2 : (Value.slice (some ⟨g', 0, none⟩) n cap).ownBlock = some g' := rfl
      rw [h2] at hg
      exact Option.some.inj hg
    exact ⟨_, _, hh⟩
section
variable {c : Cx} {K : World → Prop} {L : List (Nat × TypeId × List Value)} {O : List Own} {X X' : List (World → Prop)} {w w' : World} {T e : TypeId} {b : Nat} {p : Value} {bs cs0 : List Value}
/-- What is known behind a write: the builder's block and its row; the other blocks are as they were. -/
theorem Mem.builtK (hm : Mem c K L O X w) (i : Nat) (hi : L[i]? = some (b, T, cs0)) (hT : ∀ x ∈ L, x.2.1 ≠ e) (h : Lib.BuilderAt T e c.w0.heap.size b p bs w') (hb : Below c.w0.heap.size w w') (hk : Lib.OthersKept e (some b) w w') (hX : ∀ A ∈ X', OldF c.w0.heap.size A ∧ A ∈ X) :
    ∃ v, Mem c (fun _ => True) (L.set i (b, T, [p, v])) [⟨v, e, 1, bs.length, bs⟩] X' w' := by
  obtain ⟨hN, v, hh, ho, hne⟩ := h
  have hil := (List.getElem?_eq_some_iff.1 hi).1
  have hiv := (List.getElem?_eq_some_iff.1 hi).2
  have hin : ∀ x ∈ L.set i (b, T, [p, v]), x = (b, T, [p, v]) ∨ (x ∈ L ∧ x.1 ≠ b) := fun x hx => by
    obtain ⟨j, hj⟩ := List.getElem?_of_mem hx
    rw [List.getElem?_set] at hj
    by_cases hij : i = j
    · rw [if_pos hij, if_pos hil] at hj
      exact .inl (Option.some.inj hj).symm
    · rw [if_neg hij] at hj
      have hjl := (List.getElem?_eq_some_iff.1 hj).1
      have hjv := (List.getElem?_eq_some_iff.1 hj).2
      refine .inr ⟨List.mem_of_getElem? hj, fun he => ?_⟩
      have hp := List.pairwise_iff_getElem.1 hm.nd
      rcases Nat.lt_or_gt_of_ne hij with h1 | h1
      · exact hp i j hil hjl h1 (by rw [hiv, hjv]; exact he.symm)
      · exact hp j i hjl hil h1 (by rw [hiv, hjv]; exact he)
  have hblk : ∀ x ∈ L.set i (b, T, [p, v]), c.w0.heap.size ≤ x.1 ∧ Blk w' x.1 x.2.1 x.2.2 := fun x hx => by
    rcases hin x hx with rfl | ⟨hxL, hxb⟩
    · exact ⟨hN, hh⟩
    · have h1 := hm.b x hxL
      refine ⟨h1.1, ?_⟩
      have h2 : w.heap[x.1]? = some (.cells x.2.2.toArray x.2.1 (0, 0)) := h1.2
      exact hk x.1 _ h2 (fun e2 => hxb (Option.some.inj e2)) (fun c2 fz h3 => hT x hxL (by injection h3))
  have hty : ∀ x ∈ L.set i (b, T, [p, v]), x.2.1 ≠ e := fun x hx => by
    rcases hin x hx with rfl | ⟨hxL, _⟩
    · exact show T ≠ e from hT (b, T, cs0) (List.mem_of_getElem? hi)
    · exact hT x hxL
  refine ⟨v, hm.gB hb, trivial, hblk, ?_, fun r hr => ?_, fun r hr x hx e2 => ?_, List.pairwise_singleton _ _, fun A hA => (hX A hA).1 _ _ hb (hm.x A (hX A hA).2), Keeps.true_, fun A hA => hm.l A (hX A hA).2, hm.rs⟩
  · have h1 : (L.map (·.1)).Pairwise (fun a b => a ≠ b) := List.pairwise_map.2 hm.nd
    have h2 : (L.set i (b, T, [p, v])).map (·.1) = L.map (·.1) := by
      rw [List.map_set]
      apply List.ext_getElem?
      intro j
      rw [List.getElem?_set, List.length_map]
      by_cases hij : i = j
      · subst hij
        rw [if_pos rfl, if_pos hil, List.getElem?_map, hi]; rfl
      · rw [if_neg hij]
    rw [← h2] at h1
    exact List.pairwise_map.1 h1
  · rw [List.mem_singleton.1 hr]; exact ho
  · rw [List.mem_singleton.1 hr] at e2
    obtain ⟨c2, fz, h3⟩ := own_cells ho e2
    have h4 : w'.heap[x.1]? = some (.cells x.2.2.toArray x.2.1 (0, 0)) := (hblk x hx).2
    rw [h4] at h3
    refine hty x hx ?_
    have h5 := Option.some.inj h3
    injection h5
end
theorem Tryz.lays240x : Lays.n240 Tryz.prog Tryz.lays156_ren := { Tryz.lays166x with }
theorem copyCheckK (B b : Nat) (bs : List Value) (w : World) (h : Lib.IsBuilder 101 5 B b bs w) :
    Calls Tryz.prog 161 #[.pointer (some ⟨b, 0, none⟩)] w (fun e w' => e = .returned (.tuple #[]) ∧ Lib.BuilderAt 101 5 B b (.pointer (some ⟨b, 0, none⟩)) bs w' ∧ Below B w w' ∧ Lib.OthersKept 5 (some b) w w') := by
  rcases h with h | h
  · refine (Any.Builder_copyCheck_fresh Tryz.lays240x Tryz.Builder_Extra_156.toX72 b w h.cell0 h.shape h.frozen0).mono ?_
    rintro e w' ⟨rfl, rfl⟩
    exact ⟨rfl, h.used _, (Below.refl B w).setCell (p := ⟨b, 0, none⟩) h.1 _, (Lib.OthersKept.refl _ _ w).setCell ⟨b, 0, none⟩ rfl _⟩
  · refine (Any.Builder_copyCheck_used Tryz.lays240x Tryz.Builder_Extra_156.toX72 b w h.cell0).mono ?_
    rintro e w' ⟨rfl, rfl⟩
    exact ⟨rfl, h, Below.refl B _, Lib.OthersKept.refl _ _ _⟩
set_option maxHeartbeats 2000000 in
set_option maxRecDepth 100000 in
theorem writeStringK (B b : Nat) (bs : List Value) (s : ByteArray) (w : World) (h : Lib.IsBuilder 101 5 B b bs w) (hlen : bs.length + s.size ≤ 140737488355328) (hB : B ≤ w.heap.size) :
    Calls Tryz.prog 60 #[.pointer (some ⟨b, 0, none⟩), .string s] w (fun e w' => e = .returned (.tuple #[.int .i64 s.size, .nilIface]) ∧ Lib.BuilderAt 101 5 B b (.pointer (some ⟨b, 0, none⟩)) (bs ++ Lib.strCells s) w' ∧ Below B w w' ∧ Lib.OthersKept 5 (some b) w w') := by
  obtain ⟨i0, hi, hx0⟩ := Option.map_eq_some_iff.1 (Tryz.Builder_Extra_156).infoByte
  simp only [Prod.mk.injEq] at hx0
  obtain ⟨hz0, hz1, hz2⟩ := hx0
  have hcc := copyCheckK B b bs w h
  go_enter Tryz.func60, Tryz.ntmps60
  go_wp2_with fail
  refine hcc.mono ?_
  rintro e w1 ⟨rfl, h1, hb1, hk1⟩
  obtain ⟨hBb, v, hbk, hown, hne⟩ := h1
  have c0 : w1.cell? ⟨b, 0, none⟩ = some (.pointer (some ⟨b, 0, none⟩)) := by rw [Lib.cell_of_heap hbk]; rfl
  have c1 : w1.cell? ⟨b, 1, none⟩ = some v := by rw [Lib.cell_of_heap hbk]; rfl
  go_wp2_with (at_builtin; refine Lib.wpList_append_own_string _ rfl _ _ 99 9 rfl B 5 i0 Tryz.underlying99 Tryz.underlying9 hi hz0 hz1 hz2 _ _ _ rfl hown s rfl (by unfold maxLen; omega) (by omega) (by have := hb1.size; omega) ?_)
  intro v' w2 hown' hgrow _
  have hlt : b < w1.heap.size := (Array.getElem?_eq_some_iff.1 hbk).1
  have hb2 : w2.heap[b]? = some (.cells #[.pointer (some ⟨b, 0, none⟩), v] 101 (0, 0)) := by
    rw [hgrow.block b hlt (fun e => hne e.symm)]
    exact hbk
  have d0 : w2.cell? ⟨b, 0, none⟩ = some (.pointer (some ⟨b, 0, none⟩)) := by rw [Lib.cell_of_heap hb2]; rfl
  have d1 : w2.cell? ⟨b, 1, none⟩ = some v := by rw [Lib.cell_of_heap hb2]; rfl
  have f1 : w2.frozen? ⟨b, 1, none⟩ = false := Lib.frozen_of_heap hb2 1
  obtain ⟨ao, n', cap, rfl⟩ : ∃ ao n' cap, v' = .slice ao n' cap := by
    rcases hown'.2 with ⟨hv, _⟩ | ⟨g, cap, cur, hv, _⟩
    · exact ⟨_, _, _, hv⟩
    · exact ⟨_, _, _, hv⟩
  go_wp2_with fail
  go_ret2
  refine ⟨rfl, ?_, ?_, ?_⟩
  · exact Lib.BuilderAt.put (T := 101) (e := 5) hBb hb2 (bs' := bs ++ Lib.strCells s) (by simpa [Lib.strCells_length] using hown') (Tryz.Builder_Extra_156).neB5
  · exact (hb1.grown hgrow (by have := hb1.size; omega) (fun k hk => (hown.lt k hk).1)).setCell (p := ⟨b, 1, none⟩) hBb _
  · exact (hk1.grown hgrow (fun g hg => own_cells hown hg)).setCell ⟨b, 1, none⟩ rfl _
end Go.Proofs.YtnpcbfllnkiopaaGreatDoor
namespace Go.Proofs.YtnpcbfllnkiopaaGreatDoor
open Go.RowKit
theorem kinds_any (w : World) : Calls Tryz.prog 101 #[] w (fun e w' => ∃ g : Nat, e = .returned (.slice (some ⟨g, 0, none⟩) 9 9) ∧ SlT sgEnc 1 9 w' (some ⟨g, 0, none⟩) 9 kindsL ∧ w.grownBy w' none) := by
 refine gw_enter ⟨2, w, none, []⟩ Tryz.func101 rfl Tryz.ntmps101 rfl (mem0 (X := []) allF_nil allL_nil) ?_
 refine sr_ (sg_ rfl (nn_ (sr_ ?_)))
 refine wl_buildSlice (e := 9) (cs := [.string ⟨#[]⟩, .string ⟨#[101, 110, 116, 101, 114]⟩, .string ⟨#[111, 117, 116]⟩, .string ⟨#[98, 97, 99, 107]⟩, .string ⟨#[115, 104, 111, 112]⟩, .string ⟨#[100, 111, 110, 101]⟩, .string ⟨#[108, 101, 97, 118, 101]⟩, .string ⟨#[99, 111, 109, 101]⟩, .string ⟨#[103, 111, 110, 101]⟩]) rfl (by kernel_rfl) rfl fun g1 => ?_
 refine sg_ rfl (nn_ ?_)
 refine gw_ret ?_
 refine nx_ret1 rfl rfl fun wx hm => ?_
 exact ⟨_, rfl, SlT.ofBlk (l := kindsL) sg_len (hm.blkI 0 rfl), hm.g⟩
theorem evWords_any (w : World) : Calls Tryz.prog 103 #[] w (fun e w' => ∃ g : Nat, e = .returned (.slice (some ⟨g, 0, none⟩) 9 9) ∧ SlT sgEnc 1 9 w' (some ⟨g, 0, none⟩) 9 kindsL ∧ w.grownBy w' none) := by
 refine gw_enter ⟨2, w, none, []⟩ Tryz.func103 rfl Tryz.ntmps103 rfl (mem0 (X := []) allF_nil allL_nil) ?_
 refine sr_ (sg_ rfl (nn_ (sr_ ?_)))
 refine wl_buildSlice (e := 9) (cs := [.string ⟨#[]⟩, .string ⟨#[101, 110, 116, 101, 114]⟩, .string ⟨#[111, 117, 116]⟩, .string ⟨#[98, 97, 99, 107]⟩, .string ⟨#[115, 104, 111, 112]⟩, .string ⟨#[100, 111, 110, 101]⟩, .string ⟨#[108, 101, 97, 118, 101]⟩, .string ⟨#[99, 111, 109, 101]⟩, .string ⟨#[103, 111, 110, 101]⟩]) rfl (by kernel_rfl) rfl fun g1 => ?_
 refine sg_ rfl (nn_ ?_)
 refine gw_ret ?_
 refine nx_ret1 rfl rfl fun wx hm => ?_
 exact ⟨_, rfl, SlT.ofBlk (l := kindsL) sg_len (hm.blkI 0 rfl), hm.g⟩
theorem lgLines_any (l : List Ev) (A : Option Addr) (n c : Nat) (w : World) (ht : TxtW w) (hl : SlT evEnc 5 54 w A n l) (hB : ∀ x ∈ l, EvB x) (hn : n ≤ 10) :
  Calls Tryz.prog 33 #[.slice A n c] w (fun e w' => e = .returned (.string (lgTx l)) ∧ w.grownBy w' none) := by
 refine gw_enter ⟨40, w, none, [9]⟩ Tryz.func33 rfl Tryz.ntmps33 rfl (mem0 (X := [SlOld evEnc 5 54 w.heap.size none A n l, TxtO w.heap.size none]) (allF_cons hl.old (allF_cons ht.old allF_nil)) (allL_cons SlOld.lasts (allL_cons TxtO.lasts allL_nil))) ?_
 refine sr_ ?_
 have hlen := hl.len
 refine sg_ rfl (nn_ (sr_ (sg_ rfl (nn_ (gw_seq (sr_ (mv_ rfl (wl_ov (ov_len es47 rfl) rfl (mv_ rfl ?_)))))))))
 refine nn_ (gw_block ?_)
 refine gw_loop (γ := Nat) (fun (i : Nat) => i ≤ n) (fun (i : Nat) => [(2, .string ⟨#[]⟩), (3, .string (lgTx (l.take i))), (6, .slice A n c), (7, .int .i64 ((n : Nat) : Int)), (8, .int .i64 ((i : Nat) : Int))]) (fun (i : Nat) => fun _ => True) (fun (i : Nat) => []) (fun (i : Nat) => []) (fun (i : Nat) => [SlOld evEnc 5 54 w.heap.size none A n l, TxtO w.heap.size none]) (fun (i : Nat) => n - i) 0 (Nat.zero_le _) ⟨rfl, rfl, rfl, rfl, rfl, trivial⟩ (fun _ hm => hm.pick [] [] [0, 1] rfl rfl) ?_
 intro i hinv
 replace hinv : i ≤ n := hinv
 refine sr_ ?_
 have hi0 := hinv
 refine wl_ov (ov_lss rfl rfl) rfl (nn_ (gw_seq ?_))
 refine gw_cond rfl (fun hh => ?_) (fun hh => ?_)
 ·have hi : ((i : Nat) : Int) < ((n : Nat) : Int) := by simpa using hh
  clear hh
  refine gw_skip (nx_then (gw_seq (gw_block (sr_ ?_))))
  obtain ⟨b, off, hA, _, _⟩ := hl.get (by omega)
  subst hA
  obtain ⟨x, hx⟩ : ∃ x, l[i]? = some x := ⟨_, List.getElem?_eq_getElem (by omega)⟩
  have hxB := hB _ (List.mem_of_getElem? hx)
  obtain ⟨x0, x1, x2, x3, x4⟩ := x
  obtain ⟨s1, s2, s4, h0, hkd⟩ := id hxB
  dsimp only at s1 s2 s4 h0 hkd
  obtain ⟨q, rfl⟩ := Int.eq_ofNat_of_zero_le (show 0 ≤ x3 by omega)
  have hkq : kindsL[q]? = some (kindW ((q : Nat) : Int)) := by
   have h := kinds_at hkd
   rwa [Int.toNat_natCast] at h
  have hat := lgTx_at hx
  have hJ := lgJ_sz hxB
  have hts := lgTx_sz (lg_take hB i)
  have htl : (l.take i).length ≤ 10 := by rw [List.length_take]; omega
  have h10 : (⟨#[10]⟩ : ByteArray).size = 1 := rfl
  have h32 : (⟨#[32]⟩ : ByteArray).size = 1 := rfl
  refine wl_ov (ov_index (j := i) es47 rfl rfl (by omega)) rfl ?_
  refine wl_ov (ov_elem (vs := [.int .i64 x0, .string x1, .string x2, .int .i64 ((q : Nat) : Int), .string x4]) rz54 rfl (fun _ hm => (hm.fact 0 rfl).1) hx rfl rfl) rfl ?_
  refine wl_alloc zc54 rfl fun g1 => ?_
  refine wl_stores (cs' := [.int .i64 x0, .string x1, .string x2, .int .i64 ((q : Nat) : Int), .string x4]) 0 rz54 rfl rfl rfl rfl rfl rfl rfl rfl ?_
  refine nn_ (gw_seq ?_)
  refine gd (fun wz => Blk wz g1 54 [.int .i64 x0, .string x1, .string x2, .int .i64 ((q : Nat) : Int), .string x4] ∧ (SlOld evEnc 5 54 w.heap.size none (some ⟨b, off, none⟩) n l) wz ∧ (TxtO w.heap.size none) wz ∧ True) mixed (fun _ hm => ⟨hm.bl 0, hm.fa 0, hm.fa 1, trivial⟩) fun z => ?_
  refine wt 0 17 1 rfl z (ov_move rfl) ?_
  refine wt 1 17 3 rfl z (ov_field fo54_0 rfl rfl) ?_
  refine wt 2 17 7 rfl z (ov_load sc3 rfl (fun _ hm => hm.1) rfl) ?_
  refine wt 4 17 23 rfl z (ov_field fo54_1 rfl rfl) ?_
  refine wt 5 17 55 rfl z (ov_load sc9 rfl (fun _ hm => hm.1) rfl) ?_
  refine wt 7 17 183 rfl z (ov_field fo54_3 rfl rfl) ?_
  refine wt 8 17 439 rfl z (ov_load sc3 rfl (fun _ hm => hm.1) rfl) ?_
  refine wt 11 17 2487 rfl z (ov_field fo54_2 rfl rfl) ?_
  refine wt 12 17 6583 rfl z (ov_load sc9 rfl (fun _ hm => hm.1) rfl) ?_
  refine wa1 3 rfl ?_
  refine wl_callv rfl cb89 rfl rfl (fun wx hm => (itoa_any x0 wx (hm.fact 1 rfl).1 (by omega) (by omega))) ?_
  refine wl_nil ?_
  refine nw 17 6591 (fun _ hm => ⟨hm.bl 0, hm.fa 0, hm.fa 1, trivial⟩) fun z => ?_
  refine wa1 6 rfl ?_
  refine wl_callx (γ := Nat) (val := (fun g => .slice (some ⟨g, 0, none⟩) 9 9)) (φ := (fun g => True)) (Y := (fun g => fun wy => SlT sgEnc 1 9 wy (some ⟨g, 0, none⟩) 9 kindsL)) rfl cb103 rfl rfl (fun wx hm => (evWords_any wx).mono fun _ _ ⟨g, he, h1, hg⟩ => ⟨g, he, trivial, hg, h1⟩) (fun _ => SlT.lasts2 rfl) ?_
  rintro gw hphi
  clear hphi
  refine wl_nil ?_
  refine nw 17 6655 (fun _ hm => ⟨hm.bl 0, hm.fa 1, hm.fa 2, trivial⟩) fun z => ?_
  refine wt 9 17 7167 rfl z (ov_index (j := q) es112 rfl rfl (by omega)) ?_
  refine wa1 10 rfl ?_
  refine wl_ov (ov_elem1 (k := 0) (v := .string (kindW ((q : Nat) : Int))) sc9 rfl (fun _ hm => (hm.fact 0 rfl)) hkq rfl rfl) rfl ?_
  refine wl_nil ?_
  refine nw 17 8191 (fun _ hm => ⟨hm.bl 0, hm.fa 1, hm.fa 2, trivial⟩) fun z => ?_
  refine wa1 13 rfl ?_
  refine wl_buildSlice (e := 9) (cs := [.string (itoaS x0), .string x1, .string (kindW ((q : Nat) : Int)), .string x2]) rfl (by kernel_rfl) rfl fun g2 => ?_
  refine wl_nil ?_
  refine nw 17 16383 (fun _ hm => ⟨hm.bl 1, hm.fa 1, hm.fa 2, trivial⟩) fun z => ?_
  refine wa1 14 rfl ?_
  refine wl_callv (v := .string (lgJ (⟨x0, x1, x2, ((q : Nat) : Int), x4⟩ : Ev))) rfl cb102 rfl rfl (fun wx hm => (by have h := joinS_any (lgParts (⟨x0, x1, x2, ((q : Nat) : Int), x4⟩ : Ev)) ⟨#[32]⟩ (some ⟨g2, 0, none⟩) 4 4 wx (SlT.ofBlk (l := lgParts (⟨x0, x1, x2, ((q : Nat) : Int), x4⟩ : Ev)) sg_len (hm.blkI 0 rfl)) (by omega) (by omega) (by omega) (fun y hy => by have := lgParts_sz hxB y hy; omega) (by decide); exact h)) ?_
  refine wl_nil ?_
  refine nw 17 32767 (fun _ hm => ⟨hm.bl 1, hm.fa 1, hm.fa 2, trivial⟩) fun z => ?_
  refine wt 15 17 65535 rfl z (ov_sadd rfl rfl (by (try simp only [ByteArray.size_append]); omega)) ?_
  refine wt 16 17 131071 rfl z (ov_assign rfl) ?_
  refine wa_done (by kernel_rfl) ?_
  refine nx_then (gw_seq (sr_ (fd_ fo54_3 rfl rfl (lk_ sc3 1 rfl rfl rfl (wl_ov (ov_eql rfl rfl) rfl (nn_ ?_))))))
  refine gw_cond rfl (fun hh => ?_) (fun hh => ?_)
  ·have h6 : ((q : Nat) : Int) = 6 := by simpa using hh
   clear hh
   refine gw_region (mv_ rfl (fd_ fo54_4 rfl rfl (lk_ sc9 1 rfl rfl rfl ?_)))
   refine wl_ov (ov_sadd rfl rfl (by (try simp only [ByteArray.size_append]); omega)) rfl ?_
   refine wl_ov (ov_sadd rfl rfl (by (try simp only [ByteArray.size_append]); omega)) rfl ?_
   refine sg_ rfl (nn_ (gw_region (mv_ rfl ?_)))
   refine wl_ov (ov_sadd rfl rfl (by (try simp only [ByteArray.size_append]); omega)) rfl ?_
   refine sg_ rfl (wl_nil (nx_blk_nrm (nx_then (gw_region (ad_ rfl rfl (mv_ rfl (wl_nil ?_)))))))
   exact nx_round (i + 1) (by omega) (by omega) ⟨rfl, (congrArg (fun z => some (Value.string z)) (by rw [hat, lgLn_six (x := (⟨x0, x1, x2, ((q : Nat) : Int), x4⟩ : Ev)) h6]; simp only [ba_assoc])), rfl, rfl, (some_int (by omega)), trivial⟩ (fun _ hm => hm.pick [] [] [1, 2] rfl rfl)
  have h6 : ¬ (((q : Nat) : Int) = 6) := by simpa using hh
  clear hh
  refine gw_skip (nx_then (gw_region (mv_ rfl ?_)))
  refine wl_ov (ov_sadd rfl rfl (by (try simp only [ByteArray.size_append]); omega)) rfl ?_
  refine sg_ rfl (wl_nil (nx_blk_nrm (nx_then (gw_region (ad_ rfl rfl (mv_ rfl (wl_nil ?_)))))))
  exact nx_round (i + 1) (by omega) (by omega) ⟨rfl, (congrArg (fun z => some (Value.string z)) (by rw [hat, lgLn_go (x := (⟨x0, x1, x2, ((q : Nat) : Int), x4⟩ : Ev)) h6]; simp only [ba_assoc])), rfl, rfl, (some_int (by omega)), trivial⟩ (fun _ hm => hm.pick [] [] [1, 2] rfl rfl)
 have hi : ¬ (((i : Nat) : Int) < ((n : Nat) : Int)) := by simpa using hh
 clear hh
 refine gw_exit ?_
 refine nx_then_exit (nx_then_exit ?_)
 refine nx_blk_here ?_
 refine nx_then (sr_ ?_)
 have hlt : l.take i = l := List.take_of_length_le (by omega)
 rw [hlt]
 refine mv_ rfl (sg_ rfl (nn_ ?_))
 refine gw_ret ?_
 refine nx_ret1 rfl rfl fun wx hm => ?_
 exact ⟨rfl, hm.g⟩
theorem lgText_bad (sl : List St) (cl : List Cs) (vl : List Vh) (pl : List Pl) (sA cA vA pA : Option Addr) (sn sc cn cc vn vc pn pc : Nat) (l : List Ev) (A : Option Addr) (n c : Nat) (w : World) (hs : SlT stEnc 15 168 w sA sn sl) (hc : SlT csEnc 2 170 w cA cn cl) (hv : SlT vhEnc 2 158 w vA vn vl) (hp : SlT plEnc 3 161 w pA pn pl) (hsok : ∀ x ∈ sl, StOk x) (hcok : ∀ x ∈ cl, CsOk x) (hvok : ∀ x ∈ vl, VhOk x) (hpok : ∀ x ∈ pl, PlOk x) (hsn : sn ≤ 1000) (hcn : cn ≤ 1000) (hvn : vn ≤ 1000) (hpn : pn ≤ 1000) (hl : SlT evEnc 5 54 w A n l) (hok : ∀ x ∈ l, EvOk x) (hn : n ≤ 10) (h0 : evsE sl cl vl pl l ≠ 0) :
  Calls Tryz.prog 32 #[.agg #[.slice sA sn sc, .slice cA cn cc, .slice vA vn vc, .slice pA pn pc], .slice A n c] w (fun e w' => e = .returned (.tuple #[.string ⟨#[]⟩, .int .i64 (evsE sl cl vl pl l)]) ∧ w.grownBy w' none) := by
 refine gw_enter ⟨53, w, none, []⟩ Tryz.func32 rfl Tryz.ntmps32 rfl (mem0 (X := [SlOld stEnc 15 168 w.heap.size none sA sn sl, SlOld csEnc 2 170 w.heap.size none cA cn cl, SlOld vhEnc 2 158 w.heap.size none vA vn vl, SlOld plEnc 3 161 w.heap.size none pA pn pl, SlOld evEnc 5 54 w.heap.size none A n l]) (allF_cons hs.old (allF_cons hc.old (allF_cons hv.old (allF_cons hp.old (allF_cons hl.old allF_nil))))) (allL_cons SlOld.lasts (allL_cons SlOld.lasts (allL_cons SlOld.lasts (allL_cons SlOld.lasts (allL_cons SlOld.lasts allL_nil)))))) ?_
 refine sr_ ?_
 obtain ⟨FE, hFE⟩ : ∃ z, z = evsE sl cl vl pl l := ⟨_, rfl⟩
 rw [← hFE] at h0 ⊢
 refine wl_box rfl rfl rfl fun g1 => ?_
 refine sg_ rfl (sg_ rfl (nn_ (gw_seq (sr_ ?_))))
 refine wl_ov (ov_loads rz66 rfl (fun _ hm => hm.blkI 0 rfl) rfl rfl) rfl ?_
 refine mv_ rfl ?_
 refine wl_callv (v := .int .i64 FE) rfl cb100 rfl rfl (fun wx hm => (by rw [hFE]; exact check2_any sl cl vl pl sA cA vA pA sn sc cn cc vn vc pn pc l A n c wx (hm.fact 0 rfl).1 (hm.fact 1 rfl).1 (hm.fact 2 rfl).1 (hm.fact 3 rfl).1 hsok hcok hvok hpok hsn hcn hvn hpn (hm.fact 4 rfl).1 hok (by omega))) ?_
 refine sg_ rfl (nn_ (sr_ (mv_ rfl (wl_ov (ov_neq rfl rfl) rfl (nn_ ?_)))))
 refine gw_cond rfl (fun hh => ?_) (fun hh => ?_)
 ·have h1 : ¬ (FE = 0) := by simpa using hh
  clear hh
  refine sr_ (mv_ rfl (sg_ rfl (sg_ rfl (nn_ ?_))))
  refine gw_ret ?_
  refine nx_then_ret ?_
  refine nx_ret2 rfl rfl rfl fun wx hm => ?_
  exact ⟨rfl, hm.g⟩
 have h1 : FE = 0 := by simpa using hh
 clear hh
 refine gw_skip (nx_then (sr_ ?_))
 exact absurd (by simpa using h1) h0
theorem lgText_right (sl : List St) (cl : List Cs) (vl : List Vh) (pl : List Pl) (sA cA vA pA : Option Addr) (sn sc cn cc vn vc pn pc : Nat) (l : List Ev) (A : Option Addr) (n c : Nat) (w : World) (hs : SlT stEnc 15 168 w sA sn sl) (hc : SlT csEnc 2 170 w cA cn cl) (hv : SlT vhEnc 2 158 w vA vn vl) (hp : SlT plEnc 3 161 w pA pn pl) (hsok : ∀ x ∈ sl, StOk x) (hcok : ∀ x ∈ cl, CsOk x) (hvok : ∀ x ∈ vl, VhOk x) (hpok : ∀ x ∈ pl, PlOk x) (hsn : sn ≤ 1000) (hcn : cn ≤ 1000) (hvn : vn ≤ 1000) (hpn : pn ≤ 1000) (hl : SlT evEnc 5 54 w A n l) (hok : ∀ x ∈ l, EvOk x) (hn : n ≤ 10) (ht : TxtW w) (h0 : evsE sl cl vl pl l = 0) :
  Calls Tryz.prog 32 #[.agg #[.slice sA sn sc, .slice cA cn cc, .slice vA vn vc, .slice pA pn pc], .slice A n c] w (fun e w' => e = .returned (.tuple #[.string (lgTx l), .int .i64 0]) ∧ w.grownBy w' none) := by
 refine gw_enter ⟨53, w, none, [9]⟩ Tryz.func32 rfl Tryz.ntmps32 rfl (mem0 (X := [SlOld stEnc 15 168 w.heap.size none sA sn sl, SlOld csEnc 2 170 w.heap.size none cA cn cl, SlOld vhEnc 2 158 w.heap.size none vA vn vl, SlOld plEnc 3 161 w.heap.size none pA pn pl, SlOld evEnc 5 54 w.heap.size none A n l, TxtO w.heap.size none]) (allF_cons hs.old (allF_cons hc.old (allF_cons hv.old (allF_cons hp.old (allF_cons hl.old (allF_cons ht.old allF_nil)))))) (allL_cons SlOld.lasts (allL_cons SlOld.lasts (allL_cons SlOld.lasts (allL_cons SlOld.lasts (allL_cons SlOld.lasts (allL_cons TxtO.lasts allL_nil))))))) ?_
 refine sr_ ?_
 have hlen := hl.len
 have hB := evB_of h0
 obtain ⟨FE, hFE⟩ : ∃ z, z = evsE sl cl vl pl l := ⟨_, rfl⟩
 have hF0 : FE = 0 := hFE.trans h0
 refine wl_box rfl rfl rfl fun g1 => ?_
 refine sg_ rfl (sg_ rfl (nn_ (gw_seq (sr_ ?_))))
 refine wl_ov (ov_loads rz66 rfl (fun _ hm => hm.blkI 0 rfl) rfl rfl) rfl ?_
 refine mv_ rfl ?_
 refine wl_callv (v := .int .i64 FE) rfl cb100 rfl rfl (fun wx hm => (by rw [hFE]; exact check2_any sl cl vl pl sA cA vA pA sn sc cn cc vn vc pn pc l A n c wx (hm.fact 0 rfl).1 (hm.fact 1 rfl).1 (hm.fact 2 rfl).1 (hm.fact 3 rfl).1 hsok hcok hvok hpok hsn hcn hvn hpn (hm.fact 4 rfl).1 hok (by omega))) ?_
 refine sg_ rfl (nn_ (sr_ (mv_ rfl (wl_ov (ov_neq rfl rfl) rfl (nn_ ?_)))))
 refine gw_cond rfl (fun hh => ?_) (fun hh => ?_)
 ·have h1 : ¬ (FE = 0) := by simpa using hh
  clear hh
  refine sr_ ?_
  exact absurd hF0 (by simpa using h1)
 have h1 : FE = 0 := by simpa using hh
 clear hh
 refine gw_skip (nx_then (sr_ ?_))
 refine wl_alloc zc101 rfl fun g2 => ?_
 refine nn_ (gw_seq (sr_ (mv_ rfl (wl_ov (ov_len es47 rfl) rfl (mv_ rfl (nn_ (gw_block ?_)))))))
 refine gw_nilOwn 5 1 ?_
 refine gw_loop (γ := Nat × Value × Value) (fun (gz : Nat × Value × Value) => gz.1 ≤ n ∧ (gz.2.1 = .pointer none ∨ gz.2.1 = .pointer (some ⟨g2, 0, none⟩))) (fun (gz : Nat × Value × Value) => [(4, .string ⟨#[]⟩), (5, .int .i64 0), (7, .pointer (some ⟨g2, 0, none⟩)), (16, .slice A n c), (17, .int .i64 ((n : Nat) : Int)), (18, .int .i64 ((gz.1 : Nat) : Int))]) (fun (gz : Nat × Value × Value) => fun _ => True) (fun (gz : Nat × Value × Value) => [(g2, 101, [gz.2.1, gz.2.2])]) (fun (gz : Nat × Value × Value) => [⟨gz.2.2, 5, 1, (Lib.byteCells (lgTxL (l.take gz.1))).length, (Lib.byteCells (lgTxL (l.take gz.1)))⟩]) (fun (gz : Nat × Value × Value) => [SlOld stEnc 15 168 w.heap.size none sA sn sl, SlOld csEnc 2 170 w.heap.size none cA cn cl, SlOld vhEnc 2 158 w.heap.size none vA vn vl, SlOld plEnc 3 161 w.heap.size none pA pn pl, SlOld evEnc 5 54 w.heap.size none A n l, TxtO w.heap.size none]) (fun (gz : Nat × Value × Value) => n - gz.1) (0, .pointer none, .slice none 0 0) ⟨Nat.zero_le _, .inl rfl⟩ ⟨rfl, rfl, rfl, rfl, rfl, rfl, trivial⟩ (fun _ hm => hm.pick [0] [0] [0, 1, 2, 3, 4, 5] rfl rfl) ?_
 rintro ⟨i, p, v⟩ hinv
 replace hinv : i ≤ n ∧ (p = .pointer none ∨ p = .pointer (some ⟨g2, 0, none⟩)) := hinv
 dsimp only
 refine sr_ ?_
 obtain ⟨hi0, hp⟩ := hinv
 refine wl_ov (ov_lss rfl rfl) rfl (nn_ (gw_seq ?_))
 refine gw_cond rfl (fun hh => ?_) (fun hh => ?_)
 ·have hi : ((i : Nat) : Int) < ((n : Nat) : Int) := by simpa using hh
  clear hh
  refine gw_skip (nx_then (gw_seq (gw_block (sr_ ?_))))
  obtain ⟨b, off, hA, _, _⟩ := hl.get (by omega)
  subst hA
  obtain ⟨x, hx⟩ : ∃ x, l[i]? = some x := ⟨_, List.getElem?_eq_getElem (by omega)⟩
  have hxB := hB _ (List.mem_of_getElem? hx)
  obtain ⟨x0, x1, x2, x3, x4⟩ := x
  obtain ⟨s1, s2, s4, h0, hkd⟩ := id hxB
  dsimp only at s1 s2 s4 h0 hkd
  obtain ⟨q, rfl⟩ := Int.eq_ofNat_of_zero_le (show 0 ≤ x3 by omega)
  have hkq : kindsL[q]? = some (kindW ((q : Nat) : Int)) := by
   have h := kinds_at hkd
   rwa [Int.toNat_natCast] at h
  have hat := lgTx_at hx
  have hJ := lgJ_sz hxB
  have hts := lgTx_sz (lg_take hB i)
  have htl : (l.take i).length ≤ 10 := by rw [List.length_take]; omega
  have h10 : (⟨#[10]⟩ : ByteArray).size = 1 := rfl
  have h32 : (⟨#[32]⟩ : ByteArray).size = 1 := rfl
  have hatL := lgTxL_at hx
  have htl2 := lgTxL_len (lg_take hB i)
  refine wl_ov (ov_index (j := i) es47 rfl rfl (by omega)) rfl ?_
  refine wl_ov (ov_elem (vs := [.int .i64 x0, .string x1, .string x2, .int .i64 ((q : Nat) : Int), .string x4]) rz54 rfl (fun _ hm => (hm.fact 4 rfl).1) hx rfl rfl) rfl ?_
  refine wl_alloc zc54 rfl fun g3 => ?_
  refine wl_stores (cs' := [.int .i64 x0, .string x1, .string x2, .int .i64 ((q : Nat) : Int), .string x4]) 0 rz54 rfl rfl rfl rfl rfl rfl rfl rfl ?_
  refine nn_ (gw_seq ?_)
  refine gd (fun wz => Blk wz g3 54 [.int .i64 x0, .string x1, .string x2, .int .i64 ((q : Nat) : Int), .string x4] ∧ (SlOld stEnc 15 168 w.heap.size none sA sn sl) wz ∧ (SlOld csEnc 2 170 w.heap.size none cA cn cl) wz ∧ (SlOld vhEnc 2 158 w.heap.size none vA vn vl) wz ∧ (SlOld plEnc 3 161 w.heap.size none pA pn pl) wz ∧ (SlOld evEnc 5 54 w.heap.size none (some ⟨b, off, none⟩) n l) wz ∧ (TxtO w.heap.size none) wz ∧ True) mixed (fun _ hm => ⟨hm.bl 0, hm.fa 0, hm.fa 1, hm.fa 2, hm.fa 3, hm.fa 4, hm.fa 5, trivial⟩) fun z => ?_
  refine wt 0 18 1 rfl z (ov_field fo54_0 rfl rfl) ?_
  refine wt 1 18 3 rfl z (ov_load sc3 rfl (fun _ hm => hm.1) rfl) ?_
  refine wt 2 18 7 rfl z (ov_iface (by kernel_rfl) rfl) ?_
  refine wt 3 18 15 rfl z (ov_field fo54_1 rfl rfl) ?_
  refine wt 4 18 31 rfl z (ov_load sc9 rfl (fun _ hm => hm.1) rfl) ?_
  refine wt 5 18 63 rfl z (ov_iface (by kernel_rfl) rfl) ?_
  refine wt 7 18 191 rfl z (ov_field fo54_3 rfl rfl) ?_
  refine wt 8 18 447 rfl z (ov_load sc3 rfl (fun _ hm => hm.1) rfl) ?_
  refine wt 12 18 4543 rfl z (ov_field fo54_2 rfl rfl) ?_
  refine wt 13 18 12735 rfl z (ov_load sc9 rfl (fun _ hm => hm.1) rfl) ?_
  refine wt 14 18 29119 rfl z (ov_iface (by kernel_rfl) rfl) ?_
  refine wa1 6 rfl ?_
  refine wl_callx (γ := Nat) (val := (fun g => .slice (some ⟨g, 0, none⟩) 9 9)) (φ := (fun g => True)) (Y := (fun g => fun wy => SlT sgEnc 1 9 wy (some ⟨g, 0, none⟩) 9 kindsL)) rfl cb101 rfl rfl (fun wx hm => (kinds_any wx).mono fun _ _ ⟨g, he, h1, hg⟩ => ⟨g, he, trivial, hg, h1⟩) (fun _ => SlT.lasts2 rfl) ?_
  rintro gw hphi
  clear hphi
  refine wl_nil ?_
  refine nw 18 29183 (fun _ hm => ⟨hm.bl 0, hm.fa 1, hm.fa 2, hm.fa 3, hm.fa 4, hm.fa 5, hm.fa 6, trivial⟩) fun z => ?_
  refine wt 9 18 29695 rfl z (ov_index (j := q) es112 rfl rfl (by omega)) ?_
  refine wa1 10 rfl ?_
  refine wl_ov (ov_elem1 (k := 0) (v := .string (kindW ((q : Nat) : Int))) sc9 rfl (fun _ hm => (hm.fact 0 rfl)) hkq rfl rfl) rfl ?_
  refine wl_nil ?_
  refine nw 18 30719 (fun _ hm => ⟨hm.bl 0, hm.fa 1, hm.fa 2, hm.fa 3, hm.fa 4, hm.fa 5, hm.fa 6, trivial⟩) fun z => ?_
  refine wt 11 18 32767 rfl z (ov_iface (by kernel_rfl) rfl) ?_
  refine wa1 15 rfl ?_
  refine wl_buildSlice (e := 20) (cs := [.iface 3 (.int .i64 x0), .iface 9 (.string x1), .iface 9 (.string (kindW ((q : Nat) : Int))), .iface 9 (.string x2)]) rfl (by kernel_rfl) rfl fun g4 => ?_
  refine wl_nil ?_
  refine nw 18 65535 (fun _ hm => ⟨hm.bl 1, hm.fa 1, hm.fa 2, hm.fa 3, hm.fa 4, hm.fa 5, hm.fa 6, trivial⟩) fun z => ?_
  refine wa1 16 rfl ?_
  refine wl_callv (v := .string (lgJ (⟨x0, x1, x2, ((q : Nat) : Int), x4⟩ : Ev))) rfl cb61 rfl rfl (fun wx hm => (by have h := wjoin_any (lgPts (⟨x0, x1, x2, ((q : Nat) : Int), x4⟩ : Ev)) (some ⟨g4, 0, none⟩) 4 4 wx (hm.fact 6 rfl).1 (SlT.ofBlk (l := lgPts (⟨x0, x1, x2, ((q : Nat) : Int), x4⟩ : Ev)) pt_len (hm.blkI 0 rfl)) (by omega) (by omega) (lgPts_ok hxB); exact h)) ?_
  refine wl_nil ?_
  refine nw 18 131071 (fun _ hm => ⟨hm.bl 1, hm.fa 1, hm.fa 2, hm.fa 3, hm.fa 4, hm.fa 5, hm.fa 6, trivial⟩) fun z => ?_
  refine wa1 17 rfl ?_
  refine wl_callG (γ := Value) (val := fun _ => .tuple #[.int .i64 ((lgJ (⟨x0, x1, x2, ((q : Nat) : Int), x4⟩ : Ev)).size : Int), .nilIface]) (φ := fun _ => True) (K' := fun _ => (fun _ => True)) (L' := fun g => [(g4, 20, [.iface 3 (.int .i64 x0), .iface 9 (.string x1), .iface 9 (.string (kindW ((q : Nat) : Int))), .iface 9 (.string x2)]), (g3, 54, [.int .i64 x0, .string x1, .string x2, .int .i64 ((q : Nat) : Int), .string x4]), (g2, 101, [.pointer (some ⟨g2, 0, none⟩), g])]) (O' := fun g => [⟨g, 5, 1, (Lib.byteCells (lgTxL (l.take i)) ++ Lib.strCells (lgJ (⟨x0, x1, x2, ((q : Nat) : Int), x4⟩ : Ev))).length, Lib.byteCells (lgTxL (l.take i)) ++ Lib.strCells (lgJ (⟨x0, x1, x2, ((q : Nat) : Int), x4⟩ : Ev))⟩]) (X' := fun _ => [SlOld stEnc 15 168 w.heap.size none sA sn sl, SlOld csEnc 2 170 w.heap.size none cA cn cl, SlOld vhEnc 2 158 w.heap.size none vA vn vl, SlOld plEnc 3 161 w.heap.size none pA pn pl, SlOld evEnc 5 54 w.heap.size none (some ⟨b, off, none⟩) n l, TxtO w.heap.size none]) rfl cb60 rfl rfl (fun wx hm => (writeStringK w.heap.size g2 (Lib.byteCells (lgTxL (l.take i))) (lgJ (⟨x0, x1, x2, ((q : Nat) : Int), x4⟩ : Ev)) wx (hm.isB 2 0 rfl rfl hp) (by rw [Lib.byteCells_length]; (try simp only [ByteArray.size_append]); omega) hm.g.size).mono fun e w' ⟨he, h1, hb, hk⟩ => by
   obtain ⟨v, hM⟩ := hm.builtK 2 rfl (tys_ne rfl) h1 hb hk (oldX_cons (i := 1) SlOld.oldF rfl (oldX_cons (i := 2) SlOld.oldF rfl (oldX_cons (i := 3) SlOld.oldF rfl (oldX_cons (i := 4) SlOld.oldF rfl (oldX_cons (i := 5) SlOld.oldF rfl (oldX_cons (i := 6) TxtO.oldF rfl oldX_nil))))))
   exact ⟨v, he, trivial, hM⟩) ?_
  rintro vv1 _
  refine wl_nil ?_
  refine nw 18 262143 (fun _ hm => ⟨hm.bl 1, hm.fa 0, hm.fa 1, hm.fa 2, hm.fa 3, hm.fa 4, hm.fa 5, trivial⟩) fun z => ?_
  refine wa_done (by kernel_rfl) ?_
  refine nx_then (gw_seq (sr_ (fd_ fo54_3 rfl rfl (lk_ sc3 1 rfl rfl rfl (wl_ov (ov_eql rfl rfl) rfl (nn_ ?_))))))
  refine gw_cond rfl (fun hh => ?_) (fun hh => ?_)
  ·have h6 : ((q : Nat) : Int) = 6 := by simpa using hh
   clear hh
   refine gw_region (fd_ fo54_4 rfl rfl (lk_ sc9 1 rfl rfl rfl ?_))
   refine wl_ov (ov_sadd rfl rfl (by (try simp only [ByteArray.size_append]); omega)) rfl ?_
   refine wl_callG (γ := Value) (val := fun _ => .tuple #[.int .i64 (((⟨#[32]⟩ : ByteArray) ++ x4).size : Int), .nilIface]) (φ := fun _ => True) (K' := fun _ => (fun _ => True)) (L' := fun g => [(g4, 20, [.iface 3 (.int .i64 x0), .iface 9 (.string x1), .iface 9 (.string (kindW ((q : Nat) : Int))), .iface 9 (.string x2)]), (g3, 54, [.int .i64 x0, .string x1, .string x2, .int .i64 ((q : Nat) : Int), .string x4]), (g2, 101, [.pointer (some ⟨g2, 0, none⟩), g])]) (O' := fun g => [⟨g, 5, 1, (Lib.byteCells (lgTxL (l.take i)) ++ Lib.strCells (lgJ (⟨x0, x1, x2, ((q : Nat) : Int), x4⟩ : Ev)) ++ Lib.strCells ((⟨#[32]⟩ : ByteArray) ++ x4)).length, Lib.byteCells (lgTxL (l.take i)) ++ Lib.strCells (lgJ (⟨x0, x1, x2, ((q : Nat) : Int), x4⟩ : Ev)) ++ Lib.strCells ((⟨#[32]⟩ : ByteArray) ++ x4)⟩]) (X' := fun _ => [SlOld stEnc 15 168 w.heap.size none sA sn sl, SlOld csEnc 2 170 w.heap.size none cA cn cl, SlOld vhEnc 2 158 w.heap.size none vA vn vl, SlOld plEnc 3 161 w.heap.size none pA pn pl, SlOld evEnc 5 54 w.heap.size none (some ⟨b, off, none⟩) n l, TxtO w.heap.size none]) rfl cb60 rfl rfl (fun wx hm => (writeStringK w.heap.size g2 (Lib.byteCells (lgTxL (l.take i)) ++ Lib.strCells (lgJ (⟨x0, x1, x2, ((q : Nat) : Int), x4⟩ : Ev))) ((⟨#[32]⟩ : ByteArray) ++ x4) wx (hm.isB 2 0 rfl rfl (.inr rfl)) (by simp only [List.length_append, Lib.byteCells_length, Lib.strCells_length]; (try simp only [ByteArray.size_append]); omega) hm.g.size).mono fun e w' ⟨he, h1, hb, hk⟩ => by
    obtain ⟨v, hM⟩ := hm.builtK 2 rfl (tys_ne rfl) h1 hb hk (oldX_cons (i := 0) SlOld.oldF rfl (oldX_cons (i := 1) SlOld.oldF rfl (oldX_cons (i := 2) SlOld.oldF rfl (oldX_cons (i := 3) SlOld.oldF rfl (oldX_cons (i := 4) SlOld.oldF rfl (oldX_cons (i := 5) TxtO.oldF rfl oldX_nil))))))
    exact ⟨v, he, trivial, hM⟩) ?_
   rintro vv2 _
   refine nn_ (gw_region ?_)
   refine wl_callG (γ := Value) (val := fun _ => .tuple #[.int .i64 (((⟨#[10]⟩ : ByteArray)).size : Int), .nilIface]) (φ := fun _ => True) (K' := fun _ => (fun _ => True)) (L' := fun g => [(g4, 20, [.iface 3 (.int .i64 x0), .iface 9 (.string x1), .iface 9 (.string (kindW ((q : Nat) : Int))), .iface 9 (.string x2)]), (g3, 54, [.int .i64 x0, .string x1, .string x2, .int .i64 ((q : Nat) : Int), .string x4]), (g2, 101, [.pointer (some ⟨g2, 0, none⟩), g])]) (O' := fun g => [⟨g, 5, 1, (Lib.byteCells (lgTxL (l.take i)) ++ Lib.strCells (lgJ (⟨x0, x1, x2, ((q : Nat) : Int), x4⟩ : Ev)) ++ Lib.strCells ((⟨#[32]⟩ : ByteArray) ++ x4) ++ Lib.strCells (⟨#[10]⟩ : ByteArray)).length, Lib.byteCells (lgTxL (l.take i)) ++ Lib.strCells (lgJ (⟨x0, x1, x2, ((q : Nat) : Int), x4⟩ : Ev)) ++ Lib.strCells ((⟨#[32]⟩ : ByteArray) ++ x4) ++ Lib.strCells (⟨#[10]⟩ : ByteArray)⟩]) (X' := fun _ => [SlOld stEnc 15 168 w.heap.size none sA sn sl, SlOld csEnc 2 170 w.heap.size none cA cn cl, SlOld vhEnc 2 158 w.heap.size none vA vn vl, SlOld plEnc 3 161 w.heap.size none pA pn pl, SlOld evEnc 5 54 w.heap.size none (some ⟨b, off, none⟩) n l, TxtO w.heap.size none]) rfl cb60 rfl rfl (fun wx hm => (writeStringK w.heap.size g2 (Lib.byteCells (lgTxL (l.take i)) ++ Lib.strCells (lgJ (⟨x0, x1, x2, ((q : Nat) : Int), x4⟩ : Ev)) ++ Lib.strCells ((⟨#[32]⟩ : ByteArray) ++ x4)) (⟨#[10]⟩ : ByteArray) wx (hm.isB 2 0 rfl rfl (.inr rfl)) (by simp only [List.length_append, Lib.byteCells_length, Lib.strCells_length]; (try simp only [ByteArray.size_append]); omega) hm.g.size).mono fun e w' ⟨he, h1, hb, hk⟩ => by
    obtain ⟨v, hM⟩ := hm.builtK 2 rfl (tys_ne rfl) h1 hb hk (oldX_cons (i := 0) SlOld.oldF rfl (oldX_cons (i := 1) SlOld.oldF rfl (oldX_cons (i := 2) SlOld.oldF rfl (oldX_cons (i := 3) SlOld.oldF rfl (oldX_cons (i := 4) SlOld.oldF rfl (oldX_cons (i := 5) TxtO.oldF rfl oldX_nil))))))
    exact ⟨v, he, trivial, hM⟩) ?_
   rintro vv3 _
   refine wl_nil (nx_blk_nrm (nx_then (gw_region (ad_ rfl rfl (mv_ rfl (wl_nil ?_))))))
   rw [show Lib.byteCells (lgTxL (l.take i)) ++ Lib.strCells (lgJ (⟨x0, x1, x2, ((q : Nat) : Int), x4⟩ : Ev)) ++ Lib.strCells ((⟨#[32]⟩ : ByteArray) ++ x4) ++ Lib.strCells (⟨#[10]⟩ : ByteArray) = Lib.byteCells (lgTxL (l.take (i + 1))) from by rw [cells_three, hatL, lgLn_six (x := (⟨x0, x1, x2, ((q : Nat) : Int), x4⟩ : Ev)) h6]]
   exact nx_round (i + 1, .pointer (some ⟨g2, 0, none⟩), vv3) ⟨by dsimp only; omega, .inr rfl⟩ (by dsimp only; omega) ⟨rfl, rfl, rfl, rfl, rfl, (some_int (by omega)), trivial⟩ (fun _ hm => hm.pick [2] [0] [0, 1, 2, 3, 4, 5] rfl rfl)
  have h6 : ¬ (((q : Nat) : Int) = 6) := by simpa using hh
  clear hh
  refine gw_skip (nx_then (gw_region ?_))
  refine wl_callG (γ := Value) (val := fun _ => .tuple #[.int .i64 (((⟨#[10]⟩ : ByteArray)).size : Int), .nilIface]) (φ := fun _ => True) (K' := fun _ => (fun _ => True)) (L' := fun g => [(g4, 20, [.iface 3 (.int .i64 x0), .iface 9 (.string x1), .iface 9 (.string (kindW ((q : Nat) : Int))), .iface 9 (.string x2)]), (g3, 54, [.int .i64 x0, .string x1, .string x2, .int .i64 ((q : Nat) : Int), .string x4]), (g2, 101, [.pointer (some ⟨g2, 0, none⟩), g])]) (O' := fun g => [⟨g, 5, 1, (Lib.byteCells (lgTxL (l.take i)) ++ Lib.strCells (lgJ (⟨x0, x1, x2, ((q : Nat) : Int), x4⟩ : Ev)) ++ Lib.strCells (⟨#[10]⟩ : ByteArray)).length, Lib.byteCells (lgTxL (l.take i)) ++ Lib.strCells (lgJ (⟨x0, x1, x2, ((q : Nat) : Int), x4⟩ : Ev)) ++ Lib.strCells (⟨#[10]⟩ : ByteArray)⟩]) (X' := fun _ => [SlOld stEnc 15 168 w.heap.size none sA sn sl, SlOld csEnc 2 170 w.heap.size none cA cn cl, SlOld vhEnc 2 158 w.heap.size none vA vn vl, SlOld plEnc 3 161 w.heap.size none pA pn pl, SlOld evEnc 5 54 w.heap.size none (some ⟨b, off, none⟩) n l, TxtO w.heap.size none]) rfl cb60 rfl rfl (fun wx hm => (writeStringK w.heap.size g2 (Lib.byteCells (lgTxL (l.take i)) ++ Lib.strCells (lgJ (⟨x0, x1, x2, ((q : Nat) : Int), x4⟩ : Ev))) (⟨#[10]⟩ : ByteArray) wx (hm.isB 2 0 rfl rfl (.inr rfl)) (by simp only [List.length_append, Lib.byteCells_length, Lib.strCells_length]; (try simp only [ByteArray.size_append]); omega) hm.g.size).mono fun e w' ⟨he, h1, hb, hk⟩ => by
   obtain ⟨v, hM⟩ := hm.builtK 2 rfl (tys_ne rfl) h1 hb hk (oldX_cons (i := 0) SlOld.oldF rfl (oldX_cons (i := 1) SlOld.oldF rfl (oldX_cons (i := 2) SlOld.oldF rfl (oldX_cons (i := 3) SlOld.oldF rfl (oldX_cons (i := 4) SlOld.oldF rfl (oldX_cons (i := 5) TxtO.oldF rfl oldX_nil))))))
   exact ⟨v, he, trivial, hM⟩) ?_
  rintro vv4 _
  refine wl_nil (nx_blk_nrm (nx_then (gw_region (ad_ rfl rfl (mv_ rfl (wl_nil ?_))))))
  rw [show Lib.byteCells (lgTxL (l.take i)) ++ Lib.strCells (lgJ (⟨x0, x1, x2, ((q : Nat) : Int), x4⟩ : Ev)) ++ Lib.strCells (⟨#[10]⟩ : ByteArray) = Lib.byteCells (lgTxL (l.take (i + 1))) from by rw [cells_two, hatL, lgLn_go (x := (⟨x0, x1, x2, ((q : Nat) : Int), x4⟩ : Ev)) h6]]
  exact nx_round (i + 1, .pointer (some ⟨g2, 0, none⟩), vv4) ⟨by dsimp only; omega, .inr rfl⟩ (by dsimp only; omega) ⟨rfl, rfl, rfl, rfl, rfl, (some_int (by omega)), trivial⟩ (fun _ hm => hm.pick [2] [0] [0, 1, 2, 3, 4, 5] rfl rfl)
 have hi : ¬ (((i : Nat) : Int) < ((n : Nat) : Int)) := by simpa using hh
 clear hh
 refine gw_exit ?_
 refine nx_then_exit (nx_then_exit ?_)
 refine nx_blk_here ?_
 refine nx_then (sr_ ?_)
 have hlt : l.take i = l := List.take_of_length_le (by omega)
 rw [hlt]
 have htl := lgTx_sz hB
 refine wl_callG (γ := Unit) (val := fun _ => .string (lgTx l)) (φ := fun _ => True) (K' := fun _ => (fun _ => True)) (L' := fun _ => []) (O' := fun _ => []) (X' := fun _ => [SlOld stEnc 15 168 w.heap.size none sA sn sl, SlOld csEnc 2 170 w.heap.size none cA cn cl, SlOld vhEnc 2 158 w.heap.size none vA vn vl, SlOld plEnc 3 161 w.heap.size none pA pn pl, SlOld evEnc 5 54 w.heap.size none A n l, TxtO w.heap.size none]) rfl cb63 rfl rfl (fun wx hm => (string_any w.heap.size g2 (lgTxL l) wx (hm.isB 0 0 rfl rfl hp) hm.g.size).mono fun e w' ⟨he, hb⟩ => ⟨(), he, trivial, hm.belowX hb (oldX_cons (i := 0) SlOld.oldF rfl (oldX_cons (i := 1) SlOld.oldF rfl (oldX_cons (i := 2) SlOld.oldF rfl (oldX_cons (i := 3) SlOld.oldF rfl (oldX_cons (i := 4) SlOld.oldF rfl (oldX_cons (i := 5) TxtO.oldF rfl oldX_nil))))))⟩) ?_
 rintro _ _
 refine wl_callv rfl cb62 rfl rfl (fun wx hm => (sized_any (lgTx l) wx (by omega))) ?_
 refine wl_ov (ov_extract rfl rfl) rfl (wl_ov (ov_extract rfl rfl) rfl (sg_ rfl (sg_ rfl (nn_ ?_))))
 refine gw_ret ?_
 refine nx_ret2 rfl rfl rfl fun wx hm => ?_
 exact ⟨rfl, hm.g⟩
end Go.Proofs.YtnpcbfllnkiopaaGreatDoor
