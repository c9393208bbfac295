/- Several texts as one: Rx Lo Xa Twt Fte -/
import Derived.Test.YtnpcbfllnkiopaaGreatDoorN5e
import Derived.Test.YtnpcbfllnkiopaaGreatDoorN5b
import Derived.Test.YtnpcbfllnkiopaaGreatDoorN5a
import Derived.Lay
import Derived.LaidSub
import Derived.MakeChecks
import Derived.Stop.LaidErr
import Derived.Lib.LaidU8
import Derived.Shelf.Vars
import Derived.Test.YtnpcbfllnkiopaaGreatDoorN5d
set_option maxRecDepth 100000
set_option maxHeartbeats 4000000
namespace Go.Proofs.YtnpcbfllnkiopaaGreatDoor
open Go.RowKit
/-- What the generators' fleets are. -/
def FlOk (sl : List St) (cl : List Cs) (vl : List Vh) (pl : List Pl) (sn vn pn : Nat) : Prop := ((∀ x ∈ sl, StOk x) ∧ sn ≤ 10) ∧ (∀ x ∈ cl, CsOk x) ∧ ((∀ x ∈ vl, VhB x) ∧ vn ≤ 10) ∧ (∀ x ∈ pl, PlB x) ∧ pn ≤ 10
theorem s0_ok : ∀ h ∈ ([0, 0, 0, 0, 0, 0, 0, 0, 0, 0, 0, 0, 0, 0] : List Int), -9223372036854775808 ≤ h ∧ h ≤ 9223372036854775807 := by decide
theorem stB_all {l : List St} (h : ∀ x ∈ l, StB x) : ∀ x ∈ l, StOk x := fun x hx => stB_ok (h x hx)
theorem gclassKey2_any (w : World) (B sb m : Nat) (hS : Strm 25 w B sb m) (hm : m ≤ 100000000000) :
  Calls Tryz.prog 126 #[.pointer (some ⟨sb, 0, none⟩)] w (fun e w' => ∃ v : ByteArray, e = .returned (.string v) ∧ v.size ≤ 100 ∧ Strm 25 w' B sb (m + 1) ∧ w.grownBy w' (some sb)) := by
 refine gw_enter ⟨6, w, (some sb), []⟩ Tryz.func126 rfl Tryz.ntmps126 rfl (memS (X := []) hS allF_nil allL_nil) ?_
 refine sr_ (sg_ rfl (nn_ (sr_ (mv_ rfl ?_))))
 refine wl_buildSlice (e := 9) (cs := [.string ⟨#[109, 105, 110, 105]⟩, .string ⟨#[109, 105, 110, 105]⟩, .string ⟨#[109, 105, 100, 105]⟩, .string ⟨#[109, 97, 120, 105]⟩, .string ⟨#[98, 105, 103]⟩, .string ⟨#[109, 105, 110, 105]⟩, .string ⟨#[110, 111, 110, 101]⟩, .string ⟨#[]⟩, .string ⟨#[65]⟩]) rfl (by kernel_rfl) rfl fun g1 => ?_
 refine wl_got (γ := ByteArray) (val := fun v => .string v) (φ := fun v => v ∈ ([⟨#[109, 105, 110, 105]⟩, ⟨#[109, 105, 110, 105]⟩, ⟨#[109, 105, 100, 105]⟩, ⟨#[109, 97, 120, 105]⟩, ⟨#[98, 105, 103]⟩, ⟨#[109, 105, 110, 105]⟩, ⟨#[110, 111, 110, 101]⟩, ⟨#[]⟩, ⟨#[65]⟩] : List ByteArray)) rfl cb57 rfl rfl rfl rfl (fun wx hm => (some_any [⟨#[109, 105, 110, 105]⟩, ⟨#[109, 105, 110, 105]⟩, ⟨#[109, 105, 100, 105]⟩, ⟨#[109, 97, 120, 105]⟩, ⟨#[98, 105, 103]⟩, ⟨#[109, 105, 110, 105]⟩, ⟨#[110, 111, 110, 101]⟩, ⟨#[]⟩, ⟨#[65]⟩] _ _ _ wx B sb _ hm.k (by omega) (by simp) (by simp) (hm.blkI 0 rfl) (hm.neRow 0 rfl rfl))) fun s2 hs2 => ?_
 have zs2 : s2.size ≤ 100 := mem_sz hs2 (by decide)
 refine sg_ rfl (nn_ ?_)
 refine gw_ret ?_
 refine nx_ret1 rfl rfl fun wx hm => ?_
 exact ⟨s2, rfl, by omega, hm.k, hm.g⟩
theorem fleet_any (w : World) (B sb m : Nat) (hS : Strm 25 w B sb m) (hm : m ≤ 10000000) :
  Calls Tryz.prog 40 #[.pointer (some ⟨sb, 0, none⟩)] w (fun e w' => ∃ (sA cA vA pA : Option Addr) (sn sc cc vn vc pn pc : Nat) (sl : List St) (cl : List Cs) (vl : List Vh) (pl : List Pl), e = .returned (.agg #[.slice sA sn sc, .slice cA 4 cc, .slice vA vn vc, .slice pA pn pc]) ∧ FlOk sl cl vl pl sn vn pn ∧ Strm 25 w' B sb (m + 400) ∧ w.grownBy w' (some sb) ∧ SlT stEnc 15 168 w' sA sn sl ∧ SlT csEnc 2 170 w' cA 4 cl ∧ SlT vhEnc 2 158 w' vA vn vl ∧ SlT plEnc 3 161 w' pA pn pl ∧ ShapeA pA pn pc ∧ pn ≤ pc) := by
 refine gw_enter ⟨56, w, (some sb), [170]⟩ Tryz.func40 rfl Tryz.ntmps40 rfl (memS (X := []) hS allF_nil allL_nil) ?_
 refine sr_ ?_
 refine wl_alloc zc66 rfl fun g1 => ?_
 refine nn_ (sr_ (mv_ rfl ?_))
 refine wl_calls3 (γ := Option Addr × Option Addr × Option Addr × Option Addr × Nat × Nat × Nat × Nat × Nat × Nat × Nat × List St × List Cs × List Vh × List Pl) (val := (fun g => .agg #[.slice g.1 g.2.2.2.2.1 g.2.2.2.2.2.1, .slice g.2.1 4 g.2.2.2.2.2.2.1, .slice g.2.2.1 g.2.2.2.2.2.2.2.1 g.2.2.2.2.2.2.2.2.1, .slice g.2.2.2.1 g.2.2.2.2.2.2.2.2.2.1 g.2.2.2.2.2.2.2.2.2.2.1])) (φ := (fun g => RfOk g.2.2.2.2.2.2.2.2.2.2.2.1 g.2.2.2.2.2.2.2.2.2.2.2.2.1 g.2.2.2.2.2.2.2.2.2.2.2.2.2.1 g.2.2.2.2.2.2.2.2.2.2.2.2.2.2 g.2.2.2.2.1 g.2.2.2.2.2.2.2.1 g.2.2.2.2.2.2.2.2.2.1)) (Y := (fun g => fun wy => SlT csEnc 2 170 wy g.2.1 4 g.2.2.2.2.2.2.2.2.2.2.2.2.1)) (m' := m + 300) (fun g => ⟨.slice g.1 g.2.2.2.2.1 g.2.2.2.2.2.1, 168, 15, g.2.2.2.2.1, g.2.2.2.2.2.2.2.2.2.2.2.1.flatMap stEnc⟩) (fun g => ⟨.slice g.2.2.1 g.2.2.2.2.2.2.2.1 g.2.2.2.2.2.2.2.2.1, 158, 2, g.2.2.2.2.2.2.2.1, g.2.2.2.2.2.2.2.2.2.2.2.2.2.1.flatMap vhEnc⟩) (fun g => ⟨.slice g.2.2.2.1 g.2.2.2.2.2.2.2.2.2.1 g.2.2.2.2.2.2.2.2.2.2.1, 161, 3, g.2.2.2.2.2.2.2.2.2.1, g.2.2.2.2.2.2.2.2.2.2.2.2.2.2.flatMap plEnc⟩) rfl cb124 rfl rfl rfl rfl (fun _ => rfl) (fun _ => rfl) (fun _ => rfl) (fun wx hm => (rightFleet_any wx B sb _ hm.k (by omega)).mono fun _ _ ⟨sA, cA, vA, pA, sn, sc, cc, vn, vc, pn, pc, sl, cl, vl, pl, he, hok, hS, hg, h1, h2, h3, h4⟩ => ⟨(sA, cA, vA, pA, sn, sc, cc, vn, vc, pn, pc, sl, cl, vl, pl), he, hok, hS, hg, h1, h2, h3, h4⟩) (fun _ => SlT.lasts2 rfl) ?_
 rintro ⟨sA, cA, vA, pA, sn, sc, cc, vn, vc, pn, pc, sl, cl, vl, pl⟩ hrf
 dsimp only at hrf ⊢
 obtain ⟨⟨hsl, hsB, hs1, hs3⟩, ⟨hcl4, hcok⟩, ⟨hvl, hvB, hv4⟩, hpl, hpB, hp5⟩ := hrf
 refine wl_alloc zc66 rfl fun g2 => ?_
 refine wl_stores (cs' := [.slice sA sn sc, .slice cA 4 cc, .slice vA vn vc, .slice pA pn pc]) 0 rz66 rfl rfl rfl rfl rfl rfl rfl rfl ?_
 refine nn_ (gw_seq (sr_ (mv_ rfl ?_)))
 refine wl_got (γ := Bool) (val := fun v => .bool v) (φ := fun v => True) rfl cb25 rfl rfl rfl rfl (fun wx hm => ((flip_any _ wx B sb _ hm.k (by omega) (by omega) (by omega)).mono fun _ _ ⟨v, he, hS, hg⟩ => ⟨v, trivial, he, hS, hg⟩)) fun f3 _ => ?_
 refine wl_ov (ov_un_not rfl) rfl (nn_ ?_)
 refine gw_cond rfl (fun hh => ?_) (fun hh => ?_)
 ·have hf : f3 = false := by simpa using hh
  clear hh
  refine sr_ ?_
  refine wl_ov (ov_loads rz66 rfl (fun _ hm => hm.blkI 0 rfl) rfl rfl) rfl ?_
  refine wl_stores (cs' := [.slice sA sn sc, .slice cA 4 cc, .slice vA vn vc, .slice pA pn pc]) 1 rz66 rfl rfl rfl rfl rfl rfl rfl rfl ?_
  refine nn_ ?_
  refine gw_ret ?_
  refine nx_then_ret ?_
  refine nx_retc 1 rfl rz66 rfl rfl rfl fun wx hm => ?_
  exact ⟨sA, cA, vA, pA, sn, sc, cc, vn, vc, pn, pc, sl, cl, vl, pl, rfl, ⟨⟨stB_all hsB, by omega⟩, hcok, ⟨hvB, by omega⟩, hpB, by omega⟩, hm.k.more (by omega), hm.g, SlT.ofOwnL stEnc_lenL (stB_all hsB) (hm.ownI 0 rfl) hsl, (hm.fact 0 rfl), SlT.ofOwn vh_len (hm.ownI 1 rfl) hvl, SlT.ofOwn pl_len (hm.ownI 2 rfl) hpl, own_shape (hm.ownI 2 rfl), own_cap (hm.ownI 2 rfl)⟩
 have hf : f3 = true := by simpa using hh
 clear hh
 refine gw_skip (nx_then (gw_seq (sr_ (mv_ rfl ?_))))
 refine wl_got (γ := Int) (val := fun v => .int .i64 v) (φ := fun v => IsBelow 4 v) rfl cb56 rfl rfl rfl rfl (fun wx hm => (next_any _ wx B sb _ hm.k (by omega) (by omega) (by omega))) fun vj hvj => ?_
 refine nn_ (gw_block (sr_ (wl_ov (ov_eql rfl rfl) rfl (sg_ rfl (nn_ ?_)))))
 refine gw_cond rfl (fun hh => ?_) (fun hh => ?_)
 ·have h0 : vj = 0 := by simpa using hh
  clear hh
  refine gd (fun wz => Blk wz g1 66 [.slice none 0 0, .slice none 0 0, .slice none 0 0, .slice none 0 0] ∧ (fun wy => SlT csEnc 2 170 wy cA 4 cl) wz ∧ True) mixed (fun _ hm => ⟨hm.bl 1, hm.fa 0, trivial⟩) fun z => ?_
  refine wt 0 10 1 rfl z (ov_field fo66_0 rfl rfl) ?_
  refine wt 2 10 5 rfl z (ov_move rfl) ?_
  refine wa_all [1, 3] (by kernel_rfl) rfl ⟨⟨_, rfl, ?_⟩, ⟨_, rfl, ?_⟩, trivial⟩
  ·refine lk_ sc61 0 rfl rfl rfl (wl_nil ?_)
   refine nw 10 7 (fun _ hm => ⟨hm.bl 1, hm.fa 0, trivial⟩) fun z => ?_
   refine wa1 3 rfl ?_
   refine wl_buildSlice (e := 9) (cs := [.string ⟨#[]⟩, .string ⟨#[65]⟩, .string ⟨#[115, 49]⟩, .string ⟨#[115, 57]⟩]) rfl (by kernel_rfl) rfl fun g4 => ?_
   refine wl_nil ?_
   refine nw 10 15 (fun _ hm => ⟨hm.bl 2, hm.fa 0, trivial⟩) fun z => ?_
   refine wa1 4 rfl ?_
   refine wl_got (γ := ByteArray) (val := fun v => .string v) (φ := fun v => v ∈ ([⟨#[]⟩, ⟨#[65]⟩, ⟨#[115, 49]⟩, ⟨#[115, 57]⟩] : List ByteArray)) rfl cb57 rfl rfl rfl rfl (fun wx hm => (some_any [⟨#[]⟩, ⟨#[65]⟩, ⟨#[115, 49]⟩, ⟨#[115, 57]⟩] _ _ _ wx B sb _ hm.k (by omega) (by simp) (by simp) (hm.blkI 0 rfl) (hm.neRow 0 rfl rfl))) fun s5 hs5 => ?_
   have zs5 : s5.size ≤ 100 := mem_sz hs5 (by decide)
   refine wl_nil ?_
   refine nw 10 31 (fun _ hm => ⟨hm.bl 2, hm.fa 0, trivial⟩) fun z => ?_
   refine wt 5 10 63 rfl z (ov_build (cs := [.string s5, .int .i64 0, .int .i64 0, .int .i64 0, .int .i64 0, .int .i64 0, .int .i64 0, .int .i64 0, .int .i64 0, .int .i64 0, .int .i64 0, .int .i64 0, .int .i64 0, .int .i64 0, .int .i64 0]) rfl (by kernel_rfl)) ?_
   refine wa1 6 rfl ?_
   refine wl_buildSlice (e := 168) (cs := [.string s5, .int .i64 0, .int .i64 0, .int .i64 0, .int .i64 0, .int .i64 0, .int .i64 0, .int .i64 0, .int .i64 0, .int .i64 0, .int .i64 0, .int .i64 0, .int .i64 0, .int .i64 0, .int .i64 0]) rfl (by kernel_rfl) rfl fun g6 => ?_
   refine wl_nil ?_
   refine nw 10 127 (fun _ hm => ⟨hm.bl 3, hm.fa 0, trivial⟩) fun z => ?_
   refine wa1 7 rfl ?_
   refine wl_append (news := [.string s5, .int .i64 0, .int .i64 0, .int .i64 0, .int .i64 0, .int .i64 0, .int .i64 0, .int .i64 0, .int .i64 0, .int .i64 0, .int .i64 0, .int .i64 0, .int .i64 0, .int .i64 0, .int .i64 0]) 0 0 ap61 rfl rfl rfl rfl rfl rfl rfl (by omega) (by unfold maxLen; omega) rfl rfl fun v2 hv2 => ?_
   refine wl_look (R := ∃ A cc, v2 = .slice A (sn + 1) cc) (fun wx hm => own_slice (hm.ownI 0 rfl)) ?_
   rintro ⟨A2, c2, rfl⟩
   have hxs : sl.flatMap stEnc ++ ([.string s5, .int .i64 0, .int .i64 0, .int .i64 0, .int .i64 0, .int .i64 0, .int .i64 0, .int .i64 0, .int .i64 0, .int .i64 0, .int .i64 0, .int .i64 0, .int .i64 0, .int .i64 0, .int .i64 0] : List Value) = (sl ++ [(⟨s5, [0, 0, 0, 0, 0, 0, 0, 0, 0, 0, 0, 0, 0, 0]⟩ : St)]).flatMap stEnc := by simp [stEnc, stCells]
   rw [hxs]
   refine wl_nil ?_
   refine nw 10 255 (fun _ hm => ⟨hm.bl 3, hm.fa 0, trivial⟩) fun z => ?_
   refine wt 8 10 511 rfl z (ov_field fo66_0 rfl rfl) ?_
   refine wa1 9 rfl ?_
   refine wl_store 2 sc61 rfl rfl rfl rfl rfl rfl ?_
   refine wl_nil ?_
   refine nw 10 1023 (fun _ hm => ⟨hm.bl 3, hm.fa 0, trivial⟩) fun z => ?_
   refine wa_done (by kernel_rfl) ?_
   refine nx_blk_nrm (nx_then (sr_ ?_))
   refine wl_ov (ov_loads rz66 rfl (fun _ hm => hm.blkI 2 rfl) rfl rfl) rfl ?_
   refine wl_stores (cs' := [.slice A2 (sn + 1) c2, .slice cA 4 cc, .slice vA vn vc, .slice pA pn pc]) 3 rz66 rfl rfl rfl rfl rfl rfl rfl rfl ?_
   refine nn_ ?_
   refine gw_ret ?_
   refine nx_retc 3 rfl rz66 rfl rfl rfl fun wx hm => ?_
   exact ⟨A2, cA, vA, pA, sn + 1, c2, cc, vn, vc, pn, pc, sl ++ [(⟨s5, [0, 0, 0, 0, 0, 0, 0, 0, 0, 0, 0, 0, 0, 0]⟩ : St)], cl, vl, pl, rfl, ⟨⟨all_snoc (stB_all hsB) ⟨rfl, by dsimp only; omega, s0_ok⟩, by omega⟩, hcok, ⟨hvB, by omega⟩, hpB, by omega⟩, hm.k.more (by omega), hm.g, SlT.ofOwnL stEnc_lenL (all_snoc (stB_all hsB) ⟨rfl, by dsimp only; omega, s0_ok⟩) (hm.ownI 0 rfl) (by simp [hsl]), (hm.fact 0 rfl), SlT.ofOwn vh_len (hm.ownI 1 rfl) hvl, SlT.ofOwn pl_len (hm.ownI 2 rfl) hpl, own_shape (hm.ownI 2 rfl), own_cap (hm.ownI 2 rfl)⟩
  refine wl_buildSlice (e := 9) (cs := [.string ⟨#[]⟩, .string ⟨#[65]⟩, .string ⟨#[115, 49]⟩, .string ⟨#[115, 57]⟩]) rfl (by kernel_rfl) rfl fun g7 => ?_
  refine wl_nil ?_
  refine nw 10 13 (fun _ hm => ⟨hm.bl 2, hm.fa 0, trivial⟩) fun z => ?_
  refine wa_all [1, 4] (by kernel_rfl) rfl ⟨⟨_, rfl, ?_⟩, ⟨_, rfl, ?_⟩, trivial⟩
  ·refine lk_ sc61 1 rfl rfl rfl (wl_nil ?_)
   refine nw 10 15 (fun _ hm => ⟨hm.bl 2, hm.fa 0, trivial⟩) fun z => ?_
   refine wa1 4 rfl ?_
   refine wl_got (γ := ByteArray) (val := fun v => .string v) (φ := fun v => v ∈ ([⟨#[]⟩, ⟨#[65]⟩, ⟨#[115, 49]⟩, ⟨#[115, 57]⟩] : List ByteArray)) rfl cb57 rfl rfl rfl rfl (fun wx hm => (some_any [⟨#[]⟩, ⟨#[65]⟩, ⟨#[115, 49]⟩, ⟨#[115, 57]⟩] _ _ _ wx B sb _ hm.k (by omega) (by simp) (by simp) (hm.blkI 0 rfl) (hm.neRow 0 rfl rfl))) fun s8 hs8 => ?_
   have zs8 : s8.size ≤ 100 := mem_sz hs8 (by decide)
   refine wl_nil ?_
   refine nw 10 31 (fun _ hm => ⟨hm.bl 2, hm.fa 0, trivial⟩) fun z => ?_
   refine wt 5 10 63 rfl z (ov_build (cs := [.string s8, .int .i64 0, .int .i64 0, .int .i64 0, .int .i64 0, .int .i64 0, .int .i64 0, .int .i64 0, .int .i64 0, .int .i64 0, .int .i64 0, .int .i64 0, .int .i64 0, .int .i64 0, .int .i64 0]) rfl (by kernel_rfl)) ?_
   refine wa1 6 rfl ?_
   refine wl_buildSlice (e := 168) (cs := [.string s8, .int .i64 0, .int .i64 0, .int .i64 0, .int .i64 0, .int .i64 0, .int .i64 0, .int .i64 0, .int .i64 0, .int .i64 0, .int .i64 0, .int .i64 0, .int .i64 0, .int .i64 0, .int .i64 0]) rfl (by kernel_rfl) rfl fun g9 => ?_
   refine wl_nil ?_
   refine nw 10 127 (fun _ hm => ⟨hm.bl 3, hm.fa 0, trivial⟩) fun z => ?_
   refine wa1 7 rfl ?_
   refine wl_append (news := [.string s8, .int .i64 0, .int .i64 0, .int .i64 0, .int .i64 0, .int .i64 0, .int .i64 0, .int .i64 0, .int .i64 0, .int .i64 0, .int .i64 0, .int .i64 0, .int .i64 0, .int .i64 0, .int .i64 0]) 0 0 ap61 rfl rfl rfl rfl rfl rfl rfl (by omega) (by unfold maxLen; omega) rfl rfl fun v2 hv2 => ?_
   refine wl_look (R := ∃ A cc, v2 = .slice A (sn + 1) cc) (fun wx hm => own_slice (hm.ownI 0 rfl)) ?_
   rintro ⟨A2, c2, rfl⟩
   have hxs : sl.flatMap stEnc ++ ([.string s8, .int .i64 0, .int .i64 0, .int .i64 0, .int .i64 0, .int .i64 0, .int .i64 0, .int .i64 0, .int .i64 0, .int .i64 0, .int .i64 0, .int .i64 0, .int .i64 0, .int .i64 0, .int .i64 0] : List Value) = (sl ++ [(⟨s8, [0, 0, 0, 0, 0, 0, 0, 0, 0, 0, 0, 0, 0, 0]⟩ : St)]).flatMap stEnc := by simp [stEnc, stCells]
   rw [hxs]
   refine wl_nil ?_
   refine nw 10 255 (fun _ hm => ⟨hm.bl 3, hm.fa 0, trivial⟩) fun z => ?_
   refine wt 8 10 511 rfl z (ov_field fo66_0 rfl rfl) ?_
   refine wa1 9 rfl ?_
   refine wl_store 2 sc61 rfl rfl rfl rfl rfl rfl ?_
   refine wl_nil ?_
   refine nw 10 1023 (fun _ hm => ⟨hm.bl 3, hm.fa 0, trivial⟩) fun z => ?_
   refine wa_done (by kernel_rfl) ?_
   refine nx_blk_nrm (nx_then (sr_ ?_))
   refine wl_ov (ov_loads rz66 rfl (fun _ hm => hm.blkI 2 rfl) rfl rfl) rfl ?_
   refine wl_stores (cs' := [.slice A2 (sn + 1) c2, .slice cA 4 cc, .slice vA vn vc, .slice pA pn pc]) 3 rz66 rfl rfl rfl rfl rfl rfl rfl rfl ?_
   refine nn_ ?_
   refine gw_ret ?_
   refine nx_retc 3 rfl rz66 rfl rfl rfl fun wx hm => ?_
   exact ⟨A2, cA, vA, pA, sn + 1, c2, cc, vn, vc, pn, pc, sl ++ [(⟨s8, [0, 0, 0, 0, 0, 0, 0, 0, 0, 0, 0, 0, 0, 0]⟩ : St)], cl, vl, pl, rfl, ⟨⟨all_snoc (stB_all hsB) ⟨rfl, by dsimp only; omega, s0_ok⟩, by omega⟩, hcok, ⟨hvB, by omega⟩, hpB, by omega⟩, hm.k.more (by omega), hm.g, SlT.ofOwnL stEnc_lenL (all_snoc (stB_all hsB) ⟨rfl, by dsimp only; omega, s0_ok⟩) (hm.ownI 0 rfl) (by simp [hsl]), (hm.fact 0 rfl), SlT.ofOwn vh_len (hm.ownI 1 rfl) hvl, SlT.ofOwn pl_len (hm.ownI 2 rfl) hpl, own_shape (hm.ownI 2 rfl), own_cap (hm.ownI 2 rfl)⟩
  refine wl_got (γ := ByteArray) (val := fun v => .string v) (φ := fun v => v ∈ ([⟨#[]⟩, ⟨#[65]⟩, ⟨#[115, 49]⟩, ⟨#[115, 57]⟩] : List ByteArray)) rfl cb57 rfl rfl rfl rfl (fun wx hm => (some_any [⟨#[]⟩, ⟨#[65]⟩, ⟨#[115, 49]⟩, ⟨#[115, 57]⟩] _ _ _ wx B sb _ hm.k (by omega) (by simp) (by simp) (hm.blkI 0 rfl) (hm.neRow 0 rfl rfl))) fun s10 hs10 => ?_
  have zs10 : s10.size ≤ 100 := mem_sz hs10 (by decide)
  refine wl_nil ?_
  refine nw 10 29 (fun _ hm => ⟨hm.bl 2, hm.fa 0, trivial⟩) fun z => ?_
  refine wt 5 10 61 rfl z (ov_build (cs := [.string s10, .int .i64 0, .int .i64 0, .int .i64 0, .int .i64 0, .int .i64 0, .int .i64 0, .int .i64 0, .int .i64 0, .int .i64 0, .int .i64 0, .int .i64 0, .int .i64 0, .int .i64 0, .int .i64 0]) rfl (by kernel_rfl)) ?_
  refine wa_all [1, 6] (by kernel_rfl) rfl ⟨⟨_, rfl, ?_⟩, ⟨_, rfl, ?_⟩, trivial⟩
  ·refine lk_ sc61 1 rfl rfl rfl (wl_nil ?_)
   refine nw 10 63 (fun _ hm => ⟨hm.bl 2, hm.fa 0, trivial⟩) fun z => ?_
   refine wa1 6 rfl ?_
   refine wl_buildSlice (e := 168) (cs := [.string s10, .int .i64 0, .int .i64 0, .int .i64 0, .int .i64 0, .int .i64 0, .int .i64 0, .int .i64 0, .int .i64 0, .int .i64 0, .int .i64 0, .int .i64 0, .int .i64 0, .int .i64 0, .int .i64 0]) rfl (by kernel_rfl) rfl fun g11 => ?_
   refine wl_nil ?_
   refine nw 10 127 (fun _ hm => ⟨hm.bl 3, hm.fa 0, trivial⟩) fun z => ?_
   refine wa1 7 rfl ?_
   refine wl_append (news := [.string s10, .int .i64 0, .int .i64 0, .int .i64 0, .int .i64 0, .int .i64 0, .int .i64 0, .int .i64 0, .int .i64 0, .int .i64 0, .int .i64 0, .int .i64 0, .int .i64 0, .int .i64 0, .int .i64 0]) 0 0 ap61 rfl rfl rfl rfl rfl rfl rfl (by omega) (by unfold maxLen; omega) rfl rfl fun v2 hv2 => ?_
   refine wl_look (R := ∃ A cc, v2 = .slice A (sn + 1) cc) (fun wx hm => own_slice (hm.ownI 0 rfl)) ?_
   rintro ⟨A2, c2, rfl⟩
   have hxs : sl.flatMap stEnc ++ ([.string s10, .int .i64 0, .int .i64 0, .int .i64 0, .int .i64 0, .int .i64 0, .int .i64 0, .int .i64 0, .int .i64 0, .int .i64 0, .int .i64 0, .int .i64 0, .int .i64 0, .int .i64 0, .int .i64 0] : List Value) = (sl ++ [(⟨s10, [0, 0, 0, 0, 0, 0, 0, 0, 0, 0, 0, 0, 0, 0]⟩ : St)]).flatMap stEnc := by simp [stEnc, stCells]
   rw [hxs]
   refine wl_nil ?_
   refine nw 10 255 (fun _ hm => ⟨hm.bl 3, hm.fa 0, trivial⟩) fun z => ?_
   refine wt 8 10 511 rfl z (ov_field fo66_0 rfl rfl) ?_
   refine wa1 9 rfl ?_
   refine wl_store 2 sc61 rfl rfl rfl rfl rfl rfl ?_
   refine wl_nil ?_
   refine nw 10 1023 (fun _ hm => ⟨hm.bl 3, hm.fa 0, trivial⟩) fun z => ?_
   refine wa_done (by kernel_rfl) ?_
   refine nx_blk_nrm (nx_then (sr_ ?_))
   refine wl_ov (ov_loads rz66 rfl (fun _ hm => hm.blkI 2 rfl) rfl rfl) rfl ?_
   refine wl_stores (cs' := [.slice A2 (sn + 1) c2, .slice cA 4 cc, .slice vA vn vc, .slice pA pn pc]) 3 rz66 rfl rfl rfl rfl rfl rfl rfl rfl ?_
   refine nn_ ?_
   refine gw_ret ?_
   refine nx_retc 3 rfl rz66 rfl rfl rfl fun wx hm => ?_
   exact ⟨A2, cA, vA, pA, sn + 1, c2, cc, vn, vc, pn, pc, sl ++ [(⟨s10, [0, 0, 0, 0, 0, 0, 0, 0, 0, 0, 0, 0, 0, 0]⟩ : St)], cl, vl, pl, rfl, ⟨⟨all_snoc (stB_all hsB) ⟨rfl, by dsimp only; omega, s0_ok⟩, by omega⟩, hcok, ⟨hvB, by omega⟩, hpB, by omega⟩, hm.k.more (by omega), hm.g, SlT.ofOwnL stEnc_lenL (all_snoc (stB_all hsB) ⟨rfl, by dsimp only; omega, s0_ok⟩) (hm.ownI 0 rfl) (by simp [hsl]), (hm.fact 0 rfl), SlT.ofOwn vh_len (hm.ownI 1 rfl) hvl, SlT.ofOwn pl_len (hm.ownI 2 rfl) hpl, own_shape (hm.ownI 2 rfl), own_cap (hm.ownI 2 rfl)⟩
  refine wl_buildSlice (e := 168) (cs := [.string s10, .int .i64 0, .int .i64 0, .int .i64 0, .int .i64 0, .int .i64 0, .int .i64 0, .int .i64 0, .int .i64 0, .int .i64 0, .int .i64 0, .int .i64 0, .int .i64 0, .int .i64 0, .int .i64 0]) rfl (by kernel_rfl) rfl fun g12 => ?_
  refine wl_nil ?_
  refine nw 10 125 (fun _ hm => ⟨hm.bl 3, hm.fa 0, trivial⟩) fun z => ?_
  refine wa1 1 rfl ?_
  refine lk_ sc61 2 rfl rfl rfl (wl_nil ?_)
  refine nw 10 127 (fun _ hm => ⟨hm.bl 3, hm.fa 0, trivial⟩) fun z => ?_
  refine wa1 7 rfl ?_
  refine wl_append (news := [.string s10, .int .i64 0, .int .i64 0, .int .i64 0, .int .i64 0, .int .i64 0, .int .i64 0, .int .i64 0, .int .i64 0, .int .i64 0, .int .i64 0, .int .i64 0, .int .i64 0, .int .i64 0, .int .i64 0]) 0 0 ap61 rfl rfl rfl rfl rfl rfl rfl (by omega) (by unfold maxLen; omega) rfl rfl fun v2 hv2 => ?_
  refine wl_look (R := ∃ A cc, v2 = .slice A (sn + 1) cc) (fun wx hm => own_slice (hm.ownI 0 rfl)) ?_
  rintro ⟨A2, c2, rfl⟩
  have hxs : sl.flatMap stEnc ++ ([.string s10, .int .i64 0, .int .i64 0, .int .i64 0, .int .i64 0, .int .i64 0, .int .i64 0, .int .i64 0, .int .i64 0, .int .i64 0, .int .i64 0, .int .i64 0, .int .i64 0, .int .i64 0, .int .i64 0] : List Value) = (sl ++ [(⟨s10, [0, 0, 0, 0, 0, 0, 0, 0, 0, 0, 0, 0, 0, 0]⟩ : St)]).flatMap stEnc := by simp [stEnc, stCells]
  rw [hxs]
  refine wl_nil ?_
  refine nw 10 255 (fun _ hm => ⟨hm.bl 3, hm.fa 0, trivial⟩) fun z => ?_
  refine wt 8 10 511 rfl z (ov_field fo66_0 rfl rfl) ?_
  refine wa1 9 rfl ?_
  refine wl_store 2 sc61 rfl rfl rfl rfl rfl rfl ?_
  refine wl_nil ?_
  refine nw 10 1023 (fun _ hm => ⟨hm.bl 3, hm.fa 0, trivial⟩) fun z => ?_
  refine wa_done (by kernel_rfl) ?_
  refine nx_blk_nrm (nx_then (sr_ ?_))
  refine wl_ov (ov_loads rz66 rfl (fun _ hm => hm.blkI 2 rfl) rfl rfl) rfl ?_
  refine wl_stores (cs' := [.slice A2 (sn + 1) c2, .slice cA 4 cc, .slice vA vn vc, .slice pA pn pc]) 3 rz66 rfl rfl rfl rfl rfl rfl rfl rfl ?_
  refine nn_ ?_
  refine gw_ret ?_
  refine nx_retc 3 rfl rz66 rfl rfl rfl fun wx hm => ?_
  exact ⟨A2, cA, vA, pA, sn + 1, c2, cc, vn, vc, pn, pc, sl ++ [(⟨s10, [0, 0, 0, 0, 0, 0, 0, 0, 0, 0, 0, 0, 0, 0]⟩ : St)], cl, vl, pl, rfl, ⟨⟨all_snoc (stB_all hsB) ⟨rfl, by dsimp only; omega, s0_ok⟩, by omega⟩, hcok, ⟨hvB, by omega⟩, hpB, by omega⟩, hm.k.more (by omega), hm.g, SlT.ofOwnL stEnc_lenL (all_snoc (stB_all hsB) ⟨rfl, by dsimp only; omega, s0_ok⟩) (hm.ownI 0 rfl) (by simp [hsl]), (hm.fact 0 rfl), SlT.ofOwn vh_len (hm.ownI 1 rfl) hvl, SlT.ofOwn pl_len (hm.ownI 2 rfl) hpl, own_shape (hm.ownI 2 rfl), own_cap (hm.ownI 2 rfl)⟩
 have h0 : ¬ (vj = 0) := by simpa using hh
 clear hh
 refine sr_ (wl_ov (ov_eql rfl rfl) rfl (sg_ rfl (nn_ ?_)))
 refine gw_cond rfl (fun hh => ?_) (fun hh => ?_)
 ·have h1 : vj = 1 := by simpa using hh
  clear hh
  refine gw_region (mv_ rfl ?_)
  refine wl_calls (γ := Option Addr × Nat × List Cs) (val := (fun g => .slice g.1 4 g.2.1)) (φ := (fun g => g.2.2.length = 4 ∧ (∀ x ∈ g.2.2, CsOk x))) (Y := (fun g => fun wy => SlT csEnc 2 170 wy g.1 4 g.2.2)) (m' := m + 300 + 1 + 1 + 40) rfl cb125 rfl rfl rfl rfl (fun wx hm => (ganyClasses_any wx B sb _ hm.k (by omega)).mono fun _ _ ⟨A, c, l, he, ho, hl, hok, hS, hg⟩ => ⟨(A, c, l), he, ⟨hl, hok⟩, hS, hg, SlT.ofOwn cs_len ho hl⟩) (fun _ => SlT.lasts2 rfl) ?_
  rintro ⟨cA2, cc2, cl2⟩ hphi
  dsimp only at hphi ⊢
  obtain ⟨hcl42, hcok2⟩ := hphi
  refine fd_ fo66_1 rfl rfl ?_
  refine wl_store 0 sc62 rfl rfl rfl rfl rfl rfl ?_
  refine wl_nil (nx_blk_nrm (nx_then (sr_ ?_)))
  refine wl_ov (ov_loads rz66 rfl (fun _ hm => hm.blkI 0 rfl) rfl rfl) rfl ?_
  refine wl_stores (cs' := [.slice sA sn sc, .slice cA2 4 cc2, .slice vA vn vc, .slice pA pn pc]) 1 rz66 rfl rfl rfl rfl rfl rfl rfl rfl ?_
  refine nn_ ?_
  refine gw_ret ?_
  refine nx_retc 1 rfl rz66 rfl rfl rfl fun wx hm => ?_
  exact ⟨sA, cA2, vA, pA, sn, sc, cc2, vn, vc, pn, pc, sl, cl2, vl, pl, rfl, ⟨⟨stB_all hsB, by omega⟩, hcok2, ⟨hvB, by omega⟩, hpB, by omega⟩, hm.k.more (by omega), hm.g, SlT.ofOwnL stEnc_lenL (stB_all hsB) (hm.ownI 0 rfl) hsl, (hm.fact 0 rfl), SlT.ofOwn vh_len (hm.ownI 1 rfl) hvl, SlT.ofOwn pl_len (hm.ownI 2 rfl) hpl, own_shape (hm.ownI 2 rfl), own_cap (hm.ownI 2 rfl)⟩
 have h1 : ¬ (vj = 1) := by simpa using hh
 clear hh
 refine sr_ (wl_ov (ov_eql rfl rfl) rfl (sg_ rfl (nn_ ?_)))
 refine gw_cond rfl (fun hh => ?_) (fun hh => ?_)
 ·have h2 : vj = 2 := by simpa using hh
  clear hh
  refine gd (fun wz => Blk wz g1 66 [.slice none 0 0, .slice none 0 0, .slice none 0 0, .slice none 0 0] ∧ (fun wy => SlT csEnc 2 170 wy cA 4 cl) wz ∧ True) mixed (fun _ hm => ⟨hm.bl 1, hm.fa 0, trivial⟩) fun z => ?_
  refine wt 0 12 1 rfl z (ov_field fo66_2 rfl rfl) ?_
  refine wt 2 12 5 rfl z (ov_move rfl) ?_
  refine wt 5 12 37 rfl z (ov_move rfl) ?_
  refine wa_all [1, 3] (by kernel_rfl) rfl ⟨⟨_, rfl, ?_⟩, ⟨_, rfl, ?_⟩, trivial⟩
  ·refine lk_ sc63 0 rfl rfl rfl (wl_nil ?_)
   refine nw 12 39 (fun _ hm => ⟨hm.bl 1, hm.fa 0, trivial⟩) fun z => ?_
   refine wa1 3 rfl ?_
   refine wl_buildSlice (e := 9) (cs := [.string ⟨#[]⟩, .string ⟨#[118, 49]⟩, .string ⟨#[118, 57]⟩]) rfl (by kernel_rfl) rfl fun g13 => ?_
   refine wl_nil ?_
   refine nw 12 47 (fun _ hm => ⟨hm.bl 2, hm.fa 0, trivial⟩) fun z => ?_
   refine wa1 4 rfl ?_
   refine wl_got (γ := ByteArray) (val := fun v => .string v) (φ := fun v => v ∈ ([⟨#[]⟩, ⟨#[118, 49]⟩, ⟨#[118, 57]⟩] : List ByteArray)) rfl cb57 rfl rfl rfl rfl (fun wx hm => (some_any [⟨#[]⟩, ⟨#[118, 49]⟩, ⟨#[118, 57]⟩] _ _ _ wx B sb _ hm.k (by omega) (by simp) (by simp) (hm.blkI 0 rfl) (hm.neRow 0 rfl rfl))) fun s14 hs14 => ?_
   have zs14 : s14.size ≤ 100 := mem_sz hs14 (by decide)
   refine wl_nil ?_
   refine nw 12 63 (fun _ hm => ⟨hm.bl 2, hm.fa 0, trivial⟩) fun z => ?_
   refine wa1 6 rfl ?_
   refine wl_calls (γ := ByteArray) (val := (fun g => .string g)) (φ := (fun g => g.size ≤ 100)) (Y := (fun g => fun _ => True)) (m' := m + 300 + 1 + 1 + 1 + 1) rfl cb126 rfl rfl rfl rfl (fun wx hm => (gclassKey2_any wx B sb _ hm.k (by omega)).mono fun _ _ ⟨v, he, hz, hS, hg⟩ => ⟨v, he, hz, hS, hg, trivial⟩) (fun _ => Lasts2.true_) ?_
   rintro ck hck
   refine wl_nil ?_
   refine nw 12 127 (fun _ hm => ⟨hm.bl 2, hm.fa 1, trivial⟩) fun z => ?_
   refine wt 7 12 255 rfl z (ov_build (cs := [.string s14, .string ck]) rfl (by kernel_rfl)) ?_
   refine wa1 8 rfl ?_
   refine wl_buildSlice (e := 158) (cs := [.string s14, .string ck]) rfl (by kernel_rfl) rfl fun g16 => ?_
   refine wl_nil ?_
   refine nw 12 511 (fun _ hm => ⟨hm.bl 3, hm.fa 1, trivial⟩) fun z => ?_
   refine wa1 9 rfl ?_
   refine wl_append (news := [.string s14, .string ck]) 1 0 ap63 rfl rfl rfl rfl rfl rfl rfl (by omega) (by unfold maxLen; omega) rfl rfl fun v2 hv2 => ?_
   refine wl_look (R := ∃ A cc, v2 = .slice A (vn + 1) cc) (fun wx hm => own_slice (hm.ownI 1 rfl)) ?_
   rintro ⟨A2, c2, rfl⟩
   have hxs : vl.flatMap vhEnc ++ ([.string s14, .string ck] : List Value) = (vl ++ [(⟨s14, ck⟩ : Vh)]).flatMap vhEnc := by simp [vhEnc]
   rw [hxs]
   refine wl_nil ?_
   refine nw 12 1023 (fun _ hm => ⟨hm.bl 3, hm.fa 1, trivial⟩) fun z => ?_
   refine wt 10 12 2047 rfl z (ov_field fo66_2 rfl rfl) ?_
   refine wa1 11 rfl ?_
   refine wl_store 2 sc63 rfl rfl rfl rfl rfl rfl ?_
   refine wl_nil ?_
   refine nw 12 4095 (fun _ hm => ⟨hm.bl 3, hm.fa 1, trivial⟩) fun z => ?_
   refine wa_done (by kernel_rfl) ?_
   refine nx_blk_nrm (nx_then (sr_ ?_))
   refine wl_ov (ov_loads rz66 rfl (fun _ hm => hm.blkI 2 rfl) rfl rfl) rfl ?_
   refine wl_stores (cs' := [.slice sA sn sc, .slice cA 4 cc, .slice A2 (vn + 1) c2, .slice pA pn pc]) 3 rz66 rfl rfl rfl rfl rfl rfl rfl rfl ?_
   refine nn_ ?_
   refine gw_ret ?_
   refine nx_retc 3 rfl rz66 rfl rfl rfl fun wx hm => ?_
   exact ⟨sA, cA, A2, pA, sn, sc, cc, vn + 1, c2, pn, pc, sl, cl, vl ++ [(⟨s14, ck⟩ : Vh)], pl, rfl, ⟨⟨stB_all hsB, by omega⟩, hcok, ⟨all_snoc hvB ⟨by dsimp only; omega, by dsimp only; omega⟩, by omega⟩, hpB, by omega⟩, hm.k.more (by omega), hm.g, SlT.ofOwnL stEnc_lenL (stB_all hsB) (hm.ownI 0 rfl) hsl, (hm.fact 1 rfl), SlT.ofOwn vh_len (hm.ownI 1 rfl) (by simp [hvl]), SlT.ofOwn pl_len (hm.ownI 2 rfl) hpl, own_shape (hm.ownI 2 rfl), own_cap (hm.ownI 2 rfl)⟩
  refine wl_buildSlice (e := 9) (cs := [.string ⟨#[]⟩, .string ⟨#[118, 49]⟩, .string ⟨#[118, 57]⟩]) rfl (by kernel_rfl) rfl fun g17 => ?_
  refine wl_nil ?_
  refine nw 12 45 (fun _ hm => ⟨hm.bl 2, hm.fa 0, trivial⟩) fun z => ?_
  refine wa_all [1, 4] (by kernel_rfl) rfl ⟨⟨_, rfl, ?_⟩, ⟨_, rfl, ?_⟩, trivial⟩
  ·refine lk_ sc63 1 rfl rfl rfl (wl_nil ?_)
   refine nw 12 47 (fun _ hm => ⟨hm.bl 2, hm.fa 0, trivial⟩) fun z => ?_
   refine wa1 4 rfl ?_
   refine wl_got (γ := ByteArray) (val := fun v => .string v) (φ := fun v => v ∈ ([⟨#[]⟩, ⟨#[118, 49]⟩, ⟨#[118, 57]⟩] : List ByteArray)) rfl cb57 rfl rfl rfl rfl (fun wx hm => (some_any [⟨#[]⟩, ⟨#[118, 49]⟩, ⟨#[118, 57]⟩] _ _ _ wx B sb _ hm.k (by omega) (by simp) (by simp) (hm.blkI 0 rfl) (hm.neRow 0 rfl rfl))) fun s18 hs18 => ?_
   have zs18 : s18.size ≤ 100 := mem_sz hs18 (by decide)
   refine wl_nil ?_
   refine nw 12 63 (fun _ hm => ⟨hm.bl 2, hm.fa 0, trivial⟩) fun z => ?_
   refine wa1 6 rfl ?_
   refine wl_calls (γ := ByteArray) (val := (fun g => .string g)) (φ := (fun g => g.size ≤ 100)) (Y := (fun g => fun _ => True)) (m' := m + 300 + 1 + 1 + 1 + 1) rfl cb126 rfl rfl rfl rfl (fun wx hm => (gclassKey2_any wx B sb _ hm.k (by omega)).mono fun _ _ ⟨v, he, hz, hS, hg⟩ => ⟨v, he, hz, hS, hg, trivial⟩) (fun _ => Lasts2.true_) ?_
   rintro ck hck
   refine wl_nil ?_
   refine nw 12 127 (fun _ hm => ⟨hm.bl 2, hm.fa 1, trivial⟩) fun z => ?_
   refine wt 7 12 255 rfl z (ov_build (cs := [.string s18, .string ck]) rfl (by kernel_rfl)) ?_
   refine wa1 8 rfl ?_
   refine wl_buildSlice (e := 158) (cs := [.string s18, .string ck]) rfl (by kernel_rfl) rfl fun g20 => ?_
   refine wl_nil ?_
   refine nw 12 511 (fun _ hm => ⟨hm.bl 3, hm.fa 1, trivial⟩) fun z => ?_
   refine wa1 9 rfl ?_
   refine wl_append (news := [.string s18, .string ck]) 1 0 ap63 rfl rfl rfl rfl rfl rfl rfl (by omega) (by unfold maxLen; omega) rfl rfl fun v2 hv2 => ?_
   refine wl_look (R := ∃ A cc, v2 = .slice A (vn + 1) cc) (fun wx hm => own_slice (hm.ownI 1 rfl)) ?_
   rintro ⟨A2, c2, rfl⟩
   have hxs : vl.flatMap vhEnc ++ ([.string s18, .string ck] : List Value) = (vl ++ [(⟨s18, ck⟩ : Vh)]).flatMap vhEnc := by simp [vhEnc]
   rw [hxs]
   refine wl_nil ?_
   refine nw 12 1023 (fun _ hm => ⟨hm.bl 3, hm.fa 1, trivial⟩) fun z => ?_
   refine wt 10 12 2047 rfl z (ov_field fo66_2 rfl rfl) ?_
   refine wa1 11 rfl ?_
   refine wl_store 2 sc63 rfl rfl rfl rfl rfl rfl ?_
   refine wl_nil ?_
   refine nw 12 4095 (fun _ hm => ⟨hm.bl 3, hm.fa 1, trivial⟩) fun z => ?_
   refine wa_done (by kernel_rfl) ?_
   refine nx_blk_nrm (nx_then (sr_ ?_))
   refine wl_ov (ov_loads rz66 rfl (fun _ hm => hm.blkI 2 rfl) rfl rfl) rfl ?_
   refine wl_stores (cs' := [.slice sA sn sc, .slice cA 4 cc, .slice A2 (vn + 1) c2, .slice pA pn pc]) 3 rz66 rfl rfl rfl rfl rfl rfl rfl rfl ?_
   refine nn_ ?_
   refine gw_ret ?_
   refine nx_retc 3 rfl rz66 rfl rfl rfl fun wx hm => ?_
   exact ⟨sA, cA, A2, pA, sn, sc, cc, vn + 1, c2, pn, pc, sl, cl, vl ++ [(⟨s18, ck⟩ : Vh)], pl, rfl, ⟨⟨stB_all hsB, by omega⟩, hcok, ⟨all_snoc hvB ⟨by dsimp only; omega, by dsimp only; omega⟩, by omega⟩, hpB, by omega⟩, hm.k.more (by omega), hm.g, SlT.ofOwnL stEnc_lenL (stB_all hsB) (hm.ownI 0 rfl) hsl, (hm.fact 1 rfl), SlT.ofOwn vh_len (hm.ownI 1 rfl) (by simp [hvl]), SlT.ofOwn pl_len (hm.ownI 2 rfl) hpl, own_shape (hm.ownI 2 rfl), own_cap (hm.ownI 2 rfl)⟩
  refine wl_got (γ := ByteArray) (val := fun v => .string v) (φ := fun v => v ∈ ([⟨#[]⟩, ⟨#[118, 49]⟩, ⟨#[118, 57]⟩] : List ByteArray)) rfl cb57 rfl rfl rfl rfl (fun wx hm => (some_any [⟨#[]⟩, ⟨#[118, 49]⟩, ⟨#[118, 57]⟩] _ _ _ wx B sb _ hm.k (by omega) (by simp) (by simp) (hm.blkI 0 rfl) (hm.neRow 0 rfl rfl))) fun s21 hs21 => ?_
  have zs21 : s21.size ≤ 100 := mem_sz hs21 (by decide)
  refine wl_nil ?_
  refine nw 12 61 (fun _ hm => ⟨hm.bl 2, hm.fa 0, trivial⟩) fun z => ?_
  refine wa_all [1, 6] (by kernel_rfl) rfl ⟨⟨_, rfl, ?_⟩, ⟨_, rfl, ?_⟩, trivial⟩
  ·refine lk_ sc63 1 rfl rfl rfl (wl_nil ?_)
   refine nw 12 63 (fun _ hm => ⟨hm.bl 2, hm.fa 0, trivial⟩) fun z => ?_
   refine wa1 6 rfl ?_
   refine wl_calls (γ := ByteArray) (val := (fun g => .string g)) (φ := (fun g => g.size ≤ 100)) (Y := (fun g => fun _ => True)) (m' := m + 300 + 1 + 1 + 1 + 1) rfl cb126 rfl rfl rfl rfl (fun wx hm => (gclassKey2_any wx B sb _ hm.k (by omega)).mono fun _ _ ⟨v, he, hz, hS, hg⟩ => ⟨v, he, hz, hS, hg, trivial⟩) (fun _ => Lasts2.true_) ?_
   rintro ck hck
   refine wl_nil ?_
   refine nw 12 127 (fun _ hm => ⟨hm.bl 2, hm.fa 1, trivial⟩) fun z => ?_
   refine wt 7 12 255 rfl z (ov_build (cs := [.string s21, .string ck]) rfl (by kernel_rfl)) ?_
   refine wa1 8 rfl ?_
   refine wl_buildSlice (e := 158) (cs := [.string s21, .string ck]) rfl (by kernel_rfl) rfl fun g23 => ?_
   refine wl_nil ?_
   refine nw 12 511 (fun _ hm => ⟨hm.bl 3, hm.fa 1, trivial⟩) fun z => ?_
   refine wa1 9 rfl ?_
   refine wl_append (news := [.string s21, .string ck]) 1 0 ap63 rfl rfl rfl rfl rfl rfl rfl (by omega) (by unfold maxLen; omega) rfl rfl fun v2 hv2 => ?_
   refine wl_look (R := ∃ A cc, v2 = .slice A (vn + 1) cc) (fun wx hm => own_slice (hm.ownI 1 rfl)) ?_
   rintro ⟨A2, c2, rfl⟩
   have hxs : vl.flatMap vhEnc ++ ([.string s21, .string ck] : List Value) = (vl ++ [(⟨s21, ck⟩ : Vh)]).flatMap vhEnc := by simp [vhEnc]
   rw [hxs]
   refine wl_nil ?_
   refine nw 12 1023 (fun _ hm => ⟨hm.bl 3, hm.fa 1, trivial⟩) fun z => ?_
   refine wt 10 12 2047 rfl z (ov_field fo66_2 rfl rfl) ?_
   refine wa1 11 rfl ?_
   refine wl_store 2 sc63 rfl rfl rfl rfl rfl rfl ?_
   refine wl_nil ?_
   refine nw 12 4095 (fun _ hm => ⟨hm.bl 3, hm.fa 1, trivial⟩) fun z => ?_
   refine wa_done (by kernel_rfl) ?_
   refine nx_blk_nrm (nx_then (sr_ ?_))
   refine wl_ov (ov_loads rz66 rfl (fun _ hm => hm.blkI 2 rfl) rfl rfl) rfl ?_
   refine wl_stores (cs' := [.slice sA sn sc, .slice cA 4 cc, .slice A2 (vn + 1) c2, .slice pA pn pc]) 3 rz66 rfl rfl rfl rfl rfl rfl rfl rfl ?_
   refine nn_ ?_
   refine gw_ret ?_
   refine nx_retc 3 rfl rz66 rfl rfl rfl fun wx hm => ?_
   exact ⟨sA, cA, A2, pA, sn, sc, cc, vn + 1, c2, pn, pc, sl, cl, vl ++ [(⟨s21, ck⟩ : Vh)], pl, rfl, ⟨⟨stB_all hsB, by omega⟩, hcok, ⟨all_snoc hvB ⟨by dsimp only; omega, by dsimp only; omega⟩, by omega⟩, hpB, by omega⟩, hm.k.more (by omega), hm.g, SlT.ofOwnL stEnc_lenL (stB_all hsB) (hm.ownI 0 rfl) hsl, (hm.fact 1 rfl), SlT.ofOwn vh_len (hm.ownI 1 rfl) (by simp [hvl]), SlT.ofOwn pl_len (hm.ownI 2 rfl) hpl, own_shape (hm.ownI 2 rfl), own_cap (hm.ownI 2 rfl)⟩
  refine wl_calls (γ := ByteArray) (val := (fun g => .string g)) (φ := (fun g => g.size ≤ 100)) (Y := (fun g => fun _ => True)) (m' := m + 300 + 1 + 1 + 1 + 1) rfl cb126 rfl rfl rfl rfl (fun wx hm => (gclassKey2_any wx B sb _ hm.k (by omega)).mono fun _ _ ⟨v, he, hz, hS, hg⟩ => ⟨v, he, hz, hS, hg, trivial⟩) (fun _ => Lasts2.true_) ?_
  rintro ck hck
  refine wl_nil ?_
  refine nw 12 125 (fun _ hm => ⟨hm.bl 2, hm.fa 1, trivial⟩) fun z => ?_
  refine wt 7 12 253 rfl z (ov_build (cs := [.string s21, .string ck]) rfl (by kernel_rfl)) ?_
  refine wa_all [1, 8] (by kernel_rfl) rfl ⟨⟨_, rfl, ?_⟩, ⟨_, rfl, ?_⟩, trivial⟩
  ·refine lk_ sc63 1 rfl rfl rfl (wl_nil ?_)
   refine nw 12 255 (fun _ hm => ⟨hm.bl 2, hm.fa 1, trivial⟩) fun z => ?_
   refine wa1 8 rfl ?_
   refine wl_buildSlice (e := 158) (cs := [.string s21, .string ck]) rfl (by kernel_rfl) rfl fun g25 => ?_
   refine wl_nil ?_
   refine nw 12 511 (fun _ hm => ⟨hm.bl 3, hm.fa 1, trivial⟩) fun z => ?_
   refine wa1 9 rfl ?_
   refine wl_append (news := [.string s21, .string ck]) 1 0 ap63 rfl rfl rfl rfl rfl rfl rfl (by omega) (by unfold maxLen; omega) rfl rfl fun v2 hv2 => ?_
   refine wl_look (R := ∃ A cc, v2 = .slice A (vn + 1) cc) (fun wx hm => own_slice (hm.ownI 1 rfl)) ?_
   rintro ⟨A2, c2, rfl⟩
   have hxs : vl.flatMap vhEnc ++ ([.string s21, .string ck] : List Value) = (vl ++ [(⟨s21, ck⟩ : Vh)]).flatMap vhEnc := by simp [vhEnc]
   rw [hxs]
   refine wl_nil ?_
   refine nw 12 1023 (fun _ hm => ⟨hm.bl 3, hm.fa 1, trivial⟩) fun z => ?_
   refine wt 10 12 2047 rfl z (ov_field fo66_2 rfl rfl) ?_
   refine wa1 11 rfl ?_
   refine wl_store 2 sc63 rfl rfl rfl rfl rfl rfl ?_
   refine wl_nil ?_
   refine nw 12 4095 (fun _ hm => ⟨hm.bl 3, hm.fa 1, trivial⟩) fun z => ?_
   refine wa_done (by kernel_rfl) ?_
   refine nx_blk_nrm (nx_then (sr_ ?_))
   refine wl_ov (ov_loads rz66 rfl (fun _ hm => hm.blkI 2 rfl) rfl rfl) rfl ?_
   refine wl_stores (cs' := [.slice sA sn sc, .slice cA 4 cc, .slice A2 (vn + 1) c2, .slice pA pn pc]) 3 rz66 rfl rfl rfl rfl rfl rfl rfl rfl ?_
   refine nn_ ?_
   refine gw_ret ?_
   refine nx_retc 3 rfl rz66 rfl rfl rfl fun wx hm => ?_
   exact ⟨sA, cA, A2, pA, sn, sc, cc, vn + 1, c2, pn, pc, sl, cl, vl ++ [(⟨s21, ck⟩ : Vh)], pl, rfl, ⟨⟨stB_all hsB, by omega⟩, hcok, ⟨all_snoc hvB ⟨by dsimp only; omega, by dsimp only; omega⟩, by omega⟩, hpB, by omega⟩, hm.k.more (by omega), hm.g, SlT.ofOwnL stEnc_lenL (stB_all hsB) (hm.ownI 0 rfl) hsl, (hm.fact 1 rfl), SlT.ofOwn vh_len (hm.ownI 1 rfl) (by simp [hvl]), SlT.ofOwn pl_len (hm.ownI 2 rfl) hpl, own_shape (hm.ownI 2 rfl), own_cap (hm.ownI 2 rfl)⟩
  refine wl_buildSlice (e := 158) (cs := [.string s21, .string ck]) rfl (by kernel_rfl) rfl fun g26 => ?_
  refine wl_nil ?_
  refine nw 12 509 (fun _ hm => ⟨hm.bl 3, hm.fa 1, trivial⟩) fun z => ?_
  refine wa1 1 rfl ?_
  refine lk_ sc63 2 rfl rfl rfl (wl_nil ?_)
  refine nw 12 511 (fun _ hm => ⟨hm.bl 3, hm.fa 1, trivial⟩) fun z => ?_
  refine wa1 9 rfl ?_
  refine wl_append (news := [.string s21, .string ck]) 1 0 ap63 rfl rfl rfl rfl rfl rfl rfl (by omega) (by unfold maxLen; omega) rfl rfl fun v2 hv2 => ?_
  refine wl_look (R := ∃ A cc, v2 = .slice A (vn + 1) cc) (fun wx hm => own_slice (hm.ownI 1 rfl)) ?_
  rintro ⟨A2, c2, rfl⟩
  have hxs : vl.flatMap vhEnc ++ ([.string s21, .string ck] : List Value) = (vl ++ [(⟨s21, ck⟩ : Vh)]).flatMap vhEnc := by simp [vhEnc]
  rw [hxs]
  refine wl_nil ?_
  refine nw 12 1023 (fun _ hm => ⟨hm.bl 3, hm.fa 1, trivial⟩) fun z => ?_
  refine wt 10 12 2047 rfl z (ov_field fo66_2 rfl rfl) ?_
  refine wa1 11 rfl ?_
  refine wl_store 2 sc63 rfl rfl rfl rfl rfl rfl ?_
  refine wl_nil ?_
  refine nw 12 4095 (fun _ hm => ⟨hm.bl 3, hm.fa 1, trivial⟩) fun z => ?_
  refine wa_done (by kernel_rfl) ?_
  refine nx_blk_nrm (nx_then (sr_ ?_))
  refine wl_ov (ov_loads rz66 rfl (fun _ hm => hm.blkI 2 rfl) rfl rfl) rfl ?_
  refine wl_stores (cs' := [.slice sA sn sc, .slice cA 4 cc, .slice A2 (vn + 1) c2, .slice pA pn pc]) 3 rz66 rfl rfl rfl rfl rfl rfl rfl rfl ?_
  refine nn_ ?_
  refine gw_ret ?_
  refine nx_retc 3 rfl rz66 rfl rfl rfl fun wx hm => ?_
  exact ⟨sA, cA, A2, pA, sn, sc, cc, vn + 1, c2, pn, pc, sl, cl, vl ++ [(⟨s21, ck⟩ : Vh)], pl, rfl, ⟨⟨stB_all hsB, by omega⟩, hcok, ⟨all_snoc hvB ⟨by dsimp only; omega, by dsimp only; omega⟩, by omega⟩, hpB, by omega⟩, hm.k.more (by omega), hm.g, SlT.ofOwnL stEnc_lenL (stB_all hsB) (hm.ownI 0 rfl) hsl, (hm.fact 1 rfl), SlT.ofOwn vh_len (hm.ownI 1 rfl) (by simp [hvl]), SlT.ofOwn pl_len (hm.ownI 2 rfl) hpl, own_shape (hm.ownI 2 rfl), own_cap (hm.ownI 2 rfl)⟩
 have h2 : ¬ (vj = 2) := by simpa using hh
 clear hh
 refine gd (fun wz => Blk wz g1 66 [.slice none 0 0, .slice none 0 0, .slice none 0 0, .slice none 0 0] ∧ (fun wy => SlT csEnc 2 170 wy cA 4 cl) wz ∧ True) mixed (fun _ hm => ⟨hm.bl 1, hm.fa 0, trivial⟩) fun z => ?_
 refine wt 0 15 1 rfl z (ov_field fo66_3 rfl rfl) ?_
 refine wt 2 15 5 rfl z (ov_move rfl) ?_
 refine wt 4 15 21 rfl z (ov_move rfl) ?_
 refine wt 7 15 149 rfl z (ov_move rfl) ?_
 refine wa_open fun W hW => ?_
 have T255 : ∀ (k3 : Int) (hk3 : -2000000000000000 ≤ k3 ∧ k3 ≤ 2000000000000000) (q5 : Nat) (k6 : ByteArray) (zk6 : k6.size ≤ 100), W 7 (lb 15 255) [(2, .pointer (some ⟨g1, 0, none⟩)), (3, .pointer (some ⟨g2, 0, none⟩)), (13, .slice pA pn pc), (15, .int .i64 k3), (18, .string k6), (19, .pointer (some ⟨sb, 0, none⟩))] (fun w => Strm 25 w B sb (m + 300 + 1 + 1 + 2 + 1)) [(g1, 66, [.slice none 0 0, .slice none 0 0, .slice none 0 0, .slice none 0 0]), (g2, 66, [.slice sA sn sc, .slice cA 4 cc, .slice vA vn vc, .slice pA pn pc]), (q5, 9, [.string ⟨#[118, 49]⟩, .string ⟨#[110, 111, 110, 101]⟩])] [⟨.slice sA sn sc, 168, 15, sn, sl.flatMap stEnc⟩, ⟨.slice vA vn vc, 158, 2, vn, vl.flatMap vhEnc⟩, ⟨.slice pA pn pc, 161, 3, pn, pl.flatMap plEnc⟩] [fun wy => SlT csEnc 2 170 wy cA 4 cl] := by
  intro k3 hk3 q5 k6 zk6
  rw [hW]
  refine wa1 8 rfl ?_
  refine wl_buildSlice (e := 9) (cs := [.string ⟨#[65, 66, 49]⟩, .string ⟨#[97, 49]⟩, .string ⟨#[65]⟩, .string ⟨#[65, 66, 67, 68, 69, 70, 71, 72, 73, 74, 49]⟩, .string ⟨#[65, 66, 49]⟩]) rfl (by kernel_rfl) rfl fun g27 => ?_
  refine wl_nil ?_
  refine nw 15 511 (fun _ hm => ⟨hm.bl 1, hm.fa 0, trivial⟩) fun z => ?_
  refine wa1 9 rfl ?_
  refine wl_got (γ := ByteArray) (val := fun v => .string v) (φ := fun v => v ∈ ([⟨#[65, 66, 49]⟩, ⟨#[97, 49]⟩, ⟨#[65]⟩, ⟨#[65, 66, 67, 68, 69, 70, 71, 72, 73, 74, 49]⟩, ⟨#[65, 66, 49]⟩] : List ByteArray)) rfl cb57 rfl rfl rfl rfl (fun wx hm => (some_any [⟨#[65, 66, 49]⟩, ⟨#[97, 49]⟩, ⟨#[65]⟩, ⟨#[65, 66, 67, 68, 69, 70, 71, 72, 73, 74, 49]⟩, ⟨#[65, 66, 49]⟩] _ _ _ wx B sb _ hm.k (by omega) (by simp) (by simp) (hm.blkI 0 rfl) (hm.neRow 0 rfl rfl))) fun k9 hk9 => ?_
  have zk9 : k9.size ≤ 100 := mem_sz hk9 (by decide)
  refine wl_nil ?_
  refine nw 15 1023 (fun _ hm => ⟨hm.bl 1, hm.fa 0, trivial⟩) fun z => ?_
  refine wt 10 15 2047 rfl z (ov_build (cs := [.int .i64 k3, .string k6, .string k9]) rfl (by kernel_rfl)) ?_
  refine wa1 11 rfl ?_
  refine wl_buildSlice (e := 161) (cs := [.int .i64 k3, .string k6, .string k9]) rfl (by kernel_rfl) rfl fun g28 => ?_
  refine wl_nil ?_
  refine nw 15 4095 (fun _ hm => ⟨hm.bl 2, hm.fa 0, trivial⟩) fun z => ?_
  refine wa1 12 rfl ?_
  refine wl_append (news := [.int .i64 k3, .string k6, .string k9]) 2 0 ap64 rfl rfl rfl rfl rfl rfl rfl (by omega) (by unfold maxLen; omega) rfl rfl fun v2 hv2 => ?_
  refine wl_look (R := ∃ A cc, v2 = .slice A (pn + 1) cc) (fun wx hm => own_slice (hm.ownI 2 rfl)) ?_
  rintro ⟨A2, c2, rfl⟩
  have hxs : pl.flatMap plEnc ++ ([.int .i64 k3, .string k6, .string k9] : List Value) = (pl ++ [(⟨k3, k6, k9⟩ : Pl)]).flatMap plEnc := by simp [plEnc]
  rw [hxs]
  refine wl_nil ?_
  refine nw 15 8191 (fun _ hm => ⟨hm.bl 2, hm.fa 0, trivial⟩) fun z => ?_
  refine wt 13 15 16383 rfl z (ov_field fo66_3 rfl rfl) ?_
  refine wa1 14 rfl ?_
  refine wl_store 3 sc64 rfl rfl rfl rfl rfl rfl ?_
  refine wl_nil ?_
  refine nw 15 32767 (fun _ hm => ⟨hm.bl 2, hm.fa 0, trivial⟩) fun z => ?_
  refine wa_done (by kernel_rfl) ?_
  refine nx_blk_nrm (nx_then (sr_ ?_))
  refine wl_ov (ov_loads rz66 rfl (fun _ hm => hm.blkI 3 rfl) rfl rfl) rfl ?_
  refine wl_stores (cs' := [.slice sA sn sc, .slice cA 4 cc, .slice vA vn vc, .slice A2 (pn + 1) c2]) 2 rz66 rfl rfl rfl rfl rfl rfl rfl rfl ?_
  refine nn_ ?_
  refine gw_ret ?_
  refine nx_retc 2 rfl rz66 rfl rfl rfl fun wx hm => ?_
  exact ⟨sA, cA, vA, A2, sn, sc, cc, vn, vc, pn + 1, c2, sl, cl, vl, pl ++ [(⟨k3, k6, k9⟩ : Pl)], rfl, ⟨⟨stB_all hsB, by omega⟩, hcok, ⟨hvB, by omega⟩, all_snoc hpB ⟨⟨by dsimp only; omega, by dsimp only; omega⟩, by dsimp only; omega, by dsimp only; omega⟩, by omega⟩, hm.k.more (by omega), hm.g, SlT.ofOwnL stEnc_lenL (stB_all hsB) (hm.ownI 0 rfl) hsl, (hm.fact 0 rfl), SlT.ofOwn vh_len (hm.ownI 1 rfl) hvl, SlT.ofOwn pl_len (hm.ownI 2 rfl) (by simp [hpl]), own_shape (hm.ownI 2 rfl), own_cap (hm.ownI 2 rfl)⟩
 have T447 : ∀ (k3 : Int) (hk3 : -2000000000000000 ≤ k3 ∧ k3 ≤ 2000000000000000) (q5 : Nat) (q8 : Nat), W 7 (lb 15 447) [(2, .pointer (some ⟨g1, 0, none⟩)), (3, .pointer (some ⟨g2, 0, none⟩)), (13, .slice pA pn pc), (15, .int .i64 k3), (16, .pointer (some ⟨sb, 0, none⟩)), (17, .slice (some ⟨q5, 0, none⟩) 2 2), (19, .pointer (some ⟨sb, 0, none⟩)), (20, .slice (some ⟨q8, 0, none⟩) 5 5)] (fun w => Strm 25 w B sb (m + 300 + 1 + 1 + 2)) [(g1, 66, [.slice none 0 0, .slice none 0 0, .slice none 0 0, .slice none 0 0]), (g2, 66, [.slice sA sn sc, .slice cA 4 cc, .slice vA vn vc, .slice pA pn pc]), (q5, 9, [.string ⟨#[118, 49]⟩, .string ⟨#[110, 111, 110, 101]⟩]), (q8, 9, [.string ⟨#[65, 66, 49]⟩, .string ⟨#[97, 49]⟩, .string ⟨#[65]⟩, .string ⟨#[65, 66, 67, 68, 69, 70, 71, 72, 73, 74, 49]⟩, .string ⟨#[65, 66, 49]⟩])] [⟨.slice sA sn sc, 168, 15, sn, sl.flatMap stEnc⟩, ⟨.slice vA vn vc, 158, 2, vn, vl.flatMap vhEnc⟩, ⟨.slice pA pn pc, 161, 3, pn, pl.flatMap plEnc⟩] [fun wy => SlT csEnc 2 170 wy cA 4 cl] := by
  intro k3 hk3 q5 q8
  rw [hW]
  refine wa1 6 rfl ?_
  refine wl_got (γ := ByteArray) (val := fun v => .string v) (φ := fun v => v ∈ ([⟨#[118, 49]⟩, ⟨#[110, 111, 110, 101]⟩] : List ByteArray)) rfl cb57 rfl rfl rfl rfl (fun wx hm => (some_any [⟨#[118, 49]⟩, ⟨#[110, 111, 110, 101]⟩] _ _ _ wx B sb _ hm.k (by omega) (by simp) (by simp) (hm.blkI 2 rfl) (hm.neRow 2 rfl rfl))) fun k6 hk6 => ?_
  have zk6 : k6.size ≤ 100 := mem_sz hk6 (by decide)
  refine wl_nil ?_
  refine nw 15 511 (fun _ hm => ⟨hm.bl 0, hm.fa 0, trivial⟩) fun z => ?_
  refine wa1 9 rfl ?_
  refine wl_got (γ := ByteArray) (val := fun v => .string v) (φ := fun v => v ∈ ([⟨#[65, 66, 49]⟩, ⟨#[97, 49]⟩, ⟨#[65]⟩, ⟨#[65, 66, 67, 68, 69, 70, 71, 72, 73, 74, 49]⟩, ⟨#[65, 66, 49]⟩] : List ByteArray)) rfl cb57 rfl rfl rfl rfl (fun wx hm => (some_any [⟨#[65, 66, 49]⟩, ⟨#[97, 49]⟩, ⟨#[65]⟩, ⟨#[65, 66, 67, 68, 69, 70, 71, 72, 73, 74, 49]⟩, ⟨#[65, 66, 49]⟩] _ _ _ wx B sb _ hm.k (by omega) (by simp) (by simp) (hm.blkI 3 rfl) (hm.neRow 3 rfl rfl))) fun k9 hk9 => ?_
  have zk9 : k9.size ≤ 100 := mem_sz hk9 (by decide)
  refine wl_nil ?_
  refine nw 15 1023 (fun _ hm => ⟨hm.bl 0, hm.fa 0, trivial⟩) fun z => ?_
  refine wt 10 15 2047 rfl z (ov_build (cs := [.int .i64 k3, .string k6, .string k9]) rfl (by kernel_rfl)) ?_
  refine wa1 11 rfl ?_
  refine wl_buildSlice (e := 161) (cs := [.int .i64 k3, .string k6, .string k9]) rfl (by kernel_rfl) rfl fun g29 => ?_
  refine wl_nil ?_
  refine nw 15 4095 (fun _ hm => ⟨hm.bl 1, hm.fa 0, trivial⟩) fun z => ?_
  refine wa1 12 rfl ?_
  refine wl_append (news := [.int .i64 k3, .string k6, .string k9]) 2 0 ap64 rfl rfl rfl rfl rfl rfl rfl (by omega) (by unfold maxLen; omega) rfl rfl fun v2 hv2 => ?_
  refine wl_look (R := ∃ A cc, v2 = .slice A (pn + 1) cc) (fun wx hm => own_slice (hm.ownI 2 rfl)) ?_
  rintro ⟨A2, c2, rfl⟩
  have hxs : pl.flatMap plEnc ++ ([.int .i64 k3, .string k6, .string k9] : List Value) = (pl ++ [(⟨k3, k6, k9⟩ : Pl)]).flatMap plEnc := by simp [plEnc]
  rw [hxs]
  refine wl_nil ?_
  refine nw 15 8191 (fun _ hm => ⟨hm.bl 1, hm.fa 0, trivial⟩) fun z => ?_
  refine wt 13 15 16383 rfl z (ov_field fo66_3 rfl rfl) ?_
  refine wa1 14 rfl ?_
  refine wl_store 2 sc64 rfl rfl rfl rfl rfl rfl ?_
  refine wl_nil ?_
  refine nw 15 32767 (fun _ hm => ⟨hm.bl 1, hm.fa 0, trivial⟩) fun z => ?_
  refine wa_done (by kernel_rfl) ?_
  refine nx_blk_nrm (nx_then (sr_ ?_))
  refine wl_ov (ov_loads rz66 rfl (fun _ hm => hm.blkI 2 rfl) rfl rfl) rfl ?_
  refine wl_stores (cs' := [.slice sA sn sc, .slice cA 4 cc, .slice vA vn vc, .slice A2 (pn + 1) c2]) 1 rz66 rfl rfl rfl rfl rfl rfl rfl rfl ?_
  refine nn_ ?_
  refine gw_ret ?_
  refine nx_retc 1 rfl rz66 rfl rfl rfl fun wx hm => ?_
  exact ⟨sA, cA, vA, A2, sn, sc, cc, vn, vc, pn + 1, c2, sl, cl, vl, pl ++ [(⟨k3, k6, k9⟩ : Pl)], rfl, ⟨⟨stB_all hsB, by omega⟩, hcok, ⟨hvB, by omega⟩, all_snoc hpB ⟨⟨by dsimp only; omega, by dsimp only; omega⟩, by dsimp only; omega, by dsimp only; omega⟩, by omega⟩, hm.k.more (by omega), hm.g, SlT.ofOwnL stEnc_lenL (stB_all hsB) (hm.ownI 0 rfl) hsl, (hm.fact 0 rfl), SlT.ofOwn vh_len (hm.ownI 1 rfl) hvl, SlT.ofOwn pl_len (hm.ownI 2 rfl) (by simp [hpl]), own_shape (hm.ownI 2 rfl), own_cap (hm.ownI 2 rfl)⟩
 have J191 : ∀ (k3 : Int) (hk3 : -2000000000000000 ≤ k3 ∧ k3 ≤ 2000000000000000) (q5 : Nat), W 8 (lb 15 191) [(2, .pointer (some ⟨g1, 0, none⟩)), (3, .pointer (some ⟨g2, 0, none⟩)), (13, .slice pA pn pc), (15, .int .i64 k3), (16, .pointer (some ⟨sb, 0, none⟩)), (17, .slice (some ⟨q5, 0, none⟩) 2 2), (19, .pointer (some ⟨sb, 0, none⟩))] (fun w => Strm 25 w B sb (m + 300 + 1 + 1 + 2)) [(g1, 66, [.slice none 0 0, .slice none 0 0, .slice none 0 0, .slice none 0 0]), (g2, 66, [.slice sA sn sc, .slice cA 4 cc, .slice vA vn vc, .slice pA pn pc]), (q5, 9, [.string ⟨#[118, 49]⟩, .string ⟨#[110, 111, 110, 101]⟩])] [⟨.slice sA sn sc, 168, 15, sn, sl.flatMap stEnc⟩, ⟨.slice vA vn vc, 158, 2, vn, vl.flatMap vhEnc⟩, ⟨.slice pA pn pc, 161, 3, pn, pl.flatMap plEnc⟩] [fun wy => SlT csEnc 2 170 wy cA 4 cl] := by
  intro k3 hk3 q5
  rw [hW]
  refine wa_all [6, 8] (by kernel_rfl) rfl ⟨⟨_, rfl, ?_⟩, ⟨_, rfl, ?_⟩, trivial⟩
  ·refine wl_got (γ := ByteArray) (val := fun v => .string v) (φ := fun v => v ∈ ([⟨#[118, 49]⟩, ⟨#[110, 111, 110, 101]⟩] : List ByteArray)) rfl cb57 rfl rfl rfl rfl (fun wx hm => (some_any [⟨#[118, 49]⟩, ⟨#[110, 111, 110, 101]⟩] _ _ _ wx B sb _ hm.k (by omega) (by simp) (by simp) (hm.blkI 2 rfl) (hm.neRow 2 rfl rfl))) fun k6 hk6 => ?_
   have zk6 : k6.size ≤ 100 := mem_sz hk6 (by decide)
   refine wl_nil ?_
   refine nw 15 255 (fun _ hm => ⟨hm.bl 0, hm.fa 0, trivial⟩) fun z => ?_
   have h := T255 k3 hk3 q5 k6 zk6
   rw [hW] at h
   refine wa_weak ?_ ?_ h
   ·exact ⟨rfl, rfl, rfl, rfl, rfl, rfl, trivial⟩
   exact fun _ hm => hm.pick [0, 1, 2] [0, 1, 2] [0] rfl rfl
  refine wl_buildSlice (e := 9) (cs := [.string ⟨#[65, 66, 49]⟩, .string ⟨#[97, 49]⟩, .string ⟨#[65]⟩, .string ⟨#[65, 66, 67, 68, 69, 70, 71, 72, 73, 74, 49]⟩, .string ⟨#[65, 66, 49]⟩]) rfl (by kernel_rfl) rfl fun q8 => ?_
  refine wl_nil ?_
  refine nw 15 447 (fun _ hm => ⟨hm.bl 1, hm.fa 0, trivial⟩) fun z => ?_
  have h := T447 k3 hk3 q5 q8
  rw [hW] at h
  refine wa_weak ?_ ?_ h
  ·exact ⟨rfl, rfl, rfl, rfl, rfl, rfl, rfl, rfl, trivial⟩
  exact fun _ hm => hm.pick [1, 2, 3, 0] [0, 1, 2] [0] rfl rfl
 have T415 : ∀ (k3 : Int) (hk3 : -2000000000000000 ≤ k3 ∧ k3 ≤ 2000000000000000) (q8 : Nat), W 8 (lb 15 415) [(2, .pointer (some ⟨g1, 0, none⟩)), (3, .pointer (some ⟨g2, 0, none⟩)), (13, .slice pA pn pc), (15, .int .i64 k3), (16, .pointer (some ⟨sb, 0, none⟩)), (19, .pointer (some ⟨sb, 0, none⟩)), (20, .slice (some ⟨q8, 0, none⟩) 5 5)] (fun w => Strm 25 w B sb (m + 300 + 1 + 1 + 2)) [(g1, 66, [.slice none 0 0, .slice none 0 0, .slice none 0 0, .slice none 0 0]), (g2, 66, [.slice sA sn sc, .slice cA 4 cc, .slice vA vn vc, .slice pA pn pc]), (q8, 9, [.string ⟨#[65, 66, 49]⟩, .string ⟨#[97, 49]⟩, .string ⟨#[65]⟩, .string ⟨#[65, 66, 67, 68, 69, 70, 71, 72, 73, 74, 49]⟩, .string ⟨#[65, 66, 49]⟩])] [⟨.slice sA sn sc, 168, 15, sn, sl.flatMap stEnc⟩, ⟨.slice vA vn vc, 158, 2, vn, vl.flatMap vhEnc⟩, ⟨.slice pA pn pc, 161, 3, pn, pl.flatMap plEnc⟩] [fun wy => SlT csEnc 2 170 wy cA 4 cl] := by
  intro k3 hk3 q8
  rw [hW]
  refine wa1 5 rfl ?_
  refine wl_buildSlice (e := 9) (cs := [.string ⟨#[118, 49]⟩, .string ⟨#[110, 111, 110, 101]⟩]) rfl (by kernel_rfl) rfl fun g30 => ?_
  refine wl_nil ?_
  refine nw 15 447 (fun _ hm => ⟨hm.bl 1, hm.fa 0, trivial⟩) fun z => ?_
  refine wa1 6 rfl ?_
  refine wl_got (γ := ByteArray) (val := fun v => .string v) (φ := fun v => v ∈ ([⟨#[118, 49]⟩, ⟨#[110, 111, 110, 101]⟩] : List ByteArray)) rfl cb57 rfl rfl rfl rfl (fun wx hm => (some_any [⟨#[118, 49]⟩, ⟨#[110, 111, 110, 101]⟩] _ _ _ wx B sb _ hm.k (by omega) (by simp) (by simp) (hm.blkI 0 rfl) (hm.neRow 0 rfl rfl))) fun k6 hk6 => ?_
  have zk6 : k6.size ≤ 100 := mem_sz hk6 (by decide)
  refine wl_nil ?_
  refine nw 15 511 (fun _ hm => ⟨hm.bl 1, hm.fa 0, trivial⟩) fun z => ?_
  refine wa1 9 rfl ?_
  refine wl_got (γ := ByteArray) (val := fun v => .string v) (φ := fun v => v ∈ ([⟨#[65, 66, 49]⟩, ⟨#[97, 49]⟩, ⟨#[65]⟩, ⟨#[65, 66, 67, 68, 69, 70, 71, 72, 73, 74, 49]⟩, ⟨#[65, 66, 49]⟩] : List ByteArray)) rfl cb57 rfl rfl rfl rfl (fun wx hm => (some_any [⟨#[65, 66, 49]⟩, ⟨#[97, 49]⟩, ⟨#[65]⟩, ⟨#[65, 66, 67, 68, 69, 70, 71, 72, 73, 74, 49]⟩, ⟨#[65, 66, 49]⟩] _ _ _ wx B sb _ hm.k (by omega) (by simp) (by simp) (hm.blkI 3 rfl) (hm.neRow 3 rfl rfl))) fun k9 hk9 => ?_
  have zk9 : k9.size ≤ 100 := mem_sz hk9 (by decide)
  refine wl_nil ?_
  refine nw 15 1023 (fun _ hm => ⟨hm.bl 1, hm.fa 0, trivial⟩) fun z => ?_
  refine wt 10 15 2047 rfl z (ov_build (cs := [.int .i64 k3, .string k6, .string k9]) rfl (by kernel_rfl)) ?_
  refine wa1 11 rfl ?_
  refine wl_buildSlice (e := 161) (cs := [.int .i64 k3, .string k6, .string k9]) rfl (by kernel_rfl) rfl fun g31 => ?_
  refine wl_nil ?_
  refine nw 15 4095 (fun _ hm => ⟨hm.bl 2, hm.fa 0, trivial⟩) fun z => ?_
  refine wa1 12 rfl ?_
  refine wl_append (news := [.int .i64 k3, .string k6, .string k9]) 2 0 ap64 rfl rfl rfl rfl rfl rfl rfl (by omega) (by unfold maxLen; omega) rfl rfl fun v2 hv2 => ?_
  refine wl_look (R := ∃ A cc, v2 = .slice A (pn + 1) cc) (fun wx hm => own_slice (hm.ownI 2 rfl)) ?_
  rintro ⟨A2, c2, rfl⟩
  have hxs : pl.flatMap plEnc ++ ([.int .i64 k3, .string k6, .string k9] : List Value) = (pl ++ [(⟨k3, k6, k9⟩ : Pl)]).flatMap plEnc := by simp [plEnc]
  rw [hxs]
  refine wl_nil ?_
  refine nw 15 8191 (fun _ hm => ⟨hm.bl 2, hm.fa 0, trivial⟩) fun z => ?_
  refine wt 13 15 16383 rfl z (ov_field fo66_3 rfl rfl) ?_
  refine wa1 14 rfl ?_
  refine wl_store 3 sc64 rfl rfl rfl rfl rfl rfl ?_
  refine wl_nil ?_
  refine nw 15 32767 (fun _ hm => ⟨hm.bl 2, hm.fa 0, trivial⟩) fun z => ?_
  refine wa_done (by kernel_rfl) ?_
  refine nx_blk_nrm (nx_then (sr_ ?_))
  refine wl_ov (ov_loads rz66 rfl (fun _ hm => hm.blkI 3 rfl) rfl rfl) rfl ?_
  refine wl_stores (cs' := [.slice sA sn sc, .slice cA 4 cc, .slice vA vn vc, .slice A2 (pn + 1) c2]) 2 rz66 rfl rfl rfl rfl rfl rfl rfl rfl ?_
  refine nn_ ?_
  refine gw_ret ?_
  refine nx_retc 2 rfl rz66 rfl rfl rfl fun wx hm => ?_
  exact ⟨sA, cA, vA, A2, sn, sc, cc, vn, vc, pn + 1, c2, sl, cl, vl, pl ++ [(⟨k3, k6, k9⟩ : Pl)], rfl, ⟨⟨stB_all hsB, by omega⟩, hcok, ⟨hvB, by omega⟩, all_snoc hpB ⟨⟨by dsimp only; omega, by dsimp only; omega⟩, by dsimp only; omega, by dsimp only; omega⟩, by omega⟩, hm.k.more (by omega), hm.g, SlT.ofOwnL stEnc_lenL (stB_all hsB) (hm.ownI 0 rfl) hsl, (hm.fact 0 rfl), SlT.ofOwn vh_len (hm.ownI 1 rfl) hvl, SlT.ofOwn pl_len (hm.ownI 2 rfl) (by simp [hpl]), own_shape (hm.ownI 2 rfl), own_cap (hm.ownI 2 rfl)⟩
 have J159 : ∀ (k3 : Int) (hk3 : -2000000000000000 ≤ k3 ∧ k3 ≤ 2000000000000000), W 9 (lb 15 159) [(2, .pointer (some ⟨g1, 0, none⟩)), (3, .pointer (some ⟨g2, 0, none⟩)), (13, .slice pA pn pc), (15, .int .i64 k3), (16, .pointer (some ⟨sb, 0, none⟩)), (19, .pointer (some ⟨sb, 0, none⟩))] (fun w => Strm 25 w B sb (m + 300 + 1 + 1 + 2)) [(g1, 66, [.slice none 0 0, .slice none 0 0, .slice none 0 0, .slice none 0 0]), (g2, 66, [.slice sA sn sc, .slice cA 4 cc, .slice vA vn vc, .slice pA pn pc])] [⟨.slice sA sn sc, 168, 15, sn, sl.flatMap stEnc⟩, ⟨.slice vA vn vc, 158, 2, vn, vl.flatMap vhEnc⟩, ⟨.slice pA pn pc, 161, 3, pn, pl.flatMap plEnc⟩] [fun wy => SlT csEnc 2 170 wy cA 4 cl] := by
  intro k3 hk3
  rw [hW]
  refine wa_all [5, 8] (by kernel_rfl) rfl ⟨⟨_, rfl, ?_⟩, ⟨_, rfl, ?_⟩, trivial⟩
  ·refine wl_buildSlice (e := 9) (cs := [.string ⟨#[118, 49]⟩, .string ⟨#[110, 111, 110, 101]⟩]) rfl (by kernel_rfl) rfl fun q5 => ?_
   refine wl_nil ?_
   refine nw 15 191 (fun _ hm => ⟨hm.bl 1, hm.fa 0, trivial⟩) fun z => ?_
   have h := J191 k3 hk3 q5
   rw [hW] at h
   refine wa_weak ?_ ?_ h
   ·exact ⟨rfl, rfl, rfl, rfl, rfl, rfl, rfl, trivial⟩
   exact fun _ hm => hm.pick [1, 2, 0] [0, 1, 2] [0] rfl rfl
  refine wl_buildSlice (e := 9) (cs := [.string ⟨#[65, 66, 49]⟩, .string ⟨#[97, 49]⟩, .string ⟨#[65]⟩, .string ⟨#[65, 66, 67, 68, 69, 70, 71, 72, 73, 74, 49]⟩, .string ⟨#[65, 66, 49]⟩]) rfl (by kernel_rfl) rfl fun q8 => ?_
  refine wl_nil ?_
  refine nw 15 415 (fun _ hm => ⟨hm.bl 1, hm.fa 0, trivial⟩) fun z => ?_
  have h := T415 k3 hk3 q8
  rw [hW] at h
  refine wa_weak ?_ ?_ h
  ·exact ⟨rfl, rfl, rfl, rfl, rfl, rfl, rfl, trivial⟩
  exact fun _ hm => hm.pick [1, 2, 0] [0, 1, 2] [0] rfl rfl
 have T439 : ∀ (q5 : Nat) (q8 : Nat), W 8 (lb 15 439) [(2, .pointer (some ⟨g1, 0, none⟩)), (3, .pointer (some ⟨g2, 0, none⟩)), (13, .slice pA pn pc), (14, .pointer (some ⟨sb, 0, none⟩)), (16, .pointer (some ⟨sb, 0, none⟩)), (17, .slice (some ⟨q5, 0, none⟩) 2 2), (19, .pointer (some ⟨sb, 0, none⟩)), (20, .slice (some ⟨q8, 0, none⟩) 5 5)] (fun w => Strm 25 w B sb (m + 300 + 1 + 1)) [(g1, 66, [.slice none 0 0, .slice none 0 0, .slice none 0 0, .slice none 0 0]), (g2, 66, [.slice sA sn sc, .slice cA 4 cc, .slice vA vn vc, .slice pA pn pc]), (q5, 9, [.string ⟨#[118, 49]⟩, .string ⟨#[110, 111, 110, 101]⟩]), (q8, 9, [.string ⟨#[65, 66, 49]⟩, .string ⟨#[97, 49]⟩, .string ⟨#[65]⟩, .string ⟨#[65, 66, 67, 68, 69, 70, 71, 72, 73, 74, 49]⟩, .string ⟨#[65, 66, 49]⟩])] [⟨.slice sA sn sc, 168, 15, sn, sl.flatMap stEnc⟩, ⟨.slice vA vn vc, 158, 2, vn, vl.flatMap vhEnc⟩, ⟨.slice pA pn pc, 161, 3, pn, pl.flatMap plEnc⟩] [fun wy => SlT csEnc 2 170 wy cA 4 cl] := by
  intro q5 q8
  rw [hW]
  refine wa1 3 rfl ?_
  refine wl_got (γ := Int) (val := fun v => .int .i64 v) (φ := fun v => -2000000000000000 ≤ v ∧ v ≤ 2000000000000000) rfl cb58 rfl rfl rfl rfl (fun wx hm => (odd_any _ _ wx B sb _ hm.k (by omega) (by omega) (by omega) (by omega))) fun k3 hk3 => ?_
  refine wl_nil ?_
  refine nw 15 447 (fun _ hm => ⟨hm.bl 0, hm.fa 0, trivial⟩) fun z => ?_
  refine wa1 6 rfl ?_
  refine wl_got (γ := ByteArray) (val := fun v => .string v) (φ := fun v => v ∈ ([⟨#[118, 49]⟩, ⟨#[110, 111, 110, 101]⟩] : List ByteArray)) rfl cb57 rfl rfl rfl rfl (fun wx hm => (some_any [⟨#[118, 49]⟩, ⟨#[110, 111, 110, 101]⟩] _ _ _ wx B sb _ hm.k (by omega) (by simp) (by simp) (hm.blkI 2 rfl) (hm.neRow 2 rfl rfl))) fun k6 hk6 => ?_
  have zk6 : k6.size ≤ 100 := mem_sz hk6 (by decide)
  refine wl_nil ?_
  refine nw 15 511 (fun _ hm => ⟨hm.bl 0, hm.fa 0, trivial⟩) fun z => ?_
  refine wa1 9 rfl ?_
  refine wl_got (γ := ByteArray) (val := fun v => .string v) (φ := fun v => v ∈ ([⟨#[65, 66, 49]⟩, ⟨#[97, 49]⟩, ⟨#[65]⟩, ⟨#[65, 66, 67, 68, 69, 70, 71, 72, 73, 74, 49]⟩, ⟨#[65, 66, 49]⟩] : List ByteArray)) rfl cb57 rfl rfl rfl rfl (fun wx hm => (some_any [⟨#[65, 66, 49]⟩, ⟨#[97, 49]⟩, ⟨#[65]⟩, ⟨#[65, 66, 67, 68, 69, 70, 71, 72, 73, 74, 49]⟩, ⟨#[65, 66, 49]⟩] _ _ _ wx B sb _ hm.k (by omega) (by simp) (by simp) (hm.blkI 3 rfl) (hm.neRow 3 rfl rfl))) fun k9 hk9 => ?_
  have zk9 : k9.size ≤ 100 := mem_sz hk9 (by decide)
  refine wl_nil ?_
  refine nw 15 1023 (fun _ hm => ⟨hm.bl 0, hm.fa 0, trivial⟩) fun z => ?_
  refine wt 10 15 2047 rfl z (ov_build (cs := [.int .i64 k3, .string k6, .string k9]) rfl (by kernel_rfl)) ?_
  refine wa1 11 rfl ?_
  refine wl_buildSlice (e := 161) (cs := [.int .i64 k3, .string k6, .string k9]) rfl (by kernel_rfl) rfl fun g32 => ?_
  refine wl_nil ?_
  refine nw 15 4095 (fun _ hm => ⟨hm.bl 1, hm.fa 0, trivial⟩) fun z => ?_
  refine wa1 12 rfl ?_
  refine wl_append (news := [.int .i64 k3, .string k6, .string k9]) 2 0 ap64 rfl rfl rfl rfl rfl rfl rfl (by omega) (by unfold maxLen; omega) rfl rfl fun v2 hv2 => ?_
  refine wl_look (R := ∃ A cc, v2 = .slice A (pn + 1) cc) (fun wx hm => own_slice (hm.ownI 2 rfl)) ?_
  rintro ⟨A2, c2, rfl⟩
  have hxs : pl.flatMap plEnc ++ ([.int .i64 k3, .string k6, .string k9] : List Value) = (pl ++ [(⟨k3, k6, k9⟩ : Pl)]).flatMap plEnc := by simp [plEnc]
  rw [hxs]
  refine wl_nil ?_
  refine nw 15 8191 (fun _ hm => ⟨hm.bl 1, hm.fa 0, trivial⟩) fun z => ?_
  refine wt 13 15 16383 rfl z (ov_field fo66_3 rfl rfl) ?_
  refine wa1 14 rfl ?_
  refine wl_store 2 sc64 rfl rfl rfl rfl rfl rfl ?_
  refine wl_nil ?_
  refine nw 15 32767 (fun _ hm => ⟨hm.bl 1, hm.fa 0, trivial⟩) fun z => ?_
  refine wa_done (by kernel_rfl) ?_
  refine nx_blk_nrm (nx_then (sr_ ?_))
  refine wl_ov (ov_loads rz66 rfl (fun _ hm => hm.blkI 2 rfl) rfl rfl) rfl ?_
  refine wl_stores (cs' := [.slice sA sn sc, .slice cA 4 cc, .slice vA vn vc, .slice A2 (pn + 1) c2]) 1 rz66 rfl rfl rfl rfl rfl rfl rfl rfl ?_
  refine nn_ ?_
  refine gw_ret ?_
  refine nx_retc 1 rfl rz66 rfl rfl rfl fun wx hm => ?_
  exact ⟨sA, cA, vA, A2, sn, sc, cc, vn, vc, pn + 1, c2, sl, cl, vl, pl ++ [(⟨k3, k6, k9⟩ : Pl)], rfl, ⟨⟨stB_all hsB, by omega⟩, hcok, ⟨hvB, by omega⟩, all_snoc hpB ⟨⟨by dsimp only; omega, by dsimp only; omega⟩, by dsimp only; omega, by dsimp only; omega⟩, by omega⟩, hm.k.more (by omega), hm.g, SlT.ofOwnL stEnc_lenL (stB_all hsB) (hm.ownI 0 rfl) hsl, (hm.fact 0 rfl), SlT.ofOwn vh_len (hm.ownI 1 rfl) hvl, SlT.ofOwn pl_len (hm.ownI 2 rfl) (by simp [hpl]), own_shape (hm.ownI 2 rfl), own_cap (hm.ownI 2 rfl)⟩
 have J183 : ∀ (q5 : Nat), W 9 (lb 15 183) [(2, .pointer (some ⟨g1, 0, none⟩)), (3, .pointer (some ⟨g2, 0, none⟩)), (13, .slice pA pn pc), (14, .pointer (some ⟨sb, 0, none⟩)), (16, .pointer (some ⟨sb, 0, none⟩)), (17, .slice (some ⟨q5, 0, none⟩) 2 2), (19, .pointer (some ⟨sb, 0, none⟩))] (fun w => Strm 25 w B sb (m + 300 + 1 + 1)) [(g1, 66, [.slice none 0 0, .slice none 0 0, .slice none 0 0, .slice none 0 0]), (g2, 66, [.slice sA sn sc, .slice cA 4 cc, .slice vA vn vc, .slice pA pn pc]), (q5, 9, [.string ⟨#[118, 49]⟩, .string ⟨#[110, 111, 110, 101]⟩])] [⟨.slice sA sn sc, 168, 15, sn, sl.flatMap stEnc⟩, ⟨.slice vA vn vc, 158, 2, vn, vl.flatMap vhEnc⟩, ⟨.slice pA pn pc, 161, 3, pn, pl.flatMap plEnc⟩] [fun wy => SlT csEnc 2 170 wy cA 4 cl] := by
  intro q5
  rw [hW]
  refine wa_all [3, 8] (by kernel_rfl) rfl ⟨⟨_, rfl, ?_⟩, ⟨_, rfl, ?_⟩, trivial⟩
  ·refine wl_got (γ := Int) (val := fun v => .int .i64 v) (φ := fun v => -2000000000000000 ≤ v ∧ v ≤ 2000000000000000) rfl cb58 rfl rfl rfl rfl (fun wx hm => (odd_any _ _ wx B sb _ hm.k (by omega) (by omega) (by omega) (by omega))) fun k3 hk3 => ?_
   refine wl_nil ?_
   refine nw 15 191 (fun _ hm => ⟨hm.bl 0, hm.fa 0, trivial⟩) fun z => ?_
   have h := J191 k3 hk3 q5
   rw [hW] at h
   refine wa_weak ?_ ?_ h
   ·exact ⟨rfl, rfl, rfl, rfl, rfl, rfl, rfl, trivial⟩
   exact fun _ hm => hm.pick [0, 1, 2] [0, 1, 2] [0] rfl rfl
  refine wl_buildSlice (e := 9) (cs := [.string ⟨#[65, 66, 49]⟩, .string ⟨#[97, 49]⟩, .string ⟨#[65]⟩, .string ⟨#[65, 66, 67, 68, 69, 70, 71, 72, 73, 74, 49]⟩, .string ⟨#[65, 66, 49]⟩]) rfl (by kernel_rfl) rfl fun q8 => ?_
  refine wl_nil ?_
  refine nw 15 439 (fun _ hm => ⟨hm.bl 1, hm.fa 0, trivial⟩) fun z => ?_
  have h := T439 q5 q8
  rw [hW] at h
  refine wa_weak ?_ ?_ h
  ·exact ⟨rfl, rfl, rfl, rfl, rfl, rfl, rfl, rfl, trivial⟩
  exact fun _ hm => hm.pick [1, 2, 3, 0] [0, 1, 2] [0] rfl rfl
 have J407 : ∀ (q8 : Nat), W 9 (lb 15 407) [(2, .pointer (some ⟨g1, 0, none⟩)), (3, .pointer (some ⟨g2, 0, none⟩)), (13, .slice pA pn pc), (14, .pointer (some ⟨sb, 0, none⟩)), (16, .pointer (some ⟨sb, 0, none⟩)), (19, .pointer (some ⟨sb, 0, none⟩)), (20, .slice (some ⟨q8, 0, none⟩) 5 5)] (fun w => Strm 25 w B sb (m + 300 + 1 + 1)) [(g1, 66, [.slice none 0 0, .slice none 0 0, .slice none 0 0, .slice none 0 0]), (g2, 66, [.slice sA sn sc, .slice cA 4 cc, .slice vA vn vc, .slice pA pn pc]), (q8, 9, [.string ⟨#[65, 66, 49]⟩, .string ⟨#[97, 49]⟩, .string ⟨#[65]⟩, .string ⟨#[65, 66, 67, 68, 69, 70, 71, 72, 73, 74, 49]⟩, .string ⟨#[65, 66, 49]⟩])] [⟨.slice sA sn sc, 168, 15, sn, sl.flatMap stEnc⟩, ⟨.slice vA vn vc, 158, 2, vn, vl.flatMap vhEnc⟩, ⟨.slice pA pn pc, 161, 3, pn, pl.flatMap plEnc⟩] [fun wy => SlT csEnc 2 170 wy cA 4 cl] := by
  intro q8
  rw [hW]
  refine wa_all [3, 5] (by kernel_rfl) rfl ⟨⟨_, rfl, ?_⟩, ⟨_, rfl, ?_⟩, trivial⟩
  ·refine wl_got (γ := Int) (val := fun v => .int .i64 v) (φ := fun v => -2000000000000000 ≤ v ∧ v ≤ 2000000000000000) rfl cb58 rfl rfl rfl rfl (fun wx hm => (odd_any _ _ wx B sb _ hm.k (by omega) (by omega) (by omega) (by omega))) fun k3 hk3 => ?_
   refine wl_nil ?_
   refine nw 15 415 (fun _ hm => ⟨hm.bl 0, hm.fa 0, trivial⟩) fun z => ?_
   have h := T415 k3 hk3 q8
   rw [hW] at h
   refine wa_weak ?_ ?_ h
   ·exact ⟨rfl, rfl, rfl, rfl, rfl, rfl, rfl, trivial⟩
   exact fun _ hm => hm.pick [0, 1, 2] [0, 1, 2] [0] rfl rfl
  refine wl_buildSlice (e := 9) (cs := [.string ⟨#[118, 49]⟩, .string ⟨#[110, 111, 110, 101]⟩]) rfl (by kernel_rfl) rfl fun q5 => ?_
  refine wl_nil ?_
  refine nw 15 439 (fun _ hm => ⟨hm.bl 1, hm.fa 0, trivial⟩) fun z => ?_
  have h := T439 q5 q8
  rw [hW] at h
  refine wa_weak ?_ ?_ h
  ·exact ⟨rfl, rfl, rfl, rfl, rfl, rfl, rfl, rfl, trivial⟩
  exact fun _ hm => hm.pick [1, 2, 0, 3] [0, 1, 2] [0] rfl rfl
 have J151 : W 10 (lb 15 151) [(2, .pointer (some ⟨g1, 0, none⟩)), (3, .pointer (some ⟨g2, 0, none⟩)), (13, .slice pA pn pc), (14, .pointer (some ⟨sb, 0, none⟩)), (16, .pointer (some ⟨sb, 0, none⟩)), (19, .pointer (some ⟨sb, 0, none⟩))] (fun w => Strm 25 w B sb (m + 300 + 1 + 1)) [(g1, 66, [.slice none 0 0, .slice none 0 0, .slice none 0 0, .slice none 0 0]), (g2, 66, [.slice sA sn sc, .slice cA 4 cc, .slice vA vn vc, .slice pA pn pc])] [⟨.slice sA sn sc, 168, 15, sn, sl.flatMap stEnc⟩, ⟨.slice vA vn vc, 158, 2, vn, vl.flatMap vhEnc⟩, ⟨.slice pA pn pc, 161, 3, pn, pl.flatMap plEnc⟩] [fun wy => SlT csEnc 2 170 wy cA 4 cl] := by
  skip
  rw [hW]
  refine wa_all [3, 5, 8] (by kernel_rfl) rfl ⟨⟨_, rfl, ?_⟩, ⟨_, rfl, ?_⟩, ⟨_, rfl, ?_⟩, trivial⟩
  ·refine wl_got (γ := Int) (val := fun v => .int .i64 v) (φ := fun v => -2000000000000000 ≤ v ∧ v ≤ 2000000000000000) rfl cb58 rfl rfl rfl rfl (fun wx hm => (odd_any _ _ wx B sb _ hm.k (by omega) (by omega) (by omega) (by omega))) fun k3 hk3 => ?_
   refine wl_nil ?_
   refine nw 15 159 (fun _ hm => ⟨hm.bl 0, hm.fa 0, trivial⟩) fun z => ?_
   have h := J159 k3 hk3
   rw [hW] at h
   refine wa_weak ?_ ?_ h
   ·exact ⟨rfl, rfl, rfl, rfl, rfl, rfl, trivial⟩
   exact fun _ hm => hm.pick [0, 1] [0, 1, 2] [0] rfl rfl
  ·refine wl_buildSlice (e := 9) (cs := [.string ⟨#[118, 49]⟩, .string ⟨#[110, 111, 110, 101]⟩]) rfl (by kernel_rfl) rfl fun q5 => ?_
   refine wl_nil ?_
   refine nw 15 183 (fun _ hm => ⟨hm.bl 1, hm.fa 0, trivial⟩) fun z => ?_
   have h := J183 q5
   rw [hW] at h
   refine wa_weak ?_ ?_ h
   ·exact ⟨rfl, rfl, rfl, rfl, rfl, rfl, rfl, trivial⟩
   exact fun _ hm => hm.pick [1, 2, 0] [0, 1, 2] [0] rfl rfl
  refine wl_buildSlice (e := 9) (cs := [.string ⟨#[65, 66, 49]⟩, .string ⟨#[97, 49]⟩, .string ⟨#[65]⟩, .string ⟨#[65, 66, 67, 68, 69, 70, 71, 72, 73, 74, 49]⟩, .string ⟨#[65, 66, 49]⟩]) rfl (by kernel_rfl) rfl fun q8 => ?_
  refine wl_nil ?_
  refine nw 15 407 (fun _ hm => ⟨hm.bl 1, hm.fa 0, trivial⟩) fun z => ?_
  have h := J407 q8
  rw [hW] at h
  refine wa_weak ?_ ?_ h
  ·exact ⟨rfl, rfl, rfl, rfl, rfl, rfl, rfl, trivial⟩
  exact fun _ hm => hm.pick [1, 2, 0] [0, 1, 2] [0] rfl rfl
 have T511 : ∀ (k3 : Int) (hk3 : -2000000000000000 ≤ k3 ∧ k3 ≤ 2000000000000000) (q5 : Nat) (k6 : ByteArray) (zk6 : k6.size ≤ 100) (q8 : Nat), W 6 (lb 15 511) [(2, .pointer (some ⟨g1, 0, none⟩)), (3, .pointer (some ⟨g2, 0, none⟩)), (13, .slice pA pn pc), (15, .int .i64 k3), (18, .string k6), (19, .pointer (some ⟨sb, 0, none⟩)), (20, .slice (some ⟨q8, 0, none⟩) 5 5)] (fun w => Strm 25 w B sb (m + 300 + 1 + 1 + 2 + 1)) [(g1, 66, [.slice none 0 0, .slice none 0 0, .slice none 0 0, .slice none 0 0]), (g2, 66, [.slice sA sn sc, .slice cA 4 cc, .slice vA vn vc, .slice pA pn pc]), (q5, 9, [.string ⟨#[118, 49]⟩, .string ⟨#[110, 111, 110, 101]⟩]), (q8, 9, [.string ⟨#[65, 66, 49]⟩, .string ⟨#[97, 49]⟩, .string ⟨#[65]⟩, .string ⟨#[65, 66, 67, 68, 69, 70, 71, 72, 73, 74, 49]⟩, .string ⟨#[65, 66, 49]⟩])] [⟨.slice sA sn sc, 168, 15, sn, sl.flatMap stEnc⟩, ⟨.slice vA vn vc, 158, 2, vn, vl.flatMap vhEnc⟩, ⟨.slice pA pn pc, 161, 3, pn, pl.flatMap plEnc⟩] [fun wy => SlT csEnc 2 170 wy cA 4 cl] := by
  intro k3 hk3 q5 k6 zk6 q8
  rw [hW]
  refine wa1 9 rfl ?_
  refine wl_got (γ := ByteArray) (val := fun v => .string v) (φ := fun v => v ∈ ([⟨#[65, 66, 49]⟩, ⟨#[97, 49]⟩, ⟨#[65]⟩, ⟨#[65, 66, 67, 68, 69, 70, 71, 72, 73, 74, 49]⟩, ⟨#[65, 66, 49]⟩] : List ByteArray)) rfl cb57 rfl rfl rfl rfl (fun wx hm => (some_any [⟨#[65, 66, 49]⟩, ⟨#[97, 49]⟩, ⟨#[65]⟩, ⟨#[65, 66, 67, 68, 69, 70, 71, 72, 73, 74, 49]⟩, ⟨#[65, 66, 49]⟩] _ _ _ wx B sb _ hm.k (by omega) (by simp) (by simp) (hm.blkI 3 rfl) (hm.neRow 3 rfl rfl))) fun k9 hk9 => ?_
  have zk9 : k9.size ≤ 100 := mem_sz hk9 (by decide)
  refine wl_nil ?_
  refine nw 15 1023 (fun _ hm => ⟨hm.bl 0, hm.fa 0, trivial⟩) fun z => ?_
  refine wt 10 15 2047 rfl z (ov_build (cs := [.int .i64 k3, .string k6, .string k9]) rfl (by kernel_rfl)) ?_
  refine wa1 11 rfl ?_
  refine wl_buildSlice (e := 161) (cs := [.int .i64 k3, .string k6, .string k9]) rfl (by kernel_rfl) rfl fun g33 => ?_
  refine wl_nil ?_
  refine nw 15 4095 (fun _ hm => ⟨hm.bl 1, hm.fa 0, trivial⟩) fun z => ?_
  refine wa1 12 rfl ?_
  refine wl_append (news := [.int .i64 k3, .string k6, .string k9]) 2 0 ap64 rfl rfl rfl rfl rfl rfl rfl (by omega) (by unfold maxLen; omega) rfl rfl fun v2 hv2 => ?_
  refine wl_look (R := ∃ A cc, v2 = .slice A (pn + 1) cc) (fun wx hm => own_slice (hm.ownI 2 rfl)) ?_
  rintro ⟨A2, c2, rfl⟩
  have hxs : pl.flatMap plEnc ++ ([.int .i64 k3, .string k6, .string k9] : List Value) = (pl ++ [(⟨k3, k6, k9⟩ : Pl)]).flatMap plEnc := by simp [plEnc]
  rw [hxs]
  refine wl_nil ?_
  refine nw 15 8191 (fun _ hm => ⟨hm.bl 1, hm.fa 0, trivial⟩) fun z => ?_
  refine wt 13 15 16383 rfl z (ov_field fo66_3 rfl rfl) ?_
  refine wa1 14 rfl ?_
  refine wl_store 2 sc64 rfl rfl rfl rfl rfl rfl ?_
  refine wl_nil ?_
  refine nw 15 32767 (fun _ hm => ⟨hm.bl 1, hm.fa 0, trivial⟩) fun z => ?_
  refine wa_done (by kernel_rfl) ?_
  refine nx_blk_nrm (nx_then (sr_ ?_))
  refine wl_ov (ov_loads rz66 rfl (fun _ hm => hm.blkI 2 rfl) rfl rfl) rfl ?_
  refine wl_stores (cs' := [.slice sA sn sc, .slice cA 4 cc, .slice vA vn vc, .slice A2 (pn + 1) c2]) 1 rz66 rfl rfl rfl rfl rfl rfl rfl rfl ?_
  refine nn_ ?_
  refine gw_ret ?_
  refine nx_retc 1 rfl rz66 rfl rfl rfl fun wx hm => ?_
  exact ⟨sA, cA, vA, A2, sn, sc, cc, vn, vc, pn + 1, c2, sl, cl, vl, pl ++ [(⟨k3, k6, k9⟩ : Pl)], rfl, ⟨⟨stB_all hsB, by omega⟩, hcok, ⟨hvB, by omega⟩, all_snoc hpB ⟨⟨by dsimp only; omega, by dsimp only; omega⟩, by dsimp only; omega, by dsimp only; omega⟩, by omega⟩, hm.k.more (by omega), hm.g, SlT.ofOwnL stEnc_lenL (stB_all hsB) (hm.ownI 0 rfl) hsl, (hm.fact 0 rfl), SlT.ofOwn vh_len (hm.ownI 1 rfl) hvl, SlT.ofOwn pl_len (hm.ownI 2 rfl) (by simp [hpl]), own_shape (hm.ownI 2 rfl), own_cap (hm.ownI 2 rfl)⟩
 have T2047 : ∀ (k3 : Int) (hk3 : -2000000000000000 ≤ k3 ∧ k3 ≤ 2000000000000000) (q5 : Nat) (k6 : ByteArray) (zk6 : k6.size ≤ 100) (q8 : Nat) (k9 : ByteArray) (zk9 : k9.size ≤ 100), W 4 (lb 15 2047) [(2, .pointer (some ⟨g1, 0, none⟩)), (3, .pointer (some ⟨g2, 0, none⟩)), (13, .slice pA pn pc), (22, .agg #[.int .i64 k3, .string k6, .string k9])] (fun w => Strm 25 w B sb (m + 300 + 1 + 1 + 2 + 1 + 1)) [(g1, 66, [.slice none 0 0, .slice none 0 0, .slice none 0 0, .slice none 0 0]), (g2, 66, [.slice sA sn sc, .slice cA 4 cc, .slice vA vn vc, .slice pA pn pc]), (q5, 9, [.string ⟨#[118, 49]⟩, .string ⟨#[110, 111, 110, 101]⟩]), (q8, 9, [.string ⟨#[65, 66, 49]⟩, .string ⟨#[97, 49]⟩, .string ⟨#[65]⟩, .string ⟨#[65, 66, 67, 68, 69, 70, 71, 72, 73, 74, 49]⟩, .string ⟨#[65, 66, 49]⟩])] [⟨.slice sA sn sc, 168, 15, sn, sl.flatMap stEnc⟩, ⟨.slice vA vn vc, 158, 2, vn, vl.flatMap vhEnc⟩, ⟨.slice pA pn pc, 161, 3, pn, pl.flatMap plEnc⟩] [fun wy => SlT csEnc 2 170 wy cA 4 cl] := by
  intro k3 hk3 q5 k6 zk6 q8 k9 zk9
  rw [hW]
  refine wa1 11 rfl ?_
  refine wl_buildSlice (e := 161) (cs := [.int .i64 k3, .string k6, .string k9]) rfl (by kernel_rfl) rfl fun g34 => ?_
  refine wl_nil ?_
  refine nw 15 4095 (fun _ hm => ⟨hm.bl 1, hm.fa 0, trivial⟩) fun z => ?_
  refine wa1 12 rfl ?_
  refine wl_append (news := [.int .i64 k3, .string k6, .string k9]) 2 0 ap64 rfl rfl rfl rfl rfl rfl rfl (by omega) (by unfold maxLen; omega) rfl rfl fun v2 hv2 => ?_
  refine wl_look (R := ∃ A cc, v2 = .slice A (pn + 1) cc) (fun wx hm => own_slice (hm.ownI 2 rfl)) ?_
  rintro ⟨A2, c2, rfl⟩
  have hxs : pl.flatMap plEnc ++ ([.int .i64 k3, .string k6, .string k9] : List Value) = (pl ++ [(⟨k3, k6, k9⟩ : Pl)]).flatMap plEnc := by simp [plEnc]
  rw [hxs]
  refine wl_nil ?_
  refine nw 15 8191 (fun _ hm => ⟨hm.bl 1, hm.fa 0, trivial⟩) fun z => ?_
  refine wt 13 15 16383 rfl z (ov_field fo66_3 rfl rfl) ?_
  refine wa1 14 rfl ?_
  refine wl_store 2 sc64 rfl rfl rfl rfl rfl rfl ?_
  refine wl_nil ?_
  refine nw 15 32767 (fun _ hm => ⟨hm.bl 1, hm.fa 0, trivial⟩) fun z => ?_
  refine wa_done (by kernel_rfl) ?_
  refine nx_blk_nrm (nx_then (sr_ ?_))
  refine wl_ov (ov_loads rz66 rfl (fun _ hm => hm.blkI 2 rfl) rfl rfl) rfl ?_
  refine wl_stores (cs' := [.slice sA sn sc, .slice cA 4 cc, .slice vA vn vc, .slice A2 (pn + 1) c2]) 1 rz66 rfl rfl rfl rfl rfl rfl rfl rfl ?_
  refine nn_ ?_
  refine gw_ret ?_
  refine nx_retc 1 rfl rz66 rfl rfl rfl fun wx hm => ?_
  exact ⟨sA, cA, vA, A2, sn, sc, cc, vn, vc, pn + 1, c2, sl, cl, vl, pl ++ [(⟨k3, k6, k9⟩ : Pl)], rfl, ⟨⟨stB_all hsB, by omega⟩, hcok, ⟨hvB, by omega⟩, all_snoc hpB ⟨⟨by dsimp only; omega, by dsimp only; omega⟩, by dsimp only; omega, by dsimp only; omega⟩, by omega⟩, hm.k.more (by omega), hm.g, SlT.ofOwnL stEnc_lenL (stB_all hsB) (hm.ownI 0 rfl) hsl, (hm.fact 0 rfl), SlT.ofOwn vh_len (hm.ownI 1 rfl) hvl, SlT.ofOwn pl_len (hm.ownI 2 rfl) (by simp [hpl]), own_shape (hm.ownI 2 rfl), own_cap (hm.ownI 2 rfl)⟩
 have T4093 : ∀ (k3 : Int) (hk3 : -2000000000000000 ≤ k3 ∧ k3 ≤ 2000000000000000) (q5 : Nat) (k6 : ByteArray) (zk6 : k6.size ≤ 100) (q8 : Nat) (k9 : ByteArray) (zk9 : k9.size ≤ 100) (q11 : Nat), W 4 (lb 15 4093) [(2, .pointer (some ⟨g1, 0, none⟩)), (3, .pointer (some ⟨g2, 0, none⟩)), (12, .pointer (some ⟨g2, 3, none⟩)), (23, .slice (some ⟨q11, 0, none⟩) 1 1)] (fun w => Strm 25 w B sb (m + 300 + 1 + 1 + 2 + 1 + 1)) [(g1, 66, [.slice none 0 0, .slice none 0 0, .slice none 0 0, .slice none 0 0]), (g2, 66, [.slice sA sn sc, .slice cA 4 cc, .slice vA vn vc, .slice pA pn pc]), (q11, 161, [.int .i64 k3, .string k6, .string k9]), (q5, 9, [.string ⟨#[118, 49]⟩, .string ⟨#[110, 111, 110, 101]⟩]), (q8, 9, [.string ⟨#[65, 66, 49]⟩, .string ⟨#[97, 49]⟩, .string ⟨#[65]⟩, .string ⟨#[65, 66, 67, 68, 69, 70, 71, 72, 73, 74, 49]⟩, .string ⟨#[65, 66, 49]⟩])] [⟨.slice sA sn sc, 168, 15, sn, sl.flatMap stEnc⟩, ⟨.slice vA vn vc, 158, 2, vn, vl.flatMap vhEnc⟩, ⟨.slice pA pn pc, 161, 3, pn, pl.flatMap plEnc⟩] [fun wy => SlT csEnc 2 170 wy cA 4 cl] := by
  intro k3 hk3 q5 k6 zk6 q8 k9 zk9 q11
  rw [hW]
  refine wa1 1 rfl ?_
  refine lk_ sc64 1 rfl rfl rfl (wl_nil ?_)
  refine nw 15 4095 (fun _ hm => ⟨hm.bl 0, hm.fa 0, trivial⟩) fun z => ?_
  refine wa1 12 rfl ?_
  refine wl_append (news := [.int .i64 k3, .string k6, .string k9]) 2 2 ap64 rfl rfl rfl rfl rfl rfl rfl (by omega) (by unfold maxLen; omega) rfl rfl fun v2 hv2 => ?_
  refine wl_look (R := ∃ A cc, v2 = .slice A (pn + 1) cc) (fun wx hm => own_slice (hm.ownI 2 rfl)) ?_
  rintro ⟨A2, c2, rfl⟩
  have hxs : pl.flatMap plEnc ++ ([.int .i64 k3, .string k6, .string k9] : List Value) = (pl ++ [(⟨k3, k6, k9⟩ : Pl)]).flatMap plEnc := by simp [plEnc]
  rw [hxs]
  refine wl_nil ?_
  refine nw 15 8191 (fun _ hm => ⟨hm.bl 0, hm.fa 0, trivial⟩) fun z => ?_
  refine wt 13 15 16383 rfl z (ov_field fo66_3 rfl rfl) ?_
  refine wa1 14 rfl ?_
  refine wl_store 1 sc64 rfl rfl rfl rfl rfl rfl ?_
  refine wl_nil ?_
  refine nw 15 32767 (fun _ hm => ⟨hm.bl 0, hm.fa 0, trivial⟩) fun z => ?_
  refine wa_done (by kernel_rfl) ?_
  refine nx_blk_nrm (nx_then (sr_ ?_))
  refine wl_ov (ov_loads rz66 rfl (fun _ hm => hm.blkI 1 rfl) rfl rfl) rfl ?_
  refine wl_stores (cs' := [.slice sA sn sc, .slice cA 4 cc, .slice vA vn vc, .slice A2 (pn + 1) c2]) 0 rz66 rfl rfl rfl rfl rfl rfl rfl rfl ?_
  refine nn_ ?_
  refine gw_ret ?_
  refine nx_retc 0 rfl rz66 rfl rfl rfl fun wx hm => ?_
  exact ⟨sA, cA, vA, A2, sn, sc, cc, vn, vc, pn + 1, c2, sl, cl, vl, pl ++ [(⟨k3, k6, k9⟩ : Pl)], rfl, ⟨⟨stB_all hsB, by omega⟩, hcok, ⟨hvB, by omega⟩, all_snoc hpB ⟨⟨by dsimp only; omega, by dsimp only; omega⟩, by dsimp only; omega, by dsimp only; omega⟩, by omega⟩, hm.k.more (by omega), hm.g, SlT.ofOwnL stEnc_lenL (stB_all hsB) (hm.ownI 0 rfl) hsl, (hm.fact 0 rfl), SlT.ofOwn vh_len (hm.ownI 1 rfl) hvl, SlT.ofOwn pl_len (hm.ownI 2 rfl) (by simp [hpl]), own_shape (hm.ownI 2 rfl), own_cap (hm.ownI 2 rfl)⟩
 have J2045 : ∀ (k3 : Int) (hk3 : -2000000000000000 ≤ k3 ∧ k3 ≤ 2000000000000000) (q5 : Nat) (k6 : ByteArray) (zk6 : k6.size ≤ 100) (q8 : Nat) (k9 : ByteArray) (zk9 : k9.size ≤ 100), W 5 (lb 15 2045) [(2, .pointer (some ⟨g1, 0, none⟩)), (3, .pointer (some ⟨g2, 0, none⟩)), (12, .pointer (some ⟨g2, 3, none⟩)), (22, .agg #[.int .i64 k3, .string k6, .string k9])] (fun w => Strm 25 w B sb (m + 300 + 1 + 1 + 2 + 1 + 1)) [(g1, 66, [.slice none 0 0, .slice none 0 0, .slice none 0 0, .slice none 0 0]), (g2, 66, [.slice sA sn sc, .slice cA 4 cc, .slice vA vn vc, .slice pA pn pc]), (q5, 9, [.string ⟨#[118, 49]⟩, .string ⟨#[110, 111, 110, 101]⟩]), (q8, 9, [.string ⟨#[65, 66, 49]⟩, .string ⟨#[97, 49]⟩, .string ⟨#[65]⟩, .string ⟨#[65, 66, 67, 68, 69, 70, 71, 72, 73, 74, 49]⟩, .string ⟨#[65, 66, 49]⟩])] [⟨.slice sA sn sc, 168, 15, sn, sl.flatMap stEnc⟩, ⟨.slice vA vn vc, 158, 2, vn, vl.flatMap vhEnc⟩, ⟨.slice pA pn pc, 161, 3, pn, pl.flatMap plEnc⟩] [fun wy => SlT csEnc 2 170 wy cA 4 cl] := by
  intro k3 hk3 q5 k6 zk6 q8 k9 zk9
  rw [hW]
  refine wa_all [1, 11] (by kernel_rfl) rfl ⟨⟨_, rfl, ?_⟩, ⟨_, rfl, ?_⟩, trivial⟩
  ·refine lk_ sc64 1 rfl rfl rfl (wl_nil ?_)
   refine nw 15 2047 (fun _ hm => ⟨hm.bl 0, hm.fa 0, trivial⟩) fun z => ?_
   have h := T2047 k3 hk3 q5 k6 zk6 q8 k9 zk9
   rw [hW] at h
   refine wa_weak ?_ ?_ h
   ·exact ⟨rfl, rfl, rfl, rfl, trivial⟩
   exact fun _ hm => hm.pick [0, 1, 2, 3] [0, 1, 2] [0] rfl rfl
  refine wl_buildSlice (e := 161) (cs := [.int .i64 k3, .string k6, .string k9]) rfl (by kernel_rfl) rfl fun q11 => ?_
  refine wl_nil ?_
  refine nw 15 4093 (fun _ hm => ⟨hm.bl 1, hm.fa 0, trivial⟩) fun z => ?_
  have h := T4093 k3 hk3 q5 k6 zk6 q8 k9 zk9 q11
  rw [hW] at h
  refine wa_weak ?_ ?_ h
  ·exact ⟨rfl, rfl, rfl, rfl, trivial⟩
  exact fun _ hm => hm.pick [1, 2, 0, 3, 4] [0, 1, 2] [0] rfl rfl
 have J509 : ∀ (k3 : Int) (hk3 : -2000000000000000 ≤ k3 ∧ k3 ≤ 2000000000000000) (q5 : Nat) (k6 : ByteArray) (zk6 : k6.size ≤ 100) (q8 : Nat), W 7 (lb 15 509) [(2, .pointer (some ⟨g1, 0, none⟩)), (3, .pointer (some ⟨g2, 0, none⟩)), (12, .pointer (some ⟨g2, 3, none⟩)), (15, .int .i64 k3), (18, .string k6), (19, .pointer (some ⟨sb, 0, none⟩)), (20, .slice (some ⟨q8, 0, none⟩) 5 5)] (fun w => Strm 25 w B sb (m + 300 + 1 + 1 + 2 + 1)) [(g1, 66, [.slice none 0 0, .slice none 0 0, .slice none 0 0, .slice none 0 0]), (g2, 66, [.slice sA sn sc, .slice cA 4 cc, .slice vA vn vc, .slice pA pn pc]), (q5, 9, [.string ⟨#[118, 49]⟩, .string ⟨#[110, 111, 110, 101]⟩]), (q8, 9, [.string ⟨#[65, 66, 49]⟩, .string ⟨#[97, 49]⟩, .string ⟨#[65]⟩, .string ⟨#[65, 66, 67, 68, 69, 70, 71, 72, 73, 74, 49]⟩, .string ⟨#[65, 66, 49]⟩])] [⟨.slice sA sn sc, 168, 15, sn, sl.flatMap stEnc⟩, ⟨.slice vA vn vc, 158, 2, vn, vl.flatMap vhEnc⟩, ⟨.slice pA pn pc, 161, 3, pn, pl.flatMap plEnc⟩] [fun wy => SlT csEnc 2 170 wy cA 4 cl] := by
  intro k3 hk3 q5 k6 zk6 q8
  rw [hW]
  refine wa_all [1, 9] (by kernel_rfl) rfl ⟨⟨_, rfl, ?_⟩, ⟨_, rfl, ?_⟩, trivial⟩
  ·refine lk_ sc64 1 rfl rfl rfl (wl_nil ?_)
   refine nw 15 511 (fun _ hm => ⟨hm.bl 0, hm.fa 0, trivial⟩) fun z => ?_
   have h := T511 k3 hk3 q5 k6 zk6 q8
   rw [hW] at h
   refine wa_weak ?_ ?_ h
   ·exact ⟨rfl, rfl, rfl, rfl, rfl, rfl, rfl, trivial⟩
   exact fun _ hm => hm.pick [0, 1, 2, 3] [0, 1, 2] [0] rfl rfl
  refine wl_got (γ := ByteArray) (val := fun v => .string v) (φ := fun v => v ∈ ([⟨#[65, 66, 49]⟩, ⟨#[97, 49]⟩, ⟨#[65]⟩, ⟨#[65, 66, 67, 68, 69, 70, 71, 72, 73, 74, 49]⟩, ⟨#[65, 66, 49]⟩] : List ByteArray)) rfl cb57 rfl rfl rfl rfl (fun wx hm => (some_any [⟨#[65, 66, 49]⟩, ⟨#[97, 49]⟩, ⟨#[65]⟩, ⟨#[65, 66, 67, 68, 69, 70, 71, 72, 73, 74, 49]⟩, ⟨#[65, 66, 49]⟩] _ _ _ wx B sb _ hm.k (by omega) (by simp) (by simp) (hm.blkI 3 rfl) (hm.neRow 3 rfl rfl))) fun k9 hk9 => ?_
  have zk9 : k9.size ≤ 100 := mem_sz hk9 (by decide)
  refine wl_nil ?_
  refine nw 15 1021 (fun _ hm => ⟨hm.bl 0, hm.fa 0, trivial⟩) fun z => ?_
  refine wt 10 15 2045 rfl z (ov_build (cs := [.int .i64 k3, .string k6, .string k9]) rfl (by kernel_rfl)) ?_
  have h := J2045 k3 hk3 q5 k6 zk6 q8 k9 zk9
  rw [hW] at h
  refine wa_weak ?_ ?_ h
  ·exact ⟨rfl, rfl, rfl, rfl, trivial⟩
  exact fun _ hm => hm.pick [0, 1, 2, 3] [0, 1, 2] [0] rfl rfl
 have J253 : ∀ (k3 : Int) (hk3 : -2000000000000000 ≤ k3 ∧ k3 ≤ 2000000000000000) (q5 : Nat) (k6 : ByteArray) (zk6 : k6.size ≤ 100), W 8 (lb 15 253) [(2, .pointer (some ⟨g1, 0, none⟩)), (3, .pointer (some ⟨g2, 0, none⟩)), (12, .pointer (some ⟨g2, 3, none⟩)), (15, .int .i64 k3), (18, .string k6), (19, .pointer (some ⟨sb, 0, none⟩))] (fun w => Strm 25 w B sb (m + 300 + 1 + 1 + 2 + 1)) [(g1, 66, [.slice none 0 0, .slice none 0 0, .slice none 0 0, .slice none 0 0]), (g2, 66, [.slice sA sn sc, .slice cA 4 cc, .slice vA vn vc, .slice pA pn pc]), (q5, 9, [.string ⟨#[118, 49]⟩, .string ⟨#[110, 111, 110, 101]⟩])] [⟨.slice sA sn sc, 168, 15, sn, sl.flatMap stEnc⟩, ⟨.slice vA vn vc, 158, 2, vn, vl.flatMap vhEnc⟩, ⟨.slice pA pn pc, 161, 3, pn, pl.flatMap plEnc⟩] [fun wy => SlT csEnc 2 170 wy cA 4 cl] := by
  intro k3 hk3 q5 k6 zk6
  rw [hW]
  refine wa_all [1, 8] (by kernel_rfl) rfl ⟨⟨_, rfl, ?_⟩, ⟨_, rfl, ?_⟩, trivial⟩
  ·refine lk_ sc64 1 rfl rfl rfl (wl_nil ?_)
   refine nw 15 255 (fun _ hm => ⟨hm.bl 0, hm.fa 0, trivial⟩) fun z => ?_
   have h := T255 k3 hk3 q5 k6 zk6
   rw [hW] at h
   refine wa_weak ?_ ?_ h
   ·exact ⟨rfl, rfl, rfl, rfl, rfl, rfl, trivial⟩
   exact fun _ hm => hm.pick [0, 1, 2] [0, 1, 2] [0] rfl rfl
  refine wl_buildSlice (e := 9) (cs := [.string ⟨#[65, 66, 49]⟩, .string ⟨#[97, 49]⟩, .string ⟨#[65]⟩, .string ⟨#[65, 66, 67, 68, 69, 70, 71, 72, 73, 74, 49]⟩, .string ⟨#[65, 66, 49]⟩]) rfl (by kernel_rfl) rfl fun q8 => ?_
  refine wl_nil ?_
  refine nw 15 509 (fun _ hm => ⟨hm.bl 1, hm.fa 0, trivial⟩) fun z => ?_
  have h := J509 k3 hk3 q5 k6 zk6 q8
  rw [hW] at h
  refine wa_weak ?_ ?_ h
  ·exact ⟨rfl, rfl, rfl, rfl, rfl, rfl, rfl, trivial⟩
  exact fun _ hm => hm.pick [1, 2, 3, 0] [0, 1, 2] [0] rfl rfl
 have J445 : ∀ (k3 : Int) (hk3 : -2000000000000000 ≤ k3 ∧ k3 ≤ 2000000000000000) (q5 : Nat) (q8 : Nat), W 8 (lb 15 445) [(2, .pointer (some ⟨g1, 0, none⟩)), (3, .pointer (some ⟨g2, 0, none⟩)), (12, .pointer (some ⟨g2, 3, none⟩)), (15, .int .i64 k3), (16, .pointer (some ⟨sb, 0, none⟩)), (17, .slice (some ⟨q5, 0, none⟩) 2 2), (19, .pointer (some ⟨sb, 0, none⟩)), (20, .slice (some ⟨q8, 0, none⟩) 5 5)] (fun w => Strm 25 w B sb (m + 300 + 1 + 1 + 2)) [(g1, 66, [.slice none 0 0, .slice none 0 0, .slice none 0 0, .slice none 0 0]), (g2, 66, [.slice sA sn sc, .slice cA 4 cc, .slice vA vn vc, .slice pA pn pc]), (q5, 9, [.string ⟨#[118, 49]⟩, .string ⟨#[110, 111, 110, 101]⟩]), (q8, 9, [.string ⟨#[65, 66, 49]⟩, .string ⟨#[97, 49]⟩, .string ⟨#[65]⟩, .string ⟨#[65, 66, 67, 68, 69, 70, 71, 72, 73, 74, 49]⟩, .string ⟨#[65, 66, 49]⟩])] [⟨.slice sA sn sc, 168, 15, sn, sl.flatMap stEnc⟩, ⟨.slice vA vn vc, 158, 2, vn, vl.flatMap vhEnc⟩, ⟨.slice pA pn pc, 161, 3, pn, pl.flatMap plEnc⟩] [fun wy => SlT csEnc 2 170 wy cA 4 cl] := by
  intro k3 hk3 q5 q8
  rw [hW]
  refine wa_all [1, 6] (by kernel_rfl) rfl ⟨⟨_, rfl, ?_⟩, ⟨_, rfl, ?_⟩, trivial⟩
  ·refine lk_ sc64 1 rfl rfl rfl (wl_nil ?_)
   refine nw 15 447 (fun _ hm => ⟨hm.bl 0, hm.fa 0, trivial⟩) fun z => ?_
   have h := T447 k3 hk3 q5 q8
   rw [hW] at h
   refine wa_weak ?_ ?_ h
   ·exact ⟨rfl, rfl, rfl, rfl, rfl, rfl, rfl, rfl, trivial⟩
   exact fun _ hm => hm.pick [0, 1, 2, 3] [0, 1, 2] [0] rfl rfl
  refine wl_got (γ := ByteArray) (val := fun v => .string v) (φ := fun v => v ∈ ([⟨#[118, 49]⟩, ⟨#[110, 111, 110, 101]⟩] : List ByteArray)) rfl cb57 rfl rfl rfl rfl (fun wx hm => (some_any [⟨#[118, 49]⟩, ⟨#[110, 111, 110, 101]⟩] _ _ _ wx B sb _ hm.k (by omega) (by simp) (by simp) (hm.blkI 2 rfl) (hm.neRow 2 rfl rfl))) fun k6 hk6 => ?_
  have zk6 : k6.size ≤ 100 := mem_sz hk6 (by decide)
  refine wl_nil ?_
  refine nw 15 509 (fun _ hm => ⟨hm.bl 0, hm.fa 0, trivial⟩) fun z => ?_
  have h := J509 k3 hk3 q5 k6 zk6 q8
  rw [hW] at h
  refine wa_weak ?_ ?_ h
  ·exact ⟨rfl, rfl, rfl, rfl, rfl, rfl, rfl, trivial⟩
  exact fun _ hm => hm.pick [0, 1, 2, 3] [0, 1, 2] [0] rfl rfl
 have J189 : ∀ (k3 : Int) (hk3 : -2000000000000000 ≤ k3 ∧ k3 ≤ 2000000000000000) (q5 : Nat), W 9 (lb 15 189) [(2, .pointer (some ⟨g1, 0, none⟩)), (3, .pointer (some ⟨g2, 0, none⟩)), (12, .pointer (some ⟨g2, 3, none⟩)), (15, .int .i64 k3), (16, .pointer (some ⟨sb, 0, none⟩)), (17, .slice (some ⟨q5, 0, none⟩) 2 2), (19, .pointer (some ⟨sb, 0, none⟩))] (fun w => Strm 25 w B sb (m + 300 + 1 + 1 + 2)) [(g1, 66, [.slice none 0 0, .slice none 0 0, .slice none 0 0, .slice none 0 0]), (g2, 66, [.slice sA sn sc, .slice cA 4 cc, .slice vA vn vc, .slice pA pn pc]), (q5, 9, [.string ⟨#[118, 49]⟩, .string ⟨#[110, 111, 110, 101]⟩])] [⟨.slice sA sn sc, 168, 15, sn, sl.flatMap stEnc⟩, ⟨.slice vA vn vc, 158, 2, vn, vl.flatMap vhEnc⟩, ⟨.slice pA pn pc, 161, 3, pn, pl.flatMap plEnc⟩] [fun wy => SlT csEnc 2 170 wy cA 4 cl] := by
  intro k3 hk3 q5
  rw [hW]
  refine wa_all [1, 6, 8] (by kernel_rfl) rfl ⟨⟨_, rfl, ?_⟩, ⟨_, rfl, ?_⟩, ⟨_, rfl, ?_⟩, trivial⟩
  ·refine lk_ sc64 1 rfl rfl rfl (wl_nil ?_)
   refine nw 15 191 (fun _ hm => ⟨hm.bl 0, hm.fa 0, trivial⟩) fun z => ?_
   have h := J191 k3 hk3 q5
   rw [hW] at h
   refine wa_weak ?_ ?_ h
   ·exact ⟨rfl, rfl, rfl, rfl, rfl, rfl, rfl, trivial⟩
   exact fun _ hm => hm.pick [0, 1, 2] [0, 1, 2] [0] rfl rfl
  ·refine wl_got (γ := ByteArray) (val := fun v => .string v) (φ := fun v => v ∈ ([⟨#[118, 49]⟩, ⟨#[110, 111, 110, 101]⟩] : List ByteArray)) rfl cb57 rfl rfl rfl rfl (fun wx hm => (some_any [⟨#[118, 49]⟩, ⟨#[110, 111, 110, 101]⟩] _ _ _ wx B sb _ hm.k (by omega) (by simp) (by simp) (hm.blkI 2 rfl) (hm.neRow 2 rfl rfl))) fun k6 hk6 => ?_
   have zk6 : k6.size ≤ 100 := mem_sz hk6 (by decide)
   refine wl_nil ?_
   refine nw 15 253 (fun _ hm => ⟨hm.bl 0, hm.fa 0, trivial⟩) fun z => ?_
   have h := J253 k3 hk3 q5 k6 zk6
   rw [hW] at h
   refine wa_weak ?_ ?_ h
   ·exact ⟨rfl, rfl, rfl, rfl, rfl, rfl, trivial⟩
   exact fun _ hm => hm.pick [0, 1, 2] [0, 1, 2] [0] rfl rfl
  refine wl_buildSlice (e := 9) (cs := [.string ⟨#[65, 66, 49]⟩, .string ⟨#[97, 49]⟩, .string ⟨#[65]⟩, .string ⟨#[65, 66, 67, 68, 69, 70, 71, 72, 73, 74, 49]⟩, .string ⟨#[65, 66, 49]⟩]) rfl (by kernel_rfl) rfl fun q8 => ?_
  refine wl_nil ?_
  refine nw 15 445 (fun _ hm => ⟨hm.bl 1, hm.fa 0, trivial⟩) fun z => ?_
  have h := J445 k3 hk3 q5 q8
  rw [hW] at h
  refine wa_weak ?_ ?_ h
  ·exact ⟨rfl, rfl, rfl, rfl, rfl, rfl, rfl, rfl, trivial⟩
  exact fun _ hm => hm.pick [1, 2, 3, 0] [0, 1, 2] [0] rfl rfl
 have J413 : ∀ (k3 : Int) (hk3 : -2000000000000000 ≤ k3 ∧ k3 ≤ 2000000000000000) (q8 : Nat), W 9 (lb 15 413) [(2, .pointer (some ⟨g1, 0, none⟩)), (3, .pointer (some ⟨g2, 0, none⟩)), (12, .pointer (some ⟨g2, 3, none⟩)), (15, .int .i64 k3), (16, .pointer (some ⟨sb, 0, none⟩)), (19, .pointer (some ⟨sb, 0, none⟩)), (20, .slice (some ⟨q8, 0, none⟩) 5 5)] (fun w => Strm 25 w B sb (m + 300 + 1 + 1 + 2)) [(g1, 66, [.slice none 0 0, .slice none 0 0, .slice none 0 0, .slice none 0 0]), (g2, 66, [.slice sA sn sc, .slice cA 4 cc, .slice vA vn vc, .slice pA pn pc]), (q8, 9, [.string ⟨#[65, 66, 49]⟩, .string ⟨#[97, 49]⟩, .string ⟨#[65]⟩, .string ⟨#[65, 66, 67, 68, 69, 70, 71, 72, 73, 74, 49]⟩, .string ⟨#[65, 66, 49]⟩])] [⟨.slice sA sn sc, 168, 15, sn, sl.flatMap stEnc⟩, ⟨.slice vA vn vc, 158, 2, vn, vl.flatMap vhEnc⟩, ⟨.slice pA pn pc, 161, 3, pn, pl.flatMap plEnc⟩] [fun wy => SlT csEnc 2 170 wy cA 4 cl] := by
  intro k3 hk3 q8
  rw [hW]
  refine wa_all [1, 5] (by kernel_rfl) rfl ⟨⟨_, rfl, ?_⟩, ⟨_, rfl, ?_⟩, trivial⟩
  ·refine lk_ sc64 1 rfl rfl rfl (wl_nil ?_)
   refine nw 15 415 (fun _ hm => ⟨hm.bl 0, hm.fa 0, trivial⟩) fun z => ?_
   have h := T415 k3 hk3 q8
   rw [hW] at h
   refine wa_weak ?_ ?_ h
   ·exact ⟨rfl, rfl, rfl, rfl, rfl, rfl, rfl, trivial⟩
   exact fun _ hm => hm.pick [0, 1, 2] [0, 1, 2] [0] rfl rfl
  refine wl_buildSlice (e := 9) (cs := [.string ⟨#[118, 49]⟩, .string ⟨#[110, 111, 110, 101]⟩]) rfl (by kernel_rfl) rfl fun q5 => ?_
  refine wl_nil ?_
  refine nw 15 445 (fun _ hm => ⟨hm.bl 1, hm.fa 0, trivial⟩) fun z => ?_
  have h := J445 k3 hk3 q5 q8
  rw [hW] at h
  refine wa_weak ?_ ?_ h
  ·exact ⟨rfl, rfl, rfl, rfl, rfl, rfl, rfl, rfl, trivial⟩
  exact fun _ hm => hm.pick [1, 2, 0, 3] [0, 1, 2] [0] rfl rfl
 have J157 : ∀ (k3 : Int) (hk3 : -2000000000000000 ≤ k3 ∧ k3 ≤ 2000000000000000), W 10 (lb 15 157) [(2, .pointer (some ⟨g1, 0, none⟩)), (3, .pointer (some ⟨g2, 0, none⟩)), (12, .pointer (some ⟨g2, 3, none⟩)), (15, .int .i64 k3), (16, .pointer (some ⟨sb, 0, none⟩)), (19, .pointer (some ⟨sb, 0, none⟩))] (fun w => Strm 25 w B sb (m + 300 + 1 + 1 + 2)) [(g1, 66, [.slice none 0 0, .slice none 0 0, .slice none 0 0, .slice none 0 0]), (g2, 66, [.slice sA sn sc, .slice cA 4 cc, .slice vA vn vc, .slice pA pn pc])] [⟨.slice sA sn sc, 168, 15, sn, sl.flatMap stEnc⟩, ⟨.slice vA vn vc, 158, 2, vn, vl.flatMap vhEnc⟩, ⟨.slice pA pn pc, 161, 3, pn, pl.flatMap plEnc⟩] [fun wy => SlT csEnc 2 170 wy cA 4 cl] := by
  intro k3 hk3
  rw [hW]
  refine wa_all [1, 5, 8] (by kernel_rfl) rfl ⟨⟨_, rfl, ?_⟩, ⟨_, rfl, ?_⟩, ⟨_, rfl, ?_⟩, trivial⟩
  ·refine lk_ sc64 1 rfl rfl rfl (wl_nil ?_)
   refine nw 15 159 (fun _ hm => ⟨hm.bl 0, hm.fa 0, trivial⟩) fun z => ?_
   have h := J159 k3 hk3
   rw [hW] at h
   refine wa_weak ?_ ?_ h
   ·exact ⟨rfl, rfl, rfl, rfl, rfl, rfl, trivial⟩
   exact fun _ hm => hm.pick [0, 1] [0, 1, 2] [0] rfl rfl
  ·refine wl_buildSlice (e := 9) (cs := [.string ⟨#[118, 49]⟩, .string ⟨#[110, 111, 110, 101]⟩]) rfl (by kernel_rfl) rfl fun q5 => ?_
   refine wl_nil ?_
   refine nw 15 189 (fun _ hm => ⟨hm.bl 1, hm.fa 0, trivial⟩) fun z => ?_
   have h := J189 k3 hk3 q5
   rw [hW] at h
   refine wa_weak ?_ ?_ h
   ·exact ⟨rfl, rfl, rfl, rfl, rfl, rfl, rfl, trivial⟩
   exact fun _ hm => hm.pick [1, 2, 0] [0, 1, 2] [0] rfl rfl
  refine wl_buildSlice (e := 9) (cs := [.string ⟨#[65, 66, 49]⟩, .string ⟨#[97, 49]⟩, .string ⟨#[65]⟩, .string ⟨#[65, 66, 67, 68, 69, 70, 71, 72, 73, 74, 49]⟩, .string ⟨#[65, 66, 49]⟩]) rfl (by kernel_rfl) rfl fun q8 => ?_
  refine wl_nil ?_
  refine nw 15 413 (fun _ hm => ⟨hm.bl 1, hm.fa 0, trivial⟩) fun z => ?_
  have h := J413 k3 hk3 q8
  rw [hW] at h
  refine wa_weak ?_ ?_ h
  ·exact ⟨rfl, rfl, rfl, rfl, rfl, rfl, rfl, trivial⟩
  exact fun _ hm => hm.pick [1, 2, 0] [0, 1, 2] [0] rfl rfl
 have J437 : ∀ (q5 : Nat) (q8 : Nat), W 9 (lb 15 437) [(2, .pointer (some ⟨g1, 0, none⟩)), (3, .pointer (some ⟨g2, 0, none⟩)), (12, .pointer (some ⟨g2, 3, none⟩)), (14, .pointer (some ⟨sb, 0, none⟩)), (16, .pointer (some ⟨sb, 0, none⟩)), (17, .slice (some ⟨q5, 0, none⟩) 2 2), (19, .pointer (some ⟨sb, 0, none⟩)), (20, .slice (some ⟨q8, 0, none⟩) 5 5)] (fun w => Strm 25 w B sb (m + 300 + 1 + 1)) [(g1, 66, [.slice none 0 0, .slice none 0 0, .slice none 0 0, .slice none 0 0]), (g2, 66, [.slice sA sn sc, .slice cA 4 cc, .slice vA vn vc, .slice pA pn pc]), (q5, 9, [.string ⟨#[118, 49]⟩, .string ⟨#[110, 111, 110, 101]⟩]), (q8, 9, [.string ⟨#[65, 66, 49]⟩, .string ⟨#[97, 49]⟩, .string ⟨#[65]⟩, .string ⟨#[65, 66, 67, 68, 69, 70, 71, 72, 73, 74, 49]⟩, .string ⟨#[65, 66, 49]⟩])] [⟨.slice sA sn sc, 168, 15, sn, sl.flatMap stEnc⟩, ⟨.slice vA vn vc, 158, 2, vn, vl.flatMap vhEnc⟩, ⟨.slice pA pn pc, 161, 3, pn, pl.flatMap plEnc⟩] [fun wy => SlT csEnc 2 170 wy cA 4 cl] := by
  intro q5 q8
  rw [hW]
  refine wa_all [1, 3] (by kernel_rfl) rfl ⟨⟨_, rfl, ?_⟩, ⟨_, rfl, ?_⟩, trivial⟩
  ·refine lk_ sc64 1 rfl rfl rfl (wl_nil ?_)
   refine nw 15 439 (fun _ hm => ⟨hm.bl 0, hm.fa 0, trivial⟩) fun z => ?_
   have h := T439 q5 q8
   rw [hW] at h
   refine wa_weak ?_ ?_ h
   ·exact ⟨rfl, rfl, rfl, rfl, rfl, rfl, rfl, rfl, trivial⟩
   exact fun _ hm => hm.pick [0, 1, 2, 3] [0, 1, 2] [0] rfl rfl
  refine wl_got (γ := Int) (val := fun v => .int .i64 v) (φ := fun v => -2000000000000000 ≤ v ∧ v ≤ 2000000000000000) rfl cb58 rfl rfl rfl rfl (fun wx hm => (odd_any _ _ wx B sb _ hm.k (by omega) (by omega) (by omega) (by omega))) fun k3 hk3 => ?_
  refine wl_nil ?_
  refine nw 15 445 (fun _ hm => ⟨hm.bl 0, hm.fa 0, trivial⟩) fun z => ?_
  have h := J445 k3 hk3 q5 q8
  rw [hW] at h
  refine wa_weak ?_ ?_ h
  ·exact ⟨rfl, rfl, rfl, rfl, rfl, rfl, rfl, rfl, trivial⟩
  exact fun _ hm => hm.pick [0, 1, 2, 3] [0, 1, 2] [0] rfl rfl
 have J181 : ∀ (q5 : Nat), W 10 (lb 15 181) [(2, .pointer (some ⟨g1, 0, none⟩)), (3, .pointer (some ⟨g2, 0, none⟩)), (12, .pointer (some ⟨g2, 3, none⟩)), (14, .pointer (some ⟨sb, 0, none⟩)), (16, .pointer (some ⟨sb, 0, none⟩)), (17, .slice (some ⟨q5, 0, none⟩) 2 2), (19, .pointer (some ⟨sb, 0, none⟩))] (fun w => Strm 25 w B sb (m + 300 + 1 + 1)) [(g1, 66, [.slice none 0 0, .slice none 0 0, .slice none 0 0, .slice none 0 0]), (g2, 66, [.slice sA sn sc, .slice cA 4 cc, .slice vA vn vc, .slice pA pn pc]), (q5, 9, [.string ⟨#[118, 49]⟩, .string ⟨#[110, 111, 110, 101]⟩])] [⟨.slice sA sn sc, 168, 15, sn, sl.flatMap stEnc⟩, ⟨.slice vA vn vc, 158, 2, vn, vl.flatMap vhEnc⟩, ⟨.slice pA pn pc, 161, 3, pn, pl.flatMap plEnc⟩] [fun wy => SlT csEnc 2 170 wy cA 4 cl] := by
  intro q5
  rw [hW]
  refine wa_all [1, 3, 8] (by kernel_rfl) rfl ⟨⟨_, rfl, ?_⟩, ⟨_, rfl, ?_⟩, ⟨_, rfl, ?_⟩, trivial⟩
  ·refine lk_ sc64 1 rfl rfl rfl (wl_nil ?_)
   refine nw 15 183 (fun _ hm => ⟨hm.bl 0, hm.fa 0, trivial⟩) fun z => ?_
   have h := J183 q5
   rw [hW] at h
   refine wa_weak ?_ ?_ h
   ·exact ⟨rfl, rfl, rfl, rfl, rfl, rfl, rfl, trivial⟩
   exact fun _ hm => hm.pick [0, 1, 2] [0, 1, 2] [0] rfl rfl
  ·refine wl_got (γ := Int) (val := fun v => .int .i64 v) (φ := fun v => -2000000000000000 ≤ v ∧ v ≤ 2000000000000000) rfl cb58 rfl rfl rfl rfl (fun wx hm => (odd_any _ _ wx B sb _ hm.k (by omega) (by omega) (by omega) (by omega))) fun k3 hk3 => ?_
   refine wl_nil ?_
   refine nw 15 189 (fun _ hm => ⟨hm.bl 0, hm.fa 0, trivial⟩) fun z => ?_
   have h := J189 k3 hk3 q5
   rw [hW] at h
   refine wa_weak ?_ ?_ h
   ·exact ⟨rfl, rfl, rfl, rfl, rfl, rfl, rfl, trivial⟩
   exact fun _ hm => hm.pick [0, 1, 2] [0, 1, 2] [0] rfl rfl
  refine wl_buildSlice (e := 9) (cs := [.string ⟨#[65, 66, 49]⟩, .string ⟨#[97, 49]⟩, .string ⟨#[65]⟩, .string ⟨#[65, 66, 67, 68, 69, 70, 71, 72, 73, 74, 49]⟩, .string ⟨#[65, 66, 49]⟩]) rfl (by kernel_rfl) rfl fun q8 => ?_
  refine wl_nil ?_
  refine nw 15 437 (fun _ hm => ⟨hm.bl 1, hm.fa 0, trivial⟩) fun z => ?_
  have h := J437 q5 q8
  rw [hW] at h
  refine wa_weak ?_ ?_ h
  ·exact ⟨rfl, rfl, rfl, rfl, rfl, rfl, rfl, rfl, trivial⟩
  exact fun _ hm => hm.pick [1, 2, 3, 0] [0, 1, 2] [0] rfl rfl
 have J405 : ∀ (q8 : Nat), W 10 (lb 15 405) [(2, .pointer (some ⟨g1, 0, none⟩)), (3, .pointer (some ⟨g2, 0, none⟩)), (12, .pointer (some ⟨g2, 3, none⟩)), (14, .pointer (some ⟨sb, 0, none⟩)), (16, .pointer (some ⟨sb, 0, none⟩)), (19, .pointer (some ⟨sb, 0, none⟩)), (20, .slice (some ⟨q8, 0, none⟩) 5 5)] (fun w => Strm 25 w B sb (m + 300 + 1 + 1)) [(g1, 66, [.slice none 0 0, .slice none 0 0, .slice none 0 0, .slice none 0 0]), (g2, 66, [.slice sA sn sc, .slice cA 4 cc, .slice vA vn vc, .slice pA pn pc]), (q8, 9, [.string ⟨#[65, 66, 49]⟩, .string ⟨#[97, 49]⟩, .string ⟨#[65]⟩, .string ⟨#[65, 66, 67, 68, 69, 70, 71, 72, 73, 74, 49]⟩, .string ⟨#[65, 66, 49]⟩])] [⟨.slice sA sn sc, 168, 15, sn, sl.flatMap stEnc⟩, ⟨.slice vA vn vc, 158, 2, vn, vl.flatMap vhEnc⟩, ⟨.slice pA pn pc, 161, 3, pn, pl.flatMap plEnc⟩] [fun wy => SlT csEnc 2 170 wy cA 4 cl] := by
  intro q8
  rw [hW]
  refine wa_all [1, 3, 5] (by kernel_rfl) rfl ⟨⟨_, rfl, ?_⟩, ⟨_, rfl, ?_⟩, ⟨_, rfl, ?_⟩, trivial⟩
  ·refine lk_ sc64 1 rfl rfl rfl (wl_nil ?_)
   refine nw 15 407 (fun _ hm => ⟨hm.bl 0, hm.fa 0, trivial⟩) fun z => ?_
   have h := J407 q8
   rw [hW] at h
   refine wa_weak ?_ ?_ h
   ·exact ⟨rfl, rfl, rfl, rfl, rfl, rfl, rfl, trivial⟩
   exact fun _ hm => hm.pick [0, 1, 2] [0, 1, 2] [0] rfl rfl
  ·refine wl_got (γ := Int) (val := fun v => .int .i64 v) (φ := fun v => -2000000000000000 ≤ v ∧ v ≤ 2000000000000000) rfl cb58 rfl rfl rfl rfl (fun wx hm => (odd_any _ _ wx B sb _ hm.k (by omega) (by omega) (by omega) (by omega))) fun k3 hk3 => ?_
   refine wl_nil ?_
   refine nw 15 413 (fun _ hm => ⟨hm.bl 0, hm.fa 0, trivial⟩) fun z => ?_
   have h := J413 k3 hk3 q8
   rw [hW] at h
   refine wa_weak ?_ ?_ h
   ·exact ⟨rfl, rfl, rfl, rfl, rfl, rfl, rfl, trivial⟩
   exact fun _ hm => hm.pick [0, 1, 2] [0, 1, 2] [0] rfl rfl
  refine wl_buildSlice (e := 9) (cs := [.string ⟨#[118, 49]⟩, .string ⟨#[110, 111, 110, 101]⟩]) rfl (by kernel_rfl) rfl fun q5 => ?_
  refine wl_nil ?_
  refine nw 15 437 (fun _ hm => ⟨hm.bl 1, hm.fa 0, trivial⟩) fun z => ?_
  have h := J437 q5 q8
  rw [hW] at h
  refine wa_weak ?_ ?_ h
  ·exact ⟨rfl, rfl, rfl, rfl, rfl, rfl, rfl, rfl, trivial⟩
  exact fun _ hm => hm.pick [1, 2, 0, 3] [0, 1, 2] [0] rfl rfl
 have J149 : W 11 (lb 15 149) [(2, .pointer (some ⟨g1, 0, none⟩)), (3, .pointer (some ⟨g2, 0, none⟩)), (12, .pointer (some ⟨g2, 3, none⟩)), (14, .pointer (some ⟨sb, 0, none⟩)), (16, .pointer (some ⟨sb, 0, none⟩)), (19, .pointer (some ⟨sb, 0, none⟩))] (fun w => Strm 25 w B sb (m + 300 + 1 + 1)) [(g1, 66, [.slice none 0 0, .slice none 0 0, .slice none 0 0, .slice none 0 0]), (g2, 66, [.slice sA sn sc, .slice cA 4 cc, .slice vA vn vc, .slice pA pn pc])] [⟨.slice sA sn sc, 168, 15, sn, sl.flatMap stEnc⟩, ⟨.slice vA vn vc, 158, 2, vn, vl.flatMap vhEnc⟩, ⟨.slice pA pn pc, 161, 3, pn, pl.flatMap plEnc⟩] [fun wy => SlT csEnc 2 170 wy cA 4 cl] := by
  skip
  rw [hW]
  refine wa_all [1, 3, 5, 8] (by kernel_rfl) rfl ⟨⟨_, rfl, ?_⟩, ⟨_, rfl, ?_⟩, ⟨_, rfl, ?_⟩, ⟨_, rfl, ?_⟩, trivial⟩
  ·refine lk_ sc64 1 rfl rfl rfl (wl_nil ?_)
   refine nw 15 151 (fun _ hm => ⟨hm.bl 0, hm.fa 0, trivial⟩) fun z => ?_
   have h := J151 
   rw [hW] at h
   refine wa_weak ?_ ?_ h
   ·exact ⟨rfl, rfl, rfl, rfl, rfl, rfl, trivial⟩
   exact fun _ hm => hm.pick [0, 1] [0, 1, 2] [0] rfl rfl
  ·refine wl_got (γ := Int) (val := fun v => .int .i64 v) (φ := fun v => -2000000000000000 ≤ v ∧ v ≤ 2000000000000000) rfl cb58 rfl rfl rfl rfl (fun wx hm => (odd_any _ _ wx B sb _ hm.k (by omega) (by omega) (by omega) (by omega))) fun k3 hk3 => ?_
   refine wl_nil ?_
   refine nw 15 157 (fun _ hm => ⟨hm.bl 0, hm.fa 0, trivial⟩) fun z => ?_
   have h := J157 k3 hk3
   rw [hW] at h
   refine wa_weak ?_ ?_ h
   ·exact ⟨rfl, rfl, rfl, rfl, rfl, rfl, trivial⟩
   exact fun _ hm => hm.pick [0, 1] [0, 1, 2] [0] rfl rfl
  ·refine wl_buildSlice (e := 9) (cs := [.string ⟨#[118, 49]⟩, .string ⟨#[110, 111, 110, 101]⟩]) rfl (by kernel_rfl) rfl fun q5 => ?_
   refine wl_nil ?_
   refine nw 15 181 (fun _ hm => ⟨hm.bl 1, hm.fa 0, trivial⟩) fun z => ?_
   have h := J181 q5
   rw [hW] at h
   refine wa_weak ?_ ?_ h
   ·exact ⟨rfl, rfl, rfl, rfl, rfl, rfl, rfl, trivial⟩
   exact fun _ hm => hm.pick [1, 2, 0] [0, 1, 2] [0] rfl rfl
  refine wl_buildSlice (e := 9) (cs := [.string ⟨#[65, 66, 49]⟩, .string ⟨#[97, 49]⟩, .string ⟨#[65]⟩, .string ⟨#[65, 66, 67, 68, 69, 70, 71, 72, 73, 74, 49]⟩, .string ⟨#[65, 66, 49]⟩]) rfl (by kernel_rfl) rfl fun q8 => ?_
  refine wl_nil ?_
  refine nw 15 405 (fun _ hm => ⟨hm.bl 1, hm.fa 0, trivial⟩) fun z => ?_
  have h := J405 q8
  rw [hW] at h
  refine wa_weak ?_ ?_ h
  ·exact ⟨rfl, rfl, rfl, rfl, rfl, rfl, rfl, trivial⟩
  exact fun _ hm => hm.pick [1, 2, 0] [0, 1, 2] [0] rfl rfl
 rw [hW]
 have h := J149 
 rw [hW] at h
 refine wa_weak ?_ ?_ h
 ·exact ⟨rfl, rfl, rfl, rfl, rfl, rfl, trivial⟩
 exact fun _ hm => hm.pick [1, 0] [0, 1, 2] [0] rfl rfl
end Go.Proofs.YtnpcbfllnkiopaaGreatDoor
namespace Go.Proofs.YtnpcbfllnkiopaaGreatDoor
open Go.RowKit
theorem b_ne_selfL (a : ByteArray) : (!(a.toList == a.toList)) = false := by simp
theorem nanL (a : ByteArray) (w : World) : Calls Tryz.prog 176 #[.string a] w (fun e w' => e = .returned (.bool false) ∧ w.grownBy w' none) := by
 refine gw_enter ⟨6, w, none, []⟩ Tryz.func176 rfl Tryz.ntmps176 rfl (mem0 (X := []) allF_nil allL_nil) ?_
 refine sr_ (sg_ rfl (nn_ (sr_ (mv_ rfl (mv_ rfl (wl_ov (ov_sneq rfl rfl) rfl ?_))))))
 refine wl_set 5 (v' := .bool false) rfl (congrArg Value.bool (b_ne_selfL a)) ?_
 refine sg_ rfl (nn_ ?_)
 refine gw_ret ?_
 refine nx_ret1 rfl rfl fun wx hm => ?_
 exact ⟨rfl, hm.g⟩
theorem cmpL (a b : ByteArray) (w : World) : Calls Tryz.prog 85 #[.string a, .string b] w (fun e w' => e = .returned (.int .i64 (cmpS a b)) ∧ w.grownBy w' none) := by
 refine gw_enter ⟨20, w, none, []⟩ Tryz.func85 rfl Tryz.ntmps85 rfl (mem0 (X := []) allF_nil allL_nil) ?_
 refine sr_ (sg_ rfl (nn_ (sr_ (mv_ rfl ?_))))
 refine wl_callv rfl cb176 rfl rfl (fun wx hm => (nanL _ wx)) ?_
 refine sg_ rfl (nn_ (sr_ (mv_ rfl ?_)))
 refine wl_callv rfl cb176 rfl rfl (fun wx hm => (nanL _ wx)) ?_
 refine sg_ rfl (nn_ (gw_seq (sr_ (mv_ rfl (nn_ (cf_ rfl (gw_skip (nx_then (gw_seq (gw_seq ?_))))))))))
 refine gw_region (mv_ rfl (nn_ (cf_ rfl (gw_skip (nx_then (gw_seq (sr_ (mv_ rfl (mv_ rfl ?_)))))))))
 refine wl_ov (ov_slss rfl rfl) rfl ?_
 refine nn_ ?_
 refine gw_cond rfl (fun hh => ?_) (fun hh => ?_)
 ·have h1 : (Op.bytesLess a.toList b.toList) = true := by simpa using hh
  clear hh
  refine sr_ (sg_ rfl ?_)
  refine wl_set 4 (v' := .int .i64 (-1)) rfl rfl ?_
  refine nn_ ?_
  refine gw_ret ?_
  refine nx_then_ret ?_
  refine nx_ret1 rfl rfl fun wx hm => ?_
  refine ⟨?_, hm.g⟩
  unfold cmpS; rw [if_pos h1]
 have h1 : (Op.bytesLess a.toList b.toList) = false := by simpa using hh
 clear hh
 refine gw_skip (nx_then (gw_seq (sr_ (mv_ rfl (mv_ rfl ?_)))))
 refine wl_ov (ov_sgtr rfl rfl) rfl ?_
 refine nn_ ?_
 refine gw_cond rfl (fun hh => ?_) (fun hh => ?_)
 ·have h2 : (Op.bytesLess a.toList b.toList || a.toList == b.toList) = false := by simpa only [Bool.not_eq_true', Bool.not_eq_false'] using hh
  clear hh
  refine sr_ (sg_ rfl (nn_ ?_))
  refine gw_ret ?_
  refine nx_then_ret ?_
  refine nx_ret1 rfl rfl fun wx hm => ?_
  refine ⟨?_, hm.g⟩
  unfold cmpS; rw [if_neg (by rw [h1]; decide), if_pos h2]
 have h2 : (Op.bytesLess a.toList b.toList || a.toList == b.toList) = true := by simpa only [Bool.not_eq_true', Bool.not_eq_false'] using hh
 clear hh
 refine gw_skip (nx_then (sr_ (sg_ rfl (nn_ ?_))))
 refine gw_ret ?_
 refine nx_ret1 rfl rfl fun wx hm => ?_
 refine ⟨?_, hm.g⟩
 unfold cmpS; rw [if_neg (by rw [h1]; decide), if_neg (by rw [h2]; decide)]
theorem hasL1 (gk : Nat) (w : World) (hk : Blk w gk 9 [.string ⟨#[115]⟩]) : Calls Tryz.prog 262 #[.agg #[.string ⟨#[115]⟩, .int .i64 0, .int .i64 0, .int .i64 0, .int .i64 0, .int .i64 0, .int .i64 0, .int .i64 0, .int .i64 0, .int .i64 0, .int .i64 0, .int .i64 0, .int .i64 0, .int .i64 0, .int .i64 0], .pointer (some ⟨gk, 0, none⟩)] w (fun e w' => e = .returned (.bool true) ∧ w.grownBy w' none) := by
 refine gw_enter ⟨8, w, none, []⟩ Tryz.func262 rfl Tryz.ntmps262 rfl (mem0 (X := [BlkOld w.heap.size none gk 9 [.string ⟨#[115]⟩]]) (allF_cons hk.old allF_nil) (allL_cons BlkOld.lasts allL_nil)) ?_
 refine sr_ ?_
 refine wl_box rfl rfl rfl fun g1 => ?_
 refine sg_ rfl (nn_ (sr_ (fd_ fo168_0 rfl rfl (lk_ sc9 0 rfl rfl rfl ?_))))
 refine wl_ov (ov_load (v := .string ⟨#[115]⟩) sc9 rfl (fun _ hm => (hm.fact 0 rfl).2) rfl) rfl ?_
 refine wl_ov (ov_seql rfl rfl) rfl ?_
 refine wl_set 7 (v' := .bool true) rfl (congrArg Value.bool (by decide +kernel)) ?_
 refine sg_ rfl (nn_ ?_)
 refine gw_ret ?_
 refine nx_ret1 rfl rfl fun wx hm => ?_
 exact ⟨rfl, hm.g⟩
theorem ixL (gs : Nat) (gk : Nat) (w : World) (hbs : Blk w gs 168 [.string ⟨#[115]⟩, .int .i64 0, .int .i64 0, .int .i64 0, .int .i64 0, .int .i64 0, .int .i64 0, .int .i64 0, .int .i64 0, .int .i64 0, .int .i64 0, .int .i64 0, .int .i64 0, .int .i64 0, .int .i64 0]) (hk : Blk w gk 9 [.string ⟨#[115]⟩]) : Calls Tryz.prog 264 #[.slice (some ⟨gs, 0, none⟩) 1 1, .func (.func 262) #[] #[.pointer (some ⟨gk, 0, none⟩)]] w (fun e w' => e = .returned (.int .i64 0) ∧ w.grownBy w' none) := by
 refine gw_enter ⟨19, w, none, []⟩ Tryz.func264 rfl Tryz.ntmps264 rfl (mem0 (X := [BlkOld w.heap.size none gs 168 [.string ⟨#[115]⟩, .int .i64 0, .int .i64 0, .int .i64 0, .int .i64 0, .int .i64 0, .int .i64 0, .int .i64 0, .int .i64 0, .int .i64 0, .int .i64 0, .int .i64 0, .int .i64 0, .int .i64 0, .int .i64 0], BlkOld w.heap.size none gk 9 [.string ⟨#[115]⟩]]) (allF_cons hbs.old (allF_cons hk.old allF_nil)) (allL_cons BlkOld.lasts (allL_cons BlkOld.lasts allL_nil))) ?_
 refine sr_ (sg_ rfl (nn_ (gw_seq (sr_ (mv_ rfl (wl_ov (ov_len es61 rfl) rfl ?_))))))
 refine wl_set 7 (v' := .int .i64 1) rfl rfl ?_
 refine mv_ rfl (nn_ (gw_block ?_))
 refine gw_rounds 4 ?_
 refine gr_next ?_
 refine sr_ (wl_ov (ov_lss rfl rfl) rfl ?_)
 refine wl_set 9 (v' := .bool true) rfl (congrArg Value.bool (by decide)) ?_
 refine nn_ (gw_seq (ct_ rfl (gw_skip (nx_then (gw_seq (gw_block (sr_ (mv_ rfl (sg_ rfl (nn_ ?_))))))))))
 refine sr_ (mv_ rfl (mv_ rfl (mv_ rfl ?_)))
 refine wl_ov (ov_index (j := 0) es61 rfl rfl (by decide)) rfl ?_
 refine wl_ov (ov_loads (vs := [.string ⟨#[115]⟩, .int .i64 0, .int .i64 0, .int .i64 0, .int .i64 0, .int .i64 0, .int .i64 0, .int .i64 0, .int .i64 0, .int .i64 0, .int .i64 0, .int .i64 0, .int .i64 0, .int .i64 0, .int .i64 0]) rz168 rfl (fun _ hm => (hm.fact 0 rfl).2) rfl rfl) rfl ?_
 refine wl_callv rfl cb262 rfl rfl (fun wx hm => (hasL1 gk wx (hm.fact 1 rfl).2)) ?_
 refine nn_ (ct_ rfl (sr_ (mv_ rfl (sg_ rfl (nn_ ?_)))))
 refine gw_ret ?_
 refine nx_blk_ret (nx_then_ret (nx_then_ret (nx_blk_ret (nx_then_ret ?_))))
 refine nx_ret1 rfl rfl fun wx hm => ?_
 exact ⟨rfl, hm.g⟩
theorem cfL (gs : Nat) (gk : Nat) (w : World) (hbs : Blk w gs 168 [.string ⟨#[115]⟩, .int .i64 0, .int .i64 0, .int .i64 0, .int .i64 0, .int .i64 0, .int .i64 0, .int .i64 0, .int .i64 0, .int .i64 0, .int .i64 0, .int .i64 0, .int .i64 0, .int .i64 0, .int .i64 0]) (hk : Blk w gk 9 [.string ⟨#[115]⟩]) : Calls Tryz.prog 261 #[.slice (some ⟨gs, 0, none⟩) 1 1, .func (.func 262) #[] #[.pointer (some ⟨gk, 0, none⟩)]] w (fun e w' => e = .returned (.bool true) ∧ w.grownBy w' none) := by
 refine gw_enter ⟨9, w, none, []⟩ Tryz.func261 rfl Tryz.ntmps261 rfl (mem0 (X := [BlkOld w.heap.size none gs 168 [.string ⟨#[115]⟩, .int .i64 0, .int .i64 0, .int .i64 0, .int .i64 0, .int .i64 0, .int .i64 0, .int .i64 0, .int .i64 0, .int .i64 0, .int .i64 0, .int .i64 0, .int .i64 0, .int .i64 0, .int .i64 0], BlkOld w.heap.size none gk 9 [.string ⟨#[115]⟩]]) (allF_cons hbs.old (allF_cons hk.old allF_nil)) (allL_cons BlkOld.lasts (allL_cons BlkOld.lasts allL_nil))) ?_
 refine sr_ (sg_ rfl (nn_ (sr_ (mv_ rfl (mv_ rfl ?_)))))
 refine wl_callv rfl cb264 rfl rfl (fun wx hm => (ixL gs gk wx (hm.fact 0 rfl).2 (hm.fact 1 rfl).2)) ?_
 refine wl_ov (ov_geq rfl rfl) rfl ?_
 refine wl_set 8 (v' := .bool true) rfl (congrArg Value.bool (by decide)) ?_
 refine sg_ rfl (nn_ ?_)
 refine gw_ret ?_
 refine nx_ret1 rfl rfl fun wx hm => ?_
 exact ⟨rfl, hm.g⟩
theorem hasStL (gs : Nat) (gc : Nat) (gv : Nat) (w : World) (hbs : Blk w gs 168 [.string ⟨#[115]⟩, .int .i64 0, .int .i64 0, .int .i64 0, .int .i64 0, .int .i64 0, .int .i64 0, .int .i64 0, .int .i64 0, .int .i64 0, .int .i64 0, .int .i64 0, .int .i64 0, .int .i64 0, .int .i64 0]) (hbc : Blk w gc 170 [.string ⟨#[99]⟩, .string ⟨#[]⟩]) (hbv : Blk w gv 158 [.string ⟨#[118]⟩, .string ⟨#[99]⟩]) : Calls Tryz.prog 195 #[.agg #[.slice (some ⟨gs, 0, none⟩) 1 1, .slice (some ⟨gc, 0, none⟩) 1 1, .slice (some ⟨gv, 0, none⟩) 1 1, .slice none 0 0], .string ⟨#[115]⟩] w (fun e w' => e = .returned (.bool true) ∧ w.grownBy w' none) := by
 refine gw_enter ⟨9, w, none, []⟩ Tryz.func195 rfl Tryz.ntmps195 rfl (mem0 (X := [BlkOld w.heap.size none gs 168 [.string ⟨#[115]⟩, .int .i64 0, .int .i64 0, .int .i64 0, .int .i64 0, .int .i64 0, .int .i64 0, .int .i64 0, .int .i64 0, .int .i64 0, .int .i64 0, .int .i64 0, .int .i64 0, .int .i64 0, .int .i64 0], BlkOld w.heap.size none gc 170 [.string ⟨#[99]⟩, .string ⟨#[]⟩], BlkOld w.heap.size none gv 158 [.string ⟨#[118]⟩, .string ⟨#[99]⟩]]) (allF_cons hbs.old (allF_cons hbc.old (allF_cons hbv.old allF_nil))) (allL_cons BlkOld.lasts (allL_cons BlkOld.lasts (allL_cons BlkOld.lasts allL_nil)))) ?_
 refine sr_ ?_
 refine wl_box rfl rfl rfl fun g1 => ?_
 refine wl_box rfl rfl rfl fun g2 => ?_
 refine sg_ rfl (nn_ (sr_ (fd_ fo66_0 rfl rfl (lk_ sc61 1 rfl rfl rfl (wl_ov (ov_makeFunc rfl rfl) rfl ?_)))))
 refine wl_callv rfl cb261 rfl rfl (fun wx hm => (cfL gs _ wx (hm.fact 0 rfl).2 (hm.blkI 0 rfl))) ?_
 refine sg_ rfl (nn_ ?_)
 refine gw_ret ?_
 refine nx_ret1 rfl rfl fun wx hm => ?_
 exact ⟨rfl, hm.g⟩
theorem vL1 (w : World) : Calls Tryz.prog 260 #[.agg #[.string ⟨#[118]⟩, .string ⟨#[99]⟩], .string ⟨#[118]⟩] w (fun e w' => e = .returned (.int .i64 0) ∧ w.grownBy w' none) := by
 refine gw_enter ⟨9, w, none, []⟩ Tryz.func260 rfl Tryz.ntmps260 rfl (mem0 (X := []) allF_nil allL_nil) ?_
 refine sr_ ?_
 refine wl_box rfl rfl rfl fun g1 => ?_
 refine sg_ rfl (nn_ (sr_ (fd_ fo158_0 rfl rfl (lk_ sc9 0 rfl rfl rfl (mv_ rfl ?_)))))
 refine wl_callv (v := .int .i64 0) rfl cb85 rfl rfl (fun wx hm => (by have h := cmpL ⟨#[118]⟩ ⟨#[118]⟩ wx; rw [show cmpS ⟨#[118]⟩ ⟨#[118]⟩ = 0 by decide +kernel] at h; exact h)) ?_
 refine sg_ rfl (nn_ ?_)
 refine gw_ret ?_
 refine nx_ret1 rfl rfl fun wx hm => ?_
 exact ⟨rfl, hm.g⟩
theorem bsL (gv : Nat) (w : World) (hbv : Blk w gv 158 [.string ⟨#[118]⟩, .string ⟨#[99]⟩]) : Calls Tryz.prog 259 #[.slice (some ⟨gv, 0, none⟩) 1 1, .string ⟨#[118]⟩, .func (.func 260) #[] #[]] w (fun e w' => e = .returned (.tuple #[.int .i64 0, .bool true]) ∧ w.grownBy w' none) := by
 refine gw_enter ⟨49, w, none, []⟩ Tryz.func259 rfl Tryz.ntmps259 rfl (mem0 (X := [BlkOld w.heap.size none gv 158 [.string ⟨#[118]⟩, .string ⟨#[99]⟩]]) (allF_cons hbv.old allF_nil) (allL_cons BlkOld.lasts allL_nil)) ?_
 refine sr_ (sg_ rfl (sg_ rfl (nn_ (sr_ (mv_ rfl (wl_ov (ov_len es63 rfl) rfl ?_))))))
 refine wl_set 13 (v' := .int .i64 1) rfl rfl ?_
 refine sg_ rfl (nn_ (sr_ (mv_ rfl (sg_ rfl (sg_ rfl (nn_ (gw_seq (gw_block ?_))))))))
 refine gw_rounds 4 ?_
 refine gr_next ?_
 refine gw_seq (sr_ (mv_ rfl (mv_ rfl (wl_ov (ov_lss rfl rfl) rfl ?_))))
 refine wl_set 17 (v' := .bool true) rfl (congrArg Value.bool (by decide)) ?_
 refine nn_ (ct_ rfl (gw_skip (nx_then (gw_block (sr_ (mv_ rfl (mv_ rfl (ad_ rfl rfl ?_))))))))
 refine wl_set 20 (v' := .int .i64 1) rfl rfl ?_
 refine wl_ov (ov_u64 (a := 1) (by kernel_rfl) (by kernel_rfl) rfl (by omega)) rfl ?_
 refine wl_ov (ov_shru1 (a := 1) rfl rfl) rfl ?_
 refine wl_ov (ov_i64 (a := 1 / 2) (by kernel_rfl) (by kernel_rfl) rfl (by omega)) rfl ?_
 refine wl_set 23 (v' := .int .i64 0) rfl rfl ?_
 refine sg_ rfl (nn_ (sr_ (mv_ rfl (mv_ rfl (mv_ rfl ?_)))))
 refine wl_ov (ov_index (j := 0) es63 rfl rfl (by decide)) rfl ?_
 refine wl_ov (ov_loads (vs := [.string ⟨#[118]⟩, .string ⟨#[99]⟩]) rz158 rfl (fun _ hm => (hm.fact 0 rfl).2) rfl rfl) rfl ?_
 refine mv_ rfl ?_
 refine wl_callv rfl cb260 rfl rfl (fun wx hm => (vL1 wx)) ?_
 refine wl_ov (ov_lss rfl rfl) rfl ?_
 refine wl_set 31 (v' := .bool false) rfl (congrArg Value.bool (by decide)) ?_
 refine nn_ (cf_ rfl (gw_region (mv_ rfl (sg_ rfl (wl_nil (nx_blk_nrm ?_))))))
 refine nx_next ?_
 refine gr_next ?_
 refine gw_seq (sr_ (mv_ rfl (mv_ rfl (wl_ov (ov_lss rfl rfl) rfl ?_))))
 refine wl_set 17 (v' := .bool false) rfl (congrArg Value.bool (by decide)) ?_
 refine nn_ (cf_ rfl ?_)
 refine gw_exit ?_
 refine nx_then_exit (nx_then_exit ?_)
 refine nx_blk_here ?_
 refine nx_then (sr_ (mv_ rfl (mv_ rfl (mv_ rfl (wl_ov (ov_lss rfl rfl) rfl ?_)))))
 refine wl_set 38 (v' := .bool true) rfl (congrArg Value.bool (by decide)) ?_
 refine mv_ rfl (wl_guard_on rfl rfl rfl (mv_ rfl (wl_guard_on rfl rfl rfl (mv_ rfl (wl_guard_on rfl rfl rfl (mv_ rfl (wl_guard_on rfl rfl rfl ?_)))))))
 refine wl_ov (ov_index (j := 0) es63 rfl rfl (by decide)) rfl ?_
 refine wl_guard_on rfl rfl rfl ?_
 refine wl_ov (ov_loads (vs := [.string ⟨#[118]⟩, .string ⟨#[99]⟩]) rz158 rfl (fun _ hm => (hm.fact 0 rfl).2) rfl rfl) rfl ?_
 refine wl_guard_on rfl rfl rfl (mv_ rfl (wl_guard_on rfl rfl rfl ?_))
 refine wl_callv rfl cb260 rfl rfl (fun wx hm => (vL1 wx)) ?_
 refine wl_guard_on rfl rfl rfl (wl_ov (ov_eql rfl rfl) rfl ?_)
 refine wl_set 47 (v' := .bool true) rfl (congrArg Value.bool (by decide)) ?_
 refine pt_ rfl rfl (sg_ rfl (sg_ rfl (nn_ ?_)))
 refine gw_ret ?_
 refine nx_ret2 rfl rfl rfl fun wx hm => ?_
 exact ⟨rfl, hm.g⟩
theorem vehL (gs : Nat) (gc : Nat) (gv : Nat) (w : World) (hbs : Blk w gs 168 [.string ⟨#[115]⟩, .int .i64 0, .int .i64 0, .int .i64 0, .int .i64 0, .int .i64 0, .int .i64 0, .int .i64 0, .int .i64 0, .int .i64 0, .int .i64 0, .int .i64 0, .int .i64 0, .int .i64 0, .int .i64 0]) (hbc : Blk w gc 170 [.string ⟨#[99]⟩, .string ⟨#[]⟩]) (hbv : Blk w gv 158 [.string ⟨#[118]⟩, .string ⟨#[99]⟩]) : Calls Tryz.prog 194 #[.agg #[.slice (some ⟨gs, 0, none⟩) 1 1, .slice (some ⟨gc, 0, none⟩) 1 1, .slice (some ⟨gv, 0, none⟩) 1 1, .slice none 0 0], .string ⟨#[118]⟩] w (fun e w' => e = .returned (.int .i64 0) ∧ w.grownBy w' none) := by
 refine gw_enter ⟨17, w, none, []⟩ Tryz.func194 rfl Tryz.ntmps194 rfl (mem0 (X := [BlkOld w.heap.size none gs 168 [.string ⟨#[115]⟩, .int .i64 0, .int .i64 0, .int .i64 0, .int .i64 0, .int .i64 0, .int .i64 0, .int .i64 0, .int .i64 0, .int .i64 0, .int .i64 0, .int .i64 0, .int .i64 0, .int .i64 0, .int .i64 0], BlkOld w.heap.size none gc 170 [.string ⟨#[99]⟩, .string ⟨#[]⟩], BlkOld w.heap.size none gv 158 [.string ⟨#[118]⟩, .string ⟨#[99]⟩]]) (allF_cons hbs.old (allF_cons hbc.old (allF_cons hbv.old allF_nil))) (allL_cons BlkOld.lasts (allL_cons BlkOld.lasts (allL_cons BlkOld.lasts allL_nil)))) ?_
 refine sr_ ?_
 refine wl_box rfl rfl rfl fun g1 => ?_
 refine sg_ rfl (nn_ (sr_ (fd_ fo66_2 rfl rfl (lk_ sc63 0 rfl rfl rfl (mv_ rfl ?_)))))
 refine wl_callv rfl cb259 rfl rfl (fun wx hm => (bsL gv wx (hm.fact 2 rfl).2)) ?_
 refine mv_ rfl (wl_ov (ov_extract rfl rfl) rfl (wl_ov (ov_extract rfl rfl) rfl (sg_ rfl (sg_ rfl (nn_ (gw_seq (sr_ (mv_ rfl (wl_ov (ov_un_not rfl) rfl ?_)))))))))
 refine wl_set 15 (v' := .bool false) rfl (congrArg Value.bool (by decide)) ?_
 refine nn_ (cf_ rfl (gw_skip (nx_then (sr_ (mv_ rfl (sg_ rfl (nn_ ?_)))))))
 refine gw_ret ?_
 refine nx_ret1 rfl rfl fun wx hm => ?_
 exact ⟨rfl, hm.g⟩
theorem oneS_ok : ∀ x ∈ [(⟨⟨#[115]⟩, [0, 0, 0, 0, 0, 0, 0, 0, 0, 0, 0, 0, 0, 0]⟩ : St)], StOk x := fun x hx => by
  rw [List.mem_singleton.1 hx]; exact ⟨rfl, by decide, by decide⟩
theorem oneC_ok : ∀ x ∈ [(⟨⟨#[99]⟩, ⟨#[]⟩⟩ : Cs)], CsOk x := fun x hx => by
  rw [List.mem_singleton.1 hx]; exact ⟨by decide, by decide⟩
theorem oneS_zero : stationsE [(⟨⟨#[115]⟩, [0, 0, 0, 0, 0, 0, 0, 0, 0, 0, 0, 0, 0, 0]⟩ : St)] = 0 := by decide +kernel
theorem oneC_zero : classesE [(⟨⟨#[99]⟩, ⟨#[]⟩⟩ : Cs)] = 0 := by decide +kernel
theorem oneC_ix : ixP (csP ⟨#[99]⟩) [(⟨⟨#[99]⟩, ⟨#[]⟩⟩ : Cs)] 0 = 0 := by decide +kernel
theorem slS {w : World} {g : Nat} (h : Blk w g 168 [.string ⟨#[115]⟩, .int .i64 0, .int .i64 0, .int .i64 0, .int .i64 0, .int .i64 0, .int .i64 0, .int .i64 0, .int .i64 0, .int .i64 0, .int .i64 0, .int .i64 0, .int .i64 0, .int .i64 0, .int .i64 0]) : SlT stEnc 15 168 w (some ⟨g, 0, none⟩) 1 [(⟨⟨#[115]⟩, [0, 0, 0, 0, 0, 0, 0, 0, 0, 0, 0, 0, 0, 0]⟩ : St)] := ⟨rfl, fun _ => ⟨g, 0, _, _, rfl, h, fun i x hx j v hv => by
  match i, hx with
  | 0, hx =>
    simp only [List.getElem?_cons_zero, Option.some.injEq] at hx
    subst hx
    rw [show 0 + 0 * 15 + j = j by omega, List.getElem?_toArray]; exact hv
  | i + 1, hx => simp at hx⟩⟩
theorem platesL (gs : Nat) (gc : Nat) (gv : Nat) (w : World) (hbs : Blk w gs 168 [.string ⟨#[115]⟩, .int .i64 0, .int .i64 0, .int .i64 0, .int .i64 0, .int .i64 0, .int .i64 0, .int .i64 0, .int .i64 0, .int .i64 0, .int .i64 0, .int .i64 0, .int .i64 0, .int .i64 0, .int .i64 0]) (hbc : Blk w gc 170 [.string ⟨#[99]⟩, .string ⟨#[]⟩]) (hbv : Blk w gv 158 [.string ⟨#[118]⟩, .string ⟨#[99]⟩]) : Calls Tryz.prog 190 #[.agg #[.slice (some ⟨gs, 0, none⟩) 1 1, .slice (some ⟨gc, 0, none⟩) 1 1, .slice (some ⟨gv, 0, none⟩) 1 1, .slice none 0 0]] w (fun e w' => e = .returned (.int .i64 0) ∧ w.grownBy w' none) := by
 refine gw_enter ⟨97, w, none, []⟩ Tryz.func190 rfl Tryz.ntmps190 rfl (mem0 (X := [BlkOld w.heap.size none gs 168 [.string ⟨#[115]⟩, .int .i64 0, .int .i64 0, .int .i64 0, .int .i64 0, .int .i64 0, .int .i64 0, .int .i64 0, .int .i64 0, .int .i64 0, .int .i64 0, .int .i64 0, .int .i64 0, .int .i64 0, .int .i64 0], BlkOld w.heap.size none gc 170 [.string ⟨#[99]⟩, .string ⟨#[]⟩], BlkOld w.heap.size none gv 158 [.string ⟨#[118]⟩, .string ⟨#[99]⟩]]) (allF_cons hbs.old (allF_cons hbc.old (allF_cons hbv.old allF_nil))) (allL_cons BlkOld.lasts (allL_cons BlkOld.lasts (allL_cons BlkOld.lasts allL_nil)))) ?_
 refine sr_ ?_
 refine wl_box rfl rfl rfl fun g1 => ?_
 refine sg_ rfl (nn_ (gw_seq (sr_ (fd_ fo66_3 rfl rfl (lk_ sc64 0 rfl rfl rfl (wl_ov (ov_len es64 rfl) rfl ?_))))))
 refine wl_set 10 (v' := .int .i64 0) rfl rfl ?_
 refine wl_ov (ov_gtr rfl rfl) rfl ?_
 refine wl_set 11 (v' := .bool false) rfl (congrArg Value.bool (by decide)) ?_
 refine nn_ (cf_ rfl (gw_skip (nx_then (gw_seq (sr_ (fd_ fo66_3 rfl rfl (lk_ sc64 0 rfl rfl rfl (wl_ov (ov_len es64 rfl) rfl ?_))))))))
 refine wl_set 14 (v' := .int .i64 0) rfl rfl ?_
 refine mv_ rfl (nn_ (gw_block ?_))
 refine gw_rounds 4 ?_
 refine gr_next ?_
 refine sr_ (wl_ov (ov_lss rfl rfl) rfl ?_)
 refine wl_set 16 (v' := .bool false) rfl (congrArg Value.bool (by decide)) ?_
 refine nn_ (gw_seq (cf_ rfl ?_))
 refine gw_exit ?_
 refine nx_then_exit (nx_then_exit ?_)
 refine nx_blk_here ?_
 refine nx_then (sr_ (sg_ rfl (nn_ ?_)))
 refine gw_ret ?_
 refine nx_ret1 rfl rfl fun wx hm => ?_
 exact ⟨rfl, hm.g⟩
theorem fleetL (gs : Nat) (gc : Nat) (gv : Nat) (w : World) (hbs : Blk w gs 168 [.string ⟨#[115]⟩, .int .i64 0, .int .i64 0, .int .i64 0, .int .i64 0, .int .i64 0, .int .i64 0, .int .i64 0, .int .i64 0, .int .i64 0, .int .i64 0, .int .i64 0, .int .i64 0, .int .i64 0, .int .i64 0]) (hbc : Blk w gc 170 [.string ⟨#[99]⟩, .string ⟨#[]⟩]) (hbv : Blk w gv 158 [.string ⟨#[118]⟩, .string ⟨#[99]⟩]) : Calls Tryz.prog 105 #[.agg #[.slice (some ⟨gs, 0, none⟩) 1 1, .slice (some ⟨gc, 0, none⟩) 1 1, .slice (some ⟨gv, 0, none⟩) 1 1, .slice none 0 0]] w (fun e w' => e = .returned (.int .i64 0) ∧ w.grownBy w' none) := by
 refine gw_enter ⟨60, w, none, []⟩ Tryz.func105 rfl Tryz.ntmps105 rfl (mem0 (X := [BlkOld w.heap.size none gs 168 [.string ⟨#[115]⟩, .int .i64 0, .int .i64 0, .int .i64 0, .int .i64 0, .int .i64 0, .int .i64 0, .int .i64 0, .int .i64 0, .int .i64 0, .int .i64 0, .int .i64 0, .int .i64 0, .int .i64 0, .int .i64 0], BlkOld w.heap.size none gc 170 [.string ⟨#[99]⟩, .string ⟨#[]⟩], BlkOld w.heap.size none gv 158 [.string ⟨#[118]⟩, .string ⟨#[99]⟩]]) (allF_cons hbs.old (allF_cons hbc.old (allF_cons hbv.old allF_nil))) (allL_cons BlkOld.lasts (allL_cons BlkOld.lasts (allL_cons BlkOld.lasts allL_nil)))) ?_
 refine sr_ ?_
 refine wl_box rfl rfl rfl fun g1 => ?_
 refine sg_ rfl (nn_ (gw_seq (gw_seq ?_)))
 refine gd (fun wz => Blk wz g1 66 [.slice (some ⟨gs, 0, none⟩) 1 1, .slice (some ⟨gc, 0, none⟩) 1 1, .slice (some ⟨gv, 0, none⟩) 1 1, .slice none 0 0] ∧ (BlkOld w.heap.size none gs 168 [.string ⟨#[115]⟩, .int .i64 0, .int .i64 0, .int .i64 0, .int .i64 0, .int .i64 0, .int .i64 0, .int .i64 0, .int .i64 0, .int .i64 0, .int .i64 0, .int .i64 0, .int .i64 0, .int .i64 0, .int .i64 0]) wz ∧ (BlkOld w.heap.size none gc 170 [.string ⟨#[99]⟩, .string ⟨#[]⟩]) wz ∧ (BlkOld w.heap.size none gv 158 [.string ⟨#[118]⟩, .string ⟨#[99]⟩]) wz ∧ True) mixed (fun _ hm => ⟨hm.bl 0, hm.fa 0, hm.fa 1, hm.fa 2, trivial⟩) fun z => ?_
 refine wt 0 14 1 rfl z (ov_field fo66_0 rfl rfl) ?_
 refine wt 1 14 3 rfl z (ov_load sc61 rfl (fun _ hm => hm.1) rfl) ?_
 refine wt 3 14 11 rfl z (ov_field fo66_1 rfl rfl) ?_
 refine wt 4 14 27 rfl z (ov_load sc62 rfl (fun _ hm => hm.1) rfl) ?_
 refine wt 6 14 91 rfl z (ov_field fo66_2 rfl rfl) ?_
 refine wt 7 14 219 rfl z (ov_load sc63 rfl (fun _ hm => hm.1) rfl) ?_
 refine wt 8 14 475 rfl z (ov_len es63 rfl) ?_
 refine wa_set 14 (v' := .int .i64 1) rfl rfl ?_
 refine wt 9 14 987 rfl z (ov_gtr rfl rfl) ?_
 refine wa_set 15 (v' := .bool false) rfl (congrArg Value.bool (by decide)) ?_
 refine wa1 2 rfl ?_
 refine wl_callv (v := .int .i64 0) rfl cb187 rfl rfl (fun wx hm => (by have h := checkStations_any [(⟨⟨#[115]⟩, [0, 0, 0, 0, 0, 0, 0, 0, 0, 0, 0, 0, 0, 0]⟩ : St)] _ 1 1 wx (slS (hm.fact 0 rfl).2) oneS_ok (by omega); rw [oneS_zero] at h; exact h)) ?_
 refine wl_nil ?_
 refine nw 14 991 (fun _ hm => ⟨hm.bl 0, hm.fa 0, hm.fa 1, hm.fa 2, trivial⟩) fun z => ?_
 refine wa1 5 rfl ?_
 refine wl_callv (v := .int .i64 0) rfl cb188 rfl rfl (fun wx hm => (by have h := checkClasses_any [(⟨⟨#[99]⟩, ⟨#[]⟩⟩ : Cs)] _ 1 1 wx (SlT.ofBlk (l := [(⟨⟨#[99]⟩, ⟨#[]⟩⟩ : Cs)]) cs_len (hm.fact 1 rfl).2) oneC_ok (by omega); rw [oneC_zero] at h; exact h)) ?_
 refine wl_nil ?_
 refine nw 14 1023 (fun _ hm => ⟨hm.bl 0, hm.fa 0, hm.fa 1, hm.fa 2, trivial⟩) fun z => ?_
 refine wa1 10 rfl ?_
 refine wl_callw (v := .int .i64 0) rfl cb106 rfl rfl (fun wx hm => (by have h := when_any false 2 wx; rw [show whenE false 2 = 0 by decide +kernel] at h; exact h)) ?_
 refine wl_nil ?_
 refine nw 14 2047 (fun _ hm => ⟨hm.bl 0, hm.fa 0, hm.fa 1, hm.fa 2, trivial⟩) fun z => ?_
 refine wa1 11 rfl ?_
 refine wl_buildSlice (e := 28) (cs := [.int .i64 0, .int .i64 0, .int .i64 0]) rfl (by kernel_rfl) rfl fun g2 => ?_
 refine wl_nil ?_
 refine nw 14 4095 (fun _ hm => ⟨hm.bl 1, hm.fa 0, hm.fa 1, hm.fa 2, trivial⟩) fun z => ?_
 refine wa1 12 rfl ?_
 refine wl_callw (v := .int .i64 0) rfl cb104 rfl rfl (fun wx hm => (by have h := first_any [0, 0, 0] g2 3 _ wx (hm.blkI 0 rfl) (by simp); rw [show firstE [0, 0, 0] = 0 by decide] at h; exact h)) ?_
 refine wl_nil ?_
 refine nw 14 8191 (fun _ hm => ⟨hm.bl 1, hm.fa 0, hm.fa 1, hm.fa 2, trivial⟩) fun z => ?_
 refine wt 13 14 16383 rfl z (ov_assign rfl) ?_
 refine wa_done (by kernel_rfl) ?_
 refine nx_then (sr_ (mv_ rfl (wl_ov (ov_neq rfl rfl) rfl ?_)))
 refine wl_set 20 (v' := .bool false) rfl (congrArg Value.bool (by decide)) ?_
 refine nn_ (cf_ rfl (gw_skip (nx_then (gw_seq (sr_ (fd_ fo66_2 rfl rfl (lk_ sc63 1 rfl rfl rfl (wl_ov (ov_len es63 rfl) rfl ?_))))))))
 refine wl_set 24 (v' := .int .i64 1) rfl rfl ?_
 refine mv_ rfl (nn_ (gw_block ?_))
 refine gw_rounds 4 ?_
 refine gr_next ?_
 refine sr_ (wl_ov (ov_lss rfl rfl) rfl ?_)
 refine wl_set 26 (v' := .bool true) rfl (congrArg Value.bool (by decide)) ?_
 refine nn_ (gw_seq (ct_ rfl (gw_skip (nx_then (gw_seq (gw_block (sr_ (mv_ rfl ?_))))))))
 refine wl_ov (ov_index (j := 0) es63 rfl rfl (by decide)) rfl ?_
 refine wl_ov (ov_loads (vs := [.string ⟨#[118]⟩, .string ⟨#[99]⟩]) rz158 rfl (fun _ hm => (hm.fact 2 rfl).2) rfl rfl) rfl ?_
 refine wl_alloc zc158 rfl fun g3 => ?_
 refine sg_ rfl ?_
 refine wl_stores (cs' := [.string ⟨#[118]⟩, .string ⟨#[99]⟩]) 0 rz158 rfl rfl rfl rfl rfl rfl rfl rfl ?_
 refine nn_ (gw_block (sr_ (fd_ fo158_0 rfl rfl (lk_ sc9 0 rfl rfl rfl ?_))))
 refine wl_callw (v := .bool true) rfl cb160 rfl rfl (fun wx hm => (by have h := isKey_any ⟨#[118]⟩ wx (by decide); rw [show keyB ⟨#[118]⟩ = true by decide +kernel] at h; exact h)) ?_
 refine wl_ov (ov_un_not rfl) rfl ?_
 refine wl_set 34 (v' := .bool false) rfl (congrArg Value.bool (by decide)) ?_
 refine sg_ rfl (nn_ (cf_ rfl (gw_seq ?_)))
 refine gd (fun wz => Blk wz g3 158 [.string ⟨#[118]⟩, .string ⟨#[99]⟩] ∧ Blk wz g2 28 [.int .i64 0, .int .i64 0, .int .i64 0] ∧ Blk wz g1 66 [.slice (some ⟨gs, 0, none⟩) 1 1, .slice (some ⟨gc, 0, none⟩) 1 1, .slice (some ⟨gv, 0, none⟩) 1 1, .slice none 0 0] ∧ (BlkOld w.heap.size none gs 168 [.string ⟨#[115]⟩, .int .i64 0, .int .i64 0, .int .i64 0, .int .i64 0, .int .i64 0, .int .i64 0, .int .i64 0, .int .i64 0, .int .i64 0, .int .i64 0, .int .i64 0, .int .i64 0, .int .i64 0, .int .i64 0]) wz ∧ (BlkOld w.heap.size none gc 170 [.string ⟨#[99]⟩, .string ⟨#[]⟩]) wz ∧ (BlkOld w.heap.size none gv 158 [.string ⟨#[118]⟩, .string ⟨#[99]⟩]) wz ∧ True) mixed (fun _ hm => ⟨hm.bl 0, hm.bl 1, hm.bl 2, hm.fa 0, hm.fa 1, hm.fa 2, trivial⟩) fun z => ?_
 refine wt 0 15 1 rfl z (ov_move rfl) ?_
 refine wt 1 15 3 rfl z (ov_gtr rfl rfl) ?_
 refine wa_set 37 (v' := .bool false) rfl (congrArg Value.bool (by decide)) ?_
 refine wt 2 15 7 rfl z (ov_move rfl) ?_
 refine wtf 3 15 15 rfl rfl rfl z ?_
 refine wtf 4 15 31 rfl rfl rfl z ?_
 refine wtf 5 15 63 rfl rfl rfl z ?_
 refine wtf 6 15 127 rfl rfl rfl z ?_
 refine wtf 7 15 255 rfl rfl rfl z ?_
 refine wtf 8 15 511 rfl rfl rfl z ?_
 refine wtf 9 15 1023 rfl rfl rfl z ?_
 refine wtf 10 15 2047 rfl rfl rfl z ?_
 refine wtf 11 15 4095 rfl rfl rfl z ?_
 refine wtf 12 15 8191 rfl rfl rfl z ?_
 refine wt 13 15 16383 rfl z (ov_pick_f rfl rfl) ?_
 refine wt 14 15 32767 rfl z (ov_assign rfl) ?_
 refine wa_done (by kernel_rfl) ?_
 refine nx_then (cf_ rfl (sr_ (fd_ fo66_1 rfl rfl (lk_ sc62 2 rfl rfl rfl (fd_ fo158_1 rfl rfl (lk_ sc9 0 rfl rfl rfl ?_))))))
 refine wl_callv (v := .int .i64 0) rfl cb189 rfl rfl (fun wx hm => (by have h := classAt_any [(⟨⟨#[99]⟩, ⟨#[]⟩⟩ : Cs)] _ 1 1 ⟨#[99]⟩ wx (SlT.ofBlk (l := [(⟨⟨#[99]⟩, ⟨#[]⟩⟩ : Cs)]) cs_len (hm.fact 1 rfl).2) (by omega); rw [oneC_ix] at h; exact h)) ?_
 refine wl_ov (ov_lss rfl rfl) rfl ?_
 refine wl_set 56 (v' := .bool false) rfl (congrArg Value.bool (by decide)) ?_
 refine sg_ rfl (nn_ (cf_ rfl (gw_skip (nx_blk_nrm (nx_blk_nrm (nx_then (gw_region (ad_ rfl rfl ?_))))))))
 refine wl_set 57 (v' := .int .i64 1) rfl rfl ?_
 refine mv_ rfl (wl_nil ?_)
 refine nx_next ?_
 refine gr_next ?_
 refine sr_ (wl_ov (ov_lss rfl rfl) rfl ?_)
 refine wl_set 26 (v' := .bool false) rfl (congrArg Value.bool (by decide)) ?_
 refine nn_ (gw_seq (cf_ rfl ?_))
 refine gw_exit ?_
 refine nx_then_exit (nx_then_exit ?_)
 refine nx_blk_here ?_
 refine nx_then (sr_ ?_)
 refine wl_ov (ov_loads rz66 rfl (fun _ hm => hm.blkI 2 rfl) rfl rfl) rfl ?_
 refine wl_callv rfl cb190 rfl rfl (fun wx hm => (platesL gs gc gv wx (hm.fact 0 rfl).2 (hm.fact 1 rfl).2 (hm.fact 2 rfl).2)) ?_
 refine sg_ rfl (nn_ ?_)
 refine gw_ret ?_
 refine nx_ret1 rfl rfl fun wx hm => ?_
 exact ⟨rfl, hm.g⟩
theorem momL (w : World) : Calls Tryz.prog 193 #[.int .i64 5] w (fun e w' => e = .returned (.bool true) ∧ w.grownBy w' none) := by
 refine gw_enter ⟨5, w, none, []⟩ Tryz.func193 rfl Tryz.ntmps193 rfl (mem0 (X := []) allF_nil allL_nil) ?_
 refine sr_ (sg_ rfl (nn_ (sr_ (mv_ rfl ?_))))
 refine wl_callw (v := .bool true) rfl cb154 rfl rfl (fun wx hm => (by have h := in_any 5 0 5761439 wx; rw [show inB 5 0 5761439 = true by decide +kernel] at h; exact h)) ?_
 refine sg_ rfl (nn_ ?_)
 refine gw_ret ?_
 refine nx_ret1 rfl rfl fun wx hm => ?_
 exact ⟨rfl, hm.g⟩
theorem logL (gs : Nat) (gc : Nat) (gv : Nat) (ge : Nat) (w : World) (hbs : Blk w gs 168 [.string ⟨#[115]⟩, .int .i64 0, .int .i64 0, .int .i64 0, .int .i64 0, .int .i64 0, .int .i64 0, .int .i64 0, .int .i64 0, .int .i64 0, .int .i64 0, .int .i64 0, .int .i64 0, .int .i64 0, .int .i64 0]) (hbc : Blk w gc 170 [.string ⟨#[99]⟩, .string ⟨#[]⟩]) (hbv : Blk w gv 158 [.string ⟨#[118]⟩, .string ⟨#[99]⟩]) (hbe : Blk w ge 54 [.int .i64 5, .string ⟨#[118]⟩, .string ⟨#[115]⟩, .int .i64 1, .string ⟨#[]⟩]) : Calls Tryz.prog 110 #[.agg #[.slice (some ⟨gs, 0, none⟩) 1 1, .slice (some ⟨gc, 0, none⟩) 1 1, .slice (some ⟨gv, 0, none⟩) 1 1, .slice none 0 0], .slice (some ⟨ge, 0, none⟩) 1 1] w (fun e w' => e = .returned (.int .i64 0) ∧ w.grownBy w' none) := by
 refine gw_enter ⟨81, w, none, []⟩ Tryz.func110 rfl Tryz.ntmps110 rfl (mem0 (X := [BlkOld w.heap.size none gs 168 [.string ⟨#[115]⟩, .int .i64 0, .int .i64 0, .int .i64 0, .int .i64 0, .int .i64 0, .int .i64 0, .int .i64 0, .int .i64 0, .int .i64 0, .int .i64 0, .int .i64 0, .int .i64 0, .int .i64 0, .int .i64 0], BlkOld w.heap.size none gc 170 [.string ⟨#[99]⟩, .string ⟨#[]⟩], BlkOld w.heap.size none gv 158 [.string ⟨#[118]⟩, .string ⟨#[99]⟩], BlkOld w.heap.size none ge 54 [.int .i64 5, .string ⟨#[118]⟩, .string ⟨#[115]⟩, .int .i64 1, .string ⟨#[]⟩]]) (allF_cons hbs.old (allF_cons hbc.old (allF_cons hbv.old (allF_cons hbe.old allF_nil)))) (allL_cons BlkOld.lasts (allL_cons BlkOld.lasts (allL_cons BlkOld.lasts (allL_cons BlkOld.lasts allL_nil))))) ?_
 refine sr_ ?_
 refine wl_box rfl rfl rfl fun g1 => ?_
 refine sg_ rfl (nn_ (gw_seq (sr_ (mv_ rfl (wl_ov (ov_len es47 rfl) rfl ?_)))))
 refine wl_set 9 (v' := .int .i64 1) rfl rfl ?_
 refine wl_ov (ov_gtr rfl rfl) rfl ?_
 refine wl_set 10 (v' := .bool false) rfl (congrArg Value.bool (by decide)) ?_
 refine nn_ (cf_ rfl (gw_skip (nx_then (gw_seq (sr_ (mv_ rfl (wl_ov (ov_len es47 rfl) rfl ?_)))))))
 refine wl_set 12 (v' := .int .i64 1) rfl rfl ?_
 refine mv_ rfl (nn_ (gw_block ?_))
 refine gw_rounds 4 ?_
 refine gr_next ?_
 refine sr_ (wl_ov (ov_lss rfl rfl) rfl ?_)
 refine wl_set 14 (v' := .bool true) rfl (congrArg Value.bool (by decide)) ?_
 refine nn_ (gw_seq (ct_ rfl (gw_skip (nx_then (gw_seq (gw_block (sr_ (mv_ rfl ?_))))))))
 refine wl_ov (ov_index (j := 0) es47 rfl rfl (by decide)) rfl ?_
 refine wl_ov (ov_loads (vs := [.int .i64 5, .string ⟨#[118]⟩, .string ⟨#[115]⟩, .int .i64 1, .string ⟨#[]⟩]) rz54 rfl (fun _ hm => (hm.fact 3 rfl).2) rfl rfl) rfl ?_
 refine wl_alloc zc54 rfl fun g2 => ?_
 refine sg_ rfl ?_
 refine wl_stores (cs' := [.int .i64 5, .string ⟨#[118]⟩, .string ⟨#[115]⟩, .int .i64 1, .string ⟨#[]⟩]) 0 rz54 rfl rfl rfl rfl rfl rfl rfl rfl ?_
 refine nn_ (sr_ (fd_ fo54_3 rfl rfl (lk_ sc3 0 rfl rfl rfl (wl_ov (ov_eql rfl rfl) rfl ?_))))
 refine wl_set 20 (v' := .bool false) rfl (congrArg Value.bool (by decide)) ?_
 refine sg_ rfl (nn_ (gw_block (sr_ (fd_ fo54_0 rfl rfl (lk_ sc3 0 rfl rfl rfl ?_)))))
 refine wl_callv rfl cb193 rfl rfl (fun wx hm => (momL wx)) ?_
 refine wl_ov (ov_un_not rfl) rfl ?_
 refine wl_set 25 (v' := .bool false) rfl (congrArg Value.bool (by decide)) ?_
 refine sg_ rfl (nn_ (cf_ rfl (sr_ ?_)))
 refine wl_ov (ov_loads rz66 rfl (fun _ hm => hm.blkI 1 rfl) rfl rfl) rfl ?_
 refine fd_ fo54_1 rfl rfl (lk_ sc9 0 rfl rfl rfl ?_)
 refine wl_callv rfl cb194 rfl rfl (fun wx hm => (vehL gs gc gv wx (hm.fact 0 rfl).2 (hm.fact 1 rfl).2 (hm.fact 2 rfl).2)) ?_
 refine wl_ov (ov_lss rfl rfl) rfl ?_
 refine wl_set 31 (v' := .bool false) rfl (congrArg Value.bool (by decide)) ?_
 refine mv_ rfl (wl_guard_on rfl rfl rfl ?_)
 refine wl_ov (ov_loads rz66 rfl (fun _ hm => hm.blkI 1 rfl) rfl rfl) rfl ?_
 refine wl_guard_on rfl rfl rfl (fd_ fo54_2 rfl rfl (wl_guard_on rfl rfl rfl (lk_ sc9 0 rfl rfl rfl (wl_guard_on rfl rfl rfl ?_))))
 refine wl_callv rfl cb195 rfl rfl (fun wx hm => (hasStL gs gc gv wx (hm.fact 0 rfl).2 (hm.fact 1 rfl).2 (hm.fact 2 rfl).2)) ?_
 refine wl_guard_on rfl rfl rfl (wl_ov (ov_un_not rfl) rfl ?_)
 refine wl_set 37 (v' := .bool false) rfl (congrArg Value.bool (by decide)) ?_
 refine pf_ rfl rfl (sg_ rfl (nn_ (cf_ rfl (sr_ (fd_ fo54_3 rfl rfl (lk_ sc3 0 rfl rfl rfl ?_))))))
 refine wl_callw (v := .bool true) rfl cb154 rfl rfl (fun wx hm => (by have h := in_any 1 1 8 wx; rw [show inB 1 1 8 = true by decide +kernel] at h; exact h)) ?_
 refine wl_ov (ov_un_not rfl) rfl ?_
 refine wl_set 43 (v' := .bool false) rfl (congrArg Value.bool (by decide)) ?_
 refine sg_ rfl (nn_ (cf_ rfl (sr_ (fd_ fo54_4 rfl rfl (lk_ sc9 0 rfl rfl rfl (wl_ov (ov_sneq rfl rfl) rfl ?_))))))
 refine wl_set 47 (v' := .bool false) rfl (congrArg Value.bool (by decide +kernel)) ?_
 refine mv_ rfl (goff rfl rfl rfl (goff rfl rfl rfl (pf_ rfl rfl (sg_ rfl (nn_ (cf_ rfl (sr_ (mv_ rfl (mv_ rfl (goff rfl rfl rfl (goff rfl rfl rfl ?_)))))))))))
 refine goff rfl rfl rfl (goff rfl rfl rfl (goff rfl rfl rfl (pf_ rfl rfl (sg_ rfl (nn_ (cf_ rfl (sr_ (fd_ fo54_4 rfl rfl (lk_ sc9 0 rfl rfl rfl (fd_ fo54_2 rfl rfl (lk_ sc9 0 rfl rfl rfl ?_)))))))))))
 refine wl_ov (ov_seql rfl rfl) rfl ?_
 refine wl_set 66 (v' := .bool false) rfl (congrArg Value.bool (by decide +kernel)) ?_
 refine sg_ rfl (nn_ (cf_ rfl (gw_seq ?_)))
 refine gd (fun wz => Blk wz g2 54 [.int .i64 5, .string ⟨#[118]⟩, .string ⟨#[115]⟩, .int .i64 1, .string ⟨#[]⟩] ∧ Blk wz g1 66 [.slice (some ⟨gs, 0, none⟩) 1 1, .slice (some ⟨gc, 0, none⟩) 1 1, .slice (some ⟨gv, 0, none⟩) 1 1, .slice none 0 0] ∧ (BlkOld w.heap.size none gs 168 [.string ⟨#[115]⟩, .int .i64 0, .int .i64 0, .int .i64 0, .int .i64 0, .int .i64 0, .int .i64 0, .int .i64 0, .int .i64 0, .int .i64 0, .int .i64 0, .int .i64 0, .int .i64 0, .int .i64 0, .int .i64 0]) wz ∧ (BlkOld w.heap.size none gc 170 [.string ⟨#[99]⟩, .string ⟨#[]⟩]) wz ∧ (BlkOld w.heap.size none gv 158 [.string ⟨#[118]⟩, .string ⟨#[99]⟩]) wz ∧ (BlkOld w.heap.size none ge 54 [.int .i64 5, .string ⟨#[118]⟩, .string ⟨#[115]⟩, .int .i64 1, .string ⟨#[]⟩]) wz ∧ True) mixed (fun _ hm => ⟨hm.bl 0, hm.bl 1, hm.fa 0, hm.fa 1, hm.fa 2, hm.fa 3, trivial⟩) fun z => ?_
 refine wt 0 13 1 rfl z (ov_move rfl) ?_
 refine wt 1 13 3 rfl z (ov_gtr rfl rfl) ?_
 refine wa_set 69 (v' := .bool false) rfl (congrArg Value.bool (by decide)) ?_
 refine wt 2 13 7 rfl z (ov_move rfl) ?_
 refine wtf 3 13 15 rfl rfl rfl z ?_
 refine wtf 4 13 31 rfl rfl rfl z ?_
 refine wtf 5 13 63 rfl rfl rfl z ?_
 refine wtf 6 13 127 rfl rfl rfl z ?_
 refine wtf 7 13 255 rfl rfl rfl z ?_
 refine wtf 8 13 511 rfl rfl rfl z ?_
 refine wtf 9 13 1023 rfl rfl rfl z ?_
 refine wtf 10 13 2047 rfl rfl rfl z ?_
 refine wt 11 13 4095 rfl z (ov_pick_f rfl rfl) ?_
 refine wt 12 13 8191 rfl z (ov_assign rfl) ?_
 refine wa_done (by kernel_rfl) ?_
 refine nx_then (cf_ rfl (gw_skip (nx_blk_nrm (nx_blk_nrm (nx_then (gw_region (ad_ rfl rfl ?_)))))))
 refine wl_set 80 (v' := .int .i64 1) rfl rfl ?_
 refine mv_ rfl (wl_nil ?_)
 refine nx_next ?_
 refine gr_next ?_
 refine sr_ (wl_ov (ov_lss rfl rfl) rfl ?_)
 refine wl_set 14 (v' := .bool false) rfl (congrArg Value.bool (by decide)) ?_
 refine nn_ (gw_seq (cf_ rfl ?_))
 refine gw_exit ?_
 refine nx_then_exit (nx_then_exit ?_)
 refine nx_blk_here ?_
 refine nx_then (sr_ (sg_ rfl (nn_ ?_)))
 refine gw_ret ?_
 refine nx_ret1 rfl rfl fun wx hm => ?_
 exact ⟨rfl, hm.g⟩
theorem checkL (gs : Nat) (gc : Nat) (gv : Nat) (ge : Nat) (w : World) (hbs : Blk w gs 168 [.string ⟨#[115]⟩, .int .i64 0, .int .i64 0, .int .i64 0, .int .i64 0, .int .i64 0, .int .i64 0, .int .i64 0, .int .i64 0, .int .i64 0, .int .i64 0, .int .i64 0, .int .i64 0, .int .i64 0, .int .i64 0]) (hbc : Blk w gc 170 [.string ⟨#[99]⟩, .string ⟨#[]⟩]) (hbv : Blk w gv 158 [.string ⟨#[118]⟩, .string ⟨#[99]⟩]) (hbe : Blk w ge 54 [.int .i64 5, .string ⟨#[118]⟩, .string ⟨#[115]⟩, .int .i64 1, .string ⟨#[]⟩]) : Calls Tryz.prog 100 #[.agg #[.slice (some ⟨gs, 0, none⟩) 1 1, .slice (some ⟨gc, 0, none⟩) 1 1, .slice (some ⟨gv, 0, none⟩) 1 1, .slice none 0 0], .slice (some ⟨ge, 0, none⟩) 1 1] w (fun e w' => e = .returned (.int .i64 0) ∧ w.grownBy w' none) := by
 refine gw_enter ⟨14, w, none, []⟩ Tryz.func100 rfl Tryz.ntmps100 rfl (mem0 (X := [BlkOld w.heap.size none gs 168 [.string ⟨#[115]⟩, .int .i64 0, .int .i64 0, .int .i64 0, .int .i64 0, .int .i64 0, .int .i64 0, .int .i64 0, .int .i64 0, .int .i64 0, .int .i64 0, .int .i64 0, .int .i64 0, .int .i64 0, .int .i64 0], BlkOld w.heap.size none gc 170 [.string ⟨#[99]⟩, .string ⟨#[]⟩], BlkOld w.heap.size none gv 158 [.string ⟨#[118]⟩, .string ⟨#[99]⟩], BlkOld w.heap.size none ge 54 [.int .i64 5, .string ⟨#[118]⟩, .string ⟨#[115]⟩, .int .i64 1, .string ⟨#[]⟩]]) (allF_cons hbs.old (allF_cons hbc.old (allF_cons hbv.old (allF_cons hbe.old allF_nil)))) (allL_cons BlkOld.lasts (allL_cons BlkOld.lasts (allL_cons BlkOld.lasts (allL_cons BlkOld.lasts allL_nil))))) ?_
 refine sr_ ?_
 refine wl_box rfl rfl rfl fun g1 => ?_
 refine sg_ rfl (nn_ (gw_seq (sr_ ?_)))
 refine wl_ov (ov_loads rz66 rfl (fun _ hm => hm.blkI 0 rfl) rfl rfl) rfl ?_
 refine wl_callv rfl cb105 rfl rfl (fun wx hm => (fleetL gs gc gv wx (hm.fact 0 rfl).2 (hm.fact 1 rfl).2 (hm.fact 2 rfl).2)) ?_
 refine sg_ rfl (nn_ (sr_ (mv_ rfl (wl_ov (ov_neq rfl rfl) rfl ?_))))
 refine wl_set 9 (v' := .bool false) rfl (congrArg Value.bool (by decide)) ?_
 refine nn_ (cf_ rfl (gw_skip (nx_then (sr_ ?_))))
 refine wl_ov (ov_loads rz66 rfl (fun _ hm => hm.blkI 0 rfl) rfl rfl) rfl ?_
 refine mv_ rfl ?_
 refine wl_callv rfl cb110 rfl rfl (fun wx hm => (logL gs gc gv ge wx (hm.fact 0 rfl).2 (hm.fact 1 rfl).2 (hm.fact 2 rfl).2 (hm.fact 3 rfl).2)) ?_
 refine sg_ rfl (nn_ ?_)
 refine gw_ret ?_
 refine nx_ret1 rfl rfl fun wx hm => ?_
 exact ⟨rfl, hm.g⟩
theorem followL (w : World) : Calls Tryz.prog 263 #[.agg #[.int .i64 0, .string ⟨#[]⟩, .int .i64 0], .agg #[.int .i64 5, .string ⟨#[118]⟩, .string ⟨#[115]⟩, .int .i64 1, .string ⟨#[]⟩]] w (fun e w' => e = .returned (.tuple #[.agg #[.int .i64 1, .string ⟨#[115]⟩, .int .i64 5], .bool true]) ∧ w.grownBy w' none) := by
 refine gw_enter ⟨74, w, none, []⟩ Tryz.func263 rfl Tryz.ntmps263 rfl (mem0 (X := []) allF_nil allL_nil) ?_
 refine sr_ ?_
 refine wl_box rfl rfl rfl fun g1 => ?_
 refine wl_box rfl rfl rfl fun g2 => ?_
 refine wl_alloc zc172 rfl fun g3 => ?_
 refine sg_ rfl (nn_ (sr_ (fd_ fo172_1 rfl rfl (lk_ sc9 2 rfl rfl rfl (fd_ fo54_2 rfl rfl (lk_ sc9 1 rfl rfl rfl (wl_ov (ov_seql rfl rfl) rfl ?_)))))))
 refine wl_set 15 (v' := .bool false) rfl (congrArg Value.bool (by decide +kernel)) ?_
 refine sg_ rfl (nn_ (sr_ (fd_ fo172_0 rfl rfl (lk_ sc3 2 rfl rfl rfl (wl_ov (ov_eql rfl rfl) rfl ?_)))))
 refine wl_set 18 (v' := .bool false) rfl (congrArg Value.bool (by decide)) ?_
 refine mv_ rfl (goff rfl rfl rfl (pf_ rfl rfl (sg_ rfl (nn_ (gw_seq ?_)))))
 refine gd (fun wz => Blk wz g3 172 [.int .i64 0, .string ⟨#[]⟩, .int .i64 0] ∧ Blk wz g2 54 [.int .i64 5, .string ⟨#[118]⟩, .string ⟨#[115]⟩, .int .i64 1, .string ⟨#[]⟩] ∧ Blk wz g1 172 [.int .i64 0, .string ⟨#[]⟩, .int .i64 0] ∧ True) mixed (fun _ hm => ⟨hm.bl 0, hm.bl 1, hm.bl 2, trivial⟩) fun z => ?_
 refine wt 0 5 1 rfl z (ov_field fo54_2 rfl rfl) ?_
 refine wt 1 5 3 rfl z (ov_load sc9 rfl (fun _ hm => hm.2.1) rfl) ?_
 refine wt 2 5 7 rfl z (ov_assign rfl) ?_
 refine wt 3 5 15 rfl z (ov_assign rfl) ?_
 refine wt 4 5 31 rfl z (ov_assign rfl) ?_
 refine wa_done (by kernel_rfl) ?_
 refine nx_then (gw_seq (sr_ (fd_ fo54_3 rfl rfl (lk_ sc3 1 rfl rfl rfl (nn_ (gw_block (sr_ (wl_ov (ov_eql rfl rfl) rfl ?_))))))))
 refine wl_set 27 (v' := .bool true) rfl (congrArg Value.bool (by decide)) ?_
 refine sg_ rfl (nn_ (ct_ rfl ?_))
 refine gd (fun wz => Blk wz g3 172 [.int .i64 0, .string ⟨#[]⟩, .int .i64 0] ∧ Blk wz g2 54 [.int .i64 5, .string ⟨#[118]⟩, .string ⟨#[115]⟩, .int .i64 1, .string ⟨#[]⟩] ∧ Blk wz g1 172 [.int .i64 0, .string ⟨#[]⟩, .int .i64 0] ∧ True) mixed (fun _ hm => ⟨hm.bl 0, hm.bl 1, hm.bl 2, trivial⟩) fun z => ?_
 refine wt 0 5 1 rfl z (ov_field fo172_0 rfl rfl) ?_
 refine wt 1 5 3 rfl z (ov_load sc3 rfl (fun _ hm => hm.2.2.1) rfl) ?_
 refine wt 2 5 7 rfl z (ov_eql rfl rfl) ?_
 refine wa_set 30 (v' := .bool true) rfl (congrArg Value.bool (by decide)) ?_
 refine wt 3 5 15 rfl z (ov_assign rfl) ?_
 refine wt 4 5 31 rfl z (ov_assign rfl) ?_
 refine wa_done (by kernel_rfl) ?_
 refine nx_blk_nrm (nx_then (gw_seq (sr_ (mv_ rfl (wl_ov (ov_un_not rfl) rfl ?_)))))
 refine wl_set 67 (v' := .bool false) rfl (congrArg Value.bool (by decide)) ?_
 refine nn_ (cf_ rfl (gw_skip (nx_then (sr_ (mv_ rfl (mv_ rfl (fd_ fo54_0 rfl rfl (lk_ sc3 1 rfl rfl rfl ?_))))))))
 refine wl_ov (ov_build (cs := [.int .i64 1, .string ⟨#[115]⟩, .int .i64 5]) rfl (by kernel_rfl)) rfl ?_
 refine wl_stores (cs' := [.int .i64 1, .string ⟨#[115]⟩, .int .i64 5]) 0 rz172 rfl rfl rfl rfl rfl rfl rfl rfl ?_
 refine sg_ rfl (nn_ ?_)
 refine gw_ret ?_
 refine nx_retct 0 rfl rz172 rfl rfl rfl rfl fun wx hm => ?_
 exact ⟨rfl, hm.g⟩
theorem statesL (ge : Nat) (w : World) (hbe : Blk w ge 54 [.int .i64 5, .string ⟨#[118]⟩, .string ⟨#[115]⟩, .int .i64 1, .string ⟨#[]⟩]) : Calls Tryz.prog 205 #[.slice (some ⟨ge, 0, none⟩) 1 1, .int .i64 7] w (fun e w' => ∃ g, e = .returned (.map (some g)) ∧ MapAt g #[⟨.string ⟨#[118]⟩, .agg #[.int .i64 1, .string ⟨#[115]⟩, .int .i64 5], 0⟩] 1 w' ∧ w.grownBy w' none) := by
 refine gw_enter ⟨33, w, none, []⟩ Tryz.func205 rfl Tryz.ntmps205 rfl (mem0 (X := [BlkOld w.heap.size none ge 54 [.int .i64 5, .string ⟨#[118]⟩, .string ⟨#[115]⟩, .int .i64 1, .string ⟨#[]⟩]]) (allF_cons hbe.old allF_nil) (allL_cons BlkOld.lasts allL_nil)) ?_
 refine sr_ (sg_ rfl (nn_ (sr_ ?_)))
 refine wl_makeMap rfl fun g1 => ?_
 refine sg_ rfl (nn_ (gw_seq (sr_ (mv_ rfl (wl_ov (ov_len es47 rfl) rfl ?_)))))
 refine wl_set 10 (v' := .int .i64 1) rfl rfl ?_
 refine mv_ rfl (nn_ (gw_block ?_))
 refine gw_rounds 4 ?_
 refine gr_next ?_
 refine sr_ (wl_ov (ov_lss rfl rfl) rfl ?_)
 refine wl_set 12 (v' := .bool true) rfl (congrArg Value.bool (by decide)) ?_
 refine nn_ (gw_seq (ct_ rfl (gw_skip (nx_then (gw_seq (gw_block (sr_ ?_)))))))
 refine wl_ov (ov_index (j := 0) es47 rfl rfl (by decide)) rfl ?_
 refine wl_ov (ov_loads (vs := [.int .i64 5, .string ⟨#[118]⟩, .string ⟨#[115]⟩, .int .i64 1, .string ⟨#[]⟩]) rz54 rfl (fun _ hm => (hm.fact 1 rfl).2) rfl rfl) rfl ?_
 refine wl_alloc zc54 rfl fun g2 => ?_
 refine wl_stores (cs' := [.int .i64 5, .string ⟨#[118]⟩, .string ⟨#[115]⟩, .int .i64 1, .string ⟨#[]⟩]) 0 rz54 rfl rfl rfl rfl rfl rfl rfl rfl ?_
 refine nn_ (gw_seq (sr_ (fd_ fo54_0 rfl rfl (lk_ sc3 0 rfl rfl rfl (mv_ rfl ?_)))))
 refine wl_ov (ov_gtr rfl rfl) rfl ?_
 refine wl_set 18 (v' := .bool false) rfl (congrArg Value.bool (by decide)) ?_
 refine nn_ (cf_ rfl (gw_skip (nx_then ?_)))
 refine gd (fun wz => Blk wz g2 54 [.int .i64 5, .string ⟨#[118]⟩, .string ⟨#[115]⟩, .int .i64 1, .string ⟨#[]⟩] ∧ (BlkOld w.heap.size none ge 54 [.int .i64 5, .string ⟨#[118]⟩, .string ⟨#[115]⟩, .int .i64 1, .string ⟨#[]⟩]) wz ∧ True) mixed (fun _ hm => ⟨hm.bl 0, hm.fa 1, trivial⟩) fun z => ?_
 refine wt 0 13 1 rfl z (ov_move rfl) ?_
 refine wt 1 13 3 rfl z (ov_field fo54_1 rfl rfl) ?_
 refine wt 2 13 7 rfl z (ov_load sc9 rfl (fun _ hm => hm.1) rfl) ?_
 refine wt 3 13 15 rfl z (ov_move rfl) ?_
 refine wt 4 13 31 rfl z (ov_field fo54_1 rfl rfl) ?_
 refine wt 5 13 63 rfl z (ov_load sc9 rfl (fun _ hm => hm.1) rfl) ?_
 refine wt 7 13 191 rfl z (ov_loads rz54 rfl (fun _ hm => hm.1) rfl rfl) ?_
 refine wa1 6 rfl ?_
 refine wl_ov (ov_lookup0 (k := 9) (e := 172) (z := .agg #[.int .i64 0, .string ⟨#[]⟩, .int .i64 0]) (by kernel_rfl) (by kernel_rfl) (by kernel_rfl) rfl rfl (fun _ hm => (hm.fact 0 rfl).2) (by kernel_rfl)) rfl ?_
 refine wl_nil ?_
 refine nw 13 255 (fun _ hm => ⟨hm.bl 0, hm.fa 1, trivial⟩) fun z => ?_
 refine wa1 8 rfl ?_
 refine wl_callv rfl cb263 rfl rfl (fun wx hm => (followL wx)) ?_
 refine wl_nil ?_
 refine nw 13 511 (fun _ hm => ⟨hm.bl 0, hm.fa 1, trivial⟩) fun z => ?_
 refine wt 9 13 1023 rfl z (ov_move rfl) ?_
 refine wt 10 13 2047 rfl z (ov_extract rfl rfl) ?_
 refine wt 11 13 4095 rfl z (ov_extract rfl rfl) ?_
 refine wa1 12 rfl ?_
 refine wl_mapPush (k := 9) (e := 172) (X' := [BlkOld w.heap.size none ge 54 [.int .i64 5, .string ⟨#[118]⟩, .string ⟨#[115]⟩, .int .i64 1, .string ⟨#[]⟩]]) 0 (by kernel_rfl) (by kernel_rfl) rfl rfl rfl rfl (by kernel_rfl) (far_cons (i := 1) BlkOld.far rfl far_nil) ?_
 refine wl_nil ?_
 refine nw 13 8191 (fun _ hm => ⟨hm.bl 0, hm.fa 1, trivial⟩) fun z => ?_
 refine wa_done (by kernel_rfl) ?_
 refine nx_blk_nrm (nx_then (gw_region (ad_ rfl rfl ?_)))
 refine wl_set 31 (v' := .int .i64 1) rfl rfl ?_
 refine mv_ rfl (wl_nil ?_)
 refine nx_next ?_
 refine gr_next ?_
 refine sr_ (wl_ov (ov_lss rfl rfl) rfl ?_)
 refine wl_set 12 (v' := .bool false) rfl (congrArg Value.bool (by decide)) ?_
 refine nn_ (gw_seq (cf_ rfl ?_))
 refine gw_exit ?_
 refine nx_then_exit (nx_then_exit ?_)
 refine nx_blk_here ?_
 refine nx_then (sr_ (mv_ rfl (sg_ rfl (nn_ ?_))))
 refine gw_ret ?_
 refine nx_ret1 rfl rfl fun wx hm => ?_
 exact ⟨g1, rfl, ((hm.fact 0 rfl)).2, hm.g⟩
theorem stateL (gs : Nat) (gc : Nat) (gv : Nat) (ge : Nat) (w : World) (hbs : Blk w gs 168 [.string ⟨#[115]⟩, .int .i64 0, .int .i64 0, .int .i64 0, .int .i64 0, .int .i64 0, .int .i64 0, .int .i64 0, .int .i64 0, .int .i64 0, .int .i64 0, .int .i64 0, .int .i64 0, .int .i64 0, .int .i64 0]) (hbc : Blk w gc 170 [.string ⟨#[99]⟩, .string ⟨#[]⟩]) (hbv : Blk w gv 158 [.string ⟨#[118]⟩, .string ⟨#[99]⟩]) (hbe : Blk w ge 54 [.int .i64 5, .string ⟨#[118]⟩, .string ⟨#[115]⟩, .int .i64 1, .string ⟨#[]⟩]) : Calls Tryz.prog 120 #[.agg #[.slice (some ⟨gs, 0, none⟩) 1 1, .slice (some ⟨gc, 0, none⟩) 1 1, .slice (some ⟨gv, 0, none⟩) 1 1, .slice none 0 0], .slice (some ⟨ge, 0, none⟩) 1 1, .string ⟨#[118]⟩, .int .i64 7] w (fun e w' => e = .returned (.tuple #[.agg #[.int .i64 1, .string ⟨#[115]⟩, .int .i64 5], .int .i64 0]) ∧ w.grownBy w' none) := by
 refine gw_enter ⟨37, w, none, []⟩ Tryz.func120 rfl Tryz.ntmps120 rfl (mem0 (X := [BlkOld w.heap.size none gs 168 [.string ⟨#[115]⟩, .int .i64 0, .int .i64 0, .int .i64 0, .int .i64 0, .int .i64 0, .int .i64 0, .int .i64 0, .int .i64 0, .int .i64 0, .int .i64 0, .int .i64 0, .int .i64 0, .int .i64 0, .int .i64 0], BlkOld w.heap.size none gc 170 [.string ⟨#[99]⟩, .string ⟨#[]⟩], BlkOld w.heap.size none gv 158 [.string ⟨#[118]⟩, .string ⟨#[99]⟩], BlkOld w.heap.size none ge 54 [.int .i64 5, .string ⟨#[118]⟩, .string ⟨#[115]⟩, .int .i64 1, .string ⟨#[]⟩]]) (allF_cons hbs.old (allF_cons hbc.old (allF_cons hbv.old (allF_cons hbe.old allF_nil)))) (allL_cons BlkOld.lasts (allL_cons BlkOld.lasts (allL_cons BlkOld.lasts (allL_cons BlkOld.lasts allL_nil))))) ?_
 refine sr_ ?_
 refine wl_box rfl rfl rfl fun g1 => ?_
 refine wl_alloc zc172 rfl fun g2 => ?_
 refine sg_ rfl (nn_ (gw_seq (sr_ ?_)))
 refine wl_ov (ov_loads rz66 rfl (fun _ hm => hm.blkI 1 rfl) rfl rfl) rfl ?_
 refine mv_ rfl ?_
 refine wl_callv rfl cb100 rfl rfl (fun wx hm => (checkL gs gc gv ge wx (hm.fact 0 rfl).2 (hm.fact 1 rfl).2 (hm.fact 2 rfl).2 (hm.fact 3 rfl).2)) ?_
 refine sg_ rfl (nn_ (sr_ (mv_ rfl (wl_ov (ov_neq rfl rfl) rfl ?_))))
 refine wl_set 16 (v' := .bool false) rfl (congrArg Value.bool (by decide)) ?_
 refine nn_ (cf_ rfl (gw_skip (nx_then (gw_seq (sr_ ?_)))))
 refine wl_ov (ov_loads rz66 rfl (fun _ hm => hm.blkI 1 rfl) rfl rfl) rfl ?_
 refine mv_ rfl ?_
 refine wl_callv rfl cb194 rfl rfl (fun wx hm => (vehL gs gc gv wx (hm.fact 0 rfl).2 (hm.fact 1 rfl).2 (hm.fact 2 rfl).2)) ?_
 refine wl_ov (ov_lss rfl rfl) rfl ?_
 refine wl_set 22 (v' := .bool false) rfl (congrArg Value.bool (by decide)) ?_
 refine wl_callw (v := .int .i64 0) rfl cb106 rfl rfl (fun wx hm => (by have h := when_any false 8 wx; rw [show whenE false 8 = 0 by decide +kernel] at h; exact h)) ?_
 refine mv_ rfl ?_
 refine wl_callw (v := .int .i64 0) rfl cb204 rfl rfl (fun wx hm => (by have h := moment_any 7 wx; rw [show momentE 7 = 0 by decide +kernel] at h; exact h)) ?_
 refine wl_buildSlice (e := 28) (cs := [.int .i64 0, .int .i64 0]) rfl (by kernel_rfl) rfl fun g3 => ?_
 refine wl_callw (v := .int .i64 0) rfl cb104 rfl rfl (fun wx hm => (by have h := first_any [0, 0] g3 2 _ wx (hm.blkI 0 rfl) (by simp); rw [show firstE [0, 0] = 0 by decide] at h; exact h)) ?_
 refine sg_ rfl (nn_ (sr_ (mv_ rfl (wl_ov (ov_neq rfl rfl) rfl ?_))))
 refine wl_set 29 (v' := .bool false) rfl (congrArg Value.bool (by decide)) ?_
 refine nn_ (cf_ rfl (gw_skip (nx_then (sr_ (mv_ rfl (mv_ rfl ?_))))))
 refine wl_callx (γ := Nat) (val := (fun g => .map (some g))) (φ := (fun g => True)) (Y := (fun g => fun wy => OwnMap 0 g #[⟨.string ⟨#[118]⟩, .agg #[.int .i64 1, .string ⟨#[115]⟩, .int .i64 5], 0⟩] 1 wy)) rfl cb205 rfl rfl (fun wx hm => (statesL ge wx (hm.fact 3 rfl).2).mono fun _ _ ⟨g, he, hm2, hg⟩ => ⟨g, he, trivial, hg, ⟨Nat.zero_le _, hm2⟩⟩) (fun _ => OwnMap.lasts2) ?_
 rintro gm hphi
 clear hphi
 refine mv_ rfl ?_
 refine wl_ov (ov_lookup (k := 9) (e := 172) (i := 0) (v := .agg #[.int .i64 1, .string ⟨#[115]⟩, .int .i64 5]) (by kernel_rfl) (by kernel_rfl) rfl rfl (fun _ hm => (hm.fact 0 rfl).2) (by kernel_rfl)) rfl ?_
 refine wl_stores (cs' := [.int .i64 1, .string ⟨#[115]⟩, .int .i64 5]) 1 rz172 rfl rfl rfl rfl rfl rfl rfl rfl ?_
 refine sg_ rfl (nn_ ?_)
 refine gw_ret ?_
 refine nx_retct 1 rfl rz172 rfl rfl rfl rfl fun wx hm => ?_
 exact ⟨rfl, hm.g⟩
set_option maxRecDepth 100000 in
theorem same_state_eql (x0 : Int) (x1 : ByteArray) (x2 : Int) (w : World) : (binOp .eql 172 (.agg #[.int .i64 x0, .string x1, .int .i64 x2]) (.agg #[.int .i64 x0, .string x1, .int .i64 x2])).run Tryz.prog w = .ok (.bool true) w := by
  have hS : Tryz.prog.underlying 172 = some (.struct (Tryz.prog.fieldsOf 172)) := by kernel_rfl
  have hp : Tryz.prog.stoodInHeld 172 = false := by kernel_rfl
  rw [run_eql_struct, show (10000 : Nat) = 9999 + 1 from rfl, run_equalIn_agg w 9999 172 _ _ hS hp]
  simp only [Program.fieldsOf, Tryz.underlying172]
  have u3 := Tryz.underlying3
  have u9 := Tryz.underlying9
  clear hS hp
  go_simp
theorem guard_state : Tryz.prog.eqGuardType Tryz.prog.depth 172 = false := by kernel_rfl
theorem lots_any (w : World) : Calls Tryz.prog 38 #[] w (fun e w' => e = .returned (.bool true) ∧ w.grownBy w' none) := by
 refine gw_enter ⟨25, w, none, []⟩ Tryz.func38 rfl Tryz.ntmps38 rfl (mem0 (X := []) allF_nil allL_nil) ?_
 refine sr_ (sg_ rfl (nn_ (sr_ ?_)))
 refine wl_ov (ov_build (cs := [.string ⟨#[115]⟩, .int .i64 0, .int .i64 0, .int .i64 0, .int .i64 0, .int .i64 0, .int .i64 0, .int .i64 0, .int .i64 0, .int .i64 0, .int .i64 0, .int .i64 0, .int .i64 0, .int .i64 0, .int .i64 0]) rfl (by kernel_rfl)) rfl ?_
 refine wl_buildSlice (e := 168) (cs := [.string ⟨#[115]⟩, .int .i64 0, .int .i64 0, .int .i64 0, .int .i64 0, .int .i64 0, .int .i64 0, .int .i64 0, .int .i64 0, .int .i64 0, .int .i64 0, .int .i64 0, .int .i64 0, .int .i64 0, .int .i64 0]) rfl (by kernel_rfl) rfl fun g1 => ?_
 refine wl_ov (ov_build (cs := [.string ⟨#[99]⟩, .string ⟨#[]⟩]) rfl (by kernel_rfl)) rfl ?_
 refine wl_buildSlice (e := 170) (cs := [.string ⟨#[99]⟩, .string ⟨#[]⟩]) rfl (by kernel_rfl) rfl fun g2 => ?_
 refine wl_ov (ov_build (cs := [.string ⟨#[118]⟩, .string ⟨#[99]⟩]) rfl (by kernel_rfl)) rfl ?_
 refine wl_buildSlice (e := 158) (cs := [.string ⟨#[118]⟩, .string ⟨#[99]⟩]) rfl (by kernel_rfl) rfl fun g3 => ?_
 refine wl_ov (ov_build (cs := [.slice (some ⟨g1, 0, none⟩) 1 1, .slice (some ⟨g2, 0, none⟩) 1 1, .slice (some ⟨g3, 0, none⟩) 1 1, .slice none 0 0]) rfl (by kernel_rfl)) rfl ?_
 refine wl_alloc zc66 rfl fun g4 => ?_
 refine wl_stores (cs' := [.slice (some ⟨g1, 0, none⟩) 1 1, .slice (some ⟨g2, 0, none⟩) 1 1, .slice (some ⟨g3, 0, none⟩) 1 1, .slice none 0 0]) 0 rz66 rfl rfl rfl rfl rfl rfl rfl rfl ?_
 refine nn_ (sr_ ?_)
 refine wl_ov (ov_loads rz66 rfl (fun _ hm => hm.blkI 0 rfl) rfl rfl) rfl ?_
 refine wl_ov (ov_build (cs := [.int .i64 5, .string ⟨#[118]⟩, .string ⟨#[115]⟩, .int .i64 1, .string ⟨#[]⟩]) rfl (by kernel_rfl)) rfl ?_
 refine wl_buildSlice (e := 54) (cs := [.int .i64 5, .string ⟨#[118]⟩, .string ⟨#[115]⟩, .int .i64 1, .string ⟨#[]⟩]) rfl (by kernel_rfl) rfl fun g5 => ?_
 refine wl_callv rfl cb120 rfl rfl (fun wx hm => (stateL g1 g2 g3 g5 wx (hm.blkI 4 rfl) (hm.blkI 3 rfl) (hm.blkI 2 rfl) (hm.blkI 0 rfl))) ?_
 refine mv_ rfl (wl_ov (ov_extract rfl rfl) rfl (wl_ov (ov_extract rfl rfl) rfl ?_))
 refine wl_alloc zc172 rfl fun g6 => ?_
 refine wl_stores (cs' := [.int .i64 1, .string ⟨#[115]⟩, .int .i64 5]) 0 rz172 rfl rfl rfl rfl rfl rfl rfl rfl ?_
 refine sg_ rfl (nn_ (sr_ (mv_ rfl (wl_ov (ov_eql rfl rfl) rfl ?_))))
 refine wl_set 19 (v' := .bool true) rfl (congrArg Value.bool (by decide)) ?_
 refine mv_ rfl (wl_guard_on rfl rfl rfl ?_)
 refine wl_ov (ov_loads rz172 rfl (fun _ hm => hm.blkI 0 rfl) rfl rfl) rfl ?_
 refine wl_guard_on rfl rfl rfl ?_
 refine wl_ov (ov_build (cs := [.int .i64 1, .string ⟨#[115]⟩, .int .i64 5]) rfl (by kernel_rfl)) rfl ?_
 refine wl_guard_on rfl rfl rfl ?_
 refine wl_ov (ov_bin rfl rfl (cmp_agg guard_state (fun wx => same_state_eql 1 ⟨#[115]⟩ 5 wx))) rfl ?_
 refine pt_ rfl rfl (sg_ rfl (nn_ ?_))
 refine gw_ret ?_
 refine nx_ret1 rfl rfl fun wx hm => ?_
 exact ⟨rfl, hm.g⟩
end Go.Proofs.YtnpcbfllnkiopaaGreatDoor
namespace Go.Proofs.YtnpcbfllnkiopaaGreatDoor
open Go.RowKit
theorem str_pos {t : ByteArray} (h : (t.toList == (⟨#[]⟩ : ByteArray).toList) = false) : 1 ≤ t.size := by
  by_cases h0 : t.size = 0
  · have e : t = ⟨#[]⟩ := by
      cases t with
      | mk a => exact congrArg ByteArray.mk (Array.eq_empty_of_size_eq_zero h0)
    rw [e] at h; simp at h
  · omega
theorem extract_hi2 (s : ByteArray) (i : Nat) : (s.extract 0 i).size ≤ i := by
  rw [ByteArray.size_extract]; omega
theorem extract_lo2 (s : ByteArray) (i : Nat) : (s.extract i s.size).size ≤ s.size - i := by
  rw [ByteArray.size_extract]; omega
theorem gchanged_any (tx wi : ByteArray) (w : World) (B sb m : Nat) (hS : Strm 25 w B sb m) (hm : m ≤ 100000000000) (htx : tx.size ≤ 1000000) (hwi : wi.size ≤ 1000) :
  Calls Tryz.prog 35 #[.pointer (some ⟨sb, 0, none⟩), .string tx, .string wi] w (fun e w' => ∃ v : ByteArray, e = .returned (.string v) ∧ v.size ≤ tx.size + wi.size + 4 ∧ Strm 25 w' B sb (m + 3) ∧ w.grownBy w' (some sb)) := by
 refine gw_enter ⟨63, w, (some sb), []⟩ Tryz.func35 rfl Tryz.ntmps35 rfl (memS (X := []) hS allF_nil allL_nil) ?_
 refine sr_ (sg_ rfl (nn_ (gw_seq (sr_ (mv_ rfl (wl_ov (ov_seql rfl rfl) rfl (mv_ rfl ?_)))))))
 rcases Bool.eq_false_or_eq_true (tx.toList == (⟨#[]⟩ : ByteArray).toList) with h1 | h1
 ·refine wl_set 11 rfl (congrArg Value.bool h1) ?_
  refine goff rfl rfl rfl (goff rfl rfl rfl (pt_ rfl rfl (nn_ (ct_ rfl (sr_ (mv_ rfl (sg_ rfl (nn_ ?_))))))))
  refine gw_ret ?_
  refine nx_then_ret ?_
  refine nx_ret1 rfl rfl fun wx hm => ?_
  exact ⟨wi, rfl, (by (try simp only [ByteArray.size_append]); omega), hm.k.more (by omega), hm.g⟩
 refine wl_set 11 rfl (congrArg Value.bool h1) ?_
 refine wl_guard_on rfl rfl rfl (mv_ rfl (wl_guard_on rfl rfl rfl (wl_ov (ov_seql rfl rfl) rfl (pf_ rfl rfl (nn_ ?_)))))
 refine gw_cond rfl (fun hh => ?_) (fun hh => ?_)
 ·have h2 : (wi.toList == (⟨#[]⟩ : ByteArray).toList) = true := by simpa using hh
  clear hh
  refine sr_ (mv_ rfl (sg_ rfl (nn_ ?_)))
  refine gw_ret ?_
  refine nx_then_ret ?_
  refine nx_ret1 rfl rfl fun wx hm => ?_
  exact ⟨wi, rfl, (by (try simp only [ByteArray.size_append]); omega), hm.k.more (by omega), hm.g⟩
 have h2 : (wi.toList == (⟨#[]⟩ : ByteArray).toList) = false := by simpa using hh
 clear hh
 refine gw_skip (nx_then (sr_ ?_))
 have htx1 := str_pos h1
 have hwi1 := str_pos h2
 refine mv_ rfl (mv_ rfl ?_)
 refine wl_ov (ov_lens us9 rfl) rfl ?_
 refine wl_got (γ := Int) (val := fun v => .int .i64 v) (φ := fun v => IsBelow ((tx).size : Int) v) rfl cb56 rfl rfl rfl rfl (fun wx hm => (next_any _ wx B sb _ hm.k (by omega) (by omega) (by omega))) fun va hva => ?_
 have ha := isBelow_lt hva (by omega)
 refine sg_ rfl (nn_ (sr_ (mv_ rfl (mv_ rfl (mv_ rfl ?_)))))
 refine wl_ov (ov_lens us9 rfl) rfl ?_
 refine wl_got (γ := Int) (val := fun v => .int .i64 v) (φ := fun v => IsBelow ((wi).size : Int) v) rfl cb56 rfl rfl rfl rfl (fun wx hm => (next_any _ wx B sb _ hm.k (by omega) (by omega) (by omega))) fun vb hvb => ?_
 have hb := isBelow_lt hvb (by omega)
 have hbd := byteAt_bd wi vb
 refine wl_ov (ov_strIx us9 rfl rfl (by omega) (by omega)) rfl ?_
 refine sg_ rfl (nn_ (gw_seq (sr_ (mv_ rfl ?_))))
 refine wl_got (γ := Int) (val := fun v => .int .i64 v) (φ := fun v => IsBelow 3 v) rfl cb56 rfl rfl rfl rfl (fun wx hm => (next_any _ wx B sb _ hm.k (by omega) (by omega) (by omega))) fun vc hvc => ?_
 have e1 := extract_hi2 tx va.toNat
 have e2 := extract_lo2 tx (va + 1).toNat
 have e3 := encode_size (byteAt wi vb)
 have e4 := extract_lo2 tx va.toNat
 refine nn_ (gw_block (sr_ (wl_ov (ov_eql rfl rfl) rfl (sg_ rfl (nn_ ?_)))))
 refine gw_cond rfl (fun hh => ?_) (fun hh => ?_)
 ·have hc1 : vc = 0 := by simpa using hh
  clear hh
  refine gw_seq ?_
  refine gd (fun wz => True) mixed (fun _ _ => trivial) fun z => ?_
  refine wt 0 13 1 rfl z (ov_move rfl) ?_
  refine wt 1 13 3 rfl z (ov_move rfl) ?_
  refine wt 2 13 7 rfl z (ov_strHi us9 rfl rfl (by omega) (by omega)) ?_
  refine wt 3 13 15 rfl z (ov_move rfl) ?_
  refine wt 4 13 31 rfl z (ov_toI32 (by kernel_rfl) (by kernel_rfl) rfl (by omega) (by omega)) ?_
  refine wt 5 13 63 rfl z (ov_runeStr (by kernel_rfl) us9 rfl) ?_
  refine wt 6 13 127 rfl z (ov_sadd rfl rfl (by (try simp only [ByteArray.size_append]); omega)) ?_
  refine wt 7 13 255 rfl z (ov_move rfl) ?_
  refine wt 8 13 511 rfl z (ov_move rfl) ?_
  refine wt 9 13 1023 rfl z (ov_add rfl rfl (by omega) (by omega)) ?_
  refine wt 10 13 2047 rfl z (ov_strLo us9 rfl rfl (by omega) (by omega)) ?_
  refine wt 11 13 4095 rfl z (ov_sadd rfl rfl (by (try simp only [ByteArray.size_append]); omega)) ?_
  refine wt 12 13 8191 rfl z (ov_assign rfl) ?_
  refine wa_done (by kernel_rfl) ?_
  refine nx_then ?_
  refine gw_ret ?_
  refine nx_blk_ret (nx_then_ret ?_)
  refine nx_ret1 rfl rfl fun wx hm => ?_
  exact ⟨((tx.extract 0 va.toNat) ++ (Utf8.encode (byteAt wi vb))) ++ (tx.extract (va + 1).toNat tx.size), rfl, (by (try simp only [ByteArray.size_append]); omega), hm.k.more (by omega), hm.g⟩
 have hc1 : ¬ (vc = 0) := by simpa using hh
 clear hh
 refine sr_ (wl_ov (ov_eql rfl rfl) rfl (sg_ rfl (nn_ ?_)))
 refine gw_cond rfl (fun hh => ?_) (fun hh => ?_)
 ·have hc2 : vc = 1 := by simpa using hh
  clear hh
  refine gw_seq ?_
  refine gd (fun wz => True) mixed (fun _ _ => trivial) fun z => ?_
  refine wt 0 12 1 rfl z (ov_move rfl) ?_
  refine wt 1 12 3 rfl z (ov_move rfl) ?_
  refine wt 2 12 7 rfl z (ov_strHi us9 rfl rfl (by omega) (by omega)) ?_
  refine wt 3 12 15 rfl z (ov_move rfl) ?_
  refine wt 4 12 31 rfl z (ov_toI32 (by kernel_rfl) (by kernel_rfl) rfl (by omega) (by omega)) ?_
  refine wt 5 12 63 rfl z (ov_runeStr (by kernel_rfl) us9 rfl) ?_
  refine wt 6 12 127 rfl z (ov_sadd rfl rfl (by (try simp only [ByteArray.size_append]); omega)) ?_
  refine wt 7 12 255 rfl z (ov_move rfl) ?_
  refine wt 8 12 511 rfl z (ov_move rfl) ?_
  refine wt 9 12 1023 rfl z (ov_strLo us9 rfl rfl (by omega) (by omega)) ?_
  refine wt 10 12 2047 rfl z (ov_sadd rfl rfl (by (try simp only [ByteArray.size_append]); omega)) ?_
  refine wt 11 12 4095 rfl z (ov_assign rfl) ?_
  refine wa_done (by kernel_rfl) ?_
  refine nx_then ?_
  refine gw_ret ?_
  refine nx_blk_ret (nx_then_ret ?_)
  refine nx_ret1 rfl rfl fun wx hm => ?_
  exact ⟨((tx.extract 0 va.toNat) ++ (Utf8.encode (byteAt wi vb))) ++ (tx.extract va.toNat tx.size), rfl, (by (try simp only [ByteArray.size_append]); omega), hm.k.more (by omega), hm.g⟩
 have hc2 : ¬ (vc = 1) := by simpa using hh
 clear hh
 refine gw_skip (nx_blk_nrm (nx_then (gw_seq ?_)))
 refine gd (fun wz => True) mixed (fun _ _ => trivial) fun z => ?_
 refine wt 0 9 1 rfl z (ov_move rfl) ?_
 refine wt 1 9 3 rfl z (ov_move rfl) ?_
 refine wt 2 9 7 rfl z (ov_strHi us9 rfl rfl (by omega) (by omega)) ?_
 refine wt 3 9 15 rfl z (ov_move rfl) ?_
 refine wt 4 9 31 rfl z (ov_move rfl) ?_
 refine wt 5 9 63 rfl z (ov_add rfl rfl (by omega) (by omega)) ?_
 refine wt 6 9 127 rfl z (ov_strLo us9 rfl rfl (by omega) (by omega)) ?_
 refine wt 7 9 255 rfl z (ov_sadd rfl rfl (by (try simp only [ByteArray.size_append]); omega)) ?_
 refine wt 8 9 511 rfl z (ov_assign rfl) ?_
 refine wa_done (by kernel_rfl) ?_
 refine nx_then ?_
 refine gw_ret ?_
 refine nx_ret1 rfl rfl fun wx hm => ?_
 exact ⟨(tx.extract 0 va.toNat) ++ (tx.extract (va + 1).toNat tx.size), rfl, (by (try simp only [ByteArray.size_append]); omega), hm.k.more (by omega), hm.g⟩
end Go.Proofs.YtnpcbfllnkiopaaGreatDoor
namespace Go.Proofs.YtnpcbfllnkiopaaGreatDoor
open Go.RowKit Go.ChangeShapes
theorem var_at {P : Program} {w : World} {n : String} {g : Nat} {cs : Array Value} (hg : P.globalNamed n = some g) (h : w.var? P n = some cs) : ∃ T f, w.heap[g]? = some (.cells cs T f) := by
  unfold World.var? at h
  rw [hg] at h
  simp only [Option.bind_some] at h
  split at h
  · rename_i c T f he
    cases h
    exact ⟨T, f, he⟩
  · cases h
theorem star_err : "*" ++ "errors.errorString" = "*errors.errorString" := by decide
theorem row_err (u : TypeId) (h : Tryz.prog.typeName? 3 u = some "*errors.errorString") : u = 382 :=
  typeName_ptr_named (nm := "errors.errorString") (by rw [star_err]; kernel_rfl) (by kernel_rfl) (by decide) u (by rw [star_err]; exact h)
theorem txtW_of {l : List (String × DataW Unit)} {W : World} (x1 x2 : List UInt8) (hL : laidMet Tryz.prog l W) (hS : W.ShapedOpen Tryz.prog)
    (h1 : l.filter (fun x => x.1 == "internal/strconv.uint64pow10") = [("internal/strconv.uint64pow10", Lib.tabData .u64 Lib.pow10Tab)])
    (h2 : l.filter (fun x => x.1 == "strconv.ErrSyntax") = [("strconv.ErrSyntax", .iface "*errors.errorString" (.ptr (.agg [.lit (.string x1)])))])
    (h3 : l.filter (fun x => x.1 == "strconv.ErrRange") = [("strconv.ErrRange", .iface "*errors.errorString" (.ptr (.agg [.lit (.string x2)])))]) : TxtW W := by
  have c1 := hL.filter (fun x => x.1 == "internal/strconv.uint64pow10")
  have c2 := hL.filter (fun x => x.1 == "strconv.ErrSyntax")
  have c3 := hL.filter (fun x => x.1 == "strconv.ErrRange")
  rw [h1] at c1
  rw [h2] at c2
  rw [h3] at c3
  refine ⟨?_, ?_, ?_, ?_⟩
  · have hg : Tryz.prog.globalNamed "internal/strconv.uint64pow10" = some 1 := by kernel_rfl
    have h := Lib.tabIs_of_head (t := 364) (e := 311) hg (by kernel_rfl) Tryz.underlying364 Tryz.underlying311 (by kernel_rfl) (by kernel_rfl) c1
    exact var_at hg h
  · obtain ⟨m, hm⟩ := cell_of_shapedOpen_int (P := Tryz.prog) (g := 0) (t := 3) (zero := #[.int .i64 0]) hS (of_decide_eq_true (by kernel_rfl)) (by kernel_rfl) rfl (by kernel_rfl) (by kernel_rfl) Tryz.underlying3
    unfold World.cell? at hm
    split at hm
    · rename_i c T f he
      exact ⟨c, T, f, m, he, by simpa using hm⟩
    · cases hm
  · have hg : Tryz.prog.globalNamed "strconv.ErrSyntax" = some 2 := by kernel_rfl
    obtain ⟨a, s, hv, _⟩ := laid_sentinel c2 hg (by kernel_rfl) Tryz.underlying103 row_err Tryz.underlying382 Tryz.underlying384 rfl rfl Tryz.underlying9 (by kernel_rfl) (by kernel_rfl)
    obtain ⟨T, f, h⟩ := var_at hg hv
    exact ⟨T, f, _, _, h⟩
  · have hg : Tryz.prog.globalNamed "strconv.ErrRange" = some 3 := by kernel_rfl
    obtain ⟨a, s, hv, _⟩ := laid_sentinel c3 hg (by kernel_rfl) Tryz.underlying103 row_err Tryz.underlying382 Tryz.underlying384 rfl rfl Tryz.underlying9 (by kernel_rfl) (by kernel_rfl)
    obtain ⟨T, f, h⟩ := var_at hg hv
    exact ⟨T, f, _, _, h⟩
end Go.Proofs.YtnpcbfllnkiopaaGreatDoor
namespace Go.Proofs.YtnpcbfllnkiopaaGreatDoor
open Go.RowKit
set_option maxRecDepth 100000 in
theorem same_class_neq (x0 : ByteArray) (x1 : ByteArray) (w : World) : (binOp .neq 170 (.agg #[.string x0, .string x1]) (.agg #[.string x0, .string x1])).run Tryz.prog w = .ok (.bool false) w := by
  have hS : Tryz.prog.underlying 170 = some (.struct (Tryz.prog.fieldsOf 170)) := by kernel_rfl
  have hp : Tryz.prog.stoodInHeld 170 = false := by kernel_rfl
  rw [run_neq_struct, show (10000 : Nat) = 9999 + 1 from rfl, run_equalIn_agg w 9999 170 _ _ hS hp]
  simp only [Program.fieldsOf, Tryz.underlying170]
  have u3 := Tryz.underlying3
  have u9 := Tryz.underlying9
  clear hS hp
  go_simp
theorem guard_class : Tryz.prog.eqGuardType Tryz.prog.depth 170 = false := by kernel_rfl
theorem equal_class_any (l : List Cs) (A1 A2 : Option Addr) (n c1 c2 : Nat) (w : World) (h1 : SlT csEnc 2 170 w A1 n l) (h2 : SlT csEnc 2 170 w A2 n l) (hn : n ≤ 1000000) :
  Calls Tryz.prog 133 #[.slice A1 n c1, .slice A2 n c2] w (fun e w' => e = .returned (.bool true) ∧ w.grownBy w' none) := by
 refine gw_enter ⟨26, w, none, []⟩ Tryz.func133 rfl Tryz.ntmps133 rfl (mem0 (X := [SlOld csEnc 2 170 w.heap.size none A1 n l, SlOld csEnc 2 170 w.heap.size none A2 n l]) (allF_cons h1.old (allF_cons h2.old allF_nil)) (allL_cons SlOld.lasts (allL_cons SlOld.lasts allL_nil))) ?_
 refine sr_ ?_
 have hlen := h1.len
 refine sg_ rfl (nn_ (gw_seq (sr_ (mv_ rfl (wl_ov (ov_len es62 rfl) rfl (mv_ rfl (wl_ov (ov_len es62 rfl) rfl (wl_ov (ov_neq rfl rfl) rfl ?_))))))))
 refine wl_set 10 (v' := .bool false) rfl (congrArg Value.bool (by simp)) ?_
 refine nn_ (cf_ rfl (gw_skip (nx_then (gw_seq (sr_ (mv_ rfl (wl_ov (ov_len es62 rfl) rfl (mv_ rfl (nn_ (gw_block ?_))))))))))
 refine gw_loop (γ := Nat) (fun (k : Nat) => k ≤ n) (fun (k : Nat) => [(0, .slice A1 n c1), (1, .slice A2 n c2), (12, .int .i64 ((n : Nat) : Int)), (13, .int .i64 ((k : Nat) : Int))]) (fun (k : Nat) => fun _ => True) (fun (k : Nat) => []) (fun (k : Nat) => []) (fun (k : Nat) => [SlOld csEnc 2 170 w.heap.size none A1 n l, SlOld csEnc 2 170 w.heap.size none A2 n l]) (fun (k : Nat) => n - k) 0 (Nat.zero_le _) ⟨rfl, rfl, rfl, rfl, trivial⟩ (fun _ hm => hm.pick [] [] [0, 1] rfl rfl) ?_
 intro k hinv
 replace hinv : k ≤ n := hinv
 refine sr_ (wl_ov (ov_lss rfl rfl) rfl (nn_ (gw_seq ?_)))
 refine gw_cond rfl (fun hh => ?_) (fun hh => ?_)
 ·have hk : ((k : Nat) : Int) < ((n : Nat) : Int) := by simpa using hh
  clear hh
  refine gw_skip (nx_then (gw_seq (gw_block (sr_ ?_))))
  obtain ⟨b1, o1, hA, _, _⟩ := h1.get (by omega)
  subst hA
  obtain ⟨b2, o2, hA, _, _⟩ := h2.get (by omega)
  subst hA
  obtain ⟨x, hx⟩ : ∃ x, l[k]? = some x := ⟨_, List.getElem?_eq_getElem (by omega)⟩
  obtain ⟨x0, x1⟩ := x
  refine mv_ rfl (sg_ rfl (nn_ (gw_seq ?_)))
  refine gd (fun wz => (SlOld csEnc 2 170 w.heap.size none (some ⟨b1, o1, none⟩) n l) wz ∧ (SlOld csEnc 2 170 w.heap.size none (some ⟨b2, o2, none⟩) n l) wz ∧ True) mixed (fun _ hm => ⟨hm.fa 0, hm.fa 1, trivial⟩) fun z => ?_
  refine wt 0 9 1 rfl z (ov_move rfl) ?_
  refine wt 1 9 3 rfl z (ov_move rfl) ?_
  refine wt 2 9 7 rfl z (ov_index (j := k) es62 rfl rfl (by omega)) ?_
  refine wt 3 9 15 rfl z (ov_elem (vs := [.string x0, .string x1]) rz170 rfl (fun _ hm => (hm.1).1) hx rfl rfl) ?_
  refine wt 4 9 31 rfl z (ov_move rfl) ?_
  refine wt 5 9 63 rfl z (ov_move rfl) ?_
  refine wt 6 9 127 rfl z (ov_index (j := k) es62 rfl rfl (by omega)) ?_
  refine wt 7 9 255 rfl z (ov_elem (vs := [.string x0, .string x1]) rz170 rfl (fun _ hm => (hm.2.1).1) hx rfl rfl) ?_
  refine wt 8 9 511 rfl z (ov_bin rfl rfl (cmp_agg guard_class (fun wx => same_class_neq x0 x1 wx))) ?_
  refine wa_done (by kernel_rfl) ?_
  refine nx_then (cf_ rfl (gw_skip (nx_blk_nrm (nx_then (gw_region (ad_ rfl rfl (mv_ rfl (wl_nil ?_))))))))
  exact nx_round (k + 1) (by omega) (by omega) ⟨rfl, rfl, rfl, (some_int (by omega)), trivial⟩ (fun _ hm => hm.pick [] [] [0, 1] rfl rfl)
 have hk : ¬ (((k : Nat) : Int) < ((n : Nat) : Int)) := by simpa using hh
 clear hh
 refine gw_exit ?_
 refine nx_then_exit (nx_then_exit ?_)
 refine nx_blk_here ?_
 refine nx_then (sr_ (sg_ rfl (nn_ ?_)))
 refine gw_ret ?_
 refine nx_ret1 rfl rfl fun wx hm => ?_
 exact ⟨rfl, hm.g⟩
set_option maxRecDepth 100000 in
theorem same_vehicle_neq (x0 : ByteArray) (x1 : ByteArray) (w : World) : (binOp .neq 158 (.agg #[.string x0, .string x1]) (.agg #[.string x0, .string x1])).run Tryz.prog w = .ok (.bool false) w := by
  have hS : Tryz.prog.underlying 158 = some (.struct (Tryz.prog.fieldsOf 158)) := by kernel_rfl
  have hp : Tryz.prog.stoodInHeld 158 = false := by kernel_rfl
  rw [run_neq_struct, show (10000 : Nat) = 9999 + 1 from rfl, run_equalIn_agg w 9999 158 _ _ hS hp]
  simp only [Program.fieldsOf, Tryz.underlying158]
  have u3 := Tryz.underlying3
  have u9 := Tryz.underlying9
  clear hS hp
  go_simp
theorem guard_vehicle : Tryz.prog.eqGuardType Tryz.prog.depth 158 = false := by kernel_rfl
theorem equal_vehicle_any (l : List Vh) (A1 A2 : Option Addr) (n c1 c2 : Nat) (w : World) (h1 : SlT vhEnc 2 158 w A1 n l) (h2 : SlT vhEnc 2 158 w A2 n l) (hn : n ≤ 1000000) :
  Calls Tryz.prog 134 #[.slice A1 n c1, .slice A2 n c2] w (fun e w' => e = .returned (.bool true) ∧ w.grownBy w' none) := by
 refine gw_enter ⟨26, w, none, []⟩ Tryz.func134 rfl Tryz.ntmps134 rfl (mem0 (X := [SlOld vhEnc 2 158 w.heap.size none A1 n l, SlOld vhEnc 2 158 w.heap.size none A2 n l]) (allF_cons h1.old (allF_cons h2.old allF_nil)) (allL_cons SlOld.lasts (allL_cons SlOld.lasts allL_nil))) ?_
 refine sr_ ?_
 have hlen := h1.len
 refine sg_ rfl (nn_ (gw_seq (sr_ (mv_ rfl (wl_ov (ov_len es63 rfl) rfl (mv_ rfl (wl_ov (ov_len es63 rfl) rfl (wl_ov (ov_neq rfl rfl) rfl ?_))))))))
 refine wl_set 10 (v' := .bool false) rfl (congrArg Value.bool (by simp)) ?_
 refine nn_ (cf_ rfl (gw_skip (nx_then (gw_seq (sr_ (mv_ rfl (wl_ov (ov_len es63 rfl) rfl (mv_ rfl (nn_ (gw_block ?_))))))))))
 refine gw_loop (γ := Nat) (fun (k : Nat) => k ≤ n) (fun (k : Nat) => [(0, .slice A1 n c1), (1, .slice A2 n c2), (12, .int .i64 ((n : Nat) : Int)), (13, .int .i64 ((k : Nat) : Int))]) (fun (k : Nat) => fun _ => True) (fun (k : Nat) => []) (fun (k : Nat) => []) (fun (k : Nat) => [SlOld vhEnc 2 158 w.heap.size none A1 n l, SlOld vhEnc 2 158 w.heap.size none A2 n l]) (fun (k : Nat) => n - k) 0 (Nat.zero_le _) ⟨rfl, rfl, rfl, rfl, trivial⟩ (fun _ hm => hm.pick [] [] [0, 1] rfl rfl) ?_
 intro k hinv
 replace hinv : k ≤ n := hinv
 refine sr_ (wl_ov (ov_lss rfl rfl) rfl (nn_ (gw_seq ?_)))
 refine gw_cond rfl (fun hh => ?_) (fun hh => ?_)
 ·have hk : ((k : Nat) : Int) < ((n : Nat) : Int) := by simpa using hh
  clear hh
  refine gw_skip (nx_then (gw_seq (gw_block (sr_ ?_))))
  obtain ⟨b1, o1, hA, _, _⟩ := h1.get (by omega)
  subst hA
  obtain ⟨b2, o2, hA, _, _⟩ := h2.get (by omega)
  subst hA
  obtain ⟨x, hx⟩ : ∃ x, l[k]? = some x := ⟨_, List.getElem?_eq_getElem (by omega)⟩
  obtain ⟨x0, x1⟩ := x
  refine mv_ rfl (sg_ rfl (nn_ (gw_seq ?_)))
  refine gd (fun wz => (SlOld vhEnc 2 158 w.heap.size none (some ⟨b1, o1, none⟩) n l) wz ∧ (SlOld vhEnc 2 158 w.heap.size none (some ⟨b2, o2, none⟩) n l) wz ∧ True) mixed (fun _ hm => ⟨hm.fa 0, hm.fa 1, trivial⟩) fun z => ?_
  refine wt 0 9 1 rfl z (ov_move rfl) ?_
  refine wt 1 9 3 rfl z (ov_move rfl) ?_
  refine wt 2 9 7 rfl z (ov_index (j := k) es63 rfl rfl (by omega)) ?_
  refine wt 3 9 15 rfl z (ov_elem (vs := [.string x0, .string x1]) rz158 rfl (fun _ hm => (hm.1).1) hx rfl rfl) ?_
  refine wt 4 9 31 rfl z (ov_move rfl) ?_
  refine wt 5 9 63 rfl z (ov_move rfl) ?_
  refine wt 6 9 127 rfl z (ov_index (j := k) es63 rfl rfl (by omega)) ?_
  refine wt 7 9 255 rfl z (ov_elem (vs := [.string x0, .string x1]) rz158 rfl (fun _ hm => (hm.2.1).1) hx rfl rfl) ?_
  refine wt 8 9 511 rfl z (ov_bin rfl rfl (cmp_agg guard_vehicle (fun wx => same_vehicle_neq x0 x1 wx))) ?_
  refine wa_done (by kernel_rfl) ?_
  refine nx_then (cf_ rfl (gw_skip (nx_blk_nrm (nx_then (gw_region (ad_ rfl rfl (mv_ rfl (wl_nil ?_))))))))
  exact nx_round (k + 1) (by omega) (by omega) ⟨rfl, rfl, rfl, (some_int (by omega)), trivial⟩ (fun _ hm => hm.pick [] [] [0, 1] rfl rfl)
 have hk : ¬ (((k : Nat) : Int) < ((n : Nat) : Int)) := by simpa using hh
 clear hh
 refine gw_exit ?_
 refine nx_then_exit (nx_then_exit ?_)
 refine nx_blk_here ?_
 refine nx_then (sr_ (sg_ rfl (nn_ ?_)))
 refine gw_ret ?_
 refine nx_ret1 rfl rfl fun wx hm => ?_
 exact ⟨rfl, hm.g⟩
set_option maxRecDepth 100000 in
theorem same_plate_neq (x0 : Int) (x1 : ByteArray) (x2 : ByteArray) (w : World) : (binOp .neq 161 (.agg #[.int .i64 x0, .string x1, .string x2]) (.agg #[.int .i64 x0, .string x1, .string x2])).run Tryz.prog w = .ok (.bool false) w := by
  have hS : Tryz.prog.underlying 161 = some (.struct (Tryz.prog.fieldsOf 161)) := by kernel_rfl
  have hp : Tryz.prog.stoodInHeld 161 = false := by kernel_rfl
  rw [run_neq_struct, show (10000 : Nat) = 9999 + 1 from rfl, run_equalIn_agg w 9999 161 _ _ hS hp]
  simp only [Program.fieldsOf, Tryz.underlying161]
  have u3 := Tryz.underlying3
  have u9 := Tryz.underlying9
  clear hS hp
  go_simp
theorem guard_plate : Tryz.prog.eqGuardType Tryz.prog.depth 161 = false := by kernel_rfl
theorem equal_plate_any (l : List Pl) (A1 A2 : Option Addr) (n c1 c2 : Nat) (w : World) (h1 : SlT plEnc 3 161 w A1 n l) (h2 : SlT plEnc 3 161 w A2 n l) (hn : n ≤ 1000000) :
  Calls Tryz.prog 135 #[.slice A1 n c1, .slice A2 n c2] w (fun e w' => e = .returned (.bool true) ∧ w.grownBy w' none) := by
 refine gw_enter ⟨26, w, none, []⟩ Tryz.func135 rfl Tryz.ntmps135 rfl (mem0 (X := [SlOld plEnc 3 161 w.heap.size none A1 n l, SlOld plEnc 3 161 w.heap.size none A2 n l]) (allF_cons h1.old (allF_cons h2.old allF_nil)) (allL_cons SlOld.lasts (allL_cons SlOld.lasts allL_nil))) ?_
 refine sr_ ?_
 have hlen := h1.len
 refine sg_ rfl (nn_ (gw_seq (sr_ (mv_ rfl (wl_ov (ov_len es64 rfl) rfl (mv_ rfl (wl_ov (ov_len es64 rfl) rfl (wl_ov (ov_neq rfl rfl) rfl ?_))))))))
 refine wl_set 10 (v' := .bool false) rfl (congrArg Value.bool (by simp)) ?_
 refine nn_ (cf_ rfl (gw_skip (nx_then (gw_seq (sr_ (mv_ rfl (wl_ov (ov_len es64 rfl) rfl (mv_ rfl (nn_ (gw_block ?_))))))))))
 refine gw_loop (γ := Nat) (fun (k : Nat) => k ≤ n) (fun (k : Nat) => [(0, .slice A1 n c1), (1, .slice A2 n c2), (12, .int .i64 ((n : Nat) : Int)), (13, .int .i64 ((k : Nat) : Int))]) (fun (k : Nat) => fun _ => True) (fun (k : Nat) => []) (fun (k : Nat) => []) (fun (k : Nat) => [SlOld plEnc 3 161 w.heap.size none A1 n l, SlOld plEnc 3 161 w.heap.size none A2 n l]) (fun (k : Nat) => n - k) 0 (Nat.zero_le _) ⟨rfl, rfl, rfl, rfl, trivial⟩ (fun _ hm => hm.pick [] [] [0, 1] rfl rfl) ?_
 intro k hinv
 replace hinv : k ≤ n := hinv
 refine sr_ (wl_ov (ov_lss rfl rfl) rfl (nn_ (gw_seq ?_)))
 refine gw_cond rfl (fun hh => ?_) (fun hh => ?_)
 ·have hk : ((k : Nat) : Int) < ((n : Nat) : Int) := by simpa using hh
  clear hh
  refine gw_skip (nx_then (gw_seq (gw_block (sr_ ?_))))
  obtain ⟨b1, o1, hA, _, _⟩ := h1.get (by omega)
  subst hA
  obtain ⟨b2, o2, hA, _, _⟩ := h2.get (by omega)
  subst hA
  obtain ⟨x, hx⟩ : ∃ x, l[k]? = some x := ⟨_, List.getElem?_eq_getElem (by omega)⟩
  obtain ⟨x0, x1, x2⟩ := x
  refine mv_ rfl (sg_ rfl (nn_ (gw_seq ?_)))
  refine gd (fun wz => (SlOld plEnc 3 161 w.heap.size none (some ⟨b1, o1, none⟩) n l) wz ∧ (SlOld plEnc 3 161 w.heap.size none (some ⟨b2, o2, none⟩) n l) wz ∧ True) mixed (fun _ hm => ⟨hm.fa 0, hm.fa 1, trivial⟩) fun z => ?_
  refine wt 0 9 1 rfl z (ov_move rfl) ?_
  refine wt 1 9 3 rfl z (ov_move rfl) ?_
  refine wt 2 9 7 rfl z (ov_index (j := k) es64 rfl rfl (by omega)) ?_
  refine wt 3 9 15 rfl z (ov_elem (vs := [.int .i64 x0, .string x1, .string x2]) rz161 rfl (fun _ hm => (hm.1).1) hx rfl rfl) ?_
  refine wt 4 9 31 rfl z (ov_move rfl) ?_
  refine wt 5 9 63 rfl z (ov_move rfl) ?_
  refine wt 6 9 127 rfl z (ov_index (j := k) es64 rfl rfl (by omega)) ?_
  refine wt 7 9 255 rfl z (ov_elem (vs := [.int .i64 x0, .string x1, .string x2]) rz161 rfl (fun _ hm => (hm.2.1).1) hx rfl rfl) ?_
  refine wt 8 9 511 rfl z (ov_bin rfl rfl (cmp_agg guard_plate (fun wx => same_plate_neq x0 x1 x2 wx))) ?_
  refine wa_done (by kernel_rfl) ?_
  refine nx_then (cf_ rfl (gw_skip (nx_blk_nrm (nx_then (gw_region (ad_ rfl rfl (mv_ rfl (wl_nil ?_))))))))
  exact nx_round (k + 1) (by omega) (by omega) ⟨rfl, rfl, rfl, (some_int (by omega)), trivial⟩ (fun _ hm => hm.pick [] [] [0, 1] rfl rfl)
 have hk : ¬ (((k : Nat) : Int) < ((n : Nat) : Int)) := by simpa using hh
 clear hh
 refine gw_exit ?_
 refine nx_then_exit (nx_then_exit ?_)
 refine nx_blk_here ?_
 refine nx_then (sr_ (sg_ rfl (nn_ ?_)))
 refine gw_ret ?_
 refine nx_ret1 rfl rfl fun wx hm => ?_
 exact ⟨rfl, hm.g⟩
theorem sameFleet_any (sl : List St) (cl : List Cs) (vl : List Vh) (pl : List Pl) (A0 A1 A2 A3 B0 B1 B2 B3 : Option Addr) (n0 n1 n2 n3 a0 a1 a2 a3 b0 b1 b2 b3 : Nat) (w : World) (hsl0 : SlT stEnc 15 168 w A0 n0 sl) (hcl0 : SlT csEnc 2 170 w A1 n1 cl) (hvl0 : SlT vhEnc 2 158 w A2 n2 vl) (hpl0 : SlT plEnc 3 161 w A3 n3 pl) (hsl1 : SlT stEnc 15 168 w B0 n0 sl) (hcl1 : SlT csEnc 2 170 w B1 n1 cl) (hvl1 : SlT vhEnc 2 158 w B2 n2 vl) (hpl1 : SlT plEnc 3 161 w B3 n3 pl) (hok : ∀ x ∈ sl, StOk x) (hn0 : n0 ≤ 1000000) (hn1 : n1 ≤ 1000000) (hn2 : n2 ≤ 1000000) (hn3 : n3 ≤ 1000000) :
  Calls Tryz.prog 46 #[.agg #[.slice A0 n0 a0, .slice A1 n1 a1, .slice A2 n2 a2, .slice A3 n3 a3], .agg #[.slice B0 n0 b0, .slice B1 n1 b1, .slice B2 n2 b2, .slice B3 n3 b3]] w (fun e w' => e = .returned (.bool true) ∧ w.grownBy w' none) := by
 refine gw_enter ⟨31, w, none, []⟩ Tryz.func46 rfl Tryz.ntmps46 rfl (mem0 (X := [SlOld stEnc 15 168 w.heap.size none A0 n0 sl, SlOld csEnc 2 170 w.heap.size none A1 n1 cl, SlOld vhEnc 2 158 w.heap.size none A2 n2 vl, SlOld plEnc 3 161 w.heap.size none A3 n3 pl, SlOld stEnc 15 168 w.heap.size none B0 n0 sl, SlOld csEnc 2 170 w.heap.size none B1 n1 cl, SlOld vhEnc 2 158 w.heap.size none B2 n2 vl, SlOld plEnc 3 161 w.heap.size none B3 n3 pl]) (allF_cons hsl0.old (allF_cons hcl0.old (allF_cons hvl0.old (allF_cons hpl0.old (allF_cons hsl1.old (allF_cons hcl1.old (allF_cons hvl1.old (allF_cons hpl1.old allF_nil)))))))) (allL_cons SlOld.lasts (allL_cons SlOld.lasts (allL_cons SlOld.lasts (allL_cons SlOld.lasts (allL_cons SlOld.lasts (allL_cons SlOld.lasts (allL_cons SlOld.lasts (allL_cons SlOld.lasts allL_nil))))))))) ?_
 refine sr_ ?_
 refine wl_box rfl rfl rfl fun g1 => ?_
 refine wl_box rfl rfl rfl fun g2 => ?_
 refine sg_ rfl (nn_ (sr_ (fd_ fo66_0 rfl rfl (lk_ sc61 1 rfl rfl rfl (fd_ fo66_0 rfl rfl (lk_ sc61 0 rfl rfl rfl ?_))))))
 refine wl_callv rfl cb132 rfl rfl (fun wx hm => (equal_station_any sl A0 B0 n0 a0 b0 wx (hm.fact 0 rfl).1 (hm.fact 4 rfl).1 hok (by omega))) ?_
 refine mv_ rfl (wl_guard_on rfl rfl rfl (fd_ fo66_1 rfl rfl (wl_guard_on rfl rfl rfl (lk_ sc62 1 rfl rfl rfl (wl_guard_on rfl rfl rfl (fd_ fo66_1 rfl rfl (wl_guard_on rfl rfl rfl (lk_ sc62 0 rfl rfl rfl (wl_guard_on rfl rfl rfl ?_)))))))))
 refine wl_callv rfl cb133 rfl rfl (fun wx hm => (equal_class_any cl A1 B1 n1 a1 b1 wx (hm.fact 1 rfl).1 (hm.fact 5 rfl).1 (by omega))) ?_
 refine pt_ rfl rfl (mv_ rfl (wl_guard_on rfl rfl rfl (fd_ fo66_2 rfl rfl (wl_guard_on rfl rfl rfl (lk_ sc63 1 rfl rfl rfl (wl_guard_on rfl rfl rfl (fd_ fo66_2 rfl rfl (wl_guard_on rfl rfl rfl (lk_ sc63 0 rfl rfl rfl (wl_guard_on rfl rfl rfl ?_))))))))))
 refine wl_callv rfl cb134 rfl rfl (fun wx hm => (equal_vehicle_any vl A2 B2 n2 a2 b2 wx (hm.fact 2 rfl).1 (hm.fact 6 rfl).1 (by omega))) ?_
 refine pt_ rfl rfl (mv_ rfl (wl_guard_on rfl rfl rfl (fd_ fo66_3 rfl rfl (wl_guard_on rfl rfl rfl (lk_ sc64 1 rfl rfl rfl (wl_guard_on rfl rfl rfl (fd_ fo66_3 rfl rfl (wl_guard_on rfl rfl rfl (lk_ sc64 0 rfl rfl rfl (wl_guard_on rfl rfl rfl ?_))))))))))
 refine wl_callv rfl cb135 rfl rfl (fun wx hm => (equal_plate_any pl A3 B3 n3 a3 b3 wx (hm.fact 3 rfl).1 (hm.fact 7 rfl).1 (by omega))) ?_
 refine pt_ rfl rfl (sg_ rfl (nn_ ?_))
 refine gw_ret ?_
 refine nx_ret1 rfl rfl fun wx hm => ?_
 exact ⟨rfl, hm.g⟩
theorem ftGen_any (w : World) (B sb m : Nat) (hS : Strm 25 w B sb m) (hm : m ≤ 1000000) (htx : TxtO w.heap.size (some sb) w) :
  Calls Tryz.prog 43 #[.pointer (some ⟨sb, 0, none⟩)] w (fun e w' => ∃ v : ByteArray, e = .returned (.string v) ∧ v.size ≤ 30000 ∧ Strm 25 w' B sb (m + 1000) ∧ w.grownBy w' (some sb)) := by
 refine gw_enter ⟨17, w, (some sb), [168, 170, 158, 161]⟩ Tryz.func43 rfl Tryz.ntmps43 rfl (memS (X := [TxtO w.heap.size (some sb)]) hS (allF_cons htx allF_nil) (allL_cons TxtO.lasts allL_nil)) ?_
 refine sr_ (sg_ rfl (nn_ (sr_ (mv_ rfl ?_))))
 refine wl_calls (γ := Option Addr × Option Addr × Option Addr × Option Addr × Nat × Nat × Nat × Nat × Nat × Nat × Nat × List St × List Cs × List Vh × List Pl) (val := (fun g => .agg #[.slice g.1 g.2.2.2.2.1 g.2.2.2.2.2.1, .slice g.2.1 4 g.2.2.2.2.2.2.1, .slice g.2.2.1 g.2.2.2.2.2.2.2.1 g.2.2.2.2.2.2.2.2.1, .slice g.2.2.2.1 g.2.2.2.2.2.2.2.2.2.1 g.2.2.2.2.2.2.2.2.2.2.1])) (φ := (fun g => RfOk g.2.2.2.2.2.2.2.2.2.2.2.1 g.2.2.2.2.2.2.2.2.2.2.2.2.1 g.2.2.2.2.2.2.2.2.2.2.2.2.2.1 g.2.2.2.2.2.2.2.2.2.2.2.2.2.2 g.2.2.2.2.1 g.2.2.2.2.2.2.2.1 g.2.2.2.2.2.2.2.2.2.1 ∧ fleetE g.2.2.2.2.2.2.2.2.2.2.2.1 g.2.2.2.2.2.2.2.2.2.2.2.2.1 g.2.2.2.2.2.2.2.2.2.2.2.2.2.1 g.2.2.2.2.2.2.2.2.2.2.2.2.2.2 = 0)) (Y := (fun g => fun wy => SlT stEnc 15 168 wy g.1 g.2.2.2.2.1 g.2.2.2.2.2.2.2.2.2.2.2.1 ∧ SlT csEnc 2 170 wy g.2.1 4 g.2.2.2.2.2.2.2.2.2.2.2.2.1 ∧ SlT vhEnc 2 158 wy g.2.2.1 g.2.2.2.2.2.2.2.1 g.2.2.2.2.2.2.2.2.2.2.2.2.2.1 ∧ SlT plEnc 3 161 wy g.2.2.2.1 g.2.2.2.2.2.2.2.2.2.1 g.2.2.2.2.2.2.2.2.2.2.2.2.2.2)) (m' := m + 300) rfl cb124 rfl rfl rfl rfl (fun wx hm => (rightFleet_anyF wx B sb _ hm.k (by omega)).mono fun _ _ ⟨sA, cA, vA, pA, sn, sc, cc, vn, vc, pn, pc, sl, cl, vl, pl, he, ⟨hok, hz⟩, hS, hg, ho1, ho2, ho3, hc⟩ => ⟨(sA, cA, vA, pA, sn, sc, cc, vn, vc, pn, pc, sl, cl, vl, pl), he, ⟨hok, hz⟩, hS, hg, SlT.ofOwnL stEnc_lenL (fun x hx => stB_ok (hok.1.2.1 x hx)) ho1 hok.1.1, hc, SlT.ofOwn vh_len ho2 hok.2.2.1.1, SlT.ofOwn pl_len ho3 hok.2.2.2.1⟩) (fun _ => (SlT.lasts2 rfl).and_ ((SlT.lasts2 rfl).and_ ((SlT.lasts2 rfl).and_ (SlT.lasts2 rfl)))) ?_
 rintro ⟨sA, cA, vA, pA, sn, sc, cc, vn, vc, pn, pc, sl, cl, vl, pl⟩ hfl
 dsimp only at hfl ⊢
 obtain ⟨⟨⟨hsl, hsB, hs1, hs3⟩, ⟨hcl4, hcok⟩, ⟨hvl, hvB, hvn4⟩, hpl, hpB, hpn5⟩, h0⟩ := hfl
 have hsok : ∀ x ∈ sl, StOk x := fun x hx => stB_ok (hsB x hx)
 have hvok : ∀ x ∈ vl, VhOk x := fun x hx => vhB_ok (hvB x hx)
 have hpok : ∀ x ∈ pl, PlOk x := fun x hx => plB_ok (hpB x hx)
 obtain ⟨hfb, hfc, hfd⟩ := fl_len (sl := sl) (cl := cl) (vl := vl) (pl := pl) (ftB_of h0) hsok
 have hmk := mkB_sz (flD sl cl vl pl)
 refine wl_callv rfl cb42 rfl rfl (fun wx hm => (ftLines_any sl cl vl pl sA cA vA pA sn sc 4 cc vn vc pn pc wx (hm.fact 0 rfl).1 (hm.fact 0 rfl).2.1 (hm.fact 0 rfl).2.2.1 (hm.fact 0 rfl).2.2.2 hsok hcok hvok hpok (by omega) (by omega) (by omega) (by omega) (hm.fact 1 rfl).1 h0 (by omega))) ?_
 refine sg_ rfl (nn_ (gw_seq (sr_ (mv_ rfl ?_))))
 refine wl_buildSlice (e := 3) (cs := [.int .i64 0, .int .i64 0, .int .i64 1, .int .i64 2]) rfl (by kernel_rfl) rfl fun g1 => ?_
 refine wl_got (γ := Int) (val := fun v => .int .i64 v) (φ := fun v => v ∈ ([0, 0, 1, 2] : List Int)) rfl cb34 rfl rfl rfl rfl (fun wx hm => (pick_any [0, 0, 1, 2] _ _ _ wx B sb _ hm.k (by omega) (by simp) (by simp) (hm.blkI 0 rfl) (hm.neRow 0 rfl rfl))) fun pv hpv => ?_
 have bpv : 0 ≤ pv ∧ pv ≤ 2 := mem_rng hpv (by decide)
 have bpv0 := bpv.1
 have bpv1 := bpv.2
 clear bpv
 clear hpv
 obtain hv2 | hv2 | hv2 : pv = 0 ∨ pv = 1 ∨ pv = 2 := (by omega)
 ·subst hv2
  refine mv_ rfl (nn_ (gw_block ?_))
  refine gw_rounds 1 ?_
  refine gr_next ?_
  refine sr_ (wl_ov (ov_lss rfl rfl) rfl ?_)
  refine wl_set 11 (v' := .bool false) rfl (congrArg Value.bool (by decide)) ?_
  refine nn_ (gw_seq (cf_ rfl ?_))
  refine gw_exit ?_
  refine nx_then_exit (nx_then_exit ?_)
  refine nx_blk_here ?_
  refine nx_then (sr_ (mv_ rfl (sg_ rfl (nn_ ?_))))
  refine gw_ret ?_
  refine nx_ret1 rfl rfl fun wx hm => ?_
  exact ⟨(mkB (flD sl cl vl pl)), rfl, by omega, hm.k.more (by omega), hm.g⟩
 ·subst hv2
  refine mv_ rfl (nn_ (gw_block ?_))
  refine gw_rounds 2 ?_
  refine gr_next ?_
  refine sr_ (wl_ov (ov_lss rfl rfl) rfl ?_)
  refine wl_set 11 (v' := .bool true) rfl (congrArg Value.bool (by decide)) ?_
  refine nn_ (gw_seq (ct_ rfl (gw_skip (nx_then (gw_seq (gw_block (gw_region (mv_ rfl (mv_ rfl ?_)))))))))
  refine wl_calls (γ := ByteArray) (val := (fun g => .string g)) (φ := (fun g => g.size ≤ (mkB (flD sl cl vl pl)).size + 15)) (Y := (fun g => fun _ => True)) (m' := m + 300 + 1 + 3) rfl cb35 rfl rfl rfl rfl (fun wx hm => (by have h := gchanged_any (mkB (flD sl cl vl pl)) ⟨#[32, 10, 45, 48, 45, 57, 65, 66, 49, 118, 115]⟩ wx B sb _ hm.k (by omega) (by omega) (by decide +kernel); exact h.mono fun _ _ ⟨v, he, hv, hS, hg⟩ => ⟨v, he, Nat.le_trans hv (by rw [show (⟨#[32, 10, 45, 48, 45, 57, 65, 66, 49, 118, 115]⟩ : ByteArray).size = 11 from rfl]; omega), hS, hg, trivial⟩)) (fun _ => Lasts2.true_) ?_
  rintro u1 hs2
  refine sg_ rfl (wl_nil (nx_blk_nrm (nx_then (gw_region (ad_ rfl rfl ?_)))))
  refine wl_set 15 (v' := .int .i64 1) rfl rfl ?_
  refine mv_ rfl (wl_nil ?_)
  refine nx_next ?_
  refine gr_next ?_
  refine sr_ (wl_ov (ov_lss rfl rfl) rfl ?_)
  refine wl_set 11 (v' := .bool false) rfl (congrArg Value.bool (by decide)) ?_
  refine nn_ (gw_seq (cf_ rfl ?_))
  refine gw_exit ?_
  refine nx_then_exit (nx_then_exit ?_)
  refine nx_blk_here ?_
  refine nx_then (sr_ (mv_ rfl (sg_ rfl (nn_ ?_))))
  refine gw_ret ?_
  refine nx_ret1 rfl rfl fun wx hm => ?_
  exact ⟨u1, rfl, by omega, hm.k.more (by omega), hm.g⟩
 subst hv2
 refine mv_ rfl (nn_ (gw_block ?_))
 refine gw_rounds 3 ?_
 refine gr_next ?_
 refine sr_ (wl_ov (ov_lss rfl rfl) rfl ?_)
 refine wl_set 11 (v' := .bool true) rfl (congrArg Value.bool (by decide)) ?_
 refine nn_ (gw_seq (ct_ rfl (gw_skip (nx_then (gw_seq (gw_block (gw_region (mv_ rfl (mv_ rfl ?_)))))))))
 refine wl_calls (γ := ByteArray) (val := (fun g => .string g)) (φ := (fun g => g.size ≤ (mkB (flD sl cl vl pl)).size + 15)) (Y := (fun g => fun _ => True)) (m' := m + 300 + 1 + 3) rfl cb35 rfl rfl rfl rfl (fun wx hm => (by have h := gchanged_any (mkB (flD sl cl vl pl)) ⟨#[32, 10, 45, 48, 45, 57, 65, 66, 49, 118, 115]⟩ wx B sb _ hm.k (by omega) (by omega) (by decide +kernel); exact h.mono fun _ _ ⟨v, he, hv, hS, hg⟩ => ⟨v, he, Nat.le_trans hv (by rw [show (⟨#[32, 10, 45, 48, 45, 57, 65, 66, 49, 118, 115]⟩ : ByteArray).size = 11 from rfl]; omega), hS, hg, trivial⟩)) (fun _ => Lasts2.true_) ?_
 rintro u1 hs2
 refine sg_ rfl (wl_nil (nx_blk_nrm (nx_then (gw_region (ad_ rfl rfl ?_)))))
 refine wl_set 15 (v' := .int .i64 1) rfl rfl ?_
 refine mv_ rfl (wl_nil ?_)
 refine nx_next ?_
 refine gr_next ?_
 refine sr_ (wl_ov (ov_lss rfl rfl) rfl ?_)
 refine wl_set 11 (v' := .bool true) rfl (congrArg Value.bool (by decide)) ?_
 refine nn_ (gw_seq (ct_ rfl (gw_skip (nx_then (gw_seq (gw_block (gw_region (mv_ rfl (mv_ rfl ?_)))))))))
 refine wl_calls (γ := ByteArray) (val := (fun g => .string g)) (φ := (fun g => g.size ≤ (u1).size + 15)) (Y := (fun g => fun _ => True)) (m' := m + 300 + 1 + 3 + 3) rfl cb35 rfl rfl rfl rfl (fun wx hm => (by have h := gchanged_any u1 ⟨#[32, 10, 45, 48, 45, 57, 65, 66, 49, 118, 115]⟩ wx B sb _ hm.k (by omega) (by omega) (by decide +kernel); exact h.mono fun _ _ ⟨v, he, hv, hS, hg⟩ => ⟨v, he, Nat.le_trans hv (by rw [show (⟨#[32, 10, 45, 48, 45, 57, 65, 66, 49, 118, 115]⟩ : ByteArray).size = 11 from rfl]; omega), hS, hg, trivial⟩)) (fun _ => Lasts2.true_) ?_
 rintro u2 hs3
 refine sg_ rfl (wl_nil (nx_blk_nrm (nx_then (gw_region (ad_ rfl rfl ?_)))))
 refine wl_set 15 (v' := .int .i64 2) rfl rfl ?_
 refine mv_ rfl (wl_nil ?_)
 refine nx_next ?_
 refine gr_next ?_
 refine sr_ (wl_ov (ov_lss rfl rfl) rfl ?_)
 refine wl_set 11 (v' := .bool false) rfl (congrArg Value.bool (by decide)) ?_
 refine nn_ (gw_seq (cf_ rfl ?_))
 refine gw_exit ?_
 refine nx_then_exit (nx_then_exit ?_)
 refine nx_blk_here ?_
 refine nx_then (sr_ (mv_ rfl (sg_ rfl (nn_ ?_))))
 refine gw_ret ?_
 refine nx_ret1 rfl rfl fun wx hm => ?_
 exact ⟨u2, rfl, by omega, hm.k.more (by omega), hm.g⟩
theorem fleetTexts_walk (a0 : Option Addr) (len0 cap0 : Nat) (z0 : List Int) (w : World) (hR : RowIn w a0 len0 cap0 z0) (htx : TxtW w) :
  Calls Tryz.prog 6 #[.slice a0 len0 cap0] w fun e w' => e = .returned (.bool true) ∧ Below w.heap.size w w' := by
 refine gw_enter ⟨76, w, none, []⟩ Tryz.func6 rfl Tryz.ntmps6 rfl (mem0 (X := []) allF_nil allL_nil) ?_
 refine sr_ (sg_ rfl (nn_ (sr_ (mv_ rfl ?_))))
 refine wl_ov (ov_build (cs := [.slice a0 len0 cap0, .int .i64 0]) rfl (by kernel_rfl)) rfl ?_
 refine wl_box rfl rfl rfl fun sb => ?_
 refine sg_ rfl (nn_ (sr_ (mv_ rfl ?_)))
 refine wl_law [168, 170, 158, 161] hR 0 rfl fun w1 B hg1 hsb => ?_
 refine wl_also (Y := TxtO w1.heap.size (some sb)) (TxtO.lasts) (fun wx hm => txt_law htx hg1 hsb hm.g) ?_
 refine wl_calls (γ := Option Addr × Option Addr × Option Addr × Option Addr × Nat × Nat × Nat × Nat × Nat × Nat × Nat × List St × List Cs × List Vh × List Pl) (val := (fun g => .agg #[.slice g.1 g.2.2.2.2.1 g.2.2.2.2.2.1, .slice g.2.1 4 g.2.2.2.2.2.2.1, .slice g.2.2.1 g.2.2.2.2.2.2.2.1 g.2.2.2.2.2.2.2.2.1, .slice g.2.2.2.1 g.2.2.2.2.2.2.2.2.2.1 g.2.2.2.2.2.2.2.2.2.2.1])) (φ := (fun g => FlOk g.2.2.2.2.2.2.2.2.2.2.2.1 g.2.2.2.2.2.2.2.2.2.2.2.2.1 g.2.2.2.2.2.2.2.2.2.2.2.2.2.1 g.2.2.2.2.2.2.2.2.2.2.2.2.2.2 g.2.2.2.2.1 g.2.2.2.2.2.2.2.1 g.2.2.2.2.2.2.2.2.2.1 ∧ ShapeA g.2.2.2.1 g.2.2.2.2.2.2.2.2.2.1 g.2.2.2.2.2.2.2.2.2.2.1 ∧ g.2.2.2.2.2.2.2.2.2.1 ≤ g.2.2.2.2.2.2.2.2.2.2.1)) (Y := (fun g => fun wy => SlT stEnc 15 168 wy g.1 g.2.2.2.2.1 g.2.2.2.2.2.2.2.2.2.2.2.1 ∧ SlT csEnc 2 170 wy g.2.1 4 g.2.2.2.2.2.2.2.2.2.2.2.2.1 ∧ SlT vhEnc 2 158 wy g.2.2.1 g.2.2.2.2.2.2.2.1 g.2.2.2.2.2.2.2.2.2.2.2.2.2.1 ∧ SlT plEnc 3 161 wy g.2.2.2.1 g.2.2.2.2.2.2.2.2.2.1 g.2.2.2.2.2.2.2.2.2.2.2.2.2.2)) (m' := 0 + 400) rfl cb40 rfl rfl rfl rfl (fun wx hm => (fleet_any wx B sb _ hm.k (by omega)).mono fun _ _ ⟨sA, cA, vA, pA, sn, sc, cc, vn, vc, pn, pc, sl, cl, vl, pl, he, hok, hS, hg, h1, h2, h3, h4, h5, h6⟩ => ⟨(sA, cA, vA, pA, sn, sc, cc, vn, vc, pn, pc, sl, cl, vl, pl), he, ⟨hok, h5, h6⟩, hS, hg, h1, h2, h3, h4⟩) (fun _ => (SlT.lasts2 rfl).and_ ((SlT.lasts2 rfl).and_ ((SlT.lasts2 rfl).and_ (SlT.lasts2 rfl)))) ?_
 rintro ⟨sA, cA, vA, pA, sn, sc, cc, vn, vc, pn, pc, sl, cl, vl, pl⟩ hfl
 dsimp only at hfl ⊢
 obtain ⟨⟨⟨hsok, hsn10⟩, hcok, ⟨hvB, hvn10⟩, hpB, hpn10⟩, hsh, hpnc⟩ := hfl
 have hvok : ∀ x ∈ vl, VhOk x := fun x hx => vhB_ok (hvB x hx)
 have hpok : ∀ x ∈ pl, PlOk x := fun x hx => plB_ok (hpB x hx)
 obtain ⟨FE, hFE⟩ : ∃ z, z = fleetE sl cl vl pl := ⟨_, rfl⟩
 by_cases hFE0 : FE = 0
 ·subst hFE0
  refine wl_alloc zc66 rfl fun g1 => ?_
  refine wl_stores (cs' := [.slice sA sn sc, .slice cA 4 cc, .slice vA vn vc, .slice pA pn pc]) 0 rz66 rfl rfl rfl rfl rfl rfl rfl rfl ?_
  refine nn_ (sr_ ?_)
  refine wl_ov (ov_loads rz66 rfl (fun _ hm => hm.blkI 0 rfl) rfl rfl) rfl ?_
  refine wl_callv rfl cb41 rfl rfl (fun wx hm => (fText_right sl cl vl pl sA cA vA pA sn sc 4 cc vn vc pn pc wx (hm.fact 0 rfl).1 (hm.fact 0 rfl).2.1 (hm.fact 0 rfl).2.2.1 (hm.fact 0 rfl).2.2.2 hsok hcok hvok hpok (by omega) (by omega) (by omega) (by omega) (hm.fact 1 rfl).1 hFE.symm (by have e1 := ((hm.fact 0 rfl).1).len; have e2 := ((hm.fact 0 rfl).2.1).len; have e3 := ((hm.fact 0 rfl).2.2.1).len; have e4 := ((hm.fact 0 rfl).2.2.2).len; omega))) ?_
  refine mv_ rfl (wl_ov (ov_extract rfl rfl) rfl (wl_ov (ov_extract rfl rfl) rfl (sg_ rfl (sg_ rfl (nn_ (gw_seq (sr_ ?_)))))))
  refine wl_ov (ov_loads rz66 rfl (fun _ hm => hm.blkI 0 rfl) rfl rfl) rfl ?_
  refine wl_callv (v := .int .i64 0) rfl cb37 rfl rfl (fun wx hm => (by have h := fleetFault_any sl cl vl pl sA cA vA pA sn sc 4 cc vn vc pn pc wx (hm.fact 0 rfl).1 (hm.fact 0 rfl).2.1 (hm.fact 0 rfl).2.2.1 (hm.fact 0 rfl).2.2.2 hsok hcok hvok hpok (by omega) (by omega) (by omega) (by omega) hpnc; rw [← hFE] at h; exact h)) ?_
  refine sg_ rfl (nn_ (sr_ (mv_ rfl (mv_ rfl (wl_ov (ov_neq rfl rfl) rfl ?_)))))
  refine wl_set 27 (v' := .bool false) rfl (congrArg Value.bool (by decide)) ?_
  refine mv_ rfl (wl_guard_on rfl rfl rfl (mv_ rfl (wl_guard_on rfl rfl rfl (wl_ov (ov_eql rfl rfl) rfl ?_))))
  refine wl_set 30 (v' := .bool true) rfl (congrArg Value.bool (by decide)) ?_
  refine wl_guard_on rfl rfl rfl (mv_ rfl (wl_guard_on rfl rfl rfl (mv_ rfl (wl_guard_on rfl rfl rfl ?_))))
  refine wl_ov (ov_loads rz66 rfl (fun _ hm => hm.blkI 0 rfl) rfl rfl) rfl ?_
  refine wl_guard_on rfl rfl rfl ?_
  refine wl_callv rfl cb42 rfl rfl (fun wx hm => (ftLines_any sl cl vl pl sA cA vA pA sn sc 4 cc vn vc pn pc wx (hm.fact 0 rfl).1 (hm.fact 0 rfl).2.1 (hm.fact 0 rfl).2.2.1 (hm.fact 0 rfl).2.2.2 hsok hcok hvok hpok (by omega) (by omega) (by omega) (by omega) (hm.fact 1 rfl).1 hFE.symm (by have e1 := ((hm.fact 0 rfl).1).len; have e2 := ((hm.fact 0 rfl).2.1).len; have e3 := ((hm.fact 0 rfl).2.2.1).len; have e4 := ((hm.fact 0 rfl).2.2.2).len; omega))) ?_
  refine wl_guard_on rfl rfl rfl (wl_ov (ov_sneq rfl rfl) rfl (wl_guard_on rfl rfl rfl (pt_ rfl rfl (pf_ rfl rfl (mv_ rfl ?_)))))
  refine wl_set 38 (v' := .bool false) rfl (congrArg Value.bool (by rw [beq_self_eq_true]; rfl)) ?_
  refine wl_guard_on rfl rfl rfl (mv_ rfl (wl_guard_on rfl rfl rfl (wl_ov (ov_neq rfl rfl) rfl ?_)))
  refine wl_set 40 (v' := .bool false) rfl (congrArg Value.bool (by decide)) ?_
  refine wl_guard_on rfl rfl rfl (mv_ rfl (goff rfl rfl rfl (goff rfl rfl rfl (wl_guard_on rfl rfl rfl (pf_ rfl rfl (pf_ rfl rfl (nn_ (cf_ rfl (gw_skip (nx_then (sr_ ?_)))))))))))
  refine mv_ rfl ?_
  refine wl_calls (γ := ByteArray) (val := (fun g => .string g)) (φ := (fun g => g.size ≤ 30000)) (Y := (fun g => fun _ => True)) (m' := 0 + 400 + 1000) rfl cb43 rfl rfl rfl rfl (fun wx hm => (ftGen_any wx B sb _ hm.k (by omega) ((hm.fact 1 rfl).heap)).mono fun _ _ ⟨u, he, hu, hS, hg⟩ => ⟨u, he, hu, hS, hg, trivial⟩) (fun _ => Lasts2.true_) ?_
  rintro u hu
  obtain ⟨hQ, hMs⟩ := flF_all (t := u) (by omega)
  have hml : (flF u).sl.length + (flF u).cl.length + (flF u).vl.length + (flF u).pl.length ≤ u.size := hMs
  refine sg_ rfl (nn_ (sr_ (mv_ rfl ?_)))
  refine wl_callx (γ := Option Addr × Option Addr × Option Addr × Option Addr × Nat × Nat × Nat × Nat × Nat × Nat × Nat × Nat) (val := (fun g => .tuple #[.agg #[.slice g.1 g.2.2.2.2.1 g.2.2.2.2.2.2.2.2.1, .slice g.2.1 g.2.2.2.2.2.1 g.2.2.2.2.2.2.2.2.2.1, .slice g.2.2.1 g.2.2.2.2.2.2.1 g.2.2.2.2.2.2.2.2.2.2.1, .slice g.2.2.2.1 g.2.2.2.2.2.2.2.1 g.2.2.2.2.2.2.2.2.2.2.2], .int .i64 (flAt u), .int .i64 (flE u)])) (φ := (fun g => g.2.2.2.2.1 = (flF u).sl.length ∧ g.2.2.2.2.2.1 = (flF u).cl.length ∧ g.2.2.2.2.2.2.1 = (flF u).vl.length ∧ g.2.2.2.2.2.2.2.1 = (flF u).pl.length)) (Y := (fun g => fun wy => SlT stEnc 15 168 wy g.1 g.2.2.2.2.1 (flF u).sl ∧ SlT csEnc 2 170 wy g.2.1 g.2.2.2.2.2.1 (flF u).cl ∧ SlT vhEnc 2 158 wy g.2.2.1 g.2.2.2.2.2.2.1 (flF u).vl ∧ SlT plEnc 3 161 wy g.2.2.2.1 g.2.2.2.2.2.2.2.1 (flF u).pl)) rfl cb44 rfl rfl (fun wx hm => (fRead_w u wx (hm.fact 2 rfl).1 (by omega)).mono fun _ _ h => by
   obtain ⟨A1, A2, A3, A4, n1, n2, n3, n4, c1, c2, c3, c4, he, hs, hg⟩ := h
   exact ⟨(A1, A2, A3, A4, n1, n2, n3, n4, c1, c2, c3, c4), he, ⟨hs.1.len.symm, hs.2.1.len.symm, hs.2.2.1.len.symm, hs.2.2.2.len.symm⟩, hg, hs⟩) (fun _ => (SlT.lasts2 rfl).and_ ((SlT.lasts2 rfl).and_ ((SlT.lasts2 rfl).and_ (SlT.lasts2 rfl)))) ?_
  rintro ⟨A0, A1, A2, A3, a_n0, a_n1, a_n2, a_n3, a_c0, a_c1, a_c2, a_c3⟩ hkA
  dsimp only at hkA ⊢
  obtain ⟨h1A, h2A, h3A, h4A⟩ := hkA
  subst h1A
  subst h2A
  subst h3A
  subst h4A
  refine mv_ rfl (wl_ov (ov_extract rfl rfl) rfl (wl_ov (ov_extract rfl rfl) rfl (wl_ov (ov_extract rfl rfl) rfl ?_)))
  refine wl_alloc zc66 rfl fun g3 => ?_
  refine wl_stores (cs' := [.slice A0 ((flF u).sl.length) a_c0, .slice A1 ((flF u).cl.length) a_c1, .slice A2 ((flF u).vl.length) a_c2, .slice A3 ((flF u).pl.length) a_c3]) 0 rz66 rfl rfl rfl rfl rfl rfl rfl rfl ?_
  refine sg_ rfl (sg_ rfl (nn_ (sr_ (mv_ rfl ?_))))
  refine wl_callx (γ := Option Addr × Option Addr × Option Addr × Option Addr × Nat × Nat × Nat × Nat × Nat × Nat × Nat × Nat) (val := (fun g => .tuple #[.agg #[.slice g.1 g.2.2.2.2.1 g.2.2.2.2.2.2.2.2.1, .slice g.2.1 g.2.2.2.2.2.1 g.2.2.2.2.2.2.2.2.2.1, .slice g.2.2.1 g.2.2.2.2.2.2.1 g.2.2.2.2.2.2.2.2.2.2.1, .slice g.2.2.2.1 g.2.2.2.2.2.2.2.1 g.2.2.2.2.2.2.2.2.2.2.2], .int .i64 (flAt u), .int .i64 (flE u)])) (φ := (fun g => g.2.2.2.2.1 = (flF u).sl.length ∧ g.2.2.2.2.2.1 = (flF u).cl.length ∧ g.2.2.2.2.2.2.1 = (flF u).vl.length ∧ g.2.2.2.2.2.2.2.1 = (flF u).pl.length)) (Y := (fun g => fun wy => SlT stEnc 15 168 wy g.1 g.2.2.2.2.1 (flF u).sl ∧ SlT csEnc 2 170 wy g.2.1 g.2.2.2.2.2.1 (flF u).cl ∧ SlT vhEnc 2 158 wy g.2.2.1 g.2.2.2.2.2.2.1 (flF u).vl ∧ SlT plEnc 3 161 wy g.2.2.2.1 g.2.2.2.2.2.2.2.1 (flF u).pl)) rfl cb45 rfl rfl (fun wx hm => (fRref_w u wx (hm.fact 3 rfl).1 (by omega)).mono fun _ _ h => by
   obtain ⟨A1, A2, A3, A4, n1, n2, n3, n4, c1, c2, c3, c4, he, hs, hg⟩ := h
   exact ⟨(A1, A2, A3, A4, n1, n2, n3, n4, c1, c2, c3, c4), he, ⟨hs.1.len.symm, hs.2.1.len.symm, hs.2.2.1.len.symm, hs.2.2.2.len.symm⟩, hg, hs⟩) (fun _ => (SlT.lasts2 rfl).and_ ((SlT.lasts2 rfl).and_ ((SlT.lasts2 rfl).and_ (SlT.lasts2 rfl)))) ?_
  rintro ⟨B0, B1, B2, B3, b_n0, b_n1, b_n2, b_n3, b_c0, b_c1, b_c2, b_c3⟩ hkB
  dsimp only at hkB ⊢
  obtain ⟨h1B, h2B, h3B, h4B⟩ := hkB
  subst h1B
  subst h2B
  subst h3B
  subst h4B
  refine mv_ rfl (wl_ov (ov_extract rfl rfl) rfl (wl_ov (ov_extract rfl rfl) rfl (wl_ov (ov_extract rfl rfl) rfl ?_)))
  refine wl_alloc zc66 rfl fun g4 => ?_
  refine wl_stores (cs' := [.slice B0 ((flF u).sl.length) b_c0, .slice B1 ((flF u).cl.length) b_c1, .slice B2 ((flF u).vl.length) b_c2, .slice B3 ((flF u).pl.length) b_c3]) 0 rz66 rfl rfl rfl rfl rfl rfl rfl rfl ?_
  refine sg_ rfl (sg_ rfl (nn_ (sr_ (mv_ rfl (mv_ rfl (wl_ov (ov_eql rfl rfl) rfl ?_))))))
  refine wl_set 62 (v' := .bool true) rfl (congrArg Value.bool (by simp)) ?_
  refine mv_ rfl (wl_guard_on rfl rfl rfl (mv_ rfl (wl_guard_on rfl rfl rfl (mv_ rfl (wl_guard_on rfl rfl rfl (wl_ov (ov_eql rfl rfl) rfl ?_))))))
  refine wl_set 66 (v' := .bool true) rfl (congrArg Value.bool (by simp)) ?_
  refine pt_ rfl rfl (mv_ rfl (wl_guard_on rfl rfl rfl ?_))
  refine wl_ov (ov_loads rz66 rfl (fun _ hm => hm.blkI 1 rfl) rfl rfl) rfl ?_
  refine wl_guard_on rfl rfl rfl ?_
  refine wl_ov (ov_loads rz66 rfl (fun _ hm => hm.blkI 0 rfl) rfl rfl) rfl ?_
  refine wl_guard_on rfl rfl rfl ?_
  refine wl_callv rfl cb46 rfl rfl (fun wx hm => (sameFleet_any (flF u).sl (flF u).cl (flF u).vl (flF u).pl A0 A1 A2 A3 B0 B1 B2 B3 _ _ _ _ a_c0 a_c1 a_c2 a_c3 b_c0 b_c1 b_c2 b_c3 wx (hm.fact 1 rfl).1 (hm.fact 1 rfl).2.1 (hm.fact 1 rfl).2.2.1 (hm.fact 1 rfl).2.2.2 (hm.fact 0 rfl).1 (hm.fact 0 rfl).2.1 (hm.fact 0 rfl).2.2.1 (hm.fact 0 rfl).2.2.2 hQ.1 (by omega) (by omega) (by omega) (by omega))) ?_
  refine pt_ rfl rfl (mv_ rfl (wl_guard_on rfl rfl rfl ?_))
  refine wl_callv rfl cb38 rfl rfl (fun wx hm => (lots_any wx)) ?_
  refine pt_ rfl rfl (sg_ rfl (nn_ ?_))
  refine gw_ret ?_
  refine nx_ret1 rfl rfl fun wx hm => ?_
  exact ⟨rfl, law_end hg1 hsb hm.g⟩
 refine wl_alloc zc66 rfl fun g5 => ?_
 refine wl_stores (cs' := [.slice sA sn sc, .slice cA 4 cc, .slice vA vn vc, .slice pA pn pc]) 0 rz66 rfl rfl rfl rfl rfl rfl rfl rfl ?_
 refine nn_ (sr_ ?_)
 refine wl_ov (ov_loads rz66 rfl (fun _ hm => hm.blkI 0 rfl) rfl rfl) rfl ?_
 refine wl_callv (v := .tuple #[.string ⟨#[]⟩, .int .i64 FE]) rfl cb41 rfl rfl (fun wx hm => (by have h := fText_bad sl cl vl pl sA cA vA pA sn sc 4 cc vn vc pn pc wx (hm.fact 0 rfl).1 (hm.fact 0 rfl).2.1 (hm.fact 0 rfl).2.2.1 (hm.fact 0 rfl).2.2.2 hsok hcok hvok hpok (by omega) (by omega) (by omega) (by omega) (hm.fact 1 rfl).1 (by rw [← hFE]; exact hFE0); rw [← hFE] at h; exact h)) ?_
 refine mv_ rfl (wl_ov (ov_extract rfl rfl) rfl (wl_ov (ov_extract rfl rfl) rfl (sg_ rfl (sg_ rfl (nn_ (gw_seq (sr_ ?_)))))))
 refine wl_ov (ov_loads rz66 rfl (fun _ hm => hm.blkI 0 rfl) rfl rfl) rfl ?_
 refine wl_callv (v := .int .i64 FE) rfl cb37 rfl rfl (fun wx hm => (by have h := fleetFault_any sl cl vl pl sA cA vA pA sn sc 4 cc vn vc pn pc wx (hm.fact 0 rfl).1 (hm.fact 0 rfl).2.1 (hm.fact 0 rfl).2.2.1 (hm.fact 0 rfl).2.2.2 hsok hcok hvok hpok (by omega) (by omega) (by omega) (by omega) hpnc; rw [← hFE] at h; exact h)) ?_
 refine sg_ rfl (nn_ (sr_ (mv_ rfl (mv_ rfl (wl_ov (ov_neq rfl rfl) rfl ?_)))))
 refine wl_set 27 (v' := .bool false) rfl (congrArg Value.bool (by simp)) ?_
 refine mv_ rfl (wl_guard_on rfl rfl rfl (mv_ rfl (wl_guard_on rfl rfl rfl (wl_ov (ov_eql rfl rfl) rfl (wl_guard_on rfl rfl rfl (mv_ rfl ?_))))))
 refine wl_set 31 (v' := .bool false) rfl (congrArg Value.bool (decide_eq_false hFE0)) ?_
 refine goff rfl rfl rfl (goff rfl rfl rfl (goff rfl rfl rfl (goff rfl rfl rfl (wl_guard_on rfl rfl rfl (pf_ rfl rfl (pf_ rfl rfl (mv_ rfl (wl_guard_on rfl rfl rfl (mv_ rfl (wl_guard_on rfl rfl rfl (wl_ov (ov_neq rfl rfl) rfl (wl_guard_on rfl rfl rfl (mv_ rfl ?_)))))))))))))
 refine wl_set 41 (v' := .bool true) rfl (congrArg Value.bool (by rw [decide_eq_false hFE0]; rfl)) ?_
 refine wl_guard_on rfl rfl rfl (mv_ rfl (wl_guard_on rfl rfl rfl (wl_ov (ov_sneq rfl rfl) rfl ?_)))
 refine wl_set 43 (v' := .bool false) rfl (congrArg Value.bool (by decide +kernel)) ?_
 refine wl_guard_on rfl rfl rfl (pt_ rfl rfl (pf_ rfl rfl (nn_ (cf_ rfl (gw_skip (nx_then (sr_ (mv_ rfl ?_))))))))
 refine wl_calls (γ := ByteArray) (val := (fun g => .string g)) (φ := (fun g => g.size ≤ 30000)) (Y := (fun g => fun _ => True)) (m' := 0 + 400 + 1000) rfl cb43 rfl rfl rfl rfl (fun wx hm => (ftGen_any wx B sb _ hm.k (by omega) ((hm.fact 1 rfl).heap)).mono fun _ _ ⟨u, he, hu, hS, hg⟩ => ⟨u, he, hu, hS, hg, trivial⟩) (fun _ => Lasts2.true_) ?_
 rintro u hu
 obtain ⟨hQ, hMs⟩ := flF_all (t := u) (by omega)
 have hml : (flF u).sl.length + (flF u).cl.length + (flF u).vl.length + (flF u).pl.length ≤ u.size := hMs
 refine sg_ rfl (nn_ (sr_ (mv_ rfl ?_)))
 refine wl_callx (γ := Option Addr × Option Addr × Option Addr × Option Addr × Nat × Nat × Nat × Nat × Nat × Nat × Nat × Nat) (val := (fun g => .tuple #[.agg #[.slice g.1 g.2.2.2.2.1 g.2.2.2.2.2.2.2.2.1, .slice g.2.1 g.2.2.2.2.2.1 g.2.2.2.2.2.2.2.2.2.1, .slice g.2.2.1 g.2.2.2.2.2.2.1 g.2.2.2.2.2.2.2.2.2.2.1, .slice g.2.2.2.1 g.2.2.2.2.2.2.2.1 g.2.2.2.2.2.2.2.2.2.2.2], .int .i64 (flAt u), .int .i64 (flE u)])) (φ := (fun g => g.2.2.2.2.1 = (flF u).sl.length ∧ g.2.2.2.2.2.1 = (flF u).cl.length ∧ g.2.2.2.2.2.2.1 = (flF u).vl.length ∧ g.2.2.2.2.2.2.2.1 = (flF u).pl.length)) (Y := (fun g => fun wy => SlT stEnc 15 168 wy g.1 g.2.2.2.2.1 (flF u).sl ∧ SlT csEnc 2 170 wy g.2.1 g.2.2.2.2.2.1 (flF u).cl ∧ SlT vhEnc 2 158 wy g.2.2.1 g.2.2.2.2.2.2.1 (flF u).vl ∧ SlT plEnc 3 161 wy g.2.2.2.1 g.2.2.2.2.2.2.2.1 (flF u).pl)) rfl cb44 rfl rfl (fun wx hm => (fRead_w u wx (hm.fact 2 rfl).1 (by omega)).mono fun _ _ h => by
  obtain ⟨A1, A2, A3, A4, n1, n2, n3, n4, c1, c2, c3, c4, he, hs, hg⟩ := h
  exact ⟨(A1, A2, A3, A4, n1, n2, n3, n4, c1, c2, c3, c4), he, ⟨hs.1.len.symm, hs.2.1.len.symm, hs.2.2.1.len.symm, hs.2.2.2.len.symm⟩, hg, hs⟩) (fun _ => (SlT.lasts2 rfl).and_ ((SlT.lasts2 rfl).and_ ((SlT.lasts2 rfl).and_ (SlT.lasts2 rfl)))) ?_
 rintro ⟨A0, A1, A2, A3, a_n0, a_n1, a_n2, a_n3, a_c0, a_c1, a_c2, a_c3⟩ hkA
 dsimp only at hkA ⊢
 obtain ⟨h1A, h2A, h3A, h4A⟩ := hkA
 subst h1A
 subst h2A
 subst h3A
 subst h4A
 refine mv_ rfl (wl_ov (ov_extract rfl rfl) rfl (wl_ov (ov_extract rfl rfl) rfl (wl_ov (ov_extract rfl rfl) rfl ?_)))
 refine wl_alloc zc66 rfl fun g7 => ?_
 refine wl_stores (cs' := [.slice A0 ((flF u).sl.length) a_c0, .slice A1 ((flF u).cl.length) a_c1, .slice A2 ((flF u).vl.length) a_c2, .slice A3 ((flF u).pl.length) a_c3]) 0 rz66 rfl rfl rfl rfl rfl rfl rfl rfl ?_
 refine sg_ rfl (sg_ rfl (nn_ (sr_ (mv_ rfl ?_))))
 refine wl_callx (γ := Option Addr × Option Addr × Option Addr × Option Addr × Nat × Nat × Nat × Nat × Nat × Nat × Nat × Nat) (val := (fun g => .tuple #[.agg #[.slice g.1 g.2.2.2.2.1 g.2.2.2.2.2.2.2.2.1, .slice g.2.1 g.2.2.2.2.2.1 g.2.2.2.2.2.2.2.2.2.1, .slice g.2.2.1 g.2.2.2.2.2.2.1 g.2.2.2.2.2.2.2.2.2.2.1, .slice g.2.2.2.1 g.2.2.2.2.2.2.2.1 g.2.2.2.2.2.2.2.2.2.2.2], .int .i64 (flAt u), .int .i64 (flE u)])) (φ := (fun g => g.2.2.2.2.1 = (flF u).sl.length ∧ g.2.2.2.2.2.1 = (flF u).cl.length ∧ g.2.2.2.2.2.2.1 = (flF u).vl.length ∧ g.2.2.2.2.2.2.2.1 = (flF u).pl.length)) (Y := (fun g => fun wy => SlT stEnc 15 168 wy g.1 g.2.2.2.2.1 (flF u).sl ∧ SlT csEnc 2 170 wy g.2.1 g.2.2.2.2.2.1 (flF u).cl ∧ SlT vhEnc 2 158 wy g.2.2.1 g.2.2.2.2.2.2.1 (flF u).vl ∧ SlT plEnc 3 161 wy g.2.2.2.1 g.2.2.2.2.2.2.2.1 (flF u).pl)) rfl cb45 rfl rfl (fun wx hm => (fRref_w u wx (hm.fact 3 rfl).1 (by omega)).mono fun _ _ h => by
  obtain ⟨A1, A2, A3, A4, n1, n2, n3, n4, c1, c2, c3, c4, he, hs, hg⟩ := h
  exact ⟨(A1, A2, A3, A4, n1, n2, n3, n4, c1, c2, c3, c4), he, ⟨hs.1.len.symm, hs.2.1.len.symm, hs.2.2.1.len.symm, hs.2.2.2.len.symm⟩, hg, hs⟩) (fun _ => (SlT.lasts2 rfl).and_ ((SlT.lasts2 rfl).and_ ((SlT.lasts2 rfl).and_ (SlT.lasts2 rfl)))) ?_
 rintro ⟨B0, B1, B2, B3, b_n0, b_n1, b_n2, b_n3, b_c0, b_c1, b_c2, b_c3⟩ hkB
 dsimp only at hkB ⊢
 obtain ⟨h1B, h2B, h3B, h4B⟩ := hkB
 subst h1B
 subst h2B
 subst h3B
 subst h4B
 refine mv_ rfl (wl_ov (ov_extract rfl rfl) rfl (wl_ov (ov_extract rfl rfl) rfl (wl_ov (ov_extract rfl rfl) rfl ?_)))
 refine wl_alloc zc66 rfl fun g8 => ?_
 refine wl_stores (cs' := [.slice B0 ((flF u).sl.length) b_c0, .slice B1 ((flF u).cl.length) b_c1, .slice B2 ((flF u).vl.length) b_c2, .slice B3 ((flF u).pl.length) b_c3]) 0 rz66 rfl rfl rfl rfl rfl rfl rfl rfl ?_
 refine sg_ rfl (sg_ rfl (nn_ (sr_ (mv_ rfl (mv_ rfl (wl_ov (ov_eql rfl rfl) rfl ?_))))))
 refine wl_set 62 (v' := .bool true) rfl (congrArg Value.bool (by simp)) ?_
 refine mv_ rfl (wl_guard_on rfl rfl rfl (mv_ rfl (wl_guard_on rfl rfl rfl (mv_ rfl (wl_guard_on rfl rfl rfl (wl_ov (ov_eql rfl rfl) rfl ?_))))))
 refine wl_set 66 (v' := .bool true) rfl (congrArg Value.bool (by simp)) ?_
 refine pt_ rfl rfl (mv_ rfl (wl_guard_on rfl rfl rfl ?_))
 refine wl_ov (ov_loads rz66 rfl (fun _ hm => hm.blkI 1 rfl) rfl rfl) rfl ?_
 refine wl_guard_on rfl rfl rfl ?_
 refine wl_ov (ov_loads rz66 rfl (fun _ hm => hm.blkI 0 rfl) rfl rfl) rfl ?_
 refine wl_guard_on rfl rfl rfl ?_
 refine wl_callv rfl cb46 rfl rfl (fun wx hm => (sameFleet_any (flF u).sl (flF u).cl (flF u).vl (flF u).pl A0 A1 A2 A3 B0 B1 B2 B3 _ _ _ _ a_c0 a_c1 a_c2 a_c3 b_c0 b_c1 b_c2 b_c3 wx (hm.fact 1 rfl).1 (hm.fact 1 rfl).2.1 (hm.fact 1 rfl).2.2.1 (hm.fact 1 rfl).2.2.2 (hm.fact 0 rfl).1 (hm.fact 0 rfl).2.1 (hm.fact 0 rfl).2.2.1 (hm.fact 0 rfl).2.2.2 hQ.1 (by omega) (by omega) (by omega) (by omega))) ?_
 refine pt_ rfl rfl (mv_ rfl (wl_guard_on rfl rfl rfl ?_))
 refine wl_callv rfl cb38 rfl rfl (fun wx hm => (lots_any wx)) ?_
 refine pt_ rfl rfl (sg_ rfl (nn_ ?_))
 refine gw_ret ?_
 refine nx_ret1 rfl rfl fun wx hm => ?_
 exact ⟨rfl, law_end hg1 hsb hm.g⟩
theorem fleetTexts_law {l : List (String × DataW Unit)} (y1 y2 : List UInt8) (a0 : Option Addr) (len0 cap0 : Nat) (z0 : List Int) (W : World) (hR : RowIn W a0 len0 cap0 z0) (hL : laidMet Tryz.prog l W) (hS : W.ShapedOpen Tryz.prog)
    (h1 : l.filter (fun x => x.1 == "internal/strconv.uint64pow10") = [("internal/strconv.uint64pow10", Lib.tabData .u64 Lib.pow10Tab)])
    (h2 : l.filter (fun x => x.1 == "strconv.ErrSyntax") = [("strconv.ErrSyntax", .iface "*errors.errorString" (.ptr (.agg [.lit (.string y1)])))])
    (h3 : l.filter (fun x => x.1 == "strconv.ErrRange") = [("strconv.ErrRange", .iface "*errors.errorString" (.ptr (.agg [.lit (.string y2)])))]) :
    Calls Tryz.prog 6 #[.slice a0 len0 cap0] W fun e w' => e = .returned (.bool true) ∧ Below W.heap.size W w' :=
  fleetTexts_walk a0 len0 cap0 z0 W hR (txtW_of y1 y2 hL hS h1 h2 h3)
end Go.Proofs.YtnpcbfllnkiopaaGreatDoor
