/- Several texts as one: Rx Gs Eh Gp Ej Az Em -/
import Derived.Test.YtjecbkgjabnmoaaGreatDoorPd
import Derived.Test.YtjecbkgjabnmoaaGreatDoorPb
import Derived.Test.YtjecbkgjabnmoaaGreatDoorPa
import Derived.Test.YtjecbkgjabnmoaaGreatDoorPc
import Derived.Lib.AppendZeros
set_option maxRecDepth 100000
set_option maxHeartbeats 4000000
namespace Go.Proofs.YtjecbkgjabnmoaaGreatDoor
open Go.RowKit
/-- What the generators' fleets are. -/
def FlOk (sl : List St) (cl : List Cs) (vl : List Vh) (pl : List Pl) (sn vn pn : Nat) : Prop := ((∀ x ∈ sl, StOk x) ∧ sn ≤ 10) ∧ (∀ x ∈ cl, CsOk x) ∧ ((∀ x ∈ vl, VhB x) ∧ vn ≤ 10) ∧ (∀ x ∈ pl, PlB x) ∧ pn ≤ 10
theorem s0_ok : ∀ h ∈ ([0, 0, 0, 0, 0, 0, 0, 0, 0, 0, 0, 0, 0, 0] : List Int), -9223372036854775808 ≤ h ∧ h ≤ 9223372036854775807 := by decide
theorem stB_all {l : List St} (h : ∀ x ∈ l, StB x) : ∀ x ∈ l, StOk x := fun x hx => stB_ok (h x hx)
theorem gclassKey2_any (w : World) (B sb m : Nat) (hS : Strm 25 w B sb m) (hm : m ≤ 100000000000) :
  Calls Tryz.prog 44 #[.pointer (some ⟨sb, 0, none⟩)] w (fun e w' => ∃ v : ByteArray, e = .returned (.string v) ∧ v.size ≤ 100 ∧ Strm 25 w' B sb (m + 1) ∧ w.grownBy w' (some sb)) := by
 refine gw_enter ⟨6, w, (some sb), []⟩ Tryz.func44 rfl Tryz.ntmps44 rfl (memS (X := []) hS allF_nil allL_nil) ?_
 refine sr_ (sg_ rfl (nn_ (sr_ (mv_ rfl ?_))))
 refine wl_buildSlice (e := 9) (cs := [.string ⟨#[109, 105, 110, 105]⟩, .string ⟨#[109, 105, 110, 105]⟩, .string ⟨#[109, 105, 100, 105]⟩, .string ⟨#[109, 97, 120, 105]⟩, .string ⟨#[98, 105, 103]⟩, .string ⟨#[109, 105, 110, 105]⟩, .string ⟨#[110, 111, 110, 101]⟩, .string ⟨#[]⟩, .string ⟨#[65]⟩]) rfl (by kernel_rfl) rfl fun g1 => ?_
 refine wl_got (γ := ByteArray) (val := fun v => .string v) (φ := fun v => v ∈ ([⟨#[109, 105, 110, 105]⟩, ⟨#[109, 105, 110, 105]⟩, ⟨#[109, 105, 100, 105]⟩, ⟨#[109, 97, 120, 105]⟩, ⟨#[98, 105, 103]⟩, ⟨#[109, 105, 110, 105]⟩, ⟨#[110, 111, 110, 101]⟩, ⟨#[]⟩, ⟨#[65]⟩] : List ByteArray)) rfl cb43 rfl rfl rfl rfl (fun wx hm => (some_any [⟨#[109, 105, 110, 105]⟩, ⟨#[109, 105, 110, 105]⟩, ⟨#[109, 105, 100, 105]⟩, ⟨#[109, 97, 120, 105]⟩, ⟨#[98, 105, 103]⟩, ⟨#[109, 105, 110, 105]⟩, ⟨#[110, 111, 110, 101]⟩, ⟨#[]⟩, ⟨#[65]⟩] _ _ _ wx B sb _ hm.k (by omega) (by simp) (by simp) (hm.blkI 0 rfl) (hm.neRow 0 rfl rfl))) fun s2 hs2 => ?_
 have zs2 : s2.size ≤ 100 := mem_sz hs2 (by decide)
 refine sg_ rfl (nn_ ?_)
 refine gw_ret ?_
 refine nx_ret1 rfl rfl fun wx hm => ?_
 exact ⟨s2, rfl, by omega, hm.k, hm.g⟩
theorem fleet_any (w : World) (B sb m : Nat) (hS : Strm 25 w B sb m) (hm : m ≤ 10000000) :
  Calls Tryz.prog 11 #[.pointer (some ⟨sb, 0, none⟩)] w (fun e w' => ∃ (sA cA vA pA : Option Addr) (sn sc cc vn vc pn pc : Nat) (sl : List St) (cl : List Cs) (vl : List Vh) (pl : List Pl), e = .returned (.agg #[.slice sA sn sc, .slice cA 4 cc, .slice vA vn vc, .slice pA pn pc]) ∧ FlOk sl cl vl pl sn vn pn ∧ Strm 25 w' B sb (m + 400) ∧ w.grownBy w' (some sb) ∧ SlT stEnc 15 140 w' sA sn sl ∧ SlT csEnc 2 159 w' cA 4 cl ∧ SlT vhEnc 2 77 w' vA vn vl ∧ SlT plEnc 3 143 w' pA pn pl ∧ ShapeA pA pn pc ∧ pn ≤ pc) := by
 refine gw_enter ⟨56, w, (some sb), [159]⟩ Tryz.func11 rfl Tryz.ntmps11 rfl (memS (X := []) hS allF_nil allL_nil) ?_
 refine sr_ ?_
 refine wl_alloc zc31 rfl fun g1 => ?_
 refine nn_ (sr_ (mv_ rfl ?_))
 refine wl_calls3 (γ := Option Addr × Option Addr × Option Addr × Option Addr × Nat × Nat × Nat × Nat × Nat × Nat × Nat × List St × List Cs × List Vh × List Pl) (val := (fun g => .agg #[.slice g.1 g.2.2.2.2.1 g.2.2.2.2.2.1, .slice g.2.1 4 g.2.2.2.2.2.2.1, .slice g.2.2.1 g.2.2.2.2.2.2.2.1 g.2.2.2.2.2.2.2.2.1, .slice g.2.2.2.1 g.2.2.2.2.2.2.2.2.2.1 g.2.2.2.2.2.2.2.2.2.2.1])) (φ := (fun g => RfOk g.2.2.2.2.2.2.2.2.2.2.2.1 g.2.2.2.2.2.2.2.2.2.2.2.2.1 g.2.2.2.2.2.2.2.2.2.2.2.2.2.1 g.2.2.2.2.2.2.2.2.2.2.2.2.2.2 g.2.2.2.2.1 g.2.2.2.2.2.2.2.1 g.2.2.2.2.2.2.2.2.2.1)) (Y := (fun g => fun wy => SlT csEnc 2 159 wy g.2.1 4 g.2.2.2.2.2.2.2.2.2.2.2.2.1)) (m' := m + 300) (fun g => ⟨.slice g.1 g.2.2.2.2.1 g.2.2.2.2.2.1, 140, 15, g.2.2.2.2.1, g.2.2.2.2.2.2.2.2.2.2.2.1.flatMap stEnc⟩) (fun g => ⟨.slice g.2.2.1 g.2.2.2.2.2.2.2.1 g.2.2.2.2.2.2.2.2.1, 77, 2, g.2.2.2.2.2.2.2.1, g.2.2.2.2.2.2.2.2.2.2.2.2.2.1.flatMap vhEnc⟩) (fun g => ⟨.slice g.2.2.2.1 g.2.2.2.2.2.2.2.2.2.1 g.2.2.2.2.2.2.2.2.2.2.1, 143, 3, g.2.2.2.2.2.2.2.2.2.1, g.2.2.2.2.2.2.2.2.2.2.2.2.2.2.flatMap plEnc⟩) rfl cb38 rfl rfl rfl rfl (fun _ => rfl) (fun _ => rfl) (fun _ => rfl) (fun wx hm => (rightFleet_any wx B sb _ hm.k (by omega)).mono fun _ _ ⟨sA, cA, vA, pA, sn, sc, cc, vn, vc, pn, pc, sl, cl, vl, pl, he, hok, hS, hg, h1, h2, h3, h4⟩ => ⟨(sA, cA, vA, pA, sn, sc, cc, vn, vc, pn, pc, sl, cl, vl, pl), he, hok, hS, hg, h1, h2, h3, h4⟩) (fun _ => SlT.lasts2 rfl) ?_
 rintro ⟨sA, cA, vA, pA, sn, sc, cc, vn, vc, pn, pc, sl, cl, vl, pl⟩ hrf
 dsimp only at hrf ⊢
 obtain ⟨⟨hsl, hsB, hs1, hs3⟩, ⟨hcl4, hcok⟩, ⟨hvl, hvB, hv4⟩, hpl, hpB, hp5⟩ := hrf
 refine wl_alloc zc31 rfl fun g2 => ?_
 refine wl_stores (cs' := [.slice sA sn sc, .slice cA 4 cc, .slice vA vn vc, .slice pA pn pc]) 0 rz31 rfl rfl rfl rfl rfl rfl rfl rfl ?_
 refine nn_ (gw_seq (sr_ (mv_ rfl ?_)))
 refine wl_got (γ := Bool) (val := fun v => .bool v) (φ := fun v => True) rfl cb53 rfl rfl rfl rfl (fun wx hm => ((flip_any _ wx B sb _ hm.k (by omega) (by omega) (by omega)).mono fun _ _ ⟨v, he, hS, hg⟩ => ⟨v, trivial, he, hS, hg⟩)) fun f3 _ => ?_
 refine wl_ov (ov_un_not rfl) rfl (nn_ ?_)
 refine gw_cond rfl (fun hh => ?_) (fun hh => ?_)
 ·have hf : f3 = false := by simpa using hh
  clear hh
  refine sr_ ?_
  refine wl_ov (ov_loads rz31 rfl (fun _ hm => hm.blkI 0 rfl) rfl rfl) rfl ?_
  refine wl_stores (cs' := [.slice sA sn sc, .slice cA 4 cc, .slice vA vn vc, .slice pA pn pc]) 1 rz31 rfl rfl rfl rfl rfl rfl rfl rfl ?_
  refine nn_ ?_
  refine gw_ret ?_
  refine nx_then_ret ?_
  refine nx_retc 1 rfl rz31 rfl rfl rfl fun wx hm => ?_
  exact ⟨sA, cA, vA, pA, sn, sc, cc, vn, vc, pn, pc, sl, cl, vl, pl, rfl, ⟨⟨stB_all hsB, by omega⟩, hcok, ⟨hvB, by omega⟩, hpB, by omega⟩, hm.k.more (by omega), hm.g, SlT.ofOwnL stEnc_lenL (stB_all hsB) (hm.ownI 0 rfl) hsl, (hm.fact 0 rfl), SlT.ofOwn vh_len (hm.ownI 1 rfl) hvl, SlT.ofOwn pl_len (hm.ownI 2 rfl) hpl, own_shape (hm.ownI 2 rfl), own_cap (hm.ownI 2 rfl)⟩
 have hf : f3 = true := by simpa using hh
 clear hh
 refine gw_skip (nx_then (gw_seq (sr_ (mv_ rfl ?_))))
 refine wl_got (γ := Int) (val := fun v => .int .i64 v) (φ := fun v => IsBelow 4 v) rfl cb42 rfl rfl rfl rfl (fun wx hm => (next_any _ wx B sb _ hm.k (by omega) (by omega) (by omega))) fun vj hvj => ?_
 refine nn_ (gw_block (sr_ (wl_ov (ov_eql rfl rfl) rfl (sg_ rfl (nn_ ?_)))))
 refine gw_cond rfl (fun hh => ?_) (fun hh => ?_)
 ·have h0 : vj = 0 := by simpa using hh
  clear hh
  refine gd (fun wz => Blk wz g1 31 [.slice none 0 0, .slice none 0 0, .slice none 0 0, .slice none 0 0] ∧ (fun wy => SlT csEnc 2 159 wy cA 4 cl) wz ∧ True) mixed (fun _ hm => ⟨hm.bl 1, hm.fa 0, trivial⟩) fun z => ?_
  refine wt 0 10 1 rfl z (ov_field fo31_0 rfl rfl) ?_
  refine wt 2 10 5 rfl z (ov_move rfl) ?_
  refine wa_all [1, 3] (by kernel_rfl) rfl ⟨⟨_, rfl, ?_⟩, ⟨_, rfl, ?_⟩, trivial⟩
  ·refine lk_ sc26 0 rfl rfl rfl (wl_nil ?_)
   refine nw 10 7 (fun _ hm => ⟨hm.bl 1, hm.fa 0, trivial⟩) fun z => ?_
   refine wa1 3 rfl ?_
   refine wl_buildSlice (e := 9) (cs := [.string ⟨#[]⟩, .string ⟨#[65]⟩, .string ⟨#[115, 49]⟩, .string ⟨#[115, 57]⟩]) rfl (by kernel_rfl) rfl fun g4 => ?_
   refine wl_nil ?_
   refine nw 10 15 (fun _ hm => ⟨hm.bl 2, hm.fa 0, trivial⟩) fun z => ?_
   refine wa1 4 rfl ?_
   refine wl_got (γ := ByteArray) (val := fun v => .string v) (φ := fun v => v ∈ ([⟨#[]⟩, ⟨#[65]⟩, ⟨#[115, 49]⟩, ⟨#[115, 57]⟩] : List ByteArray)) rfl cb43 rfl rfl rfl rfl (fun wx hm => (some_any [⟨#[]⟩, ⟨#[65]⟩, ⟨#[115, 49]⟩, ⟨#[115, 57]⟩] _ _ _ wx B sb _ hm.k (by omega) (by simp) (by simp) (hm.blkI 0 rfl) (hm.neRow 0 rfl rfl))) fun s5 hs5 => ?_
   have zs5 : s5.size ≤ 100 := mem_sz hs5 (by decide)
   refine wl_nil ?_
   refine nw 10 31 (fun _ hm => ⟨hm.bl 2, hm.fa 0, trivial⟩) fun z => ?_
   refine wt 5 10 63 rfl z (ov_build (cs := [.string s5, .int .i64 0, .int .i64 0, .int .i64 0, .int .i64 0, .int .i64 0, .int .i64 0, .int .i64 0, .int .i64 0, .int .i64 0, .int .i64 0, .int .i64 0, .int .i64 0, .int .i64 0, .int .i64 0]) rfl (by kernel_rfl)) ?_
   refine wa1 6 rfl ?_
   refine wl_buildSlice (e := 140) (cs := [.string s5, .int .i64 0, .int .i64 0, .int .i64 0, .int .i64 0, .int .i64 0, .int .i64 0, .int .i64 0, .int .i64 0, .int .i64 0, .int .i64 0, .int .i64 0, .int .i64 0, .int .i64 0, .int .i64 0]) rfl (by kernel_rfl) rfl fun g6 => ?_
   refine wl_nil ?_
   refine nw 10 127 (fun _ hm => ⟨hm.bl 3, hm.fa 0, trivial⟩) fun z => ?_
   refine wa1 7 rfl ?_
   refine wl_append (news := [.string s5, .int .i64 0, .int .i64 0, .int .i64 0, .int .i64 0, .int .i64 0, .int .i64 0, .int .i64 0, .int .i64 0, .int .i64 0, .int .i64 0, .int .i64 0, .int .i64 0, .int .i64 0, .int .i64 0]) 0 0 ap26 rfl rfl rfl rfl rfl rfl rfl (by omega) (by unfold maxLen; omega) rfl rfl fun v2 hv2 => ?_
   refine wl_look (R := ∃ A cc, v2 = .slice A (sn + 1) cc) (fun wx hm => own_slice (hm.ownI 0 rfl)) ?_
   rintro ⟨A2, c2, rfl⟩
   have hxs : sl.flatMap stEnc ++ ([.string s5, .int .i64 0, .int .i64 0, .int .i64 0, .int .i64 0, .int .i64 0, .int .i64 0, .int .i64 0, .int .i64 0, .int .i64 0, .int .i64 0, .int .i64 0, .int .i64 0, .int .i64 0, .int .i64 0] : List Value) = (sl ++ [(⟨s5, [0, 0, 0, 0, 0, 0, 0, 0, 0, 0, 0, 0, 0, 0]⟩ : St)]).flatMap stEnc := by simp [stEnc, stCells]
   rw [hxs]
   refine wl_nil ?_
   refine nw 10 255 (fun _ hm => ⟨hm.bl 3, hm.fa 0, trivial⟩) fun z => ?_
   refine wt 8 10 511 rfl z (ov_field fo31_0 rfl rfl) ?_
   refine wa1 9 rfl ?_
   refine wl_store 2 sc26 rfl rfl rfl rfl rfl rfl ?_
   refine wl_nil ?_
   refine nw 10 1023 (fun _ hm => ⟨hm.bl 3, hm.fa 0, trivial⟩) fun z => ?_
   refine wa_done (by kernel_rfl) ?_
   refine nx_blk_nrm (nx_then (sr_ ?_))
   refine wl_ov (ov_loads rz31 rfl (fun _ hm => hm.blkI 2 rfl) rfl rfl) rfl ?_
   refine wl_stores (cs' := [.slice A2 (sn + 1) c2, .slice cA 4 cc, .slice vA vn vc, .slice pA pn pc]) 3 rz31 rfl rfl rfl rfl rfl rfl rfl rfl ?_
   refine nn_ ?_
   refine gw_ret ?_
   refine nx_retc 3 rfl rz31 rfl rfl rfl fun wx hm => ?_
   exact ⟨A2, cA, vA, pA, sn + 1, c2, cc, vn, vc, pn, pc, sl ++ [(⟨s5, [0, 0, 0, 0, 0, 0, 0, 0, 0, 0, 0, 0, 0, 0]⟩ : St)], cl, vl, pl, rfl, ⟨⟨all_snoc (stB_all hsB) ⟨rfl, by dsimp only; omega, s0_ok⟩, by omega⟩, hcok, ⟨hvB, by omega⟩, hpB, by omega⟩, hm.k.more (by omega), hm.g, SlT.ofOwnL stEnc_lenL (all_snoc (stB_all hsB) ⟨rfl, by dsimp only; omega, s0_ok⟩) (hm.ownI 0 rfl) (by simp [hsl]), (hm.fact 0 rfl), SlT.ofOwn vh_len (hm.ownI 1 rfl) hvl, SlT.ofOwn pl_len (hm.ownI 2 rfl) hpl, own_shape (hm.ownI 2 rfl), own_cap (hm.ownI 2 rfl)⟩
  refine wl_buildSlice (e := 9) (cs := [.string ⟨#[]⟩, .string ⟨#[65]⟩, .string ⟨#[115, 49]⟩, .string ⟨#[115, 57]⟩]) rfl (by kernel_rfl) rfl fun g7 => ?_
  refine wl_nil ?_
  refine nw 10 13 (fun _ hm => ⟨hm.bl 2, hm.fa 0, trivial⟩) fun z => ?_
  refine wa_all [1, 4] (by kernel_rfl) rfl ⟨⟨_, rfl, ?_⟩, ⟨_, rfl, ?_⟩, trivial⟩
  ·refine lk_ sc26 1 rfl rfl rfl (wl_nil ?_)
   refine nw 10 15 (fun _ hm => ⟨hm.bl 2, hm.fa 0, trivial⟩) fun z => ?_
   refine wa1 4 rfl ?_
   refine wl_got (γ := ByteArray) (val := fun v => .string v) (φ := fun v => v ∈ ([⟨#[]⟩, ⟨#[65]⟩, ⟨#[115, 49]⟩, ⟨#[115, 57]⟩] : List ByteArray)) rfl cb43 rfl rfl rfl rfl (fun wx hm => (some_any [⟨#[]⟩, ⟨#[65]⟩, ⟨#[115, 49]⟩, ⟨#[115, 57]⟩] _ _ _ wx B sb _ hm.k (by omega) (by simp) (by simp) (hm.blkI 0 rfl) (hm.neRow 0 rfl rfl))) fun s8 hs8 => ?_
   have zs8 : s8.size ≤ 100 := mem_sz hs8 (by decide)
   refine wl_nil ?_
   refine nw 10 31 (fun _ hm => ⟨hm.bl 2, hm.fa 0, trivial⟩) fun z => ?_
   refine wt 5 10 63 rfl z (ov_build (cs := [.string s8, .int .i64 0, .int .i64 0, .int .i64 0, .int .i64 0, .int .i64 0, .int .i64 0, .int .i64 0, .int .i64 0, .int .i64 0, .int .i64 0, .int .i64 0, .int .i64 0, .int .i64 0, .int .i64 0]) rfl (by kernel_rfl)) ?_
   refine wa1 6 rfl ?_
   refine wl_buildSlice (e := 140) (cs := [.string s8, .int .i64 0, .int .i64 0, .int .i64 0, .int .i64 0, .int .i64 0, .int .i64 0, .int .i64 0, .int .i64 0, .int .i64 0, .int .i64 0, .int .i64 0, .int .i64 0, .int .i64 0, .int .i64 0]) rfl (by kernel_rfl) rfl fun g9 => ?_
   refine wl_nil ?_
   refine nw 10 127 (fun _ hm => ⟨hm.bl 3, hm.fa 0, trivial⟩) fun z => ?_
   refine wa1 7 rfl ?_
   refine wl_append (news := [.string s8, .int .i64 0, .int .i64 0, .int .i64 0, .int .i64 0, .int .i64 0, .int .i64 0, .int .i64 0, .int .i64 0, .int .i64 0, .int .i64 0, .int .i64 0, .int .i64 0, .int .i64 0, .int .i64 0]) 0 0 ap26 rfl rfl rfl rfl rfl rfl rfl (by omega) (by unfold maxLen; omega) rfl rfl fun v2 hv2 => ?_
   refine wl_look (R := ∃ A cc, v2 = .slice A (sn + 1) cc) (fun wx hm => own_slice (hm.ownI 0 rfl)) ?_
   rintro ⟨A2, c2, rfl⟩
   have hxs : sl.flatMap stEnc ++ ([.string s8, .int .i64 0, .int .i64 0, .int .i64 0, .int .i64 0, .int .i64 0, .int .i64 0, .int .i64 0, .int .i64 0, .int .i64 0, .int .i64 0, .int .i64 0, .int .i64 0, .int .i64 0, .int .i64 0] : List Value) = (sl ++ [(⟨s8, [0, 0, 0, 0, 0, 0, 0, 0, 0, 0, 0, 0, 0, 0]⟩ : St)]).flatMap stEnc := by simp [stEnc, stCells]
   rw [hxs]
   refine wl_nil ?_
   refine nw 10 255 (fun _ hm => ⟨hm.bl 3, hm.fa 0, trivial⟩) fun z => ?_
   refine wt 8 10 511 rfl z (ov_field fo31_0 rfl rfl) ?_
   refine wa1 9 rfl ?_
   refine wl_store 2 sc26 rfl rfl rfl rfl rfl rfl ?_
   refine wl_nil ?_
   refine nw 10 1023 (fun _ hm => ⟨hm.bl 3, hm.fa 0, trivial⟩) fun z => ?_
   refine wa_done (by kernel_rfl) ?_
   refine nx_blk_nrm (nx_then (sr_ ?_))
   refine wl_ov (ov_loads rz31 rfl (fun _ hm => hm.blkI 2 rfl) rfl rfl) rfl ?_
   refine wl_stores (cs' := [.slice A2 (sn + 1) c2, .slice cA 4 cc, .slice vA vn vc, .slice pA pn pc]) 3 rz31 rfl rfl rfl rfl rfl rfl rfl rfl ?_
   refine nn_ ?_
   refine gw_ret ?_
   refine nx_retc 3 rfl rz31 rfl rfl rfl fun wx hm => ?_
   exact ⟨A2, cA, vA, pA, sn + 1, c2, cc, vn, vc, pn, pc, sl ++ [(⟨s8, [0, 0, 0, 0, 0, 0, 0, 0, 0, 0, 0, 0, 0, 0]⟩ : St)], cl, vl, pl, rfl, ⟨⟨all_snoc (stB_all hsB) ⟨rfl, by dsimp only; omega, s0_ok⟩, by omega⟩, hcok, ⟨hvB, by omega⟩, hpB, by omega⟩, hm.k.more (by omega), hm.g, SlT.ofOwnL stEnc_lenL (all_snoc (stB_all hsB) ⟨rfl, by dsimp only; omega, s0_ok⟩) (hm.ownI 0 rfl) (by simp [hsl]), (hm.fact 0 rfl), SlT.ofOwn vh_len (hm.ownI 1 rfl) hvl, SlT.ofOwn pl_len (hm.ownI 2 rfl) hpl, own_shape (hm.ownI 2 rfl), own_cap (hm.ownI 2 rfl)⟩
  refine wl_got (γ := ByteArray) (val := fun v => .string v) (φ := fun v => v ∈ ([⟨#[]⟩, ⟨#[65]⟩, ⟨#[115, 49]⟩, ⟨#[115, 57]⟩] : List ByteArray)) rfl cb43 rfl rfl rfl rfl (fun wx hm => (some_any [⟨#[]⟩, ⟨#[65]⟩, ⟨#[115, 49]⟩, ⟨#[115, 57]⟩] _ _ _ wx B sb _ hm.k (by omega) (by simp) (by simp) (hm.blkI 0 rfl) (hm.neRow 0 rfl rfl))) fun s10 hs10 => ?_
  have zs10 : s10.size ≤ 100 := mem_sz hs10 (by decide)
  refine wl_nil ?_
  refine nw 10 29 (fun _ hm => ⟨hm.bl 2, hm.fa 0, trivial⟩) fun z => ?_
  refine wt 5 10 61 rfl z (ov_build (cs := [.string s10, .int .i64 0, .int .i64 0, .int .i64 0, .int .i64 0, .int .i64 0, .int .i64 0, .int .i64 0, .int .i64 0, .int .i64 0, .int .i64 0, .int .i64 0, .int .i64 0, .int .i64 0, .int .i64 0]) rfl (by kernel_rfl)) ?_
  refine wa_all [1, 6] (by kernel_rfl) rfl ⟨⟨_, rfl, ?_⟩, ⟨_, rfl, ?_⟩, trivial⟩
  ·refine lk_ sc26 1 rfl rfl rfl (wl_nil ?_)
   refine nw 10 63 (fun _ hm => ⟨hm.bl 2, hm.fa 0, trivial⟩) fun z => ?_
   refine wa1 6 rfl ?_
   refine wl_buildSlice (e := 140) (cs := [.string s10, .int .i64 0, .int .i64 0, .int .i64 0, .int .i64 0, .int .i64 0, .int .i64 0, .int .i64 0, .int .i64 0, .int .i64 0, .int .i64 0, .int .i64 0, .int .i64 0, .int .i64 0, .int .i64 0]) rfl (by kernel_rfl) rfl fun g11 => ?_
   refine wl_nil ?_
   refine nw 10 127 (fun _ hm => ⟨hm.bl 3, hm.fa 0, trivial⟩) fun z => ?_
   refine wa1 7 rfl ?_
   refine wl_append (news := [.string s10, .int .i64 0, .int .i64 0, .int .i64 0, .int .i64 0, .int .i64 0, .int .i64 0, .int .i64 0, .int .i64 0, .int .i64 0, .int .i64 0, .int .i64 0, .int .i64 0, .int .i64 0, .int .i64 0]) 0 0 ap26 rfl rfl rfl rfl rfl rfl rfl (by omega) (by unfold maxLen; omega) rfl rfl fun v2 hv2 => ?_
   refine wl_look (R := ∃ A cc, v2 = .slice A (sn + 1) cc) (fun wx hm => own_slice (hm.ownI 0 rfl)) ?_
   rintro ⟨A2, c2, rfl⟩
   have hxs : sl.flatMap stEnc ++ ([.string s10, .int .i64 0, .int .i64 0, .int .i64 0, .int .i64 0, .int .i64 0, .int .i64 0, .int .i64 0, .int .i64 0, .int .i64 0, .int .i64 0, .int .i64 0, .int .i64 0, .int .i64 0, .int .i64 0] : List Value) = (sl ++ [(⟨s10, [0, 0, 0, 0, 0, 0, 0, 0, 0, 0, 0, 0, 0, 0]⟩ : St)]).flatMap stEnc := by simp [stEnc, stCells]
   rw [hxs]
   refine wl_nil ?_
   refine nw 10 255 (fun _ hm => ⟨hm.bl 3, hm.fa 0, trivial⟩) fun z => ?_
   refine wt 8 10 511 rfl z (ov_field fo31_0 rfl rfl) ?_
   refine wa1 9 rfl ?_
   refine wl_store 2 sc26 rfl rfl rfl rfl rfl rfl ?_
   refine wl_nil ?_
   refine nw 10 1023 (fun _ hm => ⟨hm.bl 3, hm.fa 0, trivial⟩) fun z => ?_
   refine wa_done (by kernel_rfl) ?_
   refine nx_blk_nrm (nx_then (sr_ ?_))
   refine wl_ov (ov_loads rz31 rfl (fun _ hm => hm.blkI 2 rfl) rfl rfl) rfl ?_
   refine wl_stores (cs' := [.slice A2 (sn + 1) c2, .slice cA 4 cc, .slice vA vn vc, .slice pA pn pc]) 3 rz31 rfl rfl rfl rfl rfl rfl rfl rfl ?_
   refine nn_ ?_
   refine gw_ret ?_
   refine nx_retc 3 rfl rz31 rfl rfl rfl fun wx hm => ?_
   exact ⟨A2, cA, vA, pA, sn + 1, c2, cc, vn, vc, pn, pc, sl ++ [(⟨s10, [0, 0, 0, 0, 0, 0, 0, 0, 0, 0, 0, 0, 0, 0]⟩ : St)], cl, vl, pl, rfl, ⟨⟨all_snoc (stB_all hsB) ⟨rfl, by dsimp only; omega, s0_ok⟩, by omega⟩, hcok, ⟨hvB, by omega⟩, hpB, by omega⟩, hm.k.more (by omega), hm.g, SlT.ofOwnL stEnc_lenL (all_snoc (stB_all hsB) ⟨rfl, by dsimp only; omega, s0_ok⟩) (hm.ownI 0 rfl) (by simp [hsl]), (hm.fact 0 rfl), SlT.ofOwn vh_len (hm.ownI 1 rfl) hvl, SlT.ofOwn pl_len (hm.ownI 2 rfl) hpl, own_shape (hm.ownI 2 rfl), own_cap (hm.ownI 2 rfl)⟩
  refine wl_buildSlice (e := 140) (cs := [.string s10, .int .i64 0, .int .i64 0, .int .i64 0, .int .i64 0, .int .i64 0, .int .i64 0, .int .i64 0, .int .i64 0, .int .i64 0, .int .i64 0, .int .i64 0, .int .i64 0, .int .i64 0, .int .i64 0]) rfl (by kernel_rfl) rfl fun g12 => ?_
  refine wl_nil ?_
  refine nw 10 125 (fun _ hm => ⟨hm.bl 3, hm.fa 0, trivial⟩) fun z => ?_
  refine wa1 1 rfl ?_
  refine lk_ sc26 2 rfl rfl rfl (wl_nil ?_)
  refine nw 10 127 (fun _ hm => ⟨hm.bl 3, hm.fa 0, trivial⟩) fun z => ?_
  refine wa1 7 rfl ?_
  refine wl_append (news := [.string s10, .int .i64 0, .int .i64 0, .int .i64 0, .int .i64 0, .int .i64 0, .int .i64 0, .int .i64 0, .int .i64 0, .int .i64 0, .int .i64 0, .int .i64 0, .int .i64 0, .int .i64 0, .int .i64 0]) 0 0 ap26 rfl rfl rfl rfl rfl rfl rfl (by omega) (by unfold maxLen; omega) rfl rfl fun v2 hv2 => ?_
  refine wl_look (R := ∃ A cc, v2 = .slice A (sn + 1) cc) (fun wx hm => own_slice (hm.ownI 0 rfl)) ?_
  rintro ⟨A2, c2, rfl⟩
  have hxs : sl.flatMap stEnc ++ ([.string s10, .int .i64 0, .int .i64 0, .int .i64 0, .int .i64 0, .int .i64 0, .int .i64 0, .int .i64 0, .int .i64 0, .int .i64 0, .int .i64 0, .int .i64 0, .int .i64 0, .int .i64 0, .int .i64 0] : List Value) = (sl ++ [(⟨s10, [0, 0, 0, 0, 0, 0, 0, 0, 0, 0, 0, 0, 0, 0]⟩ : St)]).flatMap stEnc := by simp [stEnc, stCells]
  rw [hxs]
  refine wl_nil ?_
  refine nw 10 255 (fun _ hm => ⟨hm.bl 3, hm.fa 0, trivial⟩) fun z => ?_
  refine wt 8 10 511 rfl z (ov_field fo31_0 rfl rfl) ?_
  refine wa1 9 rfl ?_
  refine wl_store 2 sc26 rfl rfl rfl rfl rfl rfl ?_
  refine wl_nil ?_
  refine nw 10 1023 (fun _ hm => ⟨hm.bl 3, hm.fa 0, trivial⟩) fun z => ?_
  refine wa_done (by kernel_rfl) ?_
  refine nx_blk_nrm (nx_then (sr_ ?_))
  refine wl_ov (ov_loads rz31 rfl (fun _ hm => hm.blkI 2 rfl) rfl rfl) rfl ?_
  refine wl_stores (cs' := [.slice A2 (sn + 1) c2, .slice cA 4 cc, .slice vA vn vc, .slice pA pn pc]) 3 rz31 rfl rfl rfl rfl rfl rfl rfl rfl ?_
  refine nn_ ?_
  refine gw_ret ?_
  refine nx_retc 3 rfl rz31 rfl rfl rfl fun wx hm => ?_
  exact ⟨A2, cA, vA, pA, sn + 1, c2, cc, vn, vc, pn, pc, sl ++ [(⟨s10, [0, 0, 0, 0, 0, 0, 0, 0, 0, 0, 0, 0, 0, 0]⟩ : St)], cl, vl, pl, rfl, ⟨⟨all_snoc (stB_all hsB) ⟨rfl, by dsimp only; omega, s0_ok⟩, by omega⟩, hcok, ⟨hvB, by omega⟩, hpB, by omega⟩, hm.k.more (by omega), hm.g, SlT.ofOwnL stEnc_lenL (all_snoc (stB_all hsB) ⟨rfl, by dsimp only; omega, s0_ok⟩) (hm.ownI 0 rfl) (by simp [hsl]), (hm.fact 0 rfl), SlT.ofOwn vh_len (hm.ownI 1 rfl) hvl, SlT.ofOwn pl_len (hm.ownI 2 rfl) hpl, own_shape (hm.ownI 2 rfl), own_cap (hm.ownI 2 rfl)⟩
 have h0 : ¬ (vj = 0) := by simpa using hh
 clear hh
 refine sr_ (wl_ov (ov_eql rfl rfl) rfl (sg_ rfl (nn_ ?_)))
 refine gw_cond rfl (fun hh => ?_) (fun hh => ?_)
 ·have h1 : vj = 1 := by simpa using hh
  clear hh
  refine gw_region (mv_ rfl ?_)
  refine wl_calls (γ := Option Addr × Nat × List Cs) (val := (fun g => .slice g.1 4 g.2.1)) (φ := (fun g => g.2.2.length = 4 ∧ (∀ x ∈ g.2.2, CsOk x))) (Y := (fun g => fun wy => SlT csEnc 2 159 wy g.1 4 g.2.2)) (m' := m + 300 + 1 + 1 + 40) rfl cb76 rfl rfl rfl rfl (fun wx hm => (ganyClasses_any wx B sb _ hm.k (by omega)).mono fun _ _ ⟨A, c, l, he, ho, hl, hok, hS, hg⟩ => ⟨(A, c, l), he, ⟨hl, hok⟩, hS, hg, SlT.ofOwn cs_len ho hl⟩) (fun _ => SlT.lasts2 rfl) ?_
  rintro ⟨cA2, cc2, cl2⟩ hphi
  dsimp only at hphi ⊢
  obtain ⟨hcl42, hcok2⟩ := hphi
  refine fd_ fo31_1 rfl rfl ?_
  refine wl_store 0 sc27 rfl rfl rfl rfl rfl rfl ?_
  refine wl_nil (nx_blk_nrm (nx_then (sr_ ?_)))
  refine wl_ov (ov_loads rz31 rfl (fun _ hm => hm.blkI 0 rfl) rfl rfl) rfl ?_
  refine wl_stores (cs' := [.slice sA sn sc, .slice cA2 4 cc2, .slice vA vn vc, .slice pA pn pc]) 1 rz31 rfl rfl rfl rfl rfl rfl rfl rfl ?_
  refine nn_ ?_
  refine gw_ret ?_
  refine nx_retc 1 rfl rz31 rfl rfl rfl fun wx hm => ?_
  exact ⟨sA, cA2, vA, pA, sn, sc, cc2, vn, vc, pn, pc, sl, cl2, vl, pl, rfl, ⟨⟨stB_all hsB, by omega⟩, hcok2, ⟨hvB, by omega⟩, hpB, by omega⟩, hm.k.more (by omega), hm.g, SlT.ofOwnL stEnc_lenL (stB_all hsB) (hm.ownI 0 rfl) hsl, (hm.fact 0 rfl), SlT.ofOwn vh_len (hm.ownI 1 rfl) hvl, SlT.ofOwn pl_len (hm.ownI 2 rfl) hpl, own_shape (hm.ownI 2 rfl), own_cap (hm.ownI 2 rfl)⟩
 have h1 : ¬ (vj = 1) := by simpa using hh
 clear hh
 refine sr_ (wl_ov (ov_eql rfl rfl) rfl (sg_ rfl (nn_ ?_)))
 refine gw_cond rfl (fun hh => ?_) (fun hh => ?_)
 ·have h2 : vj = 2 := by simpa using hh
  clear hh
  refine gd (fun wz => Blk wz g1 31 [.slice none 0 0, .slice none 0 0, .slice none 0 0, .slice none 0 0] ∧ (fun wy => SlT csEnc 2 159 wy cA 4 cl) wz ∧ True) mixed (fun _ hm => ⟨hm.bl 1, hm.fa 0, trivial⟩) fun z => ?_
  refine wt 0 12 1 rfl z (ov_field fo31_2 rfl rfl) ?_
  refine wt 2 12 5 rfl z (ov_move rfl) ?_
  refine wt 5 12 37 rfl z (ov_move rfl) ?_
  refine wa_all [1, 3] (by kernel_rfl) rfl ⟨⟨_, rfl, ?_⟩, ⟨_, rfl, ?_⟩, trivial⟩
  ·refine lk_ sc28 0 rfl rfl rfl (wl_nil ?_)
   refine nw 12 39 (fun _ hm => ⟨hm.bl 1, hm.fa 0, trivial⟩) fun z => ?_
   refine wa1 3 rfl ?_
   refine wl_buildSlice (e := 9) (cs := [.string ⟨#[]⟩, .string ⟨#[118, 49]⟩, .string ⟨#[118, 57]⟩]) rfl (by kernel_rfl) rfl fun g13 => ?_
   refine wl_nil ?_
   refine nw 12 47 (fun _ hm => ⟨hm.bl 2, hm.fa 0, trivial⟩) fun z => ?_
   refine wa1 4 rfl ?_
   refine wl_got (γ := ByteArray) (val := fun v => .string v) (φ := fun v => v ∈ ([⟨#[]⟩, ⟨#[118, 49]⟩, ⟨#[118, 57]⟩] : List ByteArray)) rfl cb43 rfl rfl rfl rfl (fun wx hm => (some_any [⟨#[]⟩, ⟨#[118, 49]⟩, ⟨#[118, 57]⟩] _ _ _ wx B sb _ hm.k (by omega) (by simp) (by simp) (hm.blkI 0 rfl) (hm.neRow 0 rfl rfl))) fun s14 hs14 => ?_
   have zs14 : s14.size ≤ 100 := mem_sz hs14 (by decide)
   refine wl_nil ?_
   refine nw 12 63 (fun _ hm => ⟨hm.bl 2, hm.fa 0, trivial⟩) fun z => ?_
   refine wa1 6 rfl ?_
   refine wl_calls (γ := ByteArray) (val := (fun g => .string g)) (φ := (fun g => g.size ≤ 100)) (Y := (fun g => fun _ => True)) (m' := m + 300 + 1 + 1 + 1 + 1) rfl cb44 rfl rfl rfl rfl (fun wx hm => (gclassKey2_any wx B sb _ hm.k (by omega)).mono fun _ _ ⟨v, he, hz, hS, hg⟩ => ⟨v, he, hz, hS, hg, trivial⟩) (fun _ => Lasts2.true_) ?_
   rintro ck hck
   refine wl_nil ?_
   refine nw 12 127 (fun _ hm => ⟨hm.bl 2, hm.fa 1, trivial⟩) fun z => ?_
   refine wt 7 12 255 rfl z (ov_build (cs := [.string s14, .string ck]) rfl (by kernel_rfl)) ?_
   refine wa1 8 rfl ?_
   refine wl_buildSlice (e := 77) (cs := [.string s14, .string ck]) rfl (by kernel_rfl) rfl fun g16 => ?_
   refine wl_nil ?_
   refine nw 12 511 (fun _ hm => ⟨hm.bl 3, hm.fa 1, trivial⟩) fun z => ?_
   refine wa1 9 rfl ?_
   refine wl_append (news := [.string s14, .string ck]) 1 0 ap28 rfl rfl rfl rfl rfl rfl rfl (by omega) (by unfold maxLen; omega) rfl rfl fun v2 hv2 => ?_
   refine wl_look (R := ∃ A cc, v2 = .slice A (vn + 1) cc) (fun wx hm => own_slice (hm.ownI 1 rfl)) ?_
   rintro ⟨A2, c2, rfl⟩
   have hxs : vl.flatMap vhEnc ++ ([.string s14, .string ck] : List Value) = (vl ++ [(⟨s14, ck⟩ : Vh)]).flatMap vhEnc := by simp [vhEnc]
   rw [hxs]
   refine wl_nil ?_
   refine nw 12 1023 (fun _ hm => ⟨hm.bl 3, hm.fa 1, trivial⟩) fun z => ?_
   refine wt 10 12 2047 rfl z (ov_field fo31_2 rfl rfl) ?_
   refine wa1 11 rfl ?_
   refine wl_store 2 sc28 rfl rfl rfl rfl rfl rfl ?_
   refine wl_nil ?_
   refine nw 12 4095 (fun _ hm => ⟨hm.bl 3, hm.fa 1, trivial⟩) fun z => ?_
   refine wa_done (by kernel_rfl) ?_
   refine nx_blk_nrm (nx_then (sr_ ?_))
   refine wl_ov (ov_loads rz31 rfl (fun _ hm => hm.blkI 2 rfl) rfl rfl) rfl ?_
   refine wl_stores (cs' := [.slice sA sn sc, .slice cA 4 cc, .slice A2 (vn + 1) c2, .slice pA pn pc]) 3 rz31 rfl rfl rfl rfl rfl rfl rfl rfl ?_
   refine nn_ ?_
   refine gw_ret ?_
   refine nx_retc 3 rfl rz31 rfl rfl rfl fun wx hm => ?_
   exact ⟨sA, cA, A2, pA, sn, sc, cc, vn + 1, c2, pn, pc, sl, cl, vl ++ [(⟨s14, ck⟩ : Vh)], pl, rfl, ⟨⟨stB_all hsB, by omega⟩, hcok, ⟨all_snoc hvB ⟨by dsimp only; omega, by dsimp only; omega⟩, by omega⟩, hpB, by omega⟩, hm.k.more (by omega), hm.g, SlT.ofOwnL stEnc_lenL (stB_all hsB) (hm.ownI 0 rfl) hsl, (hm.fact 1 rfl), SlT.ofOwn vh_len (hm.ownI 1 rfl) (by simp [hvl]), SlT.ofOwn pl_len (hm.ownI 2 rfl) hpl, own_shape (hm.ownI 2 rfl), own_cap (hm.ownI 2 rfl)⟩
  refine wl_buildSlice (e := 9) (cs := [.string ⟨#[]⟩, .string ⟨#[118, 49]⟩, .string ⟨#[118, 57]⟩]) rfl (by kernel_rfl) rfl fun g17 => ?_
  refine wl_nil ?_
  refine nw 12 45 (fun _ hm => ⟨hm.bl 2, hm.fa 0, trivial⟩) fun z => ?_
  refine wa_all [1, 4] (by kernel_rfl) rfl ⟨⟨_, rfl, ?_⟩, ⟨_, rfl, ?_⟩, trivial⟩
  ·refine lk_ sc28 1 rfl rfl rfl (wl_nil ?_)
   refine nw 12 47 (fun _ hm => ⟨hm.bl 2, hm.fa 0, trivial⟩) fun z => ?_
   refine wa1 4 rfl ?_
   refine wl_got (γ := ByteArray) (val := fun v => .string v) (φ := fun v => v ∈ ([⟨#[]⟩, ⟨#[118, 49]⟩, ⟨#[118, 57]⟩] : List ByteArray)) rfl cb43 rfl rfl rfl rfl (fun wx hm => (some_any [⟨#[]⟩, ⟨#[118, 49]⟩, ⟨#[118, 57]⟩] _ _ _ wx B sb _ hm.k (by omega) (by simp) (by simp) (hm.blkI 0 rfl) (hm.neRow 0 rfl rfl))) fun s18 hs18 => ?_
   have zs18 : s18.size ≤ 100 := mem_sz hs18 (by decide)
   refine wl_nil ?_
   refine nw 12 63 (fun _ hm => ⟨hm.bl 2, hm.fa 0, trivial⟩) fun z => ?_
   refine wa1 6 rfl ?_
   refine wl_calls (γ := ByteArray) (val := (fun g => .string g)) (φ := (fun g => g.size ≤ 100)) (Y := (fun g => fun _ => True)) (m' := m + 300 + 1 + 1 + 1 + 1) rfl cb44 rfl rfl rfl rfl (fun wx hm => (gclassKey2_any wx B sb _ hm.k (by omega)).mono fun _ _ ⟨v, he, hz, hS, hg⟩ => ⟨v, he, hz, hS, hg, trivial⟩) (fun _ => Lasts2.true_) ?_
   rintro ck hck
   refine wl_nil ?_
   refine nw 12 127 (fun _ hm => ⟨hm.bl 2, hm.fa 1, trivial⟩) fun z => ?_
   refine wt 7 12 255 rfl z (ov_build (cs := [.string s18, .string ck]) rfl (by kernel_rfl)) ?_
   refine wa1 8 rfl ?_
   refine wl_buildSlice (e := 77) (cs := [.string s18, .string ck]) rfl (by kernel_rfl) rfl fun g20 => ?_
   refine wl_nil ?_
   refine nw 12 511 (fun _ hm => ⟨hm.bl 3, hm.fa 1, trivial⟩) fun z => ?_
   refine wa1 9 rfl ?_
   refine wl_append (news := [.string s18, .string ck]) 1 0 ap28 rfl rfl rfl rfl rfl rfl rfl (by omega) (by unfold maxLen; omega) rfl rfl fun v2 hv2 => ?_
   refine wl_look (R := ∃ A cc, v2 = .slice A (vn + 1) cc) (fun wx hm => own_slice (hm.ownI 1 rfl)) ?_
   rintro ⟨A2, c2, rfl⟩
   have hxs : vl.flatMap vhEnc ++ ([.string s18, .string ck] : List Value) = (vl ++ [(⟨s18, ck⟩ : Vh)]).flatMap vhEnc := by simp [vhEnc]
   rw [hxs]
   refine wl_nil ?_
   refine nw 12 1023 (fun _ hm => ⟨hm.bl 3, hm.fa 1, trivial⟩) fun z => ?_
   refine wt 10 12 2047 rfl z (ov_field fo31_2 rfl rfl) ?_
   refine wa1 11 rfl ?_
   refine wl_store 2 sc28 rfl rfl rfl rfl rfl rfl ?_
   refine wl_nil ?_
   refine nw 12 4095 (fun _ hm => ⟨hm.bl 3, hm.fa 1, trivial⟩) fun z => ?_
   refine wa_done (by kernel_rfl) ?_
   refine nx_blk_nrm (nx_then (sr_ ?_))
   refine wl_ov (ov_loads rz31 rfl (fun _ hm => hm.blkI 2 rfl) rfl rfl) rfl ?_
   refine wl_stores (cs' := [.slice sA sn sc, .slice cA 4 cc, .slice A2 (vn + 1) c2, .slice pA pn pc]) 3 rz31 rfl rfl rfl rfl rfl rfl rfl rfl ?_
   refine nn_ ?_
   refine gw_ret ?_
   refine nx_retc 3 rfl rz31 rfl rfl rfl fun wx hm => ?_
   exact ⟨sA, cA, A2, pA, sn, sc, cc, vn + 1, c2, pn, pc, sl, cl, vl ++ [(⟨s18, ck⟩ : Vh)], pl, rfl, ⟨⟨stB_all hsB, by omega⟩, hcok, ⟨all_snoc hvB ⟨by dsimp only; omega, by dsimp only; omega⟩, by omega⟩, hpB, by omega⟩, hm.k.more (by omega), hm.g, SlT.ofOwnL stEnc_lenL (stB_all hsB) (hm.ownI 0 rfl) hsl, (hm.fact 1 rfl), SlT.ofOwn vh_len (hm.ownI 1 rfl) (by simp [hvl]), SlT.ofOwn pl_len (hm.ownI 2 rfl) hpl, own_shape (hm.ownI 2 rfl), own_cap (hm.ownI 2 rfl)⟩
  refine wl_got (γ := ByteArray) (val := fun v => .string v) (φ := fun v => v ∈ ([⟨#[]⟩, ⟨#[118, 49]⟩, ⟨#[118, 57]⟩] : List ByteArray)) rfl cb43 rfl rfl rfl rfl (fun wx hm => (some_any [⟨#[]⟩, ⟨#[118, 49]⟩, ⟨#[118, 57]⟩] _ _ _ wx B sb _ hm.k (by omega) (by simp) (by simp) (hm.blkI 0 rfl) (hm.neRow 0 rfl rfl))) fun s21 hs21 => ?_
  have zs21 : s21.size ≤ 100 := mem_sz hs21 (by decide)
  refine wl_nil ?_
  refine nw 12 61 (fun _ hm => ⟨hm.bl 2, hm.fa 0, trivial⟩) fun z => ?_
  refine wa_all [1, 6] (by kernel_rfl) rfl ⟨⟨_, rfl, ?_⟩, ⟨_, rfl, ?_⟩, trivial⟩
  ·refine lk_ sc28 1 rfl rfl rfl (wl_nil ?_)
   refine nw 12 63 (fun _ hm => ⟨hm.bl 2, hm.fa 0, trivial⟩) fun z => ?_
   refine wa1 6 rfl ?_
   refine wl_calls (γ := ByteArray) (val := (fun g => .string g)) (φ := (fun g => g.size ≤ 100)) (Y := (fun g => fun _ => True)) (m' := m + 300 + 1 + 1 + 1 + 1) rfl cb44 rfl rfl rfl rfl (fun wx hm => (gclassKey2_any wx B sb _ hm.k (by omega)).mono fun _ _ ⟨v, he, hz, hS, hg⟩ => ⟨v, he, hz, hS, hg, trivial⟩) (fun _ => Lasts2.true_) ?_
   rintro ck hck
   refine wl_nil ?_
   refine nw 12 127 (fun _ hm => ⟨hm.bl 2, hm.fa 1, trivial⟩) fun z => ?_
   refine wt 7 12 255 rfl z (ov_build (cs := [.string s21, .string ck]) rfl (by kernel_rfl)) ?_
   refine wa1 8 rfl ?_
   refine wl_buildSlice (e := 77) (cs := [.string s21, .string ck]) rfl (by kernel_rfl) rfl fun g23 => ?_
   refine wl_nil ?_
   refine nw 12 511 (fun _ hm => ⟨hm.bl 3, hm.fa 1, trivial⟩) fun z => ?_
   refine wa1 9 rfl ?_
   refine wl_append (news := [.string s21, .string ck]) 1 0 ap28 rfl rfl rfl rfl rfl rfl rfl (by omega) (by unfold maxLen; omega) rfl rfl fun v2 hv2 => ?_
   refine wl_look (R := ∃ A cc, v2 = .slice A (vn + 1) cc) (fun wx hm => own_slice (hm.ownI 1 rfl)) ?_
   rintro ⟨A2, c2, rfl⟩
   have hxs : vl.flatMap vhEnc ++ ([.string s21, .string ck] : List Value) = (vl ++ [(⟨s21, ck⟩ : Vh)]).flatMap vhEnc := by simp [vhEnc]
   rw [hxs]
   refine wl_nil ?_
   refine nw 12 1023 (fun _ hm => ⟨hm.bl 3, hm.fa 1, trivial⟩) fun z => ?_
   refine wt 10 12 2047 rfl z (ov_field fo31_2 rfl rfl) ?_
   refine wa1 11 rfl ?_
   refine wl_store 2 sc28 rfl rfl rfl rfl rfl rfl ?_
   refine wl_nil ?_
   refine nw 12 4095 (fun _ hm => ⟨hm.bl 3, hm.fa 1, trivial⟩) fun z => ?_
   refine wa_done (by kernel_rfl) ?_
   refine nx_blk_nrm (nx_then (sr_ ?_))
   refine wl_ov (ov_loads rz31 rfl (fun _ hm => hm.blkI 2 rfl) rfl rfl) rfl ?_
   refine wl_stores (cs' := [.slice sA sn sc, .slice cA 4 cc, .slice A2 (vn + 1) c2, .slice pA pn pc]) 3 rz31 rfl rfl rfl rfl rfl rfl rfl rfl ?_
   refine nn_ ?_
   refine gw_ret ?_
   refine nx_retc 3 rfl rz31 rfl rfl rfl fun wx hm => ?_
   exact ⟨sA, cA, A2, pA, sn, sc, cc, vn + 1, c2, pn, pc, sl, cl, vl ++ [(⟨s21, ck⟩ : Vh)], pl, rfl, ⟨⟨stB_all hsB, by omega⟩, hcok, ⟨all_snoc hvB ⟨by dsimp only; omega, by dsimp only; omega⟩, by omega⟩, hpB, by omega⟩, hm.k.more (by omega), hm.g, SlT.ofOwnL stEnc_lenL (stB_all hsB) (hm.ownI 0 rfl) hsl, (hm.fact 1 rfl), SlT.ofOwn vh_len (hm.ownI 1 rfl) (by simp [hvl]), SlT.ofOwn pl_len (hm.ownI 2 rfl) hpl, own_shape (hm.ownI 2 rfl), own_cap (hm.ownI 2 rfl)⟩
  refine wl_calls (γ := ByteArray) (val := (fun g => .string g)) (φ := (fun g => g.size ≤ 100)) (Y := (fun g => fun _ => True)) (m' := m + 300 + 1 + 1 + 1 + 1) rfl cb44 rfl rfl rfl rfl (fun wx hm => (gclassKey2_any wx B sb _ hm.k (by omega)).mono fun _ _ ⟨v, he, hz, hS, hg⟩ => ⟨v, he, hz, hS, hg, trivial⟩) (fun _ => Lasts2.true_) ?_
  rintro ck hck
  refine wl_nil ?_
  refine nw 12 125 (fun _ hm => ⟨hm.bl 2, hm.fa 1, trivial⟩) fun z => ?_
  refine wt 7 12 253 rfl z (ov_build (cs := [.string s21, .string ck]) rfl (by kernel_rfl)) ?_
  refine wa_all [1, 8] (by kernel_rfl) rfl ⟨⟨_, rfl, ?_⟩, ⟨_, rfl, ?_⟩, trivial⟩
  ·refine lk_ sc28 1 rfl rfl rfl (wl_nil ?_)
   refine nw 12 255 (fun _ hm => ⟨hm.bl 2, hm.fa 1, trivial⟩) fun z => ?_
   refine wa1 8 rfl ?_
   refine wl_buildSlice (e := 77) (cs := [.string s21, .string ck]) rfl (by kernel_rfl) rfl fun g25 => ?_
   refine wl_nil ?_
   refine nw 12 511 (fun _ hm => ⟨hm.bl 3, hm.fa 1, trivial⟩) fun z => ?_
   refine wa1 9 rfl ?_
   refine wl_append (news := [.string s21, .string ck]) 1 0 ap28 rfl rfl rfl rfl rfl rfl rfl (by omega) (by unfold maxLen; omega) rfl rfl fun v2 hv2 => ?_
   refine wl_look (R := ∃ A cc, v2 = .slice A (vn + 1) cc) (fun wx hm => own_slice (hm.ownI 1 rfl)) ?_
   rintro ⟨A2, c2, rfl⟩
   have hxs : vl.flatMap vhEnc ++ ([.string s21, .string ck] : List Value) = (vl ++ [(⟨s21, ck⟩ : Vh)]).flatMap vhEnc := by simp [vhEnc]
   rw [hxs]
   refine wl_nil ?_
   refine nw 12 1023 (fun _ hm => ⟨hm.bl 3, hm.fa 1, trivial⟩) fun z => ?_
   refine wt 10 12 2047 rfl z (ov_field fo31_2 rfl rfl) ?_
   refine wa1 11 rfl ?_
   refine wl_store 2 sc28 rfl rfl rfl rfl rfl rfl ?_
   refine wl_nil ?_
   refine nw 12 4095 (fun _ hm => ⟨hm.bl 3, hm.fa 1, trivial⟩) fun z => ?_
   refine wa_done (by kernel_rfl) ?_
   refine nx_blk_nrm (nx_then (sr_ ?_))
   refine wl_ov (ov_loads rz31 rfl (fun _ hm => hm.blkI 2 rfl) rfl rfl) rfl ?_
   refine wl_stores (cs' := [.slice sA sn sc, .slice cA 4 cc, .slice A2 (vn + 1) c2, .slice pA pn pc]) 3 rz31 rfl rfl rfl rfl rfl rfl rfl rfl ?_
   refine nn_ ?_
   refine gw_ret ?_
   refine nx_retc 3 rfl rz31 rfl rfl rfl fun wx hm => ?_
   exact ⟨sA, cA, A2, pA, sn, sc, cc, vn + 1, c2, pn, pc, sl, cl, vl ++ [(⟨s21, ck⟩ : Vh)], pl, rfl, ⟨⟨stB_all hsB, by omega⟩, hcok, ⟨all_snoc hvB ⟨by dsimp only; omega, by dsimp only; omega⟩, by omega⟩, hpB, by omega⟩, hm.k.more (by omega), hm.g, SlT.ofOwnL stEnc_lenL (stB_all hsB) (hm.ownI 0 rfl) hsl, (hm.fact 1 rfl), SlT.ofOwn vh_len (hm.ownI 1 rfl) (by simp [hvl]), SlT.ofOwn pl_len (hm.ownI 2 rfl) hpl, own_shape (hm.ownI 2 rfl), own_cap (hm.ownI 2 rfl)⟩
  refine wl_buildSlice (e := 77) (cs := [.string s21, .string ck]) rfl (by kernel_rfl) rfl fun g26 => ?_
  refine wl_nil ?_
  refine nw 12 509 (fun _ hm => ⟨hm.bl 3, hm.fa 1, trivial⟩) fun z => ?_
  refine wa1 1 rfl ?_
  refine lk_ sc28 2 rfl rfl rfl (wl_nil ?_)
  refine nw 12 511 (fun _ hm => ⟨hm.bl 3, hm.fa 1, trivial⟩) fun z => ?_
  refine wa1 9 rfl ?_
  refine wl_append (news := [.string s21, .string ck]) 1 0 ap28 rfl rfl rfl rfl rfl rfl rfl (by omega) (by unfold maxLen; omega) rfl rfl fun v2 hv2 => ?_
  refine wl_look (R := ∃ A cc, v2 = .slice A (vn + 1) cc) (fun wx hm => own_slice (hm.ownI 1 rfl)) ?_
  rintro ⟨A2, c2, rfl⟩
  have hxs : vl.flatMap vhEnc ++ ([.string s21, .string ck] : List Value) = (vl ++ [(⟨s21, ck⟩ : Vh)]).flatMap vhEnc := by simp [vhEnc]
  rw [hxs]
  refine wl_nil ?_
  refine nw 12 1023 (fun _ hm => ⟨hm.bl 3, hm.fa 1, trivial⟩) fun z => ?_
  refine wt 10 12 2047 rfl z (ov_field fo31_2 rfl rfl) ?_
  refine wa1 11 rfl ?_
  refine wl_store 2 sc28 rfl rfl rfl rfl rfl rfl ?_
  refine wl_nil ?_
  refine nw 12 4095 (fun _ hm => ⟨hm.bl 3, hm.fa 1, trivial⟩) fun z => ?_
  refine wa_done (by kernel_rfl) ?_
  refine nx_blk_nrm (nx_then (sr_ ?_))
  refine wl_ov (ov_loads rz31 rfl (fun _ hm => hm.blkI 2 rfl) rfl rfl) rfl ?_
  refine wl_stores (cs' := [.slice sA sn sc, .slice cA 4 cc, .slice A2 (vn + 1) c2, .slice pA pn pc]) 3 rz31 rfl rfl rfl rfl rfl rfl rfl rfl ?_
  refine nn_ ?_
  refine gw_ret ?_
  refine nx_retc 3 rfl rz31 rfl rfl rfl fun wx hm => ?_
  exact ⟨sA, cA, A2, pA, sn, sc, cc, vn + 1, c2, pn, pc, sl, cl, vl ++ [(⟨s21, ck⟩ : Vh)], pl, rfl, ⟨⟨stB_all hsB, by omega⟩, hcok, ⟨all_snoc hvB ⟨by dsimp only; omega, by dsimp only; omega⟩, by omega⟩, hpB, by omega⟩, hm.k.more (by omega), hm.g, SlT.ofOwnL stEnc_lenL (stB_all hsB) (hm.ownI 0 rfl) hsl, (hm.fact 1 rfl), SlT.ofOwn vh_len (hm.ownI 1 rfl) (by simp [hvl]), SlT.ofOwn pl_len (hm.ownI 2 rfl) hpl, own_shape (hm.ownI 2 rfl), own_cap (hm.ownI 2 rfl)⟩
 have h2 : ¬ (vj = 2) := by simpa using hh
 clear hh
 refine gd (fun wz => Blk wz g1 31 [.slice none 0 0, .slice none 0 0, .slice none 0 0, .slice none 0 0] ∧ (fun wy => SlT csEnc 2 159 wy cA 4 cl) wz ∧ True) mixed (fun _ hm => ⟨hm.bl 1, hm.fa 0, trivial⟩) fun z => ?_
 refine wt 0 15 1 rfl z (ov_field fo31_3 rfl rfl) ?_
 refine wt 2 15 5 rfl z (ov_move rfl) ?_
 refine wt 4 15 21 rfl z (ov_move rfl) ?_
 refine wt 7 15 149 rfl z (ov_move rfl) ?_
 refine wa_open fun W hW => ?_
 have T255 : ∀ (k3 : Int) (hk3 : -2000000000000000 ≤ k3 ∧ k3 ≤ 2000000000000000) (q5 : Nat) (k6 : ByteArray) (zk6 : k6.size ≤ 100), W 7 (lb 15 255) [(0, .pointer (some ⟨sb, 0, none⟩)), (2, .pointer (some ⟨g1, 0, none⟩)), (3, .pointer (some ⟨g2, 0, none⟩)), (4, .pointer (some ⟨sb, 0, none⟩)), (5, .agg #[.slice sA sn sc, .slice cA 4 cc, .slice vA vn vc, .slice pA pn pc]), (6, .pointer (some ⟨sb, 0, none⟩)), (7, .bool f3), (8, .bool (!f3)), (10, .pointer (some ⟨sb, 0, none⟩)), (11, .int .i64 vj), (12, .pointer (some ⟨g2, 3, none⟩)), (13, .slice pA pn pc), (14, .pointer (some ⟨sb, 0, none⟩)), (15, .int .i64 k3), (16, .pointer (some ⟨sb, 0, none⟩)), (17, .slice (some ⟨q5, 0, none⟩) 2 2), (18, .string k6), (19, .pointer (some ⟨sb, 0, none⟩)), (26, .bool (decide (vj = 0))), (27, .bool (decide (vj = 0))), (37, .bool (decide (vj = 1))), (38, .bool (decide (vj = 1))), (42, .bool (decide (vj = 2))), (43, .bool (decide (vj = 2)))] (fun w => Strm 25 w B sb (m + 300 + 1 + 1 + 2 + 1)) [(g1, 31, [.slice none 0 0, .slice none 0 0, .slice none 0 0, .slice none 0 0]), (g2, 31, [.slice sA sn sc, .slice cA 4 cc, .slice vA vn vc, .slice pA pn pc]), (q5, 9, [.string ⟨#[118, 49]⟩, .string ⟨#[110, 111, 110, 101]⟩])] [⟨.slice sA sn sc, 140, 15, sn, sl.flatMap stEnc⟩, ⟨.slice vA vn vc, 77, 2, vn, vl.flatMap vhEnc⟩, ⟨.slice pA pn pc, 143, 3, pn, pl.flatMap plEnc⟩] [fun wy => SlT csEnc 2 159 wy cA 4 cl] := by
  intro k3 hk3 q5 k6 zk6
  rw [hW]
  refine wa1 8 rfl ?_
  refine wl_buildSlice (e := 9) (cs := [.string ⟨#[65, 66, 49]⟩, .string ⟨#[97, 49]⟩, .string ⟨#[65]⟩, .string ⟨#[65, 66, 67, 68, 69, 70, 71, 72, 73, 74, 49]⟩, .string ⟨#[65, 66, 49]⟩]) rfl (by kernel_rfl) rfl fun g27 => ?_
  refine wl_nil ?_
  refine nw 15 511 (fun _ hm => ⟨hm.bl 1, hm.fa 0, trivial⟩) fun z => ?_
  refine wa1 9 rfl ?_
  refine wl_got (γ := ByteArray) (val := fun v => .string v) (φ := fun v => v ∈ ([⟨#[65, 66, 49]⟩, ⟨#[97, 49]⟩, ⟨#[65]⟩, ⟨#[65, 66, 67, 68, 69, 70, 71, 72, 73, 74, 49]⟩, ⟨#[65, 66, 49]⟩] : List ByteArray)) rfl cb43 rfl rfl rfl rfl (fun wx hm => (some_any [⟨#[65, 66, 49]⟩, ⟨#[97, 49]⟩, ⟨#[65]⟩, ⟨#[65, 66, 67, 68, 69, 70, 71, 72, 73, 74, 49]⟩, ⟨#[65, 66, 49]⟩] _ _ _ wx B sb _ hm.k (by omega) (by simp) (by simp) (hm.blkI 0 rfl) (hm.neRow 0 rfl rfl))) fun k9 hk9 => ?_
  have zk9 : k9.size ≤ 100 := mem_sz hk9 (by decide)
  refine wl_nil ?_
  refine nw 15 1023 (fun _ hm => ⟨hm.bl 1, hm.fa 0, trivial⟩) fun z => ?_
  refine wt 10 15 2047 rfl z (ov_build (cs := [.int .i64 k3, .string k6, .string k9]) rfl (by kernel_rfl)) ?_
  refine wa1 11 rfl ?_
  refine wl_buildSlice (e := 143) (cs := [.int .i64 k3, .string k6, .string k9]) rfl (by kernel_rfl) rfl fun g28 => ?_
  refine wl_nil ?_
  refine nw 15 4095 (fun _ hm => ⟨hm.bl 2, hm.fa 0, trivial⟩) fun z => ?_
  refine wa1 12 rfl ?_
  refine wl_append (news := [.int .i64 k3, .string k6, .string k9]) 2 0 ap29 rfl rfl rfl rfl rfl rfl rfl (by omega) (by unfold maxLen; omega) rfl rfl fun v2 hv2 => ?_
  refine wl_look (R := ∃ A cc, v2 = .slice A (pn + 1) cc) (fun wx hm => own_slice (hm.ownI 2 rfl)) ?_
  rintro ⟨A2, c2, rfl⟩
  have hxs : pl.flatMap plEnc ++ ([.int .i64 k3, .string k6, .string k9] : List Value) = (pl ++ [(⟨k3, k6, k9⟩ : Pl)]).flatMap plEnc := by simp [plEnc]
  rw [hxs]
  refine wl_nil ?_
  refine nw 15 8191 (fun _ hm => ⟨hm.bl 2, hm.fa 0, trivial⟩) fun z => ?_
  refine wt 13 15 16383 rfl z (ov_field fo31_3 rfl rfl) ?_
  refine wa1 14 rfl ?_
  refine wl_store 3 sc29 rfl rfl rfl rfl rfl rfl ?_
  refine wl_nil ?_
  refine nw 15 32767 (fun _ hm => ⟨hm.bl 2, hm.fa 0, trivial⟩) fun z => ?_
  refine wa_done (by kernel_rfl) ?_
  refine nx_blk_nrm (nx_then (sr_ ?_))
  refine wl_ov (ov_loads rz31 rfl (fun _ hm => hm.blkI 3 rfl) rfl rfl) rfl ?_
  refine wl_stores (cs' := [.slice sA sn sc, .slice cA 4 cc, .slice vA vn vc, .slice A2 (pn + 1) c2]) 2 rz31 rfl rfl rfl rfl rfl rfl rfl rfl ?_
  refine nn_ ?_
  refine gw_ret ?_
  refine nx_retc 2 rfl rz31 rfl rfl rfl fun wx hm => ?_
  exact ⟨sA, cA, vA, A2, sn, sc, cc, vn, vc, pn + 1, c2, sl, cl, vl, pl ++ [(⟨k3, k6, k9⟩ : Pl)], rfl, ⟨⟨stB_all hsB, by omega⟩, hcok, ⟨hvB, by omega⟩, all_snoc hpB ⟨⟨by dsimp only; omega, by dsimp only; omega⟩, by dsimp only; omega, by dsimp only; omega⟩, by omega⟩, hm.k.more (by omega), hm.g, SlT.ofOwnL stEnc_lenL (stB_all hsB) (hm.ownI 0 rfl) hsl, (hm.fact 0 rfl), SlT.ofOwn vh_len (hm.ownI 1 rfl) hvl, SlT.ofOwn pl_len (hm.ownI 2 rfl) (by simp [hpl]), own_shape (hm.ownI 2 rfl), own_cap (hm.ownI 2 rfl)⟩
 have T447 : ∀ (k3 : Int) (hk3 : -2000000000000000 ≤ k3 ∧ k3 ≤ 2000000000000000) (q5 : Nat) (q8 : Nat), W 7 (lb 15 447) [(0, .pointer (some ⟨sb, 0, none⟩)), (2, .pointer (some ⟨g1, 0, none⟩)), (3, .pointer (some ⟨g2, 0, none⟩)), (4, .pointer (some ⟨sb, 0, none⟩)), (5, .agg #[.slice sA sn sc, .slice cA 4 cc, .slice vA vn vc, .slice pA pn pc]), (6, .pointer (some ⟨sb, 0, none⟩)), (7, .bool f3), (8, .bool (!f3)), (10, .pointer (some ⟨sb, 0, none⟩)), (11, .int .i64 vj), (12, .pointer (some ⟨g2, 3, none⟩)), (13, .slice pA pn pc), (14, .pointer (some ⟨sb, 0, none⟩)), (15, .int .i64 k3), (16, .pointer (some ⟨sb, 0, none⟩)), (17, .slice (some ⟨q5, 0, none⟩) 2 2), (19, .pointer (some ⟨sb, 0, none⟩)), (20, .slice (some ⟨q8, 0, none⟩) 5 5), (26, .bool (decide (vj = 0))), (27, .bool (decide (vj = 0))), (37, .bool (decide (vj = 1))), (38, .bool (decide (vj = 1))), (42, .bool (decide (vj = 2))), (43, .bool (decide (vj = 2)))] (fun w => Strm 25 w B sb (m + 300 + 1 + 1 + 2)) [(g1, 31, [.slice none 0 0, .slice none 0 0, .slice none 0 0, .slice none 0 0]), (g2, 31, [.slice sA sn sc, .slice cA 4 cc, .slice vA vn vc, .slice pA pn pc]), (q5, 9, [.string ⟨#[118, 49]⟩, .string ⟨#[110, 111, 110, 101]⟩]), (q8, 9, [.string ⟨#[65, 66, 49]⟩, .string ⟨#[97, 49]⟩, .string ⟨#[65]⟩, .string ⟨#[65, 66, 67, 68, 69, 70, 71, 72, 73, 74, 49]⟩, .string ⟨#[65, 66, 49]⟩])] [⟨.slice sA sn sc, 140, 15, sn, sl.flatMap stEnc⟩, ⟨.slice vA vn vc, 77, 2, vn, vl.flatMap vhEnc⟩, ⟨.slice pA pn pc, 143, 3, pn, pl.flatMap plEnc⟩] [fun wy => SlT csEnc 2 159 wy cA 4 cl] := by
  intro k3 hk3 q5 q8
  rw [hW]
  refine wa1 6 rfl ?_
  refine wl_got (γ := ByteArray) (val := fun v => .string v) (φ := fun v => v ∈ ([⟨#[118, 49]⟩, ⟨#[110, 111, 110, 101]⟩] : List ByteArray)) rfl cb43 rfl rfl rfl rfl (fun wx hm => (some_any [⟨#[118, 49]⟩, ⟨#[110, 111, 110, 101]⟩] _ _ _ wx B sb _ hm.k (by omega) (by simp) (by simp) (hm.blkI 2 rfl) (hm.neRow 2 rfl rfl))) fun k6 hk6 => ?_
  have zk6 : k6.size ≤ 100 := mem_sz hk6 (by decide)
  refine wl_nil ?_
  refine nw 15 511 (fun _ hm => ⟨hm.bl 0, hm.fa 0, trivial⟩) fun z => ?_
  refine wa1 9 rfl ?_
  refine wl_got (γ := ByteArray) (val := fun v => .string v) (φ := fun v => v ∈ ([⟨#[65, 66, 49]⟩, ⟨#[97, 49]⟩, ⟨#[65]⟩, ⟨#[65, 66, 67, 68, 69, 70, 71, 72, 73, 74, 49]⟩, ⟨#[65, 66, 49]⟩] : List ByteArray)) rfl cb43 rfl rfl rfl rfl (fun wx hm => (some_any [⟨#[65, 66, 49]⟩, ⟨#[97, 49]⟩, ⟨#[65]⟩, ⟨#[65, 66, 67, 68, 69, 70, 71, 72, 73, 74, 49]⟩, ⟨#[65, 66, 49]⟩] _ _ _ wx B sb _ hm.k (by omega) (by simp) (by simp) (hm.blkI 3 rfl) (hm.neRow 3 rfl rfl))) fun k9 hk9 => ?_
  have zk9 : k9.size ≤ 100 := mem_sz hk9 (by decide)
  refine wl_nil ?_
  refine nw 15 1023 (fun _ hm => ⟨hm.bl 0, hm.fa 0, trivial⟩) fun z => ?_
  refine wt 10 15 2047 rfl z (ov_build (cs := [.int .i64 k3, .string k6, .string k9]) rfl (by kernel_rfl)) ?_
  refine wa1 11 rfl ?_
  refine wl_buildSlice (e := 143) (cs := [.int .i64 k3, .string k6, .string k9]) rfl (by kernel_rfl) rfl fun g29 => ?_
  refine wl_nil ?_
  refine nw 15 4095 (fun _ hm => ⟨hm.bl 1, hm.fa 0, trivial⟩) fun z => ?_
  refine wa1 12 rfl ?_
  refine wl_append (news := [.int .i64 k3, .string k6, .string k9]) 2 0 ap29 rfl rfl rfl rfl rfl rfl rfl (by omega) (by unfold maxLen; omega) rfl rfl fun v2 hv2 => ?_
  refine wl_look (R := ∃ A cc, v2 = .slice A (pn + 1) cc) (fun wx hm => own_slice (hm.ownI 2 rfl)) ?_
  rintro ⟨A2, c2, rfl⟩
  have hxs : pl.flatMap plEnc ++ ([.int .i64 k3, .string k6, .string k9] : List Value) = (pl ++ [(⟨k3, k6, k9⟩ : Pl)]).flatMap plEnc := by simp [plEnc]
  rw [hxs]
  refine wl_nil ?_
  refine nw 15 8191 (fun _ hm => ⟨hm.bl 1, hm.fa 0, trivial⟩) fun z => ?_
  refine wt 13 15 16383 rfl z (ov_field fo31_3 rfl rfl) ?_
  refine wa1 14 rfl ?_
  refine wl_store 2 sc29 rfl rfl rfl rfl rfl rfl ?_
  refine wl_nil ?_
  refine nw 15 32767 (fun _ hm => ⟨hm.bl 1, hm.fa 0, trivial⟩) fun z => ?_
  refine wa_done (by kernel_rfl) ?_
  refine nx_blk_nrm (nx_then (sr_ ?_))
  refine wl_ov (ov_loads rz31 rfl (fun _ hm => hm.blkI 2 rfl) rfl rfl) rfl ?_
  refine wl_stores (cs' := [.slice sA sn sc, .slice cA 4 cc, .slice vA vn vc, .slice A2 (pn + 1) c2]) 1 rz31 rfl rfl rfl rfl rfl rfl rfl rfl ?_
  refine nn_ ?_
  refine gw_ret ?_
  refine nx_retc 1 rfl rz31 rfl rfl rfl fun wx hm => ?_
  exact ⟨sA, cA, vA, A2, sn, sc, cc, vn, vc, pn + 1, c2, sl, cl, vl, pl ++ [(⟨k3, k6, k9⟩ : Pl)], rfl, ⟨⟨stB_all hsB, by omega⟩, hcok, ⟨hvB, by omega⟩, all_snoc hpB ⟨⟨by dsimp only; omega, by dsimp only; omega⟩, by dsimp only; omega, by dsimp only; omega⟩, by omega⟩, hm.k.more (by omega), hm.g, SlT.ofOwnL stEnc_lenL (stB_all hsB) (hm.ownI 0 rfl) hsl, (hm.fact 0 rfl), SlT.ofOwn vh_len (hm.ownI 1 rfl) hvl, SlT.ofOwn pl_len (hm.ownI 2 rfl) (by simp [hpl]), own_shape (hm.ownI 2 rfl), own_cap (hm.ownI 2 rfl)⟩
 have J191 : ∀ (k3 : Int) (hk3 : -2000000000000000 ≤ k3 ∧ k3 ≤ 2000000000000000) (q5 : Nat), W 8 (lb 15 191) [(0, .pointer (some ⟨sb, 0, none⟩)), (2, .pointer (some ⟨g1, 0, none⟩)), (3, .pointer (some ⟨g2, 0, none⟩)), (4, .pointer (some ⟨sb, 0, none⟩)), (5, .agg #[.slice sA sn sc, .slice cA 4 cc, .slice vA vn vc, .slice pA pn pc]), (6, .pointer (some ⟨sb, 0, none⟩)), (7, .bool f3), (8, .bool (!f3)), (10, .pointer (some ⟨sb, 0, none⟩)), (11, .int .i64 vj), (12, .pointer (some ⟨g2, 3, none⟩)), (13, .slice pA pn pc), (14, .pointer (some ⟨sb, 0, none⟩)), (15, .int .i64 k3), (16, .pointer (some ⟨sb, 0, none⟩)), (17, .slice (some ⟨q5, 0, none⟩) 2 2), (19, .pointer (some ⟨sb, 0, none⟩)), (26, .bool (decide (vj = 0))), (27, .bool (decide (vj = 0))), (37, .bool (decide (vj = 1))), (38, .bool (decide (vj = 1))), (42, .bool (decide (vj = 2))), (43, .bool (decide (vj = 2)))] (fun w => Strm 25 w B sb (m + 300 + 1 + 1 + 2)) [(g1, 31, [.slice none 0 0, .slice none 0 0, .slice none 0 0, .slice none 0 0]), (g2, 31, [.slice sA sn sc, .slice cA 4 cc, .slice vA vn vc, .slice pA pn pc]), (q5, 9, [.string ⟨#[118, 49]⟩, .string ⟨#[110, 111, 110, 101]⟩])] [⟨.slice sA sn sc, 140, 15, sn, sl.flatMap stEnc⟩, ⟨.slice vA vn vc, 77, 2, vn, vl.flatMap vhEnc⟩, ⟨.slice pA pn pc, 143, 3, pn, pl.flatMap plEnc⟩] [fun wy => SlT csEnc 2 159 wy cA 4 cl] := by
  intro k3 hk3 q5
  rw [hW]
  refine wa_all [6, 8] (by kernel_rfl) rfl ⟨⟨_, rfl, ?_⟩, ⟨_, rfl, ?_⟩, trivial⟩
  ·refine wl_got (γ := ByteArray) (val := fun v => .string v) (φ := fun v => v ∈ ([⟨#[118, 49]⟩, ⟨#[110, 111, 110, 101]⟩] : List ByteArray)) rfl cb43 rfl rfl rfl rfl (fun wx hm => (some_any [⟨#[118, 49]⟩, ⟨#[110, 111, 110, 101]⟩] _ _ _ wx B sb _ hm.k (by omega) (by simp) (by simp) (hm.blkI 2 rfl) (hm.neRow 2 rfl rfl))) fun k6 hk6 => ?_
   have zk6 : k6.size ≤ 100 := mem_sz hk6 (by decide)
   refine wl_nil ?_
   refine nw 15 255 (fun _ hm => ⟨hm.bl 0, hm.fa 0, trivial⟩) fun z => ?_
   have h := T255 k3 hk3 q5 k6 zk6
   rw [hW] at h
   refine wa_weak ?_ ?_ h
   ·exact ⟨rfl, rfl, rfl, rfl, rfl, rfl, rfl, rfl, rfl, rfl, rfl, rfl, rfl, rfl, rfl, rfl, rfl, rfl, rfl, rfl, rfl, rfl, rfl, rfl, trivial⟩
   exact fun _ hm => hm.pick [0, 1, 2] [0, 1, 2] [0] rfl rfl
  refine wl_buildSlice (e := 9) (cs := [.string ⟨#[65, 66, 49]⟩, .string ⟨#[97, 49]⟩, .string ⟨#[65]⟩, .string ⟨#[65, 66, 67, 68, 69, 70, 71, 72, 73, 74, 49]⟩, .string ⟨#[65, 66, 49]⟩]) rfl (by kernel_rfl) rfl fun q8 => ?_
  refine wl_nil ?_
  refine nw 15 447 (fun _ hm => ⟨hm.bl 1, hm.fa 0, trivial⟩) fun z => ?_
  have h := T447 k3 hk3 q5 q8
  rw [hW] at h
  refine wa_weak ?_ ?_ h
  ·exact ⟨rfl, rfl, rfl, rfl, rfl, rfl, rfl, rfl, rfl, rfl, rfl, rfl, rfl, rfl, rfl, rfl, rfl, rfl, rfl, rfl, rfl, rfl, rfl, rfl, trivial⟩
  exact fun _ hm => hm.pick [1, 2, 3, 0] [0, 1, 2] [0] rfl rfl
 have T415 : ∀ (k3 : Int) (hk3 : -2000000000000000 ≤ k3 ∧ k3 ≤ 2000000000000000) (q8 : Nat), W 8 (lb 15 415) [(0, .pointer (some ⟨sb, 0, none⟩)), (2, .pointer (some ⟨g1, 0, none⟩)), (3, .pointer (some ⟨g2, 0, none⟩)), (4, .pointer (some ⟨sb, 0, none⟩)), (5, .agg #[.slice sA sn sc, .slice cA 4 cc, .slice vA vn vc, .slice pA pn pc]), (6, .pointer (some ⟨sb, 0, none⟩)), (7, .bool f3), (8, .bool (!f3)), (10, .pointer (some ⟨sb, 0, none⟩)), (11, .int .i64 vj), (12, .pointer (some ⟨g2, 3, none⟩)), (13, .slice pA pn pc), (14, .pointer (some ⟨sb, 0, none⟩)), (15, .int .i64 k3), (16, .pointer (some ⟨sb, 0, none⟩)), (19, .pointer (some ⟨sb, 0, none⟩)), (20, .slice (some ⟨q8, 0, none⟩) 5 5), (26, .bool (decide (vj = 0))), (27, .bool (decide (vj = 0))), (37, .bool (decide (vj = 1))), (38, .bool (decide (vj = 1))), (42, .bool (decide (vj = 2))), (43, .bool (decide (vj = 2)))] (fun w => Strm 25 w B sb (m + 300 + 1 + 1 + 2)) [(g1, 31, [.slice none 0 0, .slice none 0 0, .slice none 0 0, .slice none 0 0]), (g2, 31, [.slice sA sn sc, .slice cA 4 cc, .slice vA vn vc, .slice pA pn pc]), (q8, 9, [.string ⟨#[65, 66, 49]⟩, .string ⟨#[97, 49]⟩, .string ⟨#[65]⟩, .string ⟨#[65, 66, 67, 68, 69, 70, 71, 72, 73, 74, 49]⟩, .string ⟨#[65, 66, 49]⟩])] [⟨.slice sA sn sc, 140, 15, sn, sl.flatMap stEnc⟩, ⟨.slice vA vn vc, 77, 2, vn, vl.flatMap vhEnc⟩, ⟨.slice pA pn pc, 143, 3, pn, pl.flatMap plEnc⟩] [fun wy => SlT csEnc 2 159 wy cA 4 cl] := by
  intro k3 hk3 q8
  rw [hW]
  refine wa1 5 rfl ?_
  refine wl_buildSlice (e := 9) (cs := [.string ⟨#[118, 49]⟩, .string ⟨#[110, 111, 110, 101]⟩]) rfl (by kernel_rfl) rfl fun g30 => ?_
  refine wl_nil ?_
  refine nw 15 447 (fun _ hm => ⟨hm.bl 1, hm.fa 0, trivial⟩) fun z => ?_
  refine wa1 6 rfl ?_
  refine wl_got (γ := ByteArray) (val := fun v => .string v) (φ := fun v => v ∈ ([⟨#[118, 49]⟩, ⟨#[110, 111, 110, 101]⟩] : List ByteArray)) rfl cb43 rfl rfl rfl rfl (fun wx hm => (some_any [⟨#[118, 49]⟩, ⟨#[110, 111, 110, 101]⟩] _ _ _ wx B sb _ hm.k (by omega) (by simp) (by simp) (hm.blkI 0 rfl) (hm.neRow 0 rfl rfl))) fun k6 hk6 => ?_
  have zk6 : k6.size ≤ 100 := mem_sz hk6 (by decide)
  refine wl_nil ?_
  refine nw 15 511 (fun _ hm => ⟨hm.bl 1, hm.fa 0, trivial⟩) fun z => ?_
  refine wa1 9 rfl ?_
  refine wl_got (γ := ByteArray) (val := fun v => .string v) (φ := fun v => v ∈ ([⟨#[65, 66, 49]⟩, ⟨#[97, 49]⟩, ⟨#[65]⟩, ⟨#[65, 66, 67, 68, 69, 70, 71, 72, 73, 74, 49]⟩, ⟨#[65, 66, 49]⟩] : List ByteArray)) rfl cb43 rfl rfl rfl rfl (fun wx hm => (some_any [⟨#[65, 66, 49]⟩, ⟨#[97, 49]⟩, ⟨#[65]⟩, ⟨#[65, 66, 67, 68, 69, 70, 71, 72, 73, 74, 49]⟩, ⟨#[65, 66, 49]⟩] _ _ _ wx B sb _ hm.k (by omega) (by simp) (by simp) (hm.blkI 3 rfl) (hm.neRow 3 rfl rfl))) fun k9 hk9 => ?_
  have zk9 : k9.size ≤ 100 := mem_sz hk9 (by decide)
  refine wl_nil ?_
  refine nw 15 1023 (fun _ hm => ⟨hm.bl 1, hm.fa 0, trivial⟩) fun z => ?_
  refine wt 10 15 2047 rfl z (ov_build (cs := [.int .i64 k3, .string k6, .string k9]) rfl (by kernel_rfl)) ?_
  refine wa1 11 rfl ?_
  refine wl_buildSlice (e := 143) (cs := [.int .i64 k3, .string k6, .string k9]) rfl (by kernel_rfl) rfl fun g31 => ?_
  refine wl_nil ?_
  refine nw 15 4095 (fun _ hm => ⟨hm.bl 2, hm.fa 0, trivial⟩) fun z => ?_
  refine wa1 12 rfl ?_
  refine wl_append (news := [.int .i64 k3, .string k6, .string k9]) 2 0 ap29 rfl rfl rfl rfl rfl rfl rfl (by omega) (by unfold maxLen; omega) rfl rfl fun v2 hv2 => ?_
  refine wl_look (R := ∃ A cc, v2 = .slice A (pn + 1) cc) (fun wx hm => own_slice (hm.ownI 2 rfl)) ?_
  rintro ⟨A2, c2, rfl⟩
  have hxs : pl.flatMap plEnc ++ ([.int .i64 k3, .string k6, .string k9] : List Value) = (pl ++ [(⟨k3, k6, k9⟩ : Pl)]).flatMap plEnc := by simp [plEnc]
  rw [hxs]
  refine wl_nil ?_
  refine nw 15 8191 (fun _ hm => ⟨hm.bl 2, hm.fa 0, trivial⟩) fun z => ?_
  refine wt 13 15 16383 rfl z (ov_field fo31_3 rfl rfl) ?_
  refine wa1 14 rfl ?_
  refine wl_store 3 sc29 rfl rfl rfl rfl rfl rfl ?_
  refine wl_nil ?_
  refine nw 15 32767 (fun _ hm => ⟨hm.bl 2, hm.fa 0, trivial⟩) fun z => ?_
  refine wa_done (by kernel_rfl) ?_
  refine nx_blk_nrm (nx_then (sr_ ?_))
  refine wl_ov (ov_loads rz31 rfl (fun _ hm => hm.blkI 3 rfl) rfl rfl) rfl ?_
  refine wl_stores (cs' := [.slice sA sn sc, .slice cA 4 cc, .slice vA vn vc, .slice A2 (pn + 1) c2]) 2 rz31 rfl rfl rfl rfl rfl rfl rfl rfl ?_
  refine nn_ ?_
  refine gw_ret ?_
  refine nx_retc 2 rfl rz31 rfl rfl rfl fun wx hm => ?_
  exact ⟨sA, cA, vA, A2, sn, sc, cc, vn, vc, pn + 1, c2, sl, cl, vl, pl ++ [(⟨k3, k6, k9⟩ : Pl)], rfl, ⟨⟨stB_all hsB, by omega⟩, hcok, ⟨hvB, by omega⟩, all_snoc hpB ⟨⟨by dsimp only; omega, by dsimp only; omega⟩, by dsimp only; omega, by dsimp only; omega⟩, by omega⟩, hm.k.more (by omega), hm.g, SlT.ofOwnL stEnc_lenL (stB_all hsB) (hm.ownI 0 rfl) hsl, (hm.fact 0 rfl), SlT.ofOwn vh_len (hm.ownI 1 rfl) hvl, SlT.ofOwn pl_len (hm.ownI 2 rfl) (by simp [hpl]), own_shape (hm.ownI 2 rfl), own_cap (hm.ownI 2 rfl)⟩
 have J159 : ∀ (k3 : Int) (hk3 : -2000000000000000 ≤ k3 ∧ k3 ≤ 2000000000000000), W 9 (lb 15 159) [(0, .pointer (some ⟨sb, 0, none⟩)), (2, .pointer (some ⟨g1, 0, none⟩)), (3, .pointer (some ⟨g2, 0, none⟩)), (4, .pointer (some ⟨sb, 0, none⟩)), (5, .agg #[.slice sA sn sc, .slice cA 4 cc, .slice vA vn vc, .slice pA pn pc]), (6, .pointer (some ⟨sb, 0, none⟩)), (7, .bool f3), (8, .bool (!f3)), (10, .pointer (some ⟨sb, 0, none⟩)), (11, .int .i64 vj), (12, .pointer (some ⟨g2, 3, none⟩)), (13, .slice pA pn pc), (14, .pointer (some ⟨sb, 0, none⟩)), (15, .int .i64 k3), (16, .pointer (some ⟨sb, 0, none⟩)), (19, .pointer (some ⟨sb, 0, none⟩)), (26, .bool (decide (vj = 0))), (27, .bool (decide (vj = 0))), (37, .bool (decide (vj = 1))), (38, .bool (decide (vj = 1))), (42, .bool (decide (vj = 2))), (43, .bool (decide (vj = 2)))] (fun w => Strm 25 w B sb (m + 300 + 1 + 1 + 2)) [(g1, 31, [.slice none 0 0, .slice none 0 0, .slice none 0 0, .slice none 0 0]), (g2, 31, [.slice sA sn sc, .slice cA 4 cc, .slice vA vn vc, .slice pA pn pc])] [⟨.slice sA sn sc, 140, 15, sn, sl.flatMap stEnc⟩, ⟨.slice vA vn vc, 77, 2, vn, vl.flatMap vhEnc⟩, ⟨.slice pA pn pc, 143, 3, pn, pl.flatMap plEnc⟩] [fun wy => SlT csEnc 2 159 wy cA 4 cl] := by
  intro k3 hk3
  rw [hW]
  refine wa_all [5, 8] (by kernel_rfl) rfl ⟨⟨_, rfl, ?_⟩, ⟨_, rfl, ?_⟩, trivial⟩
  ·refine wl_buildSlice (e := 9) (cs := [.string ⟨#[118, 49]⟩, .string ⟨#[110, 111, 110, 101]⟩]) rfl (by kernel_rfl) rfl fun q5 => ?_
   refine wl_nil ?_
   refine nw 15 191 (fun _ hm => ⟨hm.bl 1, hm.fa 0, trivial⟩) fun z => ?_
   have h := J191 k3 hk3 q5
   rw [hW] at h
   refine wa_weak ?_ ?_ h
   ·exact ⟨rfl, rfl, rfl, rfl, rfl, rfl, rfl, rfl, rfl, rfl, rfl, rfl, rfl, rfl, rfl, rfl, rfl, rfl, rfl, rfl, rfl, rfl, rfl, trivial⟩
   exact fun _ hm => hm.pick [1, 2, 0] [0, 1, 2] [0] rfl rfl
  refine wl_buildSlice (e := 9) (cs := [.string ⟨#[65, 66, 49]⟩, .string ⟨#[97, 49]⟩, .string ⟨#[65]⟩, .string ⟨#[65, 66, 67, 68, 69, 70, 71, 72, 73, 74, 49]⟩, .string ⟨#[65, 66, 49]⟩]) rfl (by kernel_rfl) rfl fun q8 => ?_
  refine wl_nil ?_
  refine nw 15 415 (fun _ hm => ⟨hm.bl 1, hm.fa 0, trivial⟩) fun z => ?_
  have h := T415 k3 hk3 q8
  rw [hW] at h
  refine wa_weak ?_ ?_ h
  ·exact ⟨rfl, rfl, rfl, rfl, rfl, rfl, rfl, rfl, rfl, rfl, rfl, rfl, rfl, rfl, rfl, rfl, rfl, rfl, rfl, rfl, rfl, rfl, rfl, trivial⟩
  exact fun _ hm => hm.pick [1, 2, 0] [0, 1, 2] [0] rfl rfl
 have T439 : ∀ (q5 : Nat) (q8 : Nat), W 8 (lb 15 439) [(0, .pointer (some ⟨sb, 0, none⟩)), (2, .pointer (some ⟨g1, 0, none⟩)), (3, .pointer (some ⟨g2, 0, none⟩)), (4, .pointer (some ⟨sb, 0, none⟩)), (5, .agg #[.slice sA sn sc, .slice cA 4 cc, .slice vA vn vc, .slice pA pn pc]), (6, .pointer (some ⟨sb, 0, none⟩)), (7, .bool f3), (8, .bool (!f3)), (10, .pointer (some ⟨sb, 0, none⟩)), (11, .int .i64 vj), (12, .pointer (some ⟨g2, 3, none⟩)), (13, .slice pA pn pc), (14, .pointer (some ⟨sb, 0, none⟩)), (16, .pointer (some ⟨sb, 0, none⟩)), (17, .slice (some ⟨q5, 0, none⟩) 2 2), (19, .pointer (some ⟨sb, 0, none⟩)), (20, .slice (some ⟨q8, 0, none⟩) 5 5), (26, .bool (decide (vj = 0))), (27, .bool (decide (vj = 0))), (37, .bool (decide (vj = 1))), (38, .bool (decide (vj = 1))), (42, .bool (decide (vj = 2))), (43, .bool (decide (vj = 2)))] (fun w => Strm 25 w B sb (m + 300 + 1 + 1)) [(g1, 31, [.slice none 0 0, .slice none 0 0, .slice none 0 0, .slice none 0 0]), (g2, 31, [.slice sA sn sc, .slice cA 4 cc, .slice vA vn vc, .slice pA pn pc]), (q5, 9, [.string ⟨#[118, 49]⟩, .string ⟨#[110, 111, 110, 101]⟩]), (q8, 9, [.string ⟨#[65, 66, 49]⟩, .string ⟨#[97, 49]⟩, .string ⟨#[65]⟩, .string ⟨#[65, 66, 67, 68, 69, 70, 71, 72, 73, 74, 49]⟩, .string ⟨#[65, 66, 49]⟩])] [⟨.slice sA sn sc, 140, 15, sn, sl.flatMap stEnc⟩, ⟨.slice vA vn vc, 77, 2, vn, vl.flatMap vhEnc⟩, ⟨.slice pA pn pc, 143, 3, pn, pl.flatMap plEnc⟩] [fun wy => SlT csEnc 2 159 wy cA 4 cl] := by
  intro q5 q8
  rw [hW]
  refine wa1 3 rfl ?_
  refine wl_got (γ := Int) (val := fun v => .int .i64 v) (φ := fun v => -2000000000000000 ≤ v ∧ v ≤ 2000000000000000) rfl cb77 rfl rfl rfl rfl (fun wx hm => (odd_any _ _ wx B sb _ hm.k (by omega) (by omega) (by omega) (by omega))) fun k3 hk3 => ?_
  refine wl_nil ?_
  refine nw 15 447 (fun _ hm => ⟨hm.bl 0, hm.fa 0, trivial⟩) fun z => ?_
  refine wa1 6 rfl ?_
  refine wl_got (γ := ByteArray) (val := fun v => .string v) (φ := fun v => v ∈ ([⟨#[118, 49]⟩, ⟨#[110, 111, 110, 101]⟩] : List ByteArray)) rfl cb43 rfl rfl rfl rfl (fun wx hm => (some_any [⟨#[118, 49]⟩, ⟨#[110, 111, 110, 101]⟩] _ _ _ wx B sb _ hm.k (by omega) (by simp) (by simp) (hm.blkI 2 rfl) (hm.neRow 2 rfl rfl))) fun k6 hk6 => ?_
  have zk6 : k6.size ≤ 100 := mem_sz hk6 (by decide)
  refine wl_nil ?_
  refine nw 15 511 (fun _ hm => ⟨hm.bl 0, hm.fa 0, trivial⟩) fun z => ?_
  refine wa1 9 rfl ?_
  refine wl_got (γ := ByteArray) (val := fun v => .string v) (φ := fun v => v ∈ ([⟨#[65, 66, 49]⟩, ⟨#[97, 49]⟩, ⟨#[65]⟩, ⟨#[65, 66, 67, 68, 69, 70, 71, 72, 73, 74, 49]⟩, ⟨#[65, 66, 49]⟩] : List ByteArray)) rfl cb43 rfl rfl rfl rfl (fun wx hm => (some_any [⟨#[65, 66, 49]⟩, ⟨#[97, 49]⟩, ⟨#[65]⟩, ⟨#[65, 66, 67, 68, 69, 70, 71, 72, 73, 74, 49]⟩, ⟨#[65, 66, 49]⟩] _ _ _ wx B sb _ hm.k (by omega) (by simp) (by simp) (hm.blkI 3 rfl) (hm.neRow 3 rfl rfl))) fun k9 hk9 => ?_
  have zk9 : k9.size ≤ 100 := mem_sz hk9 (by decide)
  refine wl_nil ?_
  refine nw 15 1023 (fun _ hm => ⟨hm.bl 0, hm.fa 0, trivial⟩) fun z => ?_
  refine wt 10 15 2047 rfl z (ov_build (cs := [.int .i64 k3, .string k6, .string k9]) rfl (by kernel_rfl)) ?_
  refine wa1 11 rfl ?_
  refine wl_buildSlice (e := 143) (cs := [.int .i64 k3, .string k6, .string k9]) rfl (by kernel_rfl) rfl fun g32 => ?_
  refine wl_nil ?_
  refine nw 15 4095 (fun _ hm => ⟨hm.bl 1, hm.fa 0, trivial⟩) fun z => ?_
  refine wa1 12 rfl ?_
  refine wl_append (news := [.int .i64 k3, .string k6, .string k9]) 2 0 ap29 rfl rfl rfl rfl rfl rfl rfl (by omega) (by unfold maxLen; omega) rfl rfl fun v2 hv2 => ?_
  refine wl_look (R := ∃ A cc, v2 = .slice A (pn + 1) cc) (fun wx hm => own_slice (hm.ownI 2 rfl)) ?_
  rintro ⟨A2, c2, rfl⟩
  have hxs : pl.flatMap plEnc ++ ([.int .i64 k3, .string k6, .string k9] : List Value) = (pl ++ [(⟨k3, k6, k9⟩ : Pl)]).flatMap plEnc := by simp [plEnc]
  rw [hxs]
  refine wl_nil ?_
  refine nw 15 8191 (fun _ hm => ⟨hm.bl 1, hm.fa 0, trivial⟩) fun z => ?_
  refine wt 13 15 16383 rfl z (ov_field fo31_3 rfl rfl) ?_
  refine wa1 14 rfl ?_
  refine wl_store 2 sc29 rfl rfl rfl rfl rfl rfl ?_
  refine wl_nil ?_
  refine nw 15 32767 (fun _ hm => ⟨hm.bl 1, hm.fa 0, trivial⟩) fun z => ?_
  refine wa_done (by kernel_rfl) ?_
  refine nx_blk_nrm (nx_then (sr_ ?_))
  refine wl_ov (ov_loads rz31 rfl (fun _ hm => hm.blkI 2 rfl) rfl rfl) rfl ?_
  refine wl_stores (cs' := [.slice sA sn sc, .slice cA 4 cc, .slice vA vn vc, .slice A2 (pn + 1) c2]) 1 rz31 rfl rfl rfl rfl rfl rfl rfl rfl ?_
  refine nn_ ?_
  refine gw_ret ?_
  refine nx_retc 1 rfl rz31 rfl rfl rfl fun wx hm => ?_
  exact ⟨sA, cA, vA, A2, sn, sc, cc, vn, vc, pn + 1, c2, sl, cl, vl, pl ++ [(⟨k3, k6, k9⟩ : Pl)], rfl, ⟨⟨stB_all hsB, by omega⟩, hcok, ⟨hvB, by omega⟩, all_snoc hpB ⟨⟨by dsimp only; omega, by dsimp only; omega⟩, by dsimp only; omega, by dsimp only; omega⟩, by omega⟩, hm.k.more (by omega), hm.g, SlT.ofOwnL stEnc_lenL (stB_all hsB) (hm.ownI 0 rfl) hsl, (hm.fact 0 rfl), SlT.ofOwn vh_len (hm.ownI 1 rfl) hvl, SlT.ofOwn pl_len (hm.ownI 2 rfl) (by simp [hpl]), own_shape (hm.ownI 2 rfl), own_cap (hm.ownI 2 rfl)⟩
 have J183 : ∀ (q5 : Nat), W 9 (lb 15 183) [(0, .pointer (some ⟨sb, 0, none⟩)), (2, .pointer (some ⟨g1, 0, none⟩)), (3, .pointer (some ⟨g2, 0, none⟩)), (4, .pointer (some ⟨sb, 0, none⟩)), (5, .agg #[.slice sA sn sc, .slice cA 4 cc, .slice vA vn vc, .slice pA pn pc]), (6, .pointer (some ⟨sb, 0, none⟩)), (7, .bool f3), (8, .bool (!f3)), (10, .pointer (some ⟨sb, 0, none⟩)), (11, .int .i64 vj), (12, .pointer (some ⟨g2, 3, none⟩)), (13, .slice pA pn pc), (14, .pointer (some ⟨sb, 0, none⟩)), (16, .pointer (some ⟨sb, 0, none⟩)), (17, .slice (some ⟨q5, 0, none⟩) 2 2), (19, .pointer (some ⟨sb, 0, none⟩)), (26, .bool (decide (vj = 0))), (27, .bool (decide (vj = 0))), (37, .bool (decide (vj = 1))), (38, .bool (decide (vj = 1))), (42, .bool (decide (vj = 2))), (43, .bool (decide (vj = 2)))] (fun w => Strm 25 w B sb (m + 300 + 1 + 1)) [(g1, 31, [.slice none 0 0, .slice none 0 0, .slice none 0 0, .slice none 0 0]), (g2, 31, [.slice sA sn sc, .slice cA 4 cc, .slice vA vn vc, .slice pA pn pc]), (q5, 9, [.string ⟨#[118, 49]⟩, .string ⟨#[110, 111, 110, 101]⟩])] [⟨.slice sA sn sc, 140, 15, sn, sl.flatMap stEnc⟩, ⟨.slice vA vn vc, 77, 2, vn, vl.flatMap vhEnc⟩, ⟨.slice pA pn pc, 143, 3, pn, pl.flatMap plEnc⟩] [fun wy => SlT csEnc 2 159 wy cA 4 cl] := by
  intro q5
  rw [hW]
  refine wa_all [3, 8] (by kernel_rfl) rfl ⟨⟨_, rfl, ?_⟩, ⟨_, rfl, ?_⟩, trivial⟩
  ·refine wl_got (γ := Int) (val := fun v => .int .i64 v) (φ := fun v => -2000000000000000 ≤ v ∧ v ≤ 2000000000000000) rfl cb77 rfl rfl rfl rfl (fun wx hm => (odd_any _ _ wx B sb _ hm.k (by omega) (by omega) (by omega) (by omega))) fun k3 hk3 => ?_
   refine wl_nil ?_
   refine nw 15 191 (fun _ hm => ⟨hm.bl 0, hm.fa 0, trivial⟩) fun z => ?_
   have h := J191 k3 hk3 q5
   rw [hW] at h
   refine wa_weak ?_ ?_ h
   ·exact ⟨rfl, rfl, rfl, rfl, rfl, rfl, rfl, rfl, rfl, rfl, rfl, rfl, rfl, rfl, rfl, rfl, rfl, rfl, rfl, rfl, rfl, rfl, rfl, trivial⟩
   exact fun _ hm => hm.pick [0, 1, 2] [0, 1, 2] [0] rfl rfl
  refine wl_buildSlice (e := 9) (cs := [.string ⟨#[65, 66, 49]⟩, .string ⟨#[97, 49]⟩, .string ⟨#[65]⟩, .string ⟨#[65, 66, 67, 68, 69, 70, 71, 72, 73, 74, 49]⟩, .string ⟨#[65, 66, 49]⟩]) rfl (by kernel_rfl) rfl fun q8 => ?_
  refine wl_nil ?_
  refine nw 15 439 (fun _ hm => ⟨hm.bl 1, hm.fa 0, trivial⟩) fun z => ?_
  have h := T439 q5 q8
  rw [hW] at h
  refine wa_weak ?_ ?_ h
  ·exact ⟨rfl, rfl, rfl, rfl, rfl, rfl, rfl, rfl, rfl, rfl, rfl, rfl, rfl, rfl, rfl, rfl, rfl, rfl, rfl, rfl, rfl, rfl, rfl, trivial⟩
  exact fun _ hm => hm.pick [1, 2, 3, 0] [0, 1, 2] [0] rfl rfl
 have J407 : ∀ (q8 : Nat), W 9 (lb 15 407) [(0, .pointer (some ⟨sb, 0, none⟩)), (2, .pointer (some ⟨g1, 0, none⟩)), (3, .pointer (some ⟨g2, 0, none⟩)), (4, .pointer (some ⟨sb, 0, none⟩)), (5, .agg #[.slice sA sn sc, .slice cA 4 cc, .slice vA vn vc, .slice pA pn pc]), (6, .pointer (some ⟨sb, 0, none⟩)), (7, .bool f3), (8, .bool (!f3)), (10, .pointer (some ⟨sb, 0, none⟩)), (11, .int .i64 vj), (12, .pointer (some ⟨g2, 3, none⟩)), (13, .slice pA pn pc), (14, .pointer (some ⟨sb, 0, none⟩)), (16, .pointer (some ⟨sb, 0, none⟩)), (19, .pointer (some ⟨sb, 0, none⟩)), (20, .slice (some ⟨q8, 0, none⟩) 5 5), (26, .bool (decide (vj = 0))), (27, .bool (decide (vj = 0))), (37, .bool (decide (vj = 1))), (38, .bool (decide (vj = 1))), (42, .bool (decide (vj = 2))), (43, .bool (decide (vj = 2)))] (fun w => Strm 25 w B sb (m + 300 + 1 + 1)) [(g1, 31, [.slice none 0 0, .slice none 0 0, .slice none 0 0, .slice none 0 0]), (g2, 31, [.slice sA sn sc, .slice cA 4 cc, .slice vA vn vc, .slice pA pn pc]), (q8, 9, [.string ⟨#[65, 66, 49]⟩, .string ⟨#[97, 49]⟩, .string ⟨#[65]⟩, .string ⟨#[65, 66, 67, 68, 69, 70, 71, 72, 73, 74, 49]⟩, .string ⟨#[65, 66, 49]⟩])] [⟨.slice sA sn sc, 140, 15, sn, sl.flatMap stEnc⟩, ⟨.slice vA vn vc, 77, 2, vn, vl.flatMap vhEnc⟩, ⟨.slice pA pn pc, 143, 3, pn, pl.flatMap plEnc⟩] [fun wy => SlT csEnc 2 159 wy cA 4 cl] := by
  intro q8
  rw [hW]
  refine wa_all [3, 5] (by kernel_rfl) rfl ⟨⟨_, rfl, ?_⟩, ⟨_, rfl, ?_⟩, trivial⟩
  ·refine wl_got (γ := Int) (val := fun v => .int .i64 v) (φ := fun v => -2000000000000000 ≤ v ∧ v ≤ 2000000000000000) rfl cb77 rfl rfl rfl rfl (fun wx hm => (odd_any _ _ wx B sb _ hm.k (by omega) (by omega) (by omega) (by omega))) fun k3 hk3 => ?_
   refine wl_nil ?_
   refine nw 15 415 (fun _ hm => ⟨hm.bl 0, hm.fa 0, trivial⟩) fun z => ?_
   have h := T415 k3 hk3 q8
   rw [hW] at h
   refine wa_weak ?_ ?_ h
   ·exact ⟨rfl, rfl, rfl, rfl, rfl, rfl, rfl, rfl, rfl, rfl, rfl, rfl, rfl, rfl, rfl, rfl, rfl, rfl, rfl, rfl, rfl, rfl, rfl, trivial⟩
   exact fun _ hm => hm.pick [0, 1, 2] [0, 1, 2] [0] rfl rfl
  refine wl_buildSlice (e := 9) (cs := [.string ⟨#[118, 49]⟩, .string ⟨#[110, 111, 110, 101]⟩]) rfl (by kernel_rfl) rfl fun q5 => ?_
  refine wl_nil ?_
  refine nw 15 439 (fun _ hm => ⟨hm.bl 1, hm.fa 0, trivial⟩) fun z => ?_
  have h := T439 q5 q8
  rw [hW] at h
  refine wa_weak ?_ ?_ h
  ·exact ⟨rfl, rfl, rfl, rfl, rfl, rfl, rfl, rfl, rfl, rfl, rfl, rfl, rfl, rfl, rfl, rfl, rfl, rfl, rfl, rfl, rfl, rfl, rfl, trivial⟩
  exact fun _ hm => hm.pick [1, 2, 0, 3] [0, 1, 2] [0] rfl rfl
 have J151 : W 10 (lb 15 151) [(0, .pointer (some ⟨sb, 0, none⟩)), (2, .pointer (some ⟨g1, 0, none⟩)), (3, .pointer (some ⟨g2, 0, none⟩)), (4, .pointer (some ⟨sb, 0, none⟩)), (5, .agg #[.slice sA sn sc, .slice cA 4 cc, .slice vA vn vc, .slice pA pn pc]), (6, .pointer (some ⟨sb, 0, none⟩)), (7, .bool f3), (8, .bool (!f3)), (10, .pointer (some ⟨sb, 0, none⟩)), (11, .int .i64 vj), (12, .pointer (some ⟨g2, 3, none⟩)), (13, .slice pA pn pc), (14, .pointer (some ⟨sb, 0, none⟩)), (16, .pointer (some ⟨sb, 0, none⟩)), (19, .pointer (some ⟨sb, 0, none⟩)), (26, .bool (decide (vj = 0))), (27, .bool (decide (vj = 0))), (37, .bool (decide (vj = 1))), (38, .bool (decide (vj = 1))), (42, .bool (decide (vj = 2))), (43, .bool (decide (vj = 2)))] (fun w => Strm 25 w B sb (m + 300 + 1 + 1)) [(g1, 31, [.slice none 0 0, .slice none 0 0, .slice none 0 0, .slice none 0 0]), (g2, 31, [.slice sA sn sc, .slice cA 4 cc, .slice vA vn vc, .slice pA pn pc])] [⟨.slice sA sn sc, 140, 15, sn, sl.flatMap stEnc⟩, ⟨.slice vA vn vc, 77, 2, vn, vl.flatMap vhEnc⟩, ⟨.slice pA pn pc, 143, 3, pn, pl.flatMap plEnc⟩] [fun wy => SlT csEnc 2 159 wy cA 4 cl] := by
  skip
  rw [hW]
  refine wa_all [3, 5, 8] (by kernel_rfl) rfl ⟨⟨_, rfl, ?_⟩, ⟨_, rfl, ?_⟩, ⟨_, rfl, ?_⟩, trivial⟩
  ·refine wl_got (γ := Int) (val := fun v => .int .i64 v) (φ := fun v => -2000000000000000 ≤ v ∧ v ≤ 2000000000000000) rfl cb77 rfl rfl rfl rfl (fun wx hm => (odd_any _ _ wx B sb _ hm.k (by omega) (by omega) (by omega) (by omega))) fun k3 hk3 => ?_
   refine wl_nil ?_
   refine nw 15 159 (fun _ hm => ⟨hm.bl 0, hm.fa 0, trivial⟩) fun z => ?_
   have h := J159 k3 hk3
   rw [hW] at h
   refine wa_weak ?_ ?_ h
   ·exact ⟨rfl, rfl, rfl, rfl, rfl, rfl, rfl, rfl, rfl, rfl, rfl, rfl, rfl, rfl, rfl, rfl, rfl, rfl, rfl, rfl, rfl, rfl, trivial⟩
   exact fun _ hm => hm.pick [0, 1] [0, 1, 2] [0] rfl rfl
  ·refine wl_buildSlice (e := 9) (cs := [.string ⟨#[118, 49]⟩, .string ⟨#[110, 111, 110, 101]⟩]) rfl (by kernel_rfl) rfl fun q5 => ?_
   refine wl_nil ?_
   refine nw 15 183 (fun _ hm => ⟨hm.bl 1, hm.fa 0, trivial⟩) fun z => ?_
   have h := J183 q5
   rw [hW] at h
   refine wa_weak ?_ ?_ h
   ·exact ⟨rfl, rfl, rfl, rfl, rfl, rfl, rfl, rfl, rfl, rfl, rfl, rfl, rfl, rfl, rfl, rfl, rfl, rfl, rfl, rfl, rfl, rfl, trivial⟩
   exact fun _ hm => hm.pick [1, 2, 0] [0, 1, 2] [0] rfl rfl
  refine wl_buildSlice (e := 9) (cs := [.string ⟨#[65, 66, 49]⟩, .string ⟨#[97, 49]⟩, .string ⟨#[65]⟩, .string ⟨#[65, 66, 67, 68, 69, 70, 71, 72, 73, 74, 49]⟩, .string ⟨#[65, 66, 49]⟩]) rfl (by kernel_rfl) rfl fun q8 => ?_
  refine wl_nil ?_
  refine nw 15 407 (fun _ hm => ⟨hm.bl 1, hm.fa 0, trivial⟩) fun z => ?_
  have h := J407 q8
  rw [hW] at h
  refine wa_weak ?_ ?_ h
  ·exact ⟨rfl, rfl, rfl, rfl, rfl, rfl, rfl, rfl, rfl, rfl, rfl, rfl, rfl, rfl, rfl, rfl, rfl, rfl, rfl, rfl, rfl, rfl, trivial⟩
  exact fun _ hm => hm.pick [1, 2, 0] [0, 1, 2] [0] rfl rfl
 have T511 : ∀ (k3 : Int) (hk3 : -2000000000000000 ≤ k3 ∧ k3 ≤ 2000000000000000) (q5 : Nat) (k6 : ByteArray) (zk6 : k6.size ≤ 100) (q8 : Nat), W 6 (lb 15 511) [(0, .pointer (some ⟨sb, 0, none⟩)), (2, .pointer (some ⟨g1, 0, none⟩)), (3, .pointer (some ⟨g2, 0, none⟩)), (4, .pointer (some ⟨sb, 0, none⟩)), (5, .agg #[.slice sA sn sc, .slice cA 4 cc, .slice vA vn vc, .slice pA pn pc]), (6, .pointer (some ⟨sb, 0, none⟩)), (7, .bool f3), (8, .bool (!f3)), (10, .pointer (some ⟨sb, 0, none⟩)), (11, .int .i64 vj), (12, .pointer (some ⟨g2, 3, none⟩)), (13, .slice pA pn pc), (14, .pointer (some ⟨sb, 0, none⟩)), (15, .int .i64 k3), (16, .pointer (some ⟨sb, 0, none⟩)), (17, .slice (some ⟨q5, 0, none⟩) 2 2), (18, .string k6), (19, .pointer (some ⟨sb, 0, none⟩)), (20, .slice (some ⟨q8, 0, none⟩) 5 5), (26, .bool (decide (vj = 0))), (27, .bool (decide (vj = 0))), (37, .bool (decide (vj = 1))), (38, .bool (decide (vj = 1))), (42, .bool (decide (vj = 2))), (43, .bool (decide (vj = 2)))] (fun w => Strm 25 w B sb (m + 300 + 1 + 1 + 2 + 1)) [(g1, 31, [.slice none 0 0, .slice none 0 0, .slice none 0 0, .slice none 0 0]), (g2, 31, [.slice sA sn sc, .slice cA 4 cc, .slice vA vn vc, .slice pA pn pc]), (q5, 9, [.string ⟨#[118, 49]⟩, .string ⟨#[110, 111, 110, 101]⟩]), (q8, 9, [.string ⟨#[65, 66, 49]⟩, .string ⟨#[97, 49]⟩, .string ⟨#[65]⟩, .string ⟨#[65, 66, 67, 68, 69, 70, 71, 72, 73, 74, 49]⟩, .string ⟨#[65, 66, 49]⟩])] [⟨.slice sA sn sc, 140, 15, sn, sl.flatMap stEnc⟩, ⟨.slice vA vn vc, 77, 2, vn, vl.flatMap vhEnc⟩, ⟨.slice pA pn pc, 143, 3, pn, pl.flatMap plEnc⟩] [fun wy => SlT csEnc 2 159 wy cA 4 cl] := by
  intro k3 hk3 q5 k6 zk6 q8
  rw [hW]
  refine wa1 9 rfl ?_
  refine wl_got (γ := ByteArray) (val := fun v => .string v) (φ := fun v => v ∈ ([⟨#[65, 66, 49]⟩, ⟨#[97, 49]⟩, ⟨#[65]⟩, ⟨#[65, 66, 67, 68, 69, 70, 71, 72, 73, 74, 49]⟩, ⟨#[65, 66, 49]⟩] : List ByteArray)) rfl cb43 rfl rfl rfl rfl (fun wx hm => (some_any [⟨#[65, 66, 49]⟩, ⟨#[97, 49]⟩, ⟨#[65]⟩, ⟨#[65, 66, 67, 68, 69, 70, 71, 72, 73, 74, 49]⟩, ⟨#[65, 66, 49]⟩] _ _ _ wx B sb _ hm.k (by omega) (by simp) (by simp) (hm.blkI 3 rfl) (hm.neRow 3 rfl rfl))) fun k9 hk9 => ?_
  have zk9 : k9.size ≤ 100 := mem_sz hk9 (by decide)
  refine wl_nil ?_
  refine nw 15 1023 (fun _ hm => ⟨hm.bl 0, hm.fa 0, trivial⟩) fun z => ?_
  refine wt 10 15 2047 rfl z (ov_build (cs := [.int .i64 k3, .string k6, .string k9]) rfl (by kernel_rfl)) ?_
  refine wa1 11 rfl ?_
  refine wl_buildSlice (e := 143) (cs := [.int .i64 k3, .string k6, .string k9]) rfl (by kernel_rfl) rfl fun g33 => ?_
  refine wl_nil ?_
  refine nw 15 4095 (fun _ hm => ⟨hm.bl 1, hm.fa 0, trivial⟩) fun z => ?_
  refine wa1 12 rfl ?_
  refine wl_append (news := [.int .i64 k3, .string k6, .string k9]) 2 0 ap29 rfl rfl rfl rfl rfl rfl rfl (by omega) (by unfold maxLen; omega) rfl rfl fun v2 hv2 => ?_
  refine wl_look (R := ∃ A cc, v2 = .slice A (pn + 1) cc) (fun wx hm => own_slice (hm.ownI 2 rfl)) ?_
  rintro ⟨A2, c2, rfl⟩
  have hxs : pl.flatMap plEnc ++ ([.int .i64 k3, .string k6, .string k9] : List Value) = (pl ++ [(⟨k3, k6, k9⟩ : Pl)]).flatMap plEnc := by simp [plEnc]
  rw [hxs]
  refine wl_nil ?_
  refine nw 15 8191 (fun _ hm => ⟨hm.bl 1, hm.fa 0, trivial⟩) fun z => ?_
  refine wt 13 15 16383 rfl z (ov_field fo31_3 rfl rfl) ?_
  refine wa1 14 rfl ?_
  refine wl_store 2 sc29 rfl rfl rfl rfl rfl rfl ?_
  refine wl_nil ?_
  refine nw 15 32767 (fun _ hm => ⟨hm.bl 1, hm.fa 0, trivial⟩) fun z => ?_
  refine wa_done (by kernel_rfl) ?_
  refine nx_blk_nrm (nx_then (sr_ ?_))
  refine wl_ov (ov_loads rz31 rfl (fun _ hm => hm.blkI 2 rfl) rfl rfl) rfl ?_
  refine wl_stores (cs' := [.slice sA sn sc, .slice cA 4 cc, .slice vA vn vc, .slice A2 (pn + 1) c2]) 1 rz31 rfl rfl rfl rfl rfl rfl rfl rfl ?_
  refine nn_ ?_
  refine gw_ret ?_
  refine nx_retc 1 rfl rz31 rfl rfl rfl fun wx hm => ?_
  exact ⟨sA, cA, vA, A2, sn, sc, cc, vn, vc, pn + 1, c2, sl, cl, vl, pl ++ [(⟨k3, k6, k9⟩ : Pl)], rfl, ⟨⟨stB_all hsB, by omega⟩, hcok, ⟨hvB, by omega⟩, all_snoc hpB ⟨⟨by dsimp only; omega, by dsimp only; omega⟩, by dsimp only; omega, by dsimp only; omega⟩, by omega⟩, hm.k.more (by omega), hm.g, SlT.ofOwnL stEnc_lenL (stB_all hsB) (hm.ownI 0 rfl) hsl, (hm.fact 0 rfl), SlT.ofOwn vh_len (hm.ownI 1 rfl) hvl, SlT.ofOwn pl_len (hm.ownI 2 rfl) (by simp [hpl]), own_shape (hm.ownI 2 rfl), own_cap (hm.ownI 2 rfl)⟩
 have T2047 : ∀ (k3 : Int) (hk3 : -2000000000000000 ≤ k3 ∧ k3 ≤ 2000000000000000) (q5 : Nat) (k6 : ByteArray) (zk6 : k6.size ≤ 100) (q8 : Nat) (k9 : ByteArray) (zk9 : k9.size ≤ 100), W 4 (lb 15 2047) [(0, .pointer (some ⟨sb, 0, none⟩)), (2, .pointer (some ⟨g1, 0, none⟩)), (3, .pointer (some ⟨g2, 0, none⟩)), (4, .pointer (some ⟨sb, 0, none⟩)), (5, .agg #[.slice sA sn sc, .slice cA 4 cc, .slice vA vn vc, .slice pA pn pc]), (6, .pointer (some ⟨sb, 0, none⟩)), (7, .bool f3), (8, .bool (!f3)), (10, .pointer (some ⟨sb, 0, none⟩)), (11, .int .i64 vj), (12, .pointer (some ⟨g2, 3, none⟩)), (13, .slice pA pn pc), (14, .pointer (some ⟨sb, 0, none⟩)), (15, .int .i64 k3), (16, .pointer (some ⟨sb, 0, none⟩)), (17, .slice (some ⟨q5, 0, none⟩) 2 2), (18, .string k6), (19, .pointer (some ⟨sb, 0, none⟩)), (20, .slice (some ⟨q8, 0, none⟩) 5 5), (21, .string k9), (22, .agg #[.int .i64 k3, .string k6, .string k9]), (26, .bool (decide (vj = 0))), (27, .bool (decide (vj = 0))), (37, .bool (decide (vj = 1))), (38, .bool (decide (vj = 1))), (42, .bool (decide (vj = 2))), (43, .bool (decide (vj = 2)))] (fun w => Strm 25 w B sb (m + 300 + 1 + 1 + 2 + 1 + 1)) [(g1, 31, [.slice none 0 0, .slice none 0 0, .slice none 0 0, .slice none 0 0]), (g2, 31, [.slice sA sn sc, .slice cA 4 cc, .slice vA vn vc, .slice pA pn pc]), (q5, 9, [.string ⟨#[118, 49]⟩, .string ⟨#[110, 111, 110, 101]⟩]), (q8, 9, [.string ⟨#[65, 66, 49]⟩, .string ⟨#[97, 49]⟩, .string ⟨#[65]⟩, .string ⟨#[65, 66, 67, 68, 69, 70, 71, 72, 73, 74, 49]⟩, .string ⟨#[65, 66, 49]⟩])] [⟨.slice sA sn sc, 140, 15, sn, sl.flatMap stEnc⟩, ⟨.slice vA vn vc, 77, 2, vn, vl.flatMap vhEnc⟩, ⟨.slice pA pn pc, 143, 3, pn, pl.flatMap plEnc⟩] [fun wy => SlT csEnc 2 159 wy cA 4 cl] := by
  intro k3 hk3 q5 k6 zk6 q8 k9 zk9
  rw [hW]
  refine wa1 11 rfl ?_
  refine wl_buildSlice (e := 143) (cs := [.int .i64 k3, .string k6, .string k9]) rfl (by kernel_rfl) rfl fun g34 => ?_
  refine wl_nil ?_
  refine nw 15 4095 (fun _ hm => ⟨hm.bl 1, hm.fa 0, trivial⟩) fun z => ?_
  refine wa1 12 rfl ?_
  refine wl_append (news := [.int .i64 k3, .string k6, .string k9]) 2 0 ap29 rfl rfl rfl rfl rfl rfl rfl (by omega) (by unfold maxLen; omega) rfl rfl fun v2 hv2 => ?_
  refine wl_look (R := ∃ A cc, v2 = .slice A (pn + 1) cc) (fun wx hm => own_slice (hm.ownI 2 rfl)) ?_
  rintro ⟨A2, c2, rfl⟩
  have hxs : pl.flatMap plEnc ++ ([.int .i64 k3, .string k6, .string k9] : List Value) = (pl ++ [(⟨k3, k6, k9⟩ : Pl)]).flatMap plEnc := by simp [plEnc]
  rw [hxs]
  refine wl_nil ?_
  refine nw 15 8191 (fun _ hm => ⟨hm.bl 1, hm.fa 0, trivial⟩) fun z => ?_
  refine wt 13 15 16383 rfl z (ov_field fo31_3 rfl rfl) ?_
  refine wa1 14 rfl ?_
  refine wl_store 2 sc29 rfl rfl rfl rfl rfl rfl ?_
  refine wl_nil ?_
  refine nw 15 32767 (fun _ hm => ⟨hm.bl 1, hm.fa 0, trivial⟩) fun z => ?_
  refine wa_done (by kernel_rfl) ?_
  refine nx_blk_nrm (nx_then (sr_ ?_))
  refine wl_ov (ov_loads rz31 rfl (fun _ hm => hm.blkI 2 rfl) rfl rfl) rfl ?_
  refine wl_stores (cs' := [.slice sA sn sc, .slice cA 4 cc, .slice vA vn vc, .slice A2 (pn + 1) c2]) 1 rz31 rfl rfl rfl rfl rfl rfl rfl rfl ?_
  refine nn_ ?_
  refine gw_ret ?_
  refine nx_retc 1 rfl rz31 rfl rfl rfl fun wx hm => ?_
  exact ⟨sA, cA, vA, A2, sn, sc, cc, vn, vc, pn + 1, c2, sl, cl, vl, pl ++ [(⟨k3, k6, k9⟩ : Pl)], rfl, ⟨⟨stB_all hsB, by omega⟩, hcok, ⟨hvB, by omega⟩, all_snoc hpB ⟨⟨by dsimp only; omega, by dsimp only; omega⟩, by dsimp only; omega, by dsimp only; omega⟩, by omega⟩, hm.k.more (by omega), hm.g, SlT.ofOwnL stEnc_lenL (stB_all hsB) (hm.ownI 0 rfl) hsl, (hm.fact 0 rfl), SlT.ofOwn vh_len (hm.ownI 1 rfl) hvl, SlT.ofOwn pl_len (hm.ownI 2 rfl) (by simp [hpl]), own_shape (hm.ownI 2 rfl), own_cap (hm.ownI 2 rfl)⟩
 have T4093 : ∀ (k3 : Int) (hk3 : -2000000000000000 ≤ k3 ∧ k3 ≤ 2000000000000000) (q5 : Nat) (k6 : ByteArray) (zk6 : k6.size ≤ 100) (q8 : Nat) (k9 : ByteArray) (zk9 : k9.size ≤ 100) (q11 : Nat), W 4 (lb 15 4093) [(0, .pointer (some ⟨sb, 0, none⟩)), (2, .pointer (some ⟨g1, 0, none⟩)), (3, .pointer (some ⟨g2, 0, none⟩)), (4, .pointer (some ⟨sb, 0, none⟩)), (5, .agg #[.slice sA sn sc, .slice cA 4 cc, .slice vA vn vc, .slice pA pn pc]), (6, .pointer (some ⟨sb, 0, none⟩)), (7, .bool f3), (8, .bool (!f3)), (10, .pointer (some ⟨sb, 0, none⟩)), (11, .int .i64 vj), (12, .pointer (some ⟨g2, 3, none⟩)), (14, .pointer (some ⟨sb, 0, none⟩)), (15, .int .i64 k3), (16, .pointer (some ⟨sb, 0, none⟩)), (17, .slice (some ⟨q5, 0, none⟩) 2 2), (18, .string k6), (19, .pointer (some ⟨sb, 0, none⟩)), (20, .slice (some ⟨q8, 0, none⟩) 5 5), (21, .string k9), (22, .agg #[.int .i64 k3, .string k6, .string k9]), (23, .slice (some ⟨q11, 0, none⟩) 1 1), (26, .bool (decide (vj = 0))), (27, .bool (decide (vj = 0))), (37, .bool (decide (vj = 1))), (38, .bool (decide (vj = 1))), (42, .bool (decide (vj = 2))), (43, .bool (decide (vj = 2)))] (fun w => Strm 25 w B sb (m + 300 + 1 + 1 + 2 + 1 + 1)) [(g1, 31, [.slice none 0 0, .slice none 0 0, .slice none 0 0, .slice none 0 0]), (g2, 31, [.slice sA sn sc, .slice cA 4 cc, .slice vA vn vc, .slice pA pn pc]), (q11, 143, [.int .i64 k3, .string k6, .string k9]), (q5, 9, [.string ⟨#[118, 49]⟩, .string ⟨#[110, 111, 110, 101]⟩]), (q8, 9, [.string ⟨#[65, 66, 49]⟩, .string ⟨#[97, 49]⟩, .string ⟨#[65]⟩, .string ⟨#[65, 66, 67, 68, 69, 70, 71, 72, 73, 74, 49]⟩, .string ⟨#[65, 66, 49]⟩])] [⟨.slice sA sn sc, 140, 15, sn, sl.flatMap stEnc⟩, ⟨.slice vA vn vc, 77, 2, vn, vl.flatMap vhEnc⟩, ⟨.slice pA pn pc, 143, 3, pn, pl.flatMap plEnc⟩] [fun wy => SlT csEnc 2 159 wy cA 4 cl] := by
  intro k3 hk3 q5 k6 zk6 q8 k9 zk9 q11
  rw [hW]
  refine wa1 1 rfl ?_
  refine lk_ sc29 1 rfl rfl rfl (wl_nil ?_)
  refine nw 15 4095 (fun _ hm => ⟨hm.bl 0, hm.fa 0, trivial⟩) fun z => ?_
  refine wa1 12 rfl ?_
  refine wl_append (news := [.int .i64 k3, .string k6, .string k9]) 2 2 ap29 rfl rfl rfl rfl rfl rfl rfl (by omega) (by unfold maxLen; omega) rfl rfl fun v2 hv2 => ?_
  refine wl_look (R := ∃ A cc, v2 = .slice A (pn + 1) cc) (fun wx hm => own_slice (hm.ownI 2 rfl)) ?_
  rintro ⟨A2, c2, rfl⟩
  have hxs : pl.flatMap plEnc ++ ([.int .i64 k3, .string k6, .string k9] : List Value) = (pl ++ [(⟨k3, k6, k9⟩ : Pl)]).flatMap plEnc := by simp [plEnc]
  rw [hxs]
  refine wl_nil ?_
  refine nw 15 8191 (fun _ hm => ⟨hm.bl 0, hm.fa 0, trivial⟩) fun z => ?_
  refine wt 13 15 16383 rfl z (ov_field fo31_3 rfl rfl) ?_
  refine wa1 14 rfl ?_
  refine wl_store 1 sc29 rfl rfl rfl rfl rfl rfl ?_
  refine wl_nil ?_
  refine nw 15 32767 (fun _ hm => ⟨hm.bl 0, hm.fa 0, trivial⟩) fun z => ?_
  refine wa_done (by kernel_rfl) ?_
  refine nx_blk_nrm (nx_then (sr_ ?_))
  refine wl_ov (ov_loads rz31 rfl (fun _ hm => hm.blkI 1 rfl) rfl rfl) rfl ?_
  refine wl_stores (cs' := [.slice sA sn sc, .slice cA 4 cc, .slice vA vn vc, .slice A2 (pn + 1) c2]) 0 rz31 rfl rfl rfl rfl rfl rfl rfl rfl ?_
  refine nn_ ?_
  refine gw_ret ?_
  refine nx_retc 0 rfl rz31 rfl rfl rfl fun wx hm => ?_
  exact ⟨sA, cA, vA, A2, sn, sc, cc, vn, vc, pn + 1, c2, sl, cl, vl, pl ++ [(⟨k3, k6, k9⟩ : Pl)], rfl, ⟨⟨stB_all hsB, by omega⟩, hcok, ⟨hvB, by omega⟩, all_snoc hpB ⟨⟨by dsimp only; omega, by dsimp only; omega⟩, by dsimp only; omega, by dsimp only; omega⟩, by omega⟩, hm.k.more (by omega), hm.g, SlT.ofOwnL stEnc_lenL (stB_all hsB) (hm.ownI 0 rfl) hsl, (hm.fact 0 rfl), SlT.ofOwn vh_len (hm.ownI 1 rfl) hvl, SlT.ofOwn pl_len (hm.ownI 2 rfl) (by simp [hpl]), own_shape (hm.ownI 2 rfl), own_cap (hm.ownI 2 rfl)⟩
 have J2045 : ∀ (k3 : Int) (hk3 : -2000000000000000 ≤ k3 ∧ k3 ≤ 2000000000000000) (q5 : Nat) (k6 : ByteArray) (zk6 : k6.size ≤ 100) (q8 : Nat) (k9 : ByteArray) (zk9 : k9.size ≤ 100), W 5 (lb 15 2045) [(0, .pointer (some ⟨sb, 0, none⟩)), (2, .pointer (some ⟨g1, 0, none⟩)), (3, .pointer (some ⟨g2, 0, none⟩)), (4, .pointer (some ⟨sb, 0, none⟩)), (5, .agg #[.slice sA sn sc, .slice cA 4 cc, .slice vA vn vc, .slice pA pn pc]), (6, .pointer (some ⟨sb, 0, none⟩)), (7, .bool f3), (8, .bool (!f3)), (10, .pointer (some ⟨sb, 0, none⟩)), (11, .int .i64 vj), (12, .pointer (some ⟨g2, 3, none⟩)), (14, .pointer (some ⟨sb, 0, none⟩)), (15, .int .i64 k3), (16, .pointer (some ⟨sb, 0, none⟩)), (17, .slice (some ⟨q5, 0, none⟩) 2 2), (18, .string k6), (19, .pointer (some ⟨sb, 0, none⟩)), (20, .slice (some ⟨q8, 0, none⟩) 5 5), (21, .string k9), (22, .agg #[.int .i64 k3, .string k6, .string k9]), (26, .bool (decide (vj = 0))), (27, .bool (decide (vj = 0))), (37, .bool (decide (vj = 1))), (38, .bool (decide (vj = 1))), (42, .bool (decide (vj = 2))), (43, .bool (decide (vj = 2)))] (fun w => Strm 25 w B sb (m + 300 + 1 + 1 + 2 + 1 + 1)) [(g1, 31, [.slice none 0 0, .slice none 0 0, .slice none 0 0, .slice none 0 0]), (g2, 31, [.slice sA sn sc, .slice cA 4 cc, .slice vA vn vc, .slice pA pn pc]), (q5, 9, [.string ⟨#[118, 49]⟩, .string ⟨#[110, 111, 110, 101]⟩]), (q8, 9, [.string ⟨#[65, 66, 49]⟩, .string ⟨#[97, 49]⟩, .string ⟨#[65]⟩, .string ⟨#[65, 66, 67, 68, 69, 70, 71, 72, 73, 74, 49]⟩, .string ⟨#[65, 66, 49]⟩])] [⟨.slice sA sn sc, 140, 15, sn, sl.flatMap stEnc⟩, ⟨.slice vA vn vc, 77, 2, vn, vl.flatMap vhEnc⟩, ⟨.slice pA pn pc, 143, 3, pn, pl.flatMap plEnc⟩] [fun wy => SlT csEnc 2 159 wy cA 4 cl] := by
  intro k3 hk3 q5 k6 zk6 q8 k9 zk9
  rw [hW]
  refine wa_all [1, 11] (by kernel_rfl) rfl ⟨⟨_, rfl, ?_⟩, ⟨_, rfl, ?_⟩, trivial⟩
  ·refine lk_ sc29 1 rfl rfl rfl (wl_nil ?_)
   refine nw 15 2047 (fun _ hm => ⟨hm.bl 0, hm.fa 0, trivial⟩) fun z => ?_
   have h := T2047 k3 hk3 q5 k6 zk6 q8 k9 zk9
   rw [hW] at h
   refine wa_weak ?_ ?_ h
   ·exact ⟨rfl, rfl, rfl, rfl, rfl, rfl, rfl, rfl, rfl, rfl, rfl, rfl, rfl, rfl, rfl, rfl, rfl, rfl, rfl, rfl, rfl, rfl, rfl, rfl, rfl, rfl, rfl, trivial⟩
   exact fun _ hm => hm.pick [0, 1, 2, 3] [0, 1, 2] [0] rfl rfl
  refine wl_buildSlice (e := 143) (cs := [.int .i64 k3, .string k6, .string k9]) rfl (by kernel_rfl) rfl fun q11 => ?_
  refine wl_nil ?_
  refine nw 15 4093 (fun _ hm => ⟨hm.bl 1, hm.fa 0, trivial⟩) fun z => ?_
  have h := T4093 k3 hk3 q5 k6 zk6 q8 k9 zk9 q11
  rw [hW] at h
  refine wa_weak ?_ ?_ h
  ·exact ⟨rfl, rfl, rfl, rfl, rfl, rfl, rfl, rfl, rfl, rfl, rfl, rfl, rfl, rfl, rfl, rfl, rfl, rfl, rfl, rfl, rfl, rfl, rfl, rfl, rfl, rfl, rfl, trivial⟩
  exact fun _ hm => hm.pick [1, 2, 0, 3, 4] [0, 1, 2] [0] rfl rfl
 have J509 : ∀ (k3 : Int) (hk3 : -2000000000000000 ≤ k3 ∧ k3 ≤ 2000000000000000) (q5 : Nat) (k6 : ByteArray) (zk6 : k6.size ≤ 100) (q8 : Nat), W 7 (lb 15 509) [(0, .pointer (some ⟨sb, 0, none⟩)), (2, .pointer (some ⟨g1, 0, none⟩)), (3, .pointer (some ⟨g2, 0, none⟩)), (4, .pointer (some ⟨sb, 0, none⟩)), (5, .agg #[.slice sA sn sc, .slice cA 4 cc, .slice vA vn vc, .slice pA pn pc]), (6, .pointer (some ⟨sb, 0, none⟩)), (7, .bool f3), (8, .bool (!f3)), (10, .pointer (some ⟨sb, 0, none⟩)), (11, .int .i64 vj), (12, .pointer (some ⟨g2, 3, none⟩)), (14, .pointer (some ⟨sb, 0, none⟩)), (15, .int .i64 k3), (16, .pointer (some ⟨sb, 0, none⟩)), (17, .slice (some ⟨q5, 0, none⟩) 2 2), (18, .string k6), (19, .pointer (some ⟨sb, 0, none⟩)), (20, .slice (some ⟨q8, 0, none⟩) 5 5), (26, .bool (decide (vj = 0))), (27, .bool (decide (vj = 0))), (37, .bool (decide (vj = 1))), (38, .bool (decide (vj = 1))), (42, .bool (decide (vj = 2))), (43, .bool (decide (vj = 2)))] (fun w => Strm 25 w B sb (m + 300 + 1 + 1 + 2 + 1)) [(g1, 31, [.slice none 0 0, .slice none 0 0, .slice none 0 0, .slice none 0 0]), (g2, 31, [.slice sA sn sc, .slice cA 4 cc, .slice vA vn vc, .slice pA pn pc]), (q5, 9, [.string ⟨#[118, 49]⟩, .string ⟨#[110, 111, 110, 101]⟩]), (q8, 9, [.string ⟨#[65, 66, 49]⟩, .string ⟨#[97, 49]⟩, .string ⟨#[65]⟩, .string ⟨#[65, 66, 67, 68, 69, 70, 71, 72, 73, 74, 49]⟩, .string ⟨#[65, 66, 49]⟩])] [⟨.slice sA sn sc, 140, 15, sn, sl.flatMap stEnc⟩, ⟨.slice vA vn vc, 77, 2, vn, vl.flatMap vhEnc⟩, ⟨.slice pA pn pc, 143, 3, pn, pl.flatMap plEnc⟩] [fun wy => SlT csEnc 2 159 wy cA 4 cl] := by
  intro k3 hk3 q5 k6 zk6 q8
  rw [hW]
  refine wa_all [1, 9] (by kernel_rfl) rfl ⟨⟨_, rfl, ?_⟩, ⟨_, rfl, ?_⟩, trivial⟩
  ·refine lk_ sc29 1 rfl rfl rfl (wl_nil ?_)
   refine nw 15 511 (fun _ hm => ⟨hm.bl 0, hm.fa 0, trivial⟩) fun z => ?_
   have h := T511 k3 hk3 q5 k6 zk6 q8
   rw [hW] at h
   refine wa_weak ?_ ?_ h
   ·exact ⟨rfl, rfl, rfl, rfl, rfl, rfl, rfl, rfl, rfl, rfl, rfl, rfl, rfl, rfl, rfl, rfl, rfl, rfl, rfl, rfl, rfl, rfl, rfl, rfl, rfl, trivial⟩
   exact fun _ hm => hm.pick [0, 1, 2, 3] [0, 1, 2] [0] rfl rfl
  refine wl_got (γ := ByteArray) (val := fun v => .string v) (φ := fun v => v ∈ ([⟨#[65, 66, 49]⟩, ⟨#[97, 49]⟩, ⟨#[65]⟩, ⟨#[65, 66, 67, 68, 69, 70, 71, 72, 73, 74, 49]⟩, ⟨#[65, 66, 49]⟩] : List ByteArray)) rfl cb43 rfl rfl rfl rfl (fun wx hm => (some_any [⟨#[65, 66, 49]⟩, ⟨#[97, 49]⟩, ⟨#[65]⟩, ⟨#[65, 66, 67, 68, 69, 70, 71, 72, 73, 74, 49]⟩, ⟨#[65, 66, 49]⟩] _ _ _ wx B sb _ hm.k (by omega) (by simp) (by simp) (hm.blkI 3 rfl) (hm.neRow 3 rfl rfl))) fun k9 hk9 => ?_
  have zk9 : k9.size ≤ 100 := mem_sz hk9 (by decide)
  refine wl_nil ?_
  refine nw 15 1021 (fun _ hm => ⟨hm.bl 0, hm.fa 0, trivial⟩) fun z => ?_
  refine wt 10 15 2045 rfl z (ov_build (cs := [.int .i64 k3, .string k6, .string k9]) rfl (by kernel_rfl)) ?_
  have h := J2045 k3 hk3 q5 k6 zk6 q8 k9 zk9
  rw [hW] at h
  refine wa_weak ?_ ?_ h
  ·exact ⟨rfl, rfl, rfl, rfl, rfl, rfl, rfl, rfl, rfl, rfl, rfl, rfl, rfl, rfl, rfl, rfl, rfl, rfl, rfl, rfl, rfl, rfl, rfl, rfl, rfl, rfl, trivial⟩
  exact fun _ hm => hm.pick [0, 1, 2, 3] [0, 1, 2] [0] rfl rfl
 have J253 : ∀ (k3 : Int) (hk3 : -2000000000000000 ≤ k3 ∧ k3 ≤ 2000000000000000) (q5 : Nat) (k6 : ByteArray) (zk6 : k6.size ≤ 100), W 8 (lb 15 253) [(0, .pointer (some ⟨sb, 0, none⟩)), (2, .pointer (some ⟨g1, 0, none⟩)), (3, .pointer (some ⟨g2, 0, none⟩)), (4, .pointer (some ⟨sb, 0, none⟩)), (5, .agg #[.slice sA sn sc, .slice cA 4 cc, .slice vA vn vc, .slice pA pn pc]), (6, .pointer (some ⟨sb, 0, none⟩)), (7, .bool f3), (8, .bool (!f3)), (10, .pointer (some ⟨sb, 0, none⟩)), (11, .int .i64 vj), (12, .pointer (some ⟨g2, 3, none⟩)), (14, .pointer (some ⟨sb, 0, none⟩)), (15, .int .i64 k3), (16, .pointer (some ⟨sb, 0, none⟩)), (17, .slice (some ⟨q5, 0, none⟩) 2 2), (18, .string k6), (19, .pointer (some ⟨sb, 0, none⟩)), (26, .bool (decide (vj = 0))), (27, .bool (decide (vj = 0))), (37, .bool (decide (vj = 1))), (38, .bool (decide (vj = 1))), (42, .bool (decide (vj = 2))), (43, .bool (decide (vj = 2)))] (fun w => Strm 25 w B sb (m + 300 + 1 + 1 + 2 + 1)) [(g1, 31, [.slice none 0 0, .slice none 0 0, .slice none 0 0, .slice none 0 0]), (g2, 31, [.slice sA sn sc, .slice cA 4 cc, .slice vA vn vc, .slice pA pn pc]), (q5, 9, [.string ⟨#[118, 49]⟩, .string ⟨#[110, 111, 110, 101]⟩])] [⟨.slice sA sn sc, 140, 15, sn, sl.flatMap stEnc⟩, ⟨.slice vA vn vc, 77, 2, vn, vl.flatMap vhEnc⟩, ⟨.slice pA pn pc, 143, 3, pn, pl.flatMap plEnc⟩] [fun wy => SlT csEnc 2 159 wy cA 4 cl] := by
  intro k3 hk3 q5 k6 zk6
  rw [hW]
  refine wa_all [1, 8] (by kernel_rfl) rfl ⟨⟨_, rfl, ?_⟩, ⟨_, rfl, ?_⟩, trivial⟩
  ·refine lk_ sc29 1 rfl rfl rfl (wl_nil ?_)
   refine nw 15 255 (fun _ hm => ⟨hm.bl 0, hm.fa 0, trivial⟩) fun z => ?_
   have h := T255 k3 hk3 q5 k6 zk6
   rw [hW] at h
   refine wa_weak ?_ ?_ h
   ·exact ⟨rfl, rfl, rfl, rfl, rfl, rfl, rfl, rfl, rfl, rfl, rfl, rfl, rfl, rfl, rfl, rfl, rfl, rfl, rfl, rfl, rfl, rfl, rfl, rfl, trivial⟩
   exact fun _ hm => hm.pick [0, 1, 2] [0, 1, 2] [0] rfl rfl
  refine wl_buildSlice (e := 9) (cs := [.string ⟨#[65, 66, 49]⟩, .string ⟨#[97, 49]⟩, .string ⟨#[65]⟩, .string ⟨#[65, 66, 67, 68, 69, 70, 71, 72, 73, 74, 49]⟩, .string ⟨#[65, 66, 49]⟩]) rfl (by kernel_rfl) rfl fun q8 => ?_
  refine wl_nil ?_
  refine nw 15 509 (fun _ hm => ⟨hm.bl 1, hm.fa 0, trivial⟩) fun z => ?_
  have h := J509 k3 hk3 q5 k6 zk6 q8
  rw [hW] at h
  refine wa_weak ?_ ?_ h
  ·exact ⟨rfl, rfl, rfl, rfl, rfl, rfl, rfl, rfl, rfl, rfl, rfl, rfl, rfl, rfl, rfl, rfl, rfl, rfl, rfl, rfl, rfl, rfl, rfl, rfl, trivial⟩
  exact fun _ hm => hm.pick [1, 2, 3, 0] [0, 1, 2] [0] rfl rfl
 have J445 : ∀ (k3 : Int) (hk3 : -2000000000000000 ≤ k3 ∧ k3 ≤ 2000000000000000) (q5 : Nat) (q8 : Nat), W 8 (lb 15 445) [(0, .pointer (some ⟨sb, 0, none⟩)), (2, .pointer (some ⟨g1, 0, none⟩)), (3, .pointer (some ⟨g2, 0, none⟩)), (4, .pointer (some ⟨sb, 0, none⟩)), (5, .agg #[.slice sA sn sc, .slice cA 4 cc, .slice vA vn vc, .slice pA pn pc]), (6, .pointer (some ⟨sb, 0, none⟩)), (7, .bool f3), (8, .bool (!f3)), (10, .pointer (some ⟨sb, 0, none⟩)), (11, .int .i64 vj), (12, .pointer (some ⟨g2, 3, none⟩)), (14, .pointer (some ⟨sb, 0, none⟩)), (15, .int .i64 k3), (16, .pointer (some ⟨sb, 0, none⟩)), (17, .slice (some ⟨q5, 0, none⟩) 2 2), (19, .pointer (some ⟨sb, 0, none⟩)), (20, .slice (some ⟨q8, 0, none⟩) 5 5), (26, .bool (decide (vj = 0))), (27, .bool (decide (vj = 0))), (37, .bool (decide (vj = 1))), (38, .bool (decide (vj = 1))), (42, .bool (decide (vj = 2))), (43, .bool (decide (vj = 2)))] (fun w => Strm 25 w B sb (m + 300 + 1 + 1 + 2)) [(g1, 31, [.slice none 0 0, .slice none 0 0, .slice none 0 0, .slice none 0 0]), (g2, 31, [.slice sA sn sc, .slice cA 4 cc, .slice vA vn vc, .slice pA pn pc]), (q5, 9, [.string ⟨#[118, 49]⟩, .string ⟨#[110, 111, 110, 101]⟩]), (q8, 9, [.string ⟨#[65, 66, 49]⟩, .string ⟨#[97, 49]⟩, .string ⟨#[65]⟩, .string ⟨#[65, 66, 67, 68, 69, 70, 71, 72, 73, 74, 49]⟩, .string ⟨#[65, 66, 49]⟩])] [⟨.slice sA sn sc, 140, 15, sn, sl.flatMap stEnc⟩, ⟨.slice vA vn vc, 77, 2, vn, vl.flatMap vhEnc⟩, ⟨.slice pA pn pc, 143, 3, pn, pl.flatMap plEnc⟩] [fun wy => SlT csEnc 2 159 wy cA 4 cl] := by
  intro k3 hk3 q5 q8
  rw [hW]
  refine wa_all [1, 6] (by kernel_rfl) rfl ⟨⟨_, rfl, ?_⟩, ⟨_, rfl, ?_⟩, trivial⟩
  ·refine lk_ sc29 1 rfl rfl rfl (wl_nil ?_)
   refine nw 15 447 (fun _ hm => ⟨hm.bl 0, hm.fa 0, trivial⟩) fun z => ?_
   have h := T447 k3 hk3 q5 q8
   rw [hW] at h
   refine wa_weak ?_ ?_ h
   ·exact ⟨rfl, rfl, rfl, rfl, rfl, rfl, rfl, rfl, rfl, rfl, rfl, rfl, rfl, rfl, rfl, rfl, rfl, rfl, rfl, rfl, rfl, rfl, rfl, rfl, trivial⟩
   exact fun _ hm => hm.pick [0, 1, 2, 3] [0, 1, 2] [0] rfl rfl
  refine wl_got (γ := ByteArray) (val := fun v => .string v) (φ := fun v => v ∈ ([⟨#[118, 49]⟩, ⟨#[110, 111, 110, 101]⟩] : List ByteArray)) rfl cb43 rfl rfl rfl rfl (fun wx hm => (some_any [⟨#[118, 49]⟩, ⟨#[110, 111, 110, 101]⟩] _ _ _ wx B sb _ hm.k (by omega) (by simp) (by simp) (hm.blkI 2 rfl) (hm.neRow 2 rfl rfl))) fun k6 hk6 => ?_
  have zk6 : k6.size ≤ 100 := mem_sz hk6 (by decide)
  refine wl_nil ?_
  refine nw 15 509 (fun _ hm => ⟨hm.bl 0, hm.fa 0, trivial⟩) fun z => ?_
  have h := J509 k3 hk3 q5 k6 zk6 q8
  rw [hW] at h
  refine wa_weak ?_ ?_ h
  ·exact ⟨rfl, rfl, rfl, rfl, rfl, rfl, rfl, rfl, rfl, rfl, rfl, rfl, rfl, rfl, rfl, rfl, rfl, rfl, rfl, rfl, rfl, rfl, rfl, rfl, trivial⟩
  exact fun _ hm => hm.pick [0, 1, 2, 3] [0, 1, 2] [0] rfl rfl
 have J189 : ∀ (k3 : Int) (hk3 : -2000000000000000 ≤ k3 ∧ k3 ≤ 2000000000000000) (q5 : Nat), W 9 (lb 15 189) [(0, .pointer (some ⟨sb, 0, none⟩)), (2, .pointer (some ⟨g1, 0, none⟩)), (3, .pointer (some ⟨g2, 0, none⟩)), (4, .pointer (some ⟨sb, 0, none⟩)), (5, .agg #[.slice sA sn sc, .slice cA 4 cc, .slice vA vn vc, .slice pA pn pc]), (6, .pointer (some ⟨sb, 0, none⟩)), (7, .bool f3), (8, .bool (!f3)), (10, .pointer (some ⟨sb, 0, none⟩)), (11, .int .i64 vj), (12, .pointer (some ⟨g2, 3, none⟩)), (14, .pointer (some ⟨sb, 0, none⟩)), (15, .int .i64 k3), (16, .pointer (some ⟨sb, 0, none⟩)), (17, .slice (some ⟨q5, 0, none⟩) 2 2), (19, .pointer (some ⟨sb, 0, none⟩)), (26, .bool (decide (vj = 0))), (27, .bool (decide (vj = 0))), (37, .bool (decide (vj = 1))), (38, .bool (decide (vj = 1))), (42, .bool (decide (vj = 2))), (43, .bool (decide (vj = 2)))] (fun w => Strm 25 w B sb (m + 300 + 1 + 1 + 2)) [(g1, 31, [.slice none 0 0, .slice none 0 0, .slice none 0 0, .slice none 0 0]), (g2, 31, [.slice sA sn sc, .slice cA 4 cc, .slice vA vn vc, .slice pA pn pc]), (q5, 9, [.string ⟨#[118, 49]⟩, .string ⟨#[110, 111, 110, 101]⟩])] [⟨.slice sA sn sc, 140, 15, sn, sl.flatMap stEnc⟩, ⟨.slice vA vn vc, 77, 2, vn, vl.flatMap vhEnc⟩, ⟨.slice pA pn pc, 143, 3, pn, pl.flatMap plEnc⟩] [fun wy => SlT csEnc 2 159 wy cA 4 cl] := by
  intro k3 hk3 q5
  rw [hW]
  refine wa_all [1, 6, 8] (by kernel_rfl) rfl ⟨⟨_, rfl, ?_⟩, ⟨_, rfl, ?_⟩, ⟨_, rfl, ?_⟩, trivial⟩
  ·refine lk_ sc29 1 rfl rfl rfl (wl_nil ?_)
   refine nw 15 191 (fun _ hm => ⟨hm.bl 0, hm.fa 0, trivial⟩) fun z => ?_
   have h := J191 k3 hk3 q5
   rw [hW] at h
   refine wa_weak ?_ ?_ h
   ·exact ⟨rfl, rfl, rfl, rfl, rfl, rfl, rfl, rfl, rfl, rfl, rfl, rfl, rfl, rfl, rfl, rfl, rfl, rfl, rfl, rfl, rfl, rfl, rfl, trivial⟩
   exact fun _ hm => hm.pick [0, 1, 2] [0, 1, 2] [0] rfl rfl
  ·refine wl_got (γ := ByteArray) (val := fun v => .string v) (φ := fun v => v ∈ ([⟨#[118, 49]⟩, ⟨#[110, 111, 110, 101]⟩] : List ByteArray)) rfl cb43 rfl rfl rfl rfl (fun wx hm => (some_any [⟨#[118, 49]⟩, ⟨#[110, 111, 110, 101]⟩] _ _ _ wx B sb _ hm.k (by omega) (by simp) (by simp) (hm.blkI 2 rfl) (hm.neRow 2 rfl rfl))) fun k6 hk6 => ?_
   have zk6 : k6.size ≤ 100 := mem_sz hk6 (by decide)
   refine wl_nil ?_
   refine nw 15 253 (fun _ hm => ⟨hm.bl 0, hm.fa 0, trivial⟩) fun z => ?_
   have h := J253 k3 hk3 q5 k6 zk6
   rw [hW] at h
   refine wa_weak ?_ ?_ h
   ·exact ⟨rfl, rfl, rfl, rfl, rfl, rfl, rfl, rfl, rfl, rfl, rfl, rfl, rfl, rfl, rfl, rfl, rfl, rfl, rfl, rfl, rfl, rfl, rfl, trivial⟩
   exact fun _ hm => hm.pick [0, 1, 2] [0, 1, 2] [0] rfl rfl
  refine wl_buildSlice (e := 9) (cs := [.string ⟨#[65, 66, 49]⟩, .string ⟨#[97, 49]⟩, .string ⟨#[65]⟩, .string ⟨#[65, 66, 67, 68, 69, 70, 71, 72, 73, 74, 49]⟩, .string ⟨#[65, 66, 49]⟩]) rfl (by kernel_rfl) rfl fun q8 => ?_
  refine wl_nil ?_
  refine nw 15 445 (fun _ hm => ⟨hm.bl 1, hm.fa 0, trivial⟩) fun z => ?_
  have h := J445 k3 hk3 q5 q8
  rw [hW] at h
  refine wa_weak ?_ ?_ h
  ·exact ⟨rfl, rfl, rfl, rfl, rfl, rfl, rfl, rfl, rfl, rfl, rfl, rfl, rfl, rfl, rfl, rfl, rfl, rfl, rfl, rfl, rfl, rfl, rfl, trivial⟩
  exact fun _ hm => hm.pick [1, 2, 3, 0] [0, 1, 2] [0] rfl rfl
 have J413 : ∀ (k3 : Int) (hk3 : -2000000000000000 ≤ k3 ∧ k3 ≤ 2000000000000000) (q8 : Nat), W 9 (lb 15 413) [(0, .pointer (some ⟨sb, 0, none⟩)), (2, .pointer (some ⟨g1, 0, none⟩)), (3, .pointer (some ⟨g2, 0, none⟩)), (4, .pointer (some ⟨sb, 0, none⟩)), (5, .agg #[.slice sA sn sc, .slice cA 4 cc, .slice vA vn vc, .slice pA pn pc]), (6, .pointer (some ⟨sb, 0, none⟩)), (7, .bool f3), (8, .bool (!f3)), (10, .pointer (some ⟨sb, 0, none⟩)), (11, .int .i64 vj), (12, .pointer (some ⟨g2, 3, none⟩)), (14, .pointer (some ⟨sb, 0, none⟩)), (15, .int .i64 k3), (16, .pointer (some ⟨sb, 0, none⟩)), (19, .pointer (some ⟨sb, 0, none⟩)), (20, .slice (some ⟨q8, 0, none⟩) 5 5), (26, .bool (decide (vj = 0))), (27, .bool (decide (vj = 0))), (37, .bool (decide (vj = 1))), (38, .bool (decide (vj = 1))), (42, .bool (decide (vj = 2))), (43, .bool (decide (vj = 2)))] (fun w => Strm 25 w B sb (m + 300 + 1 + 1 + 2)) [(g1, 31, [.slice none 0 0, .slice none 0 0, .slice none 0 0, .slice none 0 0]), (g2, 31, [.slice sA sn sc, .slice cA 4 cc, .slice vA vn vc, .slice pA pn pc]), (q8, 9, [.string ⟨#[65, 66, 49]⟩, .string ⟨#[97, 49]⟩, .string ⟨#[65]⟩, .string ⟨#[65, 66, 67, 68, 69, 70, 71, 72, 73, 74, 49]⟩, .string ⟨#[65, 66, 49]⟩])] [⟨.slice sA sn sc, 140, 15, sn, sl.flatMap stEnc⟩, ⟨.slice vA vn vc, 77, 2, vn, vl.flatMap vhEnc⟩, ⟨.slice pA pn pc, 143, 3, pn, pl.flatMap plEnc⟩] [fun wy => SlT csEnc 2 159 wy cA 4 cl] := by
  intro k3 hk3 q8
  rw [hW]
  refine wa_all [1, 5] (by kernel_rfl) rfl ⟨⟨_, rfl, ?_⟩, ⟨_, rfl, ?_⟩, trivial⟩
  ·refine lk_ sc29 1 rfl rfl rfl (wl_nil ?_)
   refine nw 15 415 (fun _ hm => ⟨hm.bl 0, hm.fa 0, trivial⟩) fun z => ?_
   have h := T415 k3 hk3 q8
   rw [hW] at h
   refine wa_weak ?_ ?_ h
   ·exact ⟨rfl, rfl, rfl, rfl, rfl, rfl, rfl, rfl, rfl, rfl, rfl, rfl, rfl, rfl, rfl, rfl, rfl, rfl, rfl, rfl, rfl, rfl, rfl, trivial⟩
   exact fun _ hm => hm.pick [0, 1, 2] [0, 1, 2] [0] rfl rfl
  refine wl_buildSlice (e := 9) (cs := [.string ⟨#[118, 49]⟩, .string ⟨#[110, 111, 110, 101]⟩]) rfl (by kernel_rfl) rfl fun q5 => ?_
  refine wl_nil ?_
  refine nw 15 445 (fun _ hm => ⟨hm.bl 1, hm.fa 0, trivial⟩) fun z => ?_
  have h := J445 k3 hk3 q5 q8
  rw [hW] at h
  refine wa_weak ?_ ?_ h
  ·exact ⟨rfl, rfl, rfl, rfl, rfl, rfl, rfl, rfl, rfl, rfl, rfl, rfl, rfl, rfl, rfl, rfl, rfl, rfl, rfl, rfl, rfl, rfl, rfl, trivial⟩
  exact fun _ hm => hm.pick [1, 2, 0, 3] [0, 1, 2] [0] rfl rfl
 have J157 : ∀ (k3 : Int) (hk3 : -2000000000000000 ≤ k3 ∧ k3 ≤ 2000000000000000), W 10 (lb 15 157) [(0, .pointer (some ⟨sb, 0, none⟩)), (2, .pointer (some ⟨g1, 0, none⟩)), (3, .pointer (some ⟨g2, 0, none⟩)), (4, .pointer (some ⟨sb, 0, none⟩)), (5, .agg #[.slice sA sn sc, .slice cA 4 cc, .slice vA vn vc, .slice pA pn pc]), (6, .pointer (some ⟨sb, 0, none⟩)), (7, .bool f3), (8, .bool (!f3)), (10, .pointer (some ⟨sb, 0, none⟩)), (11, .int .i64 vj), (12, .pointer (some ⟨g2, 3, none⟩)), (14, .pointer (some ⟨sb, 0, none⟩)), (15, .int .i64 k3), (16, .pointer (some ⟨sb, 0, none⟩)), (19, .pointer (some ⟨sb, 0, none⟩)), (26, .bool (decide (vj = 0))), (27, .bool (decide (vj = 0))), (37, .bool (decide (vj = 1))), (38, .bool (decide (vj = 1))), (42, .bool (decide (vj = 2))), (43, .bool (decide (vj = 2)))] (fun w => Strm 25 w B sb (m + 300 + 1 + 1 + 2)) [(g1, 31, [.slice none 0 0, .slice none 0 0, .slice none 0 0, .slice none 0 0]), (g2, 31, [.slice sA sn sc, .slice cA 4 cc, .slice vA vn vc, .slice pA pn pc])] [⟨.slice sA sn sc, 140, 15, sn, sl.flatMap stEnc⟩, ⟨.slice vA vn vc, 77, 2, vn, vl.flatMap vhEnc⟩, ⟨.slice pA pn pc, 143, 3, pn, pl.flatMap plEnc⟩] [fun wy => SlT csEnc 2 159 wy cA 4 cl] := by
  intro k3 hk3
  rw [hW]
  refine wa_all [1, 5, 8] (by kernel_rfl) rfl ⟨⟨_, rfl, ?_⟩, ⟨_, rfl, ?_⟩, ⟨_, rfl, ?_⟩, trivial⟩
  ·refine lk_ sc29 1 rfl rfl rfl (wl_nil ?_)
   refine nw 15 159 (fun _ hm => ⟨hm.bl 0, hm.fa 0, trivial⟩) fun z => ?_
   have h := J159 k3 hk3
   rw [hW] at h
   refine wa_weak ?_ ?_ h
   ·exact ⟨rfl, rfl, rfl, rfl, rfl, rfl, rfl, rfl, rfl, rfl, rfl, rfl, rfl, rfl, rfl, rfl, rfl, rfl, rfl, rfl, rfl, rfl, trivial⟩
   exact fun _ hm => hm.pick [0, 1] [0, 1, 2] [0] rfl rfl
  ·refine wl_buildSlice (e := 9) (cs := [.string ⟨#[118, 49]⟩, .string ⟨#[110, 111, 110, 101]⟩]) rfl (by kernel_rfl) rfl fun q5 => ?_
   refine wl_nil ?_
   refine nw 15 189 (fun _ hm => ⟨hm.bl 1, hm.fa 0, trivial⟩) fun z => ?_
   have h := J189 k3 hk3 q5
   rw [hW] at h
   refine wa_weak ?_ ?_ h
   ·exact ⟨rfl, rfl, rfl, rfl, rfl, rfl, rfl, rfl, rfl, rfl, rfl, rfl, rfl, rfl, rfl, rfl, rfl, rfl, rfl, rfl, rfl, rfl, trivial⟩
   exact fun _ hm => hm.pick [1, 2, 0] [0, 1, 2] [0] rfl rfl
  refine wl_buildSlice (e := 9) (cs := [.string ⟨#[65, 66, 49]⟩, .string ⟨#[97, 49]⟩, .string ⟨#[65]⟩, .string ⟨#[65, 66, 67, 68, 69, 70, 71, 72, 73, 74, 49]⟩, .string ⟨#[65, 66, 49]⟩]) rfl (by kernel_rfl) rfl fun q8 => ?_
  refine wl_nil ?_
  refine nw 15 413 (fun _ hm => ⟨hm.bl 1, hm.fa 0, trivial⟩) fun z => ?_
  have h := J413 k3 hk3 q8
  rw [hW] at h
  refine wa_weak ?_ ?_ h
  ·exact ⟨rfl, rfl, rfl, rfl, rfl, rfl, rfl, rfl, rfl, rfl, rfl, rfl, rfl, rfl, rfl, rfl, rfl, rfl, rfl, rfl, rfl, rfl, trivial⟩
  exact fun _ hm => hm.pick [1, 2, 0] [0, 1, 2] [0] rfl rfl
 have J437 : ∀ (q5 : Nat) (q8 : Nat), W 9 (lb 15 437) [(0, .pointer (some ⟨sb, 0, none⟩)), (2, .pointer (some ⟨g1, 0, none⟩)), (3, .pointer (some ⟨g2, 0, none⟩)), (4, .pointer (some ⟨sb, 0, none⟩)), (5, .agg #[.slice sA sn sc, .slice cA 4 cc, .slice vA vn vc, .slice pA pn pc]), (6, .pointer (some ⟨sb, 0, none⟩)), (7, .bool f3), (8, .bool (!f3)), (10, .pointer (some ⟨sb, 0, none⟩)), (11, .int .i64 vj), (12, .pointer (some ⟨g2, 3, none⟩)), (14, .pointer (some ⟨sb, 0, none⟩)), (16, .pointer (some ⟨sb, 0, none⟩)), (17, .slice (some ⟨q5, 0, none⟩) 2 2), (19, .pointer (some ⟨sb, 0, none⟩)), (20, .slice (some ⟨q8, 0, none⟩) 5 5), (26, .bool (decide (vj = 0))), (27, .bool (decide (vj = 0))), (37, .bool (decide (vj = 1))), (38, .bool (decide (vj = 1))), (42, .bool (decide (vj = 2))), (43, .bool (decide (vj = 2)))] (fun w => Strm 25 w B sb (m + 300 + 1 + 1)) [(g1, 31, [.slice none 0 0, .slice none 0 0, .slice none 0 0, .slice none 0 0]), (g2, 31, [.slice sA sn sc, .slice cA 4 cc, .slice vA vn vc, .slice pA pn pc]), (q5, 9, [.string ⟨#[118, 49]⟩, .string ⟨#[110, 111, 110, 101]⟩]), (q8, 9, [.string ⟨#[65, 66, 49]⟩, .string ⟨#[97, 49]⟩, .string ⟨#[65]⟩, .string ⟨#[65, 66, 67, 68, 69, 70, 71, 72, 73, 74, 49]⟩, .string ⟨#[65, 66, 49]⟩])] [⟨.slice sA sn sc, 140, 15, sn, sl.flatMap stEnc⟩, ⟨.slice vA vn vc, 77, 2, vn, vl.flatMap vhEnc⟩, ⟨.slice pA pn pc, 143, 3, pn, pl.flatMap plEnc⟩] [fun wy => SlT csEnc 2 159 wy cA 4 cl] := by
  intro q5 q8
  rw [hW]
  refine wa_all [1, 3] (by kernel_rfl) rfl ⟨⟨_, rfl, ?_⟩, ⟨_, rfl, ?_⟩, trivial⟩
  ·refine lk_ sc29 1 rfl rfl rfl (wl_nil ?_)
   refine nw 15 439 (fun _ hm => ⟨hm.bl 0, hm.fa 0, trivial⟩) fun z => ?_
   have h := T439 q5 q8
   rw [hW] at h
   refine wa_weak ?_ ?_ h
   ·exact ⟨rfl, rfl, rfl, rfl, rfl, rfl, rfl, rfl, rfl, rfl, rfl, rfl, rfl, rfl, rfl, rfl, rfl, rfl, rfl, rfl, rfl, rfl, rfl, trivial⟩
   exact fun _ hm => hm.pick [0, 1, 2, 3] [0, 1, 2] [0] rfl rfl
  refine wl_got (γ := Int) (val := fun v => .int .i64 v) (φ := fun v => -2000000000000000 ≤ v ∧ v ≤ 2000000000000000) rfl cb77 rfl rfl rfl rfl (fun wx hm => (odd_any _ _ wx B sb _ hm.k (by omega) (by omega) (by omega) (by omega))) fun k3 hk3 => ?_
  refine wl_nil ?_
  refine nw 15 445 (fun _ hm => ⟨hm.bl 0, hm.fa 0, trivial⟩) fun z => ?_
  have h := J445 k3 hk3 q5 q8
  rw [hW] at h
  refine wa_weak ?_ ?_ h
  ·exact ⟨rfl, rfl, rfl, rfl, rfl, rfl, rfl, rfl, rfl, rfl, rfl, rfl, rfl, rfl, rfl, rfl, rfl, rfl, rfl, rfl, rfl, rfl, rfl, trivial⟩
  exact fun _ hm => hm.pick [0, 1, 2, 3] [0, 1, 2] [0] rfl rfl
 have J181 : ∀ (q5 : Nat), W 10 (lb 15 181) [(0, .pointer (some ⟨sb, 0, none⟩)), (2, .pointer (some ⟨g1, 0, none⟩)), (3, .pointer (some ⟨g2, 0, none⟩)), (4, .pointer (some ⟨sb, 0, none⟩)), (5, .agg #[.slice sA sn sc, .slice cA 4 cc, .slice vA vn vc, .slice pA pn pc]), (6, .pointer (some ⟨sb, 0, none⟩)), (7, .bool f3), (8, .bool (!f3)), (10, .pointer (some ⟨sb, 0, none⟩)), (11, .int .i64 vj), (12, .pointer (some ⟨g2, 3, none⟩)), (14, .pointer (some ⟨sb, 0, none⟩)), (16, .pointer (some ⟨sb, 0, none⟩)), (17, .slice (some ⟨q5, 0, none⟩) 2 2), (19, .pointer (some ⟨sb, 0, none⟩)), (26, .bool (decide (vj = 0))), (27, .bool (decide (vj = 0))), (37, .bool (decide (vj = 1))), (38, .bool (decide (vj = 1))), (42, .bool (decide (vj = 2))), (43, .bool (decide (vj = 2)))] (fun w => Strm 25 w B sb (m + 300 + 1 + 1)) [(g1, 31, [.slice none 0 0, .slice none 0 0, .slice none 0 0, .slice none 0 0]), (g2, 31, [.slice sA sn sc, .slice cA 4 cc, .slice vA vn vc, .slice pA pn pc]), (q5, 9, [.string ⟨#[118, 49]⟩, .string ⟨#[110, 111, 110, 101]⟩])] [⟨.slice sA sn sc, 140, 15, sn, sl.flatMap stEnc⟩, ⟨.slice vA vn vc, 77, 2, vn, vl.flatMap vhEnc⟩, ⟨.slice pA pn pc, 143, 3, pn, pl.flatMap plEnc⟩] [fun wy => SlT csEnc 2 159 wy cA 4 cl] := by
  intro q5
  rw [hW]
  refine wa_all [1, 3, 8] (by kernel_rfl) rfl ⟨⟨_, rfl, ?_⟩, ⟨_, rfl, ?_⟩, ⟨_, rfl, ?_⟩, trivial⟩
  ·refine lk_ sc29 1 rfl rfl rfl (wl_nil ?_)
   refine nw 15 183 (fun _ hm => ⟨hm.bl 0, hm.fa 0, trivial⟩) fun z => ?_
   have h := J183 q5
   rw [hW] at h
   refine wa_weak ?_ ?_ h
   ·exact ⟨rfl, rfl, rfl, rfl, rfl, rfl, rfl, rfl, rfl, rfl, rfl, rfl, rfl, rfl, rfl, rfl, rfl, rfl, rfl, rfl, rfl, rfl, trivial⟩
   exact fun _ hm => hm.pick [0, 1, 2] [0, 1, 2] [0] rfl rfl
  ·refine wl_got (γ := Int) (val := fun v => .int .i64 v) (φ := fun v => -2000000000000000 ≤ v ∧ v ≤ 2000000000000000) rfl cb77 rfl rfl rfl rfl (fun wx hm => (odd_any _ _ wx B sb _ hm.k (by omega) (by omega) (by omega) (by omega))) fun k3 hk3 => ?_
   refine wl_nil ?_
   refine nw 15 189 (fun _ hm => ⟨hm.bl 0, hm.fa 0, trivial⟩) fun z => ?_
   have h := J189 k3 hk3 q5
   rw [hW] at h
   refine wa_weak ?_ ?_ h
   ·exact ⟨rfl, rfl, rfl, rfl, rfl, rfl, rfl, rfl, rfl, rfl, rfl, rfl, rfl, rfl, rfl, rfl, rfl, rfl, rfl, rfl, rfl, rfl, trivial⟩
   exact fun _ hm => hm.pick [0, 1, 2] [0, 1, 2] [0] rfl rfl
  refine wl_buildSlice (e := 9) (cs := [.string ⟨#[65, 66, 49]⟩, .string ⟨#[97, 49]⟩, .string ⟨#[65]⟩, .string ⟨#[65, 66, 67, 68, 69, 70, 71, 72, 73, 74, 49]⟩, .string ⟨#[65, 66, 49]⟩]) rfl (by kernel_rfl) rfl fun q8 => ?_
  refine wl_nil ?_
  refine nw 15 437 (fun _ hm => ⟨hm.bl 1, hm.fa 0, trivial⟩) fun z => ?_
  have h := J437 q5 q8
  rw [hW] at h
  refine wa_weak ?_ ?_ h
  ·exact ⟨rfl, rfl, rfl, rfl, rfl, rfl, rfl, rfl, rfl, rfl, rfl, rfl, rfl, rfl, rfl, rfl, rfl, rfl, rfl, rfl, rfl, rfl, trivial⟩
  exact fun _ hm => hm.pick [1, 2, 3, 0] [0, 1, 2] [0] rfl rfl
 have J405 : ∀ (q8 : Nat), W 10 (lb 15 405) [(0, .pointer (some ⟨sb, 0, none⟩)), (2, .pointer (some ⟨g1, 0, none⟩)), (3, .pointer (some ⟨g2, 0, none⟩)), (4, .pointer (some ⟨sb, 0, none⟩)), (5, .agg #[.slice sA sn sc, .slice cA 4 cc, .slice vA vn vc, .slice pA pn pc]), (6, .pointer (some ⟨sb, 0, none⟩)), (7, .bool f3), (8, .bool (!f3)), (10, .pointer (some ⟨sb, 0, none⟩)), (11, .int .i64 vj), (12, .pointer (some ⟨g2, 3, none⟩)), (14, .pointer (some ⟨sb, 0, none⟩)), (16, .pointer (some ⟨sb, 0, none⟩)), (19, .pointer (some ⟨sb, 0, none⟩)), (20, .slice (some ⟨q8, 0, none⟩) 5 5), (26, .bool (decide (vj = 0))), (27, .bool (decide (vj = 0))), (37, .bool (decide (vj = 1))), (38, .bool (decide (vj = 1))), (42, .bool (decide (vj = 2))), (43, .bool (decide (vj = 2)))] (fun w => Strm 25 w B sb (m + 300 + 1 + 1)) [(g1, 31, [.slice none 0 0, .slice none 0 0, .slice none 0 0, .slice none 0 0]), (g2, 31, [.slice sA sn sc, .slice cA 4 cc, .slice vA vn vc, .slice pA pn pc]), (q8, 9, [.string ⟨#[65, 66, 49]⟩, .string ⟨#[97, 49]⟩, .string ⟨#[65]⟩, .string ⟨#[65, 66, 67, 68, 69, 70, 71, 72, 73, 74, 49]⟩, .string ⟨#[65, 66, 49]⟩])] [⟨.slice sA sn sc, 140, 15, sn, sl.flatMap stEnc⟩, ⟨.slice vA vn vc, 77, 2, vn, vl.flatMap vhEnc⟩, ⟨.slice pA pn pc, 143, 3, pn, pl.flatMap plEnc⟩] [fun wy => SlT csEnc 2 159 wy cA 4 cl] := by
  intro q8
  rw [hW]
  refine wa_all [1, 3, 5] (by kernel_rfl) rfl ⟨⟨_, rfl, ?_⟩, ⟨_, rfl, ?_⟩, ⟨_, rfl, ?_⟩, trivial⟩
  ·refine lk_ sc29 1 rfl rfl rfl (wl_nil ?_)
   refine nw 15 407 (fun _ hm => ⟨hm.bl 0, hm.fa 0, trivial⟩) fun z => ?_
   have h := J407 q8
   rw [hW] at h
   refine wa_weak ?_ ?_ h
   ·exact ⟨rfl, rfl, rfl, rfl, rfl, rfl, rfl, rfl, rfl, rfl, rfl, rfl, rfl, rfl, rfl, rfl, rfl, rfl, rfl, rfl, rfl, rfl, trivial⟩
   exact fun _ hm => hm.pick [0, 1, 2] [0, 1, 2] [0] rfl rfl
  ·refine wl_got (γ := Int) (val := fun v => .int .i64 v) (φ := fun v => -2000000000000000 ≤ v ∧ v ≤ 2000000000000000) rfl cb77 rfl rfl rfl rfl (fun wx hm => (odd_any _ _ wx B sb _ hm.k (by omega) (by omega) (by omega) (by omega))) fun k3 hk3 => ?_
   refine wl_nil ?_
   refine nw 15 413 (fun _ hm => ⟨hm.bl 0, hm.fa 0, trivial⟩) fun z => ?_
   have h := J413 k3 hk3 q8
   rw [hW] at h
   refine wa_weak ?_ ?_ h
   ·exact ⟨rfl, rfl, rfl, rfl, rfl, rfl, rfl, rfl, rfl, rfl, rfl, rfl, rfl, rfl, rfl, rfl, rfl, rfl, rfl, rfl, rfl, rfl, trivial⟩
   exact fun _ hm => hm.pick [0, 1, 2] [0, 1, 2] [0] rfl rfl
  refine wl_buildSlice (e := 9) (cs := [.string ⟨#[118, 49]⟩, .string ⟨#[110, 111, 110, 101]⟩]) rfl (by kernel_rfl) rfl fun q5 => ?_
  refine wl_nil ?_
  refine nw 15 437 (fun _ hm => ⟨hm.bl 1, hm.fa 0, trivial⟩) fun z => ?_
  have h := J437 q5 q8
  rw [hW] at h
  refine wa_weak ?_ ?_ h
  ·exact ⟨rfl, rfl, rfl, rfl, rfl, rfl, rfl, rfl, rfl, rfl, rfl, rfl, rfl, rfl, rfl, rfl, rfl, rfl, rfl, rfl, rfl, rfl, trivial⟩
  exact fun _ hm => hm.pick [1, 2, 0, 3] [0, 1, 2] [0] rfl rfl
 have J149 : W 11 (lb 15 149) [(0, .pointer (some ⟨sb, 0, none⟩)), (2, .pointer (some ⟨g1, 0, none⟩)), (3, .pointer (some ⟨g2, 0, none⟩)), (4, .pointer (some ⟨sb, 0, none⟩)), (5, .agg #[.slice sA sn sc, .slice cA 4 cc, .slice vA vn vc, .slice pA pn pc]), (6, .pointer (some ⟨sb, 0, none⟩)), (7, .bool f3), (8, .bool (!f3)), (10, .pointer (some ⟨sb, 0, none⟩)), (11, .int .i64 vj), (12, .pointer (some ⟨g2, 3, none⟩)), (14, .pointer (some ⟨sb, 0, none⟩)), (16, .pointer (some ⟨sb, 0, none⟩)), (19, .pointer (some ⟨sb, 0, none⟩)), (26, .bool (decide (vj = 0))), (27, .bool (decide (vj = 0))), (37, .bool (decide (vj = 1))), (38, .bool (decide (vj = 1))), (42, .bool (decide (vj = 2))), (43, .bool (decide (vj = 2)))] (fun w => Strm 25 w B sb (m + 300 + 1 + 1)) [(g1, 31, [.slice none 0 0, .slice none 0 0, .slice none 0 0, .slice none 0 0]), (g2, 31, [.slice sA sn sc, .slice cA 4 cc, .slice vA vn vc, .slice pA pn pc])] [⟨.slice sA sn sc, 140, 15, sn, sl.flatMap stEnc⟩, ⟨.slice vA vn vc, 77, 2, vn, vl.flatMap vhEnc⟩, ⟨.slice pA pn pc, 143, 3, pn, pl.flatMap plEnc⟩] [fun wy => SlT csEnc 2 159 wy cA 4 cl] := by
  skip
  rw [hW]
  refine wa_all [1, 3, 5, 8] (by kernel_rfl) rfl ⟨⟨_, rfl, ?_⟩, ⟨_, rfl, ?_⟩, ⟨_, rfl, ?_⟩, ⟨_, rfl, ?_⟩, trivial⟩
  ·refine lk_ sc29 1 rfl rfl rfl (wl_nil ?_)
   refine nw 15 151 (fun _ hm => ⟨hm.bl 0, hm.fa 0, trivial⟩) fun z => ?_
   have h := J151 
   rw [hW] at h
   refine wa_weak ?_ ?_ h
   ·exact ⟨rfl, rfl, rfl, rfl, rfl, rfl, rfl, rfl, rfl, rfl, rfl, rfl, rfl, rfl, rfl, rfl, rfl, rfl, rfl, rfl, rfl, trivial⟩
   exact fun _ hm => hm.pick [0, 1] [0, 1, 2] [0] rfl rfl
  ·refine wl_got (γ := Int) (val := fun v => .int .i64 v) (φ := fun v => -2000000000000000 ≤ v ∧ v ≤ 2000000000000000) rfl cb77 rfl rfl rfl rfl (fun wx hm => (odd_any _ _ wx B sb _ hm.k (by omega) (by omega) (by omega) (by omega))) fun k3 hk3 => ?_
   refine wl_nil ?_
   refine nw 15 157 (fun _ hm => ⟨hm.bl 0, hm.fa 0, trivial⟩) fun z => ?_
   have h := J157 k3 hk3
   rw [hW] at h
   refine wa_weak ?_ ?_ h
   ·exact ⟨rfl, rfl, rfl, rfl, rfl, rfl, rfl, rfl, rfl, rfl, rfl, rfl, rfl, rfl, rfl, rfl, rfl, rfl, rfl, rfl, rfl, trivial⟩
   exact fun _ hm => hm.pick [0, 1] [0, 1, 2] [0] rfl rfl
  ·refine wl_buildSlice (e := 9) (cs := [.string ⟨#[118, 49]⟩, .string ⟨#[110, 111, 110, 101]⟩]) rfl (by kernel_rfl) rfl fun q5 => ?_
   refine wl_nil ?_
   refine nw 15 181 (fun _ hm => ⟨hm.bl 1, hm.fa 0, trivial⟩) fun z => ?_
   have h := J181 q5
   rw [hW] at h
   refine wa_weak ?_ ?_ h
   ·exact ⟨rfl, rfl, rfl, rfl, rfl, rfl, rfl, rfl, rfl, rfl, rfl, rfl, rfl, rfl, rfl, rfl, rfl, rfl, rfl, rfl, rfl, trivial⟩
   exact fun _ hm => hm.pick [1, 2, 0] [0, 1, 2] [0] rfl rfl
  refine wl_buildSlice (e := 9) (cs := [.string ⟨#[65, 66, 49]⟩, .string ⟨#[97, 49]⟩, .string ⟨#[65]⟩, .string ⟨#[65, 66, 67, 68, 69, 70, 71, 72, 73, 74, 49]⟩, .string ⟨#[65, 66, 49]⟩]) rfl (by kernel_rfl) rfl fun q8 => ?_
  refine wl_nil ?_
  refine nw 15 405 (fun _ hm => ⟨hm.bl 1, hm.fa 0, trivial⟩) fun z => ?_
  have h := J405 q8
  rw [hW] at h
  refine wa_weak ?_ ?_ h
  ·exact ⟨rfl, rfl, rfl, rfl, rfl, rfl, rfl, rfl, rfl, rfl, rfl, rfl, rfl, rfl, rfl, rfl, rfl, rfl, rfl, rfl, rfl, trivial⟩
  exact fun _ hm => hm.pick [1, 2, 0] [0, 1, 2] [0] rfl rfl
 rw [hW]
 have h := J149 
 rw [hW] at h
 refine wa_weak ?_ ?_ h
 ·exact ⟨rfl, rfl, rfl, rfl, rfl, rfl, rfl, rfl, rfl, rfl, rfl, rfl, rfl, rfl, rfl, rfl, rfl, rfl, rfl, rfl, trivial⟩
 exact fun _ hm => hm.pick [1, 0] [0, 1, 2] [0] rfl rfl
end Go.Proofs.YtjecbkgjabnmoaaGreatDoor
namespace Go.Proofs.YtjecbkgjabnmoaaGreatDoor
open Go.RowKit
theorem gvehicleKey_any (w : World) (B sb m : Nat) (hS : Strm 25 w B sb m) (hm : m ≤ 100000000000) :
  Calls Tryz.prog 12 #[.pointer (some ⟨sb, 0, none⟩)] w (fun e w' => ∃ v : ByteArray, e = .returned (.string v) ∧ v.size ≤ 100 ∧ Strm 25 w' B sb (m + 1) ∧ w.grownBy w' (some sb)) := by
 refine gw_enter ⟨6, w, (some sb), []⟩ Tryz.func12 rfl Tryz.ntmps12 rfl (memS (X := []) hS allF_nil allL_nil) ?_
 refine sr_ (sg_ rfl (nn_ (sr_ (mv_ rfl ?_))))
 refine wl_buildSlice (e := 9) (cs := [.string ⟨#[118, 49]⟩, .string ⟨#[118, 49]⟩, .string ⟨#[118, 50]⟩, .string ⟨#[118, 50]⟩, .string ⟨#[118, 51]⟩, .string ⟨#[118, 52]⟩, .string ⟨#[110, 111, 110, 101]⟩, .string ⟨#[]⟩, .string ⟨#[65]⟩]) rfl (by kernel_rfl) rfl fun g1 => ?_
 refine wl_got (γ := ByteArray) (val := fun v => .string v) (φ := fun v => v ∈ ([⟨#[118, 49]⟩, ⟨#[118, 49]⟩, ⟨#[118, 50]⟩, ⟨#[118, 50]⟩, ⟨#[118, 51]⟩, ⟨#[118, 52]⟩, ⟨#[110, 111, 110, 101]⟩, ⟨#[]⟩, ⟨#[65]⟩] : List ByteArray)) rfl cb43 rfl rfl rfl rfl (fun wx hm => (some_any [⟨#[118, 49]⟩, ⟨#[118, 49]⟩, ⟨#[118, 50]⟩, ⟨#[118, 50]⟩, ⟨#[118, 51]⟩, ⟨#[118, 52]⟩, ⟨#[110, 111, 110, 101]⟩, ⟨#[]⟩, ⟨#[65]⟩] _ _ _ wx B sb _ hm.k (by omega) (by simp) (by simp) (hm.blkI 0 rfl) (hm.neRow 0 rfl rfl))) fun s2 hs2 => ?_
 have zs2 : s2.size ≤ 100 := mem_sz hs2 (by decide)
 refine sg_ rfl (nn_ ?_)
 refine gw_ret ?_
 refine nx_ret1 rfl rfl fun wx hm => ?_
 exact ⟨s2, rfl, by omega, hm.k, hm.g⟩
end Go.Proofs.YtjecbkgjabnmoaaGreatDoor
namespace Go.Proofs.YtjecbkgjabnmoaaGreatDoor
open Go.RowKit
theorem cloneEvents_all (l : List Ev) (A : Option Addr) (n c : Nat) (w : World) (hl : SlT evEnc 5 92 w A n l) (hs : ShapeA A n c) (hn : n ≤ 1000000) :
    Calls Tryz.prog 54 #[.slice A n c] w (fun e w' => ∃ A' c', e = .returned (.slice A' n c') ∧ w'.ownsRow w.heap.size 92 5 (.slice A' n c') n (l.flatMap evEnc) ∧ w.grownBy w' none) := by
  rcases hs with ⟨rfl, rfl, rfl⟩ | ⟨b, off, rfl⟩
  · exact cloneEvents_any l none 0 0 w hl (fun _ => ⟨rfl, rfl⟩) hn
  · rcases Nat.eq_zero_or_pos n with rfl | h0
    · have hl0 : l = [] := List.length_eq_zero_iff.1 hl.len
      subst hl0
      exact cloneEvents_empty b off c w
    · exact cloneEvents_pos l _ n c w hl h0 hn
theorem glog_any (sl : List St) (vl : List Vh) (sA cA vA pA : Option Addr) (sn sc cn cc vn vc pn pc q : Nat) (w : World) (B sb m : Nat) (hS : Strm 25 w B sb m) (hm : m ≤ 100000000) (hs : SlT stEnc 15 140 w sA sn sl) (hv : SlT vhEnc 2 77 w vA vn vl) (hsok : ∀ x ∈ sl, StOk x) (hvok : ∀ x ∈ vl, VhOk x) (hsn : sn ≤ 1000) (hvn : vn ≤ 1000) (hq : q ≤ 1000) :
  Calls Tryz.prog 39 #[.pointer (some ⟨sb, 0, none⟩), .agg #[.slice sA sn sc, .slice cA cn cc, .slice vA vn vc, .slice pA pn pc], .int .i64 ((q : Nat) : Int)] w (fun e w' => ∃ (A : Option Addr) (n c : Nat) (l : List Ev), e = .returned (.slice A n c) ∧ w'.ownsRow w.heap.size 92 5 (.slice A n c) n (l.flatMap evEnc) ∧ l.length = n ∧ (∀ x ∈ l, EvOk x) ∧ n ≤ q ∧ Strm 25 w' B sb (m + 20 * q + 20) ∧ w.grownBy w' (some sb)) := by
 obtain ⟨_, _, _, _, hh, _⟩ := hS.pos
 have hso := hs.oldRow hh (by decide)
 have hvo := hv.oldRow hh (by decide)
 refine gw_enter ⟨137, w, (some sb), []⟩ Tryz.func39 rfl Tryz.ntmps39 rfl (memS (X := [SlOld stEnc 15 140 w.heap.size (some sb) sA sn sl, SlOld vhEnc 2 77 w.heap.size (some sb) vA vn vl]) hS (allF_cons hso (allF_cons hvo allF_nil)) (allL_cons SlOld.lasts (allL_cons SlOld.lasts allL_nil))) ?_
 refine sr_ ?_
 have hvl := hv.len
 have hsl := hs.len
 refine wl_nilOwn 92 5 ?_
 refine wl_box rfl rfl rfl fun g1 => ?_
 refine sg_ rfl (nn_ (sr_ (sg_ rfl (nn_ (gw_seq (sr_ (fd_ fo31_2 rfl rfl (lk_ sc28 0 rfl rfl rfl (wl_ov (ov_len es28 rfl) rfl ?_)))))))))
 refine wl_ov (ov_eql rfl rfl) rfl (mv_ rfl ?_)
 rcases Bool.eq_false_or_eq_true (decide (((vn : Nat) : Int) = 0)) with h0 | h0
 ·refine wl_set 16 rfl (congrArg Value.bool h0) ?_
  refine goff rfl rfl rfl (goff rfl rfl rfl (goff rfl rfl rfl (goff rfl rfl rfl (pt_ rfl rfl (nn_ (ct_ rfl (sr_ (mv_ rfl (sg_ rfl (nn_ ?_))))))))))
  refine gw_ret ?_
  refine nx_then_ret ?_
  refine nx_ret1 rfl rfl fun wx hm => ?_
  exact ⟨none, 0, 0, [], rfl, (hm.ownI 0 rfl), rfl, (fun _ h => by cases h), by omega, hm.k.more (by omega), hm.g⟩
 refine wl_set 16 rfl (congrArg Value.bool h0) ?_
 have h0 := of_decide_eq_false h0
 refine wl_guard_on rfl rfl rfl (fd_ fo31_0 rfl rfl (wl_guard_on rfl rfl rfl (lk_ sc26 0 rfl rfl rfl (wl_guard_on rfl rfl rfl (wl_ov (ov_len es26 rfl) rfl (wl_guard_on rfl rfl rfl (wl_ov (ov_eql rfl rfl) rfl (pf_ rfl rfl (nn_ ?_)))))))))
 refine gw_cond rfl (fun hh => ?_) (fun hh => ?_)
 ·have h1 : ((sn : Nat) : Int) = 0 := by simpa using hh
  clear hh
  refine sr_ (mv_ rfl (sg_ rfl (nn_ ?_)))
  refine gw_ret ?_
  refine nx_then_ret ?_
  refine nx_ret1 rfl rfl fun wx hm => ?_
  exact ⟨none, 0, 0, [], rfl, (hm.ownI 0 rfl), rfl, (fun _ h => by cases h), by omega, hm.k.more (by omega), hm.g⟩
 have h1 : ¬ (((sn : Nat) : Int) = 0) := by simpa using hh
 clear hh
 refine gw_skip (nx_then (sr_ ?_))
 have hvn0 : 0 < vn := by omega
 have hsn0 : 0 < sn := by omega
 obtain ⟨bv, ov, hA, _, _⟩ := hv.get (by omega)
 subst hA
 obtain ⟨bs, os, hA, _, _⟩ := hs.get (by omega)
 subst hA
 refine sg_ rfl (nn_ (gw_seq (sr_ (mv_ rfl (mv_ rfl (nn_ (gw_block ?_)))))))
 refine gw_loop (γ := Nat × Nat × Int × Option Addr × Nat × List Ev) (fun g => g.1 ≤ q ∧ g.2.1 ≤ g.1 ∧ (0 ≤ g.2.2.1 ∧ g.2.2.1 ≤ 500 * ((g.1 : Nat) : Int)) ∧ g.2.2.2.2.2.length = g.2.1 ∧ (∀ x ∈ g.2.2.2.2.2, EvOk x)) (fun g => [(0, .pointer (some ⟨sb, 0, none⟩)), (4, .pointer (some ⟨g1, 0, none⟩)), (6, .slice none 0 0), (7, .slice g.2.2.2.1 g.2.1 g.2.2.2.2.1), (8, .int .i64 g.2.2.1), (23, .int .i64 ((q : Nat) : Int)), (24, .int .i64 ((g.1 : Nat) : Int))]) (fun g => fun w => Strm 25 w B sb (m + 20 * g.1)) (fun g => [(g1, 31, [.slice (some ⟨bs, os, none⟩) sn sc, .slice cA cn cc, .slice (some ⟨bv, ov, none⟩) vn vc, .slice pA pn pc])]) (fun g => [⟨.slice g.2.2.2.1 g.2.1 g.2.2.2.2.1, 92, 5, g.2.1, g.2.2.2.2.2.flatMap evEnc⟩]) (fun g => [SlOld stEnc 15 140 w.heap.size (some sb) (some ⟨bs, os, none⟩) sn sl, SlOld vhEnc 2 77 w.heap.size (some sb) (some ⟨bv, ov, none⟩) vn vl]) (fun g => q - g.1) (0, 0, 0, none, 0, []) ⟨Nat.zero_le _, Nat.le_refl _, ⟨Int.le_refl _, by decide⟩, rfl, (fun _ h => by cases h)⟩ ⟨rfl, rfl, rfl, rfl, rfl, rfl, rfl, trivial⟩ (fun _ hm => (hm.more rfl (by first | omega | (dsimp only; omega))).pick [0] [0] [0, 1] rfl rfl) ?_
 rintro ⟨i, k, at_, oA, oc, xl⟩ hinv
 replace hinv : i ≤ q ∧ k ≤ i ∧ (0 ≤ at_ ∧ at_ ≤ 500 * ((i : Nat) : Int)) ∧ xl.length = k ∧ (∀ x ∈ xl, EvOk x) := hinv
 dsimp only
 refine sr_ ?_
 obtain ⟨hi0, hki, ⟨ha0, ha1⟩, hxl, hxok⟩ := hinv
 refine wl_ov (ov_lss rfl rfl) rfl (nn_ (gw_seq ?_))
 refine gw_cond rfl (fun hh => ?_) (fun hh => ?_)
 ·have hi : ((i : Nat) : Int) < ((q : Nat) : Int) := by simpa using hh
  clear hh
  refine gw_skip (nx_then (gw_seq (gw_block (sr_ (mv_ rfl (mv_ rfl ?_))))))
  refine wl_buildSlice (e := 3) (cs := [.int .i64 0, .int .i64 1, .int .i64 10, .int .i64 50, .int .i64 100, .int .i64 500]) rfl (by kernel_rfl) rfl fun g2 => ?_
  refine wl_got (γ := Int) (val := fun v => .int .i64 v) (φ := fun v => v ∈ ([0, 1, 10, 50, 100, 500] : List Int)) rfl cb14 rfl rfl rfl rfl (fun wx hm => (pick_any [0, 1, 10, 50, 100, 500] _ _ _ wx B sb _ hm.k (by omega) (by simp) (by simp) (hm.blkI 0 rfl) (hm.neRow 0 rfl rfl))) fun v3 hv3 => ?_
  have bv3 : 0 ≤ v3 ∧ v3 ≤ 500 := mem_rng hv3 (by decide)
  have bv30 := bv3.1
  have bv31 := bv3.2
  clear bv3
  refine ad_ rfl rfl (sg_ rfl (nn_ (gw_seq ?_)))
  refine gd (fun wz => Blk wz g2 3 [.int .i64 0, .int .i64 1, .int .i64 10, .int .i64 50, .int .i64 100, .int .i64 500] ∧ Blk wz g1 31 [.slice (some ⟨bs, os, none⟩) sn sc, .slice cA cn cc, .slice (some ⟨bv, ov, none⟩) vn vc, .slice pA pn pc] ∧ (SlOld stEnc 15 140 w.heap.size (some sb) (some ⟨bs, os, none⟩) sn sl) wz ∧ (SlOld vhEnc 2 77 w.heap.size (some sb) (some ⟨bv, ov, none⟩) vn vl) wz ∧ True) mixed (fun _ hm => ⟨hm.bl 0, hm.bl 1, hm.fa 0, hm.fa 1, trivial⟩) fun z => ?_
  refine wt 0 11 1 rfl z (ov_field fo31_2 rfl rfl) ?_
  refine wt 1 11 3 rfl z (ov_load sc28 rfl (fun _ hm => hm.2.1) rfl) ?_
  refine wt 2 11 7 rfl z (ov_move rfl) ?_
  refine wt 3 11 15 rfl z (ov_field fo31_2 rfl rfl) ?_
  refine wt 4 11 31 rfl z (ov_load sc28 rfl (fun _ hm => hm.2.1) rfl) ?_
  refine wt 5 11 63 rfl z (ov_len es28 rfl) ?_
  refine wa1 6 rfl ?_
  refine wl_got (γ := Int) (val := fun v => .int .i64 v) (φ := fun v => IsBelow ((vn : Nat) : Int) v) rfl cb42 rfl rfl rfl rfl (fun wx hm => (next_any _ wx B sb _ hm.k (by omega) (by omega) (by omega))) fun vj hvj => ?_
  have hj := isBelow_lt hvj (by omega)
  obtain ⟨j, rfl⟩ := Int.eq_ofNat_of_zero_le hj.1
  have hji : j < vn := by omega
  obtain ⟨y, hy⟩ : ∃ y, vl[j]? = some y := ⟨_, List.getElem?_eq_getElem (by omega)⟩
  obtain ⟨y0, y1⟩ := y
  have hyB := hvok _ (List.mem_of_getElem? hy)
  have hy0 : y0.size ≤ 1000000 := hyB.1
  refine wl_nil ?_
  refine nw 11 127 (fun _ hm => ⟨hm.bl 0, hm.bl 1, hm.fa 0, hm.fa 1, trivial⟩) fun z => ?_
  refine wt 7 11 255 rfl z (ov_index (j := j) es28 rfl rfl (by omega)) ?_
  refine wt 8 11 511 rfl z (ov_field fo77_0 rfl rfl) ?_
  refine wt 9 11 1023 rfl z (ov_elem1 (k := 0) (v := .string y0) sc9 rfl (fun _ hm => (hm.2.2.2.1).1) hy rfl rfl) ?_
  refine wt 10 11 2047 rfl z (ov_assign rfl) ?_
  refine wa_done (by kernel_rfl) ?_
  refine nx_then ?_
  obtain ⟨t8, ht8⟩ : ∃ z, z = at_ + v3 := ⟨_, rfl⟩
  rw [← ht8]
  have ht0 : 0 ≤ t8 := by omega
  have ht1 : t8 ≤ 500 * ((i : Nat) : Int) + 500 := by omega
  refine gw_cut (γ := Nat × ByteArray × Int) (I := (fun g => g.2.1.size ≤ 1000000 ∧ (-4000000000000000000 ≤ g.2.2 ∧ g.2.2 ≤ 4000000000000000000))) (S' := (fun g => [(0, .pointer (some ⟨sb, 0, none⟩)), (4, .pointer (some ⟨g1, 0, none⟩)), (6, .slice none 0 0), (7, .slice oA k oc), (8, .int .i64 t8), (9, .string y0), (10, .pointer (some ⟨g.1, 0, none⟩)), (23, .int .i64 ((q : Nat) : Int)), (24, .int .i64 ((i : Nat) : Int))])) (K' := (fun g => fun w => Strm 25 w B sb (m + 20 * i + 4))) (L' := (fun g => [(g.1, 92, [.int .i64 t8, .string y0, .string g.2.1, .int .i64 g.2.2, .string ⟨#[]⟩]), (g2, 3, [.int .i64 0, .int .i64 1, .int .i64 10, .int .i64 50, .int .i64 100, .int .i64 500]), (g1, 31, [.slice (some ⟨bs, os, none⟩) sn sc, .slice cA cn cc, .slice (some ⟨bv, ov, none⟩) vn vc, .slice pA pn pc])])) (O' := (fun g => [⟨.slice oA k oc, 92, 5, k, xl.flatMap evEnc⟩])) (X' := (fun g => [SlOld stEnc 15 140 w.heap.size (some sb) (some ⟨bs, os, none⟩) sn sl, SlOld vhEnc 2 77 w.heap.size (some sb) (some ⟨bv, ov, none⟩) vn vl])) ?_ ?_
  ·refine gd (fun wz => Blk wz g2 3 [.int .i64 0, .int .i64 1, .int .i64 10, .int .i64 50, .int .i64 100, .int .i64 500] ∧ Blk wz g1 31 [.slice (some ⟨bs, os, none⟩) sn sc, .slice cA cn cc, .slice (some ⟨bv, ov, none⟩) vn vc, .slice pA pn pc] ∧ (SlOld stEnc 15 140 w.heap.size (some sb) (some ⟨bs, os, none⟩) sn sl) wz ∧ (SlOld vhEnc 2 77 w.heap.size (some sb) (some ⟨bv, ov, none⟩) vn vl) wz ∧ True) mixed (fun _ hm => ⟨hm.bl 0, hm.bl 1, hm.fa 0, hm.fa 1, trivial⟩) fun z => ?_
   refine wt 0 17 1 rfl z (ov_move rfl) ?_
   refine wt 1 17 3 rfl z (ov_move rfl) ?_
   refine wt 2 17 7 rfl z (ov_field fo31_0 rfl rfl) ?_
   refine wt 3 17 15 rfl z (ov_load sc26 rfl (fun _ hm => hm.2.1) rfl) ?_
   refine wt 4 17 31 rfl z (ov_move rfl) ?_
   refine wt 5 17 63 rfl z (ov_field fo31_0 rfl rfl) ?_
   refine wt 6 17 127 rfl z (ov_load sc26 rfl (fun _ hm => hm.2.1) rfl) ?_
   refine wt 7 17 255 rfl z (ov_len es26 rfl) ?_
   refine wt 12 17 4351 rfl z (ov_move rfl) ?_
   refine wa_all [8, 15] (by kernel_rfl) rfl ⟨⟨_, rfl, ?_⟩, ⟨_, rfl, ?_⟩, trivial⟩
   ·refine wl_got (γ := Int) (val := fun v => .int .i64 v) (φ := fun v => IsBelow ((sn : Nat) : Int) v) rfl cb42 rfl rfl rfl rfl (fun wx hm => (next_any _ wx B sb _ hm.k (by omega) (by omega) (by omega))) fun vu4 hvu4 => ?_
    have hju4 := isBelow_lt hvu4 (by omega)
    obtain ⟨ju4, rfl⟩ := Int.eq_ofNat_of_zero_le hju4.1
    have hjiu4 : ju4 < sn := by omega
    obtain ⟨zu4, hzu4⟩ : ∃ y, sl[ju4]? = some y := ⟨_, List.getElem?_eq_getElem (by omega)⟩
    obtain ⟨ku4, ru4⟩ := zu4
    have hku4 : ku4.size ≤ 1000000 := (hsok _ (List.mem_of_getElem? hzu4)).2.1
    refine wl_nil ?_
    refine nw 17 4607 (fun _ hm => ⟨hm.bl 0, hm.bl 1, hm.fa 0, hm.fa 1, trivial⟩) fun z => ?_
    refine wt 9 17 5119 rfl z (ov_index (j := ju4) es26 rfl rfl (by omega)) ?_
    refine wt 10 17 6143 rfl z (ov_field fo140_0 rfl rfl) ?_
    refine wt 11 17 8191 rfl z (ov_elem1 (k := 0) (v := .string ku4) sc9 rfl (fun _ hm => (hm.2.2.1).1) hzu4 rfl rfl) ?_
    refine wa_all [13, 15] (by kernel_rfl) rfl ⟨⟨_, rfl, ?_⟩, ⟨_, rfl, ?_⟩, trivial⟩
    ·refine wl_got (γ := Int) (val := fun v => .int .i64 v) (φ := fun v => 1 ≤ v ∧ (v ≤ 8 ∨ v = 1)) rfl cb28 rfl rfl rfl rfl (fun wx hm => (range_any _ _ wx B sb _ hm.k (by omega) (by omega) (by omega) (by omega) (by omega))) fun v5 hv5 => ?_
     refine wl_nil ?_
     refine nw 17 16383 (fun _ hm => ⟨hm.bl 0, hm.bl 1, hm.fa 0, hm.fa 1, trivial⟩) fun z => ?_
     refine wt 14 17 32767 rfl z (ov_build (cs := [.int .i64 t8, .string y0, .string ku4, .int .i64 v5, .string ⟨#[]⟩]) rfl (by kernel_rfl)) ?_
     refine wa1 15 rfl ?_
     refine wl_alloc zc92 rfl fun g6 => ?_
     refine wl_nil ?_
     refine nw 17 65535 (fun _ hm => ⟨hm.bl 1, hm.bl 2, hm.fa 0, hm.fa 1, trivial⟩) fun z => ?_
     refine wa1 16 rfl ?_
     refine wl_stores (cs' := [.int .i64 t8, .string y0, .string ku4, .int .i64 v5, .string ⟨#[]⟩]) 0 rz92 rfl rfl rfl rfl rfl rfl rfl rfl ?_
     refine wl_nil ?_
     refine nw 17 131071 (fun _ hm => ⟨hm.bl 1, hm.bl 2, hm.fa 0, hm.fa 1, trivial⟩) fun z => ?_
     refine wa_done (by kernel_rfl) ?_
     exact nx_meet (g6, ku4, v5) ⟨by dsimp only; omega, by dsimp only; omega, by dsimp only; omega⟩ ⟨rfl, rfl, rfl, rfl, rfl, rfl, rfl, rfl, rfl, trivial⟩ (fun _ hm => (hm.more rfl (by first | omega | (dsimp only; omega))).pick [0, 1, 2] [0] [0, 1] rfl rfl)
    refine wl_alloc zc92 rfl fun g7 => ?_
    refine wl_nil ?_
    refine nw 17 40959 (fun _ hm => ⟨hm.bl 1, hm.bl 2, hm.fa 0, hm.fa 1, trivial⟩) fun z => ?_
    refine wa1 13 rfl ?_
    refine wl_got (γ := Int) (val := fun v => .int .i64 v) (φ := fun v => 1 ≤ v ∧ (v ≤ 8 ∨ v = 1)) rfl cb28 rfl rfl rfl rfl (fun wx hm => (range_any _ _ wx B sb _ hm.k (by omega) (by omega) (by omega) (by omega) (by omega))) fun v8 hv8 => ?_
    refine wl_nil ?_
    refine nw 17 49151 (fun _ hm => ⟨hm.bl 1, hm.bl 2, hm.fa 0, hm.fa 1, trivial⟩) fun z => ?_
    refine wt 14 17 65535 rfl z (ov_build (cs := [.int .i64 t8, .string y0, .string ku4, .int .i64 v8, .string ⟨#[]⟩]) rfl (by kernel_rfl)) ?_
    refine wa1 16 rfl ?_
    refine wl_stores (cs' := [.int .i64 t8, .string y0, .string ku4, .int .i64 v8, .string ⟨#[]⟩]) 0 rz92 rfl rfl rfl rfl rfl rfl rfl rfl ?_
    refine wl_nil ?_
    refine nw 17 131071 (fun _ hm => ⟨hm.bl 1, hm.bl 2, hm.fa 0, hm.fa 1, trivial⟩) fun z => ?_
    refine wa_done (by kernel_rfl) ?_
    exact nx_meet (g7, ku4, v8) ⟨by dsimp only; omega, by dsimp only; omega, by dsimp only; omega⟩ ⟨rfl, rfl, rfl, rfl, rfl, rfl, rfl, rfl, rfl, trivial⟩ (fun _ hm => (hm.more rfl (by first | omega | (dsimp only; omega))).pick [0, 1, 2] [0] [0, 1] rfl rfl)
   refine wl_alloc zc92 rfl fun g9 => ?_
   refine wl_nil ?_
   refine nw 17 37119 (fun _ hm => ⟨hm.bl 1, hm.bl 2, hm.fa 0, hm.fa 1, trivial⟩) fun z => ?_
   refine wa1 8 rfl ?_
   refine wl_got (γ := Int) (val := fun v => .int .i64 v) (φ := fun v => IsBelow ((sn : Nat) : Int) v) rfl cb42 rfl rfl rfl rfl (fun wx hm => (next_any _ wx B sb _ hm.k (by omega) (by omega) (by omega))) fun vu10 hvu10 => ?_
   have hju10 := isBelow_lt hvu10 (by omega)
   obtain ⟨ju10, rfl⟩ := Int.eq_ofNat_of_zero_le hju10.1
   have hjiu10 : ju10 < sn := by omega
   obtain ⟨zu10, hzu10⟩ : ∃ y, sl[ju10]? = some y := ⟨_, List.getElem?_eq_getElem (by omega)⟩
   obtain ⟨ku10, ru10⟩ := zu10
   have hku10 : ku10.size ≤ 1000000 := (hsok _ (List.mem_of_getElem? hzu10)).2.1
   refine wl_nil ?_
   refine nw 17 37375 (fun _ hm => ⟨hm.bl 1, hm.bl 2, hm.fa 0, hm.fa 1, trivial⟩) fun z => ?_
   refine wt 9 17 37887 rfl z (ov_index (j := ju10) es26 rfl rfl (by omega)) ?_
   refine wt 10 17 38911 rfl z (ov_field fo140_0 rfl rfl) ?_
   refine wt 11 17 40959 rfl z (ov_elem1 (k := 0) (v := .string ku10) sc9 rfl (fun _ hm => (hm.2.2.1).1) hzu10 rfl rfl) ?_
   refine wa1 13 rfl ?_
   refine wl_got (γ := Int) (val := fun v => .int .i64 v) (φ := fun v => 1 ≤ v ∧ (v ≤ 8 ∨ v = 1)) rfl cb28 rfl rfl rfl rfl (fun wx hm => (range_any _ _ wx B sb _ hm.k (by omega) (by omega) (by omega) (by omega) (by omega))) fun v11 hv11 => ?_
   refine wl_nil ?_
   refine nw 17 49151 (fun _ hm => ⟨hm.bl 1, hm.bl 2, hm.fa 0, hm.fa 1, trivial⟩) fun z => ?_
   refine wt 14 17 65535 rfl z (ov_build (cs := [.int .i64 t8, .string y0, .string ku10, .int .i64 v11, .string ⟨#[]⟩]) rfl (by kernel_rfl)) ?_
   refine wa1 16 rfl ?_
   refine wl_stores (cs' := [.int .i64 t8, .string y0, .string ku10, .int .i64 v11, .string ⟨#[]⟩]) 0 rz92 rfl rfl rfl rfl rfl rfl rfl rfl ?_
   refine wl_nil ?_
   refine nw 17 131071 (fun _ hm => ⟨hm.bl 1, hm.bl 2, hm.fa 0, hm.fa 1, trivial⟩) fun z => ?_
   refine wa_done (by kernel_rfl) ?_
   exact nx_meet (g9, ku10, v11) ⟨by dsimp only; omega, by dsimp only; omega, by dsimp only; omega⟩ ⟨rfl, rfl, rfl, rfl, rfl, rfl, rfl, rfl, rfl, trivial⟩ (fun _ hm => (hm.more rfl (by first | omega | (dsimp only; omega))).pick [0, 1, 2] [0] [0, 1] rfl rfl)
  rintro ⟨g10, st1, kd1⟩ hinv
  replace hinv : st1.size ≤ 1000000 ∧ (-4000000000000000000 ≤ kd1 ∧ kd1 ≤ 4000000000000000000) := hinv
  dsimp only
  obtain ⟨hst1, hkd1a, hkd1b⟩ := hinv
  refine gw_cut (γ := ByteArray × Int) (I := (fun g => g.1.size ≤ 1000000 ∧ (-4000000000000000000 ≤ g.2 ∧ g.2 ≤ 4000000000000000000))) (S' := (fun g => [(0, .pointer (some ⟨sb, 0, none⟩)), (4, .pointer (some ⟨g1, 0, none⟩)), (6, .slice none 0 0), (7, .slice oA k oc), (8, .int .i64 t8), (10, .pointer (some ⟨g10, 0, none⟩)), (23, .int .i64 ((q : Nat) : Int)), (24, .int .i64 ((i : Nat) : Int))])) (K' := (fun g => fun w => Strm 25 w B sb (m + 20 * i + 6))) (L' := (fun g => [(g10, 92, [.int .i64 t8, .string y0, .string g.1, .int .i64 g.2, .string ⟨#[]⟩]), (g2, 3, [.int .i64 0, .int .i64 1, .int .i64 10, .int .i64 50, .int .i64 100, .int .i64 500]), (g1, 31, [.slice (some ⟨bs, os, none⟩) sn sc, .slice cA cn cc, .slice (some ⟨bv, ov, none⟩) vn vc, .slice pA pn pc])])) (O' := (fun g => [⟨.slice oA k oc, 92, 5, k, xl.flatMap evEnc⟩])) (X' := (fun g => [SlOld stEnc 15 140 w.heap.size (some sb) (some ⟨bs, os, none⟩) sn sl, SlOld vhEnc 2 77 w.heap.size (some sb) (some ⟨bv, ov, none⟩) vn vl])) ?_ ?_
  ·refine sr_ (mv_ rfl ?_)
   refine wl_got (γ := Bool) (val := fun v => .bool v) (φ := fun v => True) rfl cb53 rfl rfl rfl rfl (fun wx hm => ((flip_any _ wx B sb _ hm.k (by omega) (by omega) (by omega)).mono fun _ _ ⟨v, he, hS, hg⟩ => ⟨v, trivial, he, hS, hg⟩)) fun f12 _ => ?_
   refine wl_ov (ov_un_not rfl) rfl (nn_ ?_)
   refine gw_cond rfl (fun hh => ?_) (fun hh => ?_)
   ·have hc13 : f12 = false := by simpa using hh
    clear hh
    refine sr_ (mv_ rfl (mv_ rfl (mv_ rfl ?_)))
    obtain ⟨SS, hSS⟩ : ∃ z, z = stateR xl y0 t8 := ⟨_, rfl⟩
    have hfine : SaFine SS := by rw [hSS]; exact stateR_fine hxok
    obtain ⟨s0, s1, s2⟩ := SS
    obtain ⟨hs00, hs05, hs1z⟩ := hfine
    have hs00 : 0 ≤ s0 := hs00
    have hs05 : s0 ≤ 5 := hs05
    have hs1z : s1.size ≤ 1000000 := hs1z
    obtain ⟨sj, rfl⟩ := Int.eq_ofNat_of_zero_le hs00
    obtain ⟨kv, hkv⟩ : ∃ x, ([1, 2, 3, 5, 7, 1] : List Int)[sj]? = some x := ⟨_, List.getElem?_eq_getElem (by simp; omega)⟩
    have hkvb : 1 ≤ kv ∧ kv ≤ 7 := mem_rng (List.mem_of_getElem? hkv) (by decide)
    refine wl_callv (v := .agg #[.int .i64 ((sj : Nat) : Int), .string s1, .int .i64 s2]) rfl cb75 rfl rfl (fun wx hm => (by have h := rStateAt_any xl oA k oc y0 t8 wx (SlT.ofOwn ev_len (hm.ownI 0 rfl) hxl) (by omega); rw [← hSS] at h; exact h)) ?_
    refine wl_alloc zc132 rfl fun g14 => ?_
    refine wl_stores (cs' := [.int .i64 ((sj : Nat) : Int), .string s1, .int .i64 s2]) 0 rz132 rfl rfl rfl rfl rfl rfl rfl rfl ?_
    refine nn_ (gw_seq (sr_ (fd_ fo132_1 rfl rfl (lk_ sc9 0 rfl rfl rfl (wl_ov (ov_sneq rfl rfl) rfl (nn_ ?_))))))
    refine gw_cond rfl (fun hh => ?_) (fun hh => ?_)
    ·have hc15 : (s1.toList == (⟨#[]⟩ : ByteArray).toList) = false := by simpa using hh
     clear hh
     refine gw_region (fd_ fo132_1 rfl rfl (lk_ sc9 0 rfl rfl rfl (fd_ fo92_2 rfl rfl ?_)))
     refine wl_store 1 sc9 rfl rfl rfl rfl rfl rfl ?_
     refine nn_ (sr_ ?_)
     refine wl_buildSlice (e := 3) (cs := [.int .i64 1, .int .i64 2, .int .i64 3, .int .i64 5, .int .i64 7, .int .i64 1]) rfl (by kernel_rfl) rfl fun g16 => ?_
     refine fd_ fo132_0 rfl rfl (lk_ sc3 1 rfl rfl rfl ?_)
     refine wl_ov (ov_index (j := sj) es22 rfl rfl (by omega)) rfl ?_
     refine wl_ov (ov_elem1 (k := 0) (v := .int .i64 kv) sc3 rfl (fun _ hm => (SlT.ofBlk (l := [1, 2, 3, 5, 7, 1]) it_len1 (hm.blkI 0 rfl))) hkv rfl rfl) rfl ?_
     refine fd_ fo92_3 rfl rfl ?_
     refine wl_store 2 sc3 rfl rfl rfl rfl rfl rfl ?_
     refine nn_ (sr_ (fd_ fo132_0 rfl rfl (lk_ sc3 1 rfl rfl rfl (wl_ov (ov_eql rfl rfl) rfl (nn_ ?_)))))
     refine gw_cond rfl (fun hh => ?_) (fun hh => ?_)
     ·have hc17 : ((sj : Nat) : Int) = 1 := by simpa using hh
      clear hh
      refine gw_region (mv_ rfl ?_)
      refine wl_buildSlice (e := 3) (cs := [.int .i64 2, .int .i64 2, .int .i64 2, .int .i64 4, .int .i64 6, .int .i64 8]) rfl (by kernel_rfl) rfl fun g18 => ?_
      refine wl_got (γ := Int) (val := fun v => .int .i64 v) (φ := fun v => v ∈ ([2, 2, 2, 4, 6, 8] : List Int)) rfl cb14 rfl rfl rfl rfl (fun wx hm => (pick_any [2, 2, 2, 4, 6, 8] _ _ _ wx B sb _ hm.k (by omega) (by simp) (by simp) (hm.blkI 0 rfl) (hm.neRow 0 rfl rfl))) fun v19 hv19 => ?_
      have bv19 : 2 ≤ v19 ∧ v19 ≤ 8 := mem_rng hv19 (by decide)
      have bv190 := bv19.1
      have bv191 := bv19.2
      clear bv19
      refine fd_ fo92_3 rfl rfl ?_
      refine wl_store 3 sc3 rfl rfl rfl rfl rfl rfl ?_
      refine wl_nil ?_
      exact nx_meet (s1, v19) ⟨by dsimp only; omega, by dsimp only; omega, by dsimp only; omega⟩ ⟨rfl, rfl, rfl, rfl, rfl, rfl, rfl, rfl, trivial⟩ (fun _ hm => (hm.more rfl (by first | omega | (dsimp only; omega))).pick [3, 4, 5] [0] [0, 1] rfl rfl)
     have hc17 : ¬ (((sj : Nat) : Int) = 1) := by simpa using hh
     clear hh
     refine gw_skip ?_
     exact nx_meet (s1, kv) ⟨by dsimp only; omega, by dsimp only; omega, by dsimp only; omega⟩ ⟨rfl, rfl, rfl, rfl, rfl, rfl, rfl, rfl, trivial⟩ (fun _ hm => (hm.more rfl (by first | omega | (dsimp only; omega))).pick [2, 3, 4] [0] [0, 1] rfl rfl)
    have hc15 : (s1.toList == (⟨#[]⟩ : ByteArray).toList) = true := by simpa using hh
    clear hh
    refine gw_skip (nx_then (sr_ ?_))
    refine wl_buildSlice (e := 3) (cs := [.int .i64 1, .int .i64 2, .int .i64 3, .int .i64 5, .int .i64 7, .int .i64 1]) rfl (by kernel_rfl) rfl fun g20 => ?_
    refine fd_ fo132_0 rfl rfl (lk_ sc3 1 rfl rfl rfl ?_)
    refine wl_ov (ov_index (j := sj) es22 rfl rfl (by omega)) rfl ?_
    refine wl_ov (ov_elem1 (k := 0) (v := .int .i64 kv) sc3 rfl (fun _ hm => (SlT.ofBlk (l := [1, 2, 3, 5, 7, 1]) it_len1 (hm.blkI 0 rfl))) hkv rfl rfl) rfl ?_
    refine fd_ fo92_3 rfl rfl ?_
    refine wl_store 2 sc3 rfl rfl rfl rfl rfl rfl ?_
    refine nn_ (sr_ (fd_ fo132_0 rfl rfl (lk_ sc3 1 rfl rfl rfl (wl_ov (ov_eql rfl rfl) rfl (nn_ ?_)))))
    refine gw_cond rfl (fun hh => ?_) (fun hh => ?_)
    ·have hc21 : ((sj : Nat) : Int) = 1 := by simpa using hh
     clear hh
     refine gw_region (mv_ rfl ?_)
     refine wl_buildSlice (e := 3) (cs := [.int .i64 2, .int .i64 2, .int .i64 2, .int .i64 4, .int .i64 6, .int .i64 8]) rfl (by kernel_rfl) rfl fun g22 => ?_
     refine wl_got (γ := Int) (val := fun v => .int .i64 v) (φ := fun v => v ∈ ([2, 2, 2, 4, 6, 8] : List Int)) rfl cb14 rfl rfl rfl rfl (fun wx hm => (pick_any [2, 2, 2, 4, 6, 8] _ _ _ wx B sb _ hm.k (by omega) (by simp) (by simp) (hm.blkI 0 rfl) (hm.neRow 0 rfl rfl))) fun v23 hv23 => ?_
     have bv23 : 2 ≤ v23 ∧ v23 ≤ 8 := mem_rng hv23 (by decide)
     have bv230 := bv23.1
     have bv231 := bv23.2
     clear bv23
     refine fd_ fo92_3 rfl rfl ?_
     refine wl_store 3 sc3 rfl rfl rfl rfl rfl rfl ?_
     refine wl_nil ?_
     exact nx_meet (st1, v23) ⟨by dsimp only; omega, by dsimp only; omega, by dsimp only; omega⟩ ⟨rfl, rfl, rfl, rfl, rfl, rfl, rfl, rfl, trivial⟩ (fun _ hm => (hm.more rfl (by first | omega | (dsimp only; omega))).pick [3, 4, 5] [0] [0, 1] rfl rfl)
    have hc21 : ¬ (((sj : Nat) : Int) = 1) := by simpa using hh
    clear hh
    refine gw_skip ?_
    exact nx_meet (st1, kv) ⟨by dsimp only; omega, by dsimp only; omega, by dsimp only; omega⟩ ⟨rfl, rfl, rfl, rfl, rfl, rfl, rfl, rfl, trivial⟩ (fun _ hm => (hm.more rfl (by first | omega | (dsimp only; omega))).pick [2, 3, 4] [0] [0, 1] rfl rfl)
   have hc13 : f12 = true := by simpa using hh
   clear hh
   refine gw_skip ?_
   exact nx_meet (st1, kd1) ⟨by dsimp only; omega, by dsimp only; omega, by dsimp only; omega⟩ ⟨rfl, rfl, rfl, rfl, rfl, rfl, rfl, rfl, trivial⟩ (fun _ hm => (hm.more rfl (by first | omega | (dsimp only; omega))).pick [0, 1, 2] [0] [0, 1] rfl rfl)
  rintro ⟨st2, kd2⟩ hinv
  replace hinv : st2.size ≤ 1000000 ∧ (-4000000000000000000 ≤ kd2 ∧ kd2 ≤ 4000000000000000000) := hinv
  dsimp only
  obtain ⟨hst2, hkd2a, hkd2b⟩ := hinv
  refine gw_cut (γ := ByteArray) (I := (fun (to3 : ByteArray) => to3.size ≤ 1000000)) (S' := (fun (to3 : ByteArray) => [(0, .pointer (some ⟨sb, 0, none⟩)), (4, .pointer (some ⟨g1, 0, none⟩)), (6, .slice none 0 0), (7, .slice oA k oc), (8, .int .i64 t8), (10, .pointer (some ⟨g10, 0, none⟩)), (23, .int .i64 ((q : Nat) : Int)), (24, .int .i64 ((i : Nat) : Int))])) (K' := (fun (to3 : ByteArray) => fun w => Strm 25 w B sb (m + 20 * i + 7))) (L' := (fun (to3 : ByteArray) => [(g10, 92, [.int .i64 t8, .string y0, .string st2, .int .i64 kd2, .string to3]), (g2, 3, [.int .i64 0, .int .i64 1, .int .i64 10, .int .i64 50, .int .i64 100, .int .i64 500]), (g1, 31, [.slice (some ⟨bs, os, none⟩) sn sc, .slice cA cn cc, .slice (some ⟨bv, ov, none⟩) vn vc, .slice pA pn pc])])) (O' := (fun (to3 : ByteArray) => [⟨.slice oA k oc, 92, 5, k, xl.flatMap evEnc⟩])) (X' := (fun (to3 : ByteArray) => [SlOld stEnc 15 140 w.heap.size (some sb) (some ⟨bs, os, none⟩) sn sl, SlOld vhEnc 2 77 w.heap.size (some sb) (some ⟨bv, ov, none⟩) vn vl])) ?_ ?_
  ·refine sr_ (fd_ fo92_3 rfl rfl (lk_ sc3 0 rfl rfl rfl (wl_ov (ov_eql rfl rfl) rfl (nn_ ?_))))
   refine gw_cond rfl (fun hh => ?_) (fun hh => ?_)
   ·have hc6 : kd2 = 6 := by simpa using hh
    clear hh
    refine gd (fun wz => Blk wz g2 3 [.int .i64 0, .int .i64 1, .int .i64 10, .int .i64 50, .int .i64 100, .int .i64 500] ∧ Blk wz g1 31 [.slice (some ⟨bs, os, none⟩) sn sc, .slice cA cn cc, .slice (some ⟨bv, ov, none⟩) vn vc, .slice pA pn pc] ∧ (SlOld stEnc 15 140 w.heap.size (some sb) (some ⟨bs, os, none⟩) sn sl) wz ∧ (SlOld vhEnc 2 77 w.heap.size (some sb) (some ⟨bv, ov, none⟩) vn vl) wz ∧ True) mixed (fun _ hm => ⟨hm.bl 1, hm.bl 2, hm.fa 0, hm.fa 1, trivial⟩) fun z => ?_
    refine wt 0 12 1 rfl z (ov_field fo31_0 rfl rfl) ?_
    refine wt 1 12 3 rfl z (ov_load sc26 rfl (fun _ hm => hm.2.1) rfl) ?_
    refine wt 2 12 7 rfl z (ov_move rfl) ?_
    refine wt 3 12 15 rfl z (ov_field fo31_0 rfl rfl) ?_
    refine wt 4 12 31 rfl z (ov_load sc26 rfl (fun _ hm => hm.2.1) rfl) ?_
    refine wt 5 12 63 rfl z (ov_len es26 rfl) ?_
    refine wa1 6 rfl ?_
    refine wl_got (γ := Int) (val := fun v => .int .i64 v) (φ := fun v => IsBelow ((sn : Nat) : Int) v) rfl cb42 rfl rfl rfl rfl (fun wx hm => (next_any _ wx B sb _ hm.k (by omega) (by omega) (by omega))) fun vu24 hvu24 => ?_
    have hju24 := isBelow_lt hvu24 (by omega)
    obtain ⟨ju24, rfl⟩ := Int.eq_ofNat_of_zero_le hju24.1
    have hjiu24 : ju24 < sn := by omega
    obtain ⟨zu24, hzu24⟩ : ∃ y, sl[ju24]? = some y := ⟨_, List.getElem?_eq_getElem (by omega)⟩
    obtain ⟨ku24, ru24⟩ := zu24
    have hku24 : ku24.size ≤ 1000000 := (hsok _ (List.mem_of_getElem? hzu24)).2.1
    refine wl_nil ?_
    refine nw 12 127 (fun _ hm => ⟨hm.bl 1, hm.bl 2, hm.fa 0, hm.fa 1, trivial⟩) fun z => ?_
    refine wt 7 12 255 rfl z (ov_index (j := ju24) es26 rfl rfl (by omega)) ?_
    refine wt 8 12 511 rfl z (ov_field fo140_0 rfl rfl) ?_
    refine wt 9 12 1023 rfl z (ov_elem1 (k := 0) (v := .string ku24) sc9 rfl (fun _ hm => (hm.2.2.1).1) hzu24 rfl rfl) ?_
    refine wt 10 12 2047 rfl z (ov_field fo92_4 rfl rfl) ?_
    refine wa1 11 rfl ?_
    refine wl_store 0 sc9 rfl rfl rfl rfl rfl rfl ?_
    refine wl_nil ?_
    refine nw 12 4095 (fun _ hm => ⟨hm.bl 1, hm.bl 2, hm.fa 0, hm.fa 1, trivial⟩) fun z => ?_
    refine wa_done (by kernel_rfl) ?_
    exact nx_meet ku24 (by (try dsimp only); omega) ⟨rfl, rfl, rfl, rfl, rfl, rfl, rfl, rfl, trivial⟩ (fun _ hm => (hm.more rfl (by first | omega | (dsimp only; omega))).pick [0, 1, 2] [0] [0, 1] rfl rfl)
   have hc6 : ¬ (kd2 = 6) := by simpa using hh
   clear hh
   refine gw_skip ?_
   exact nx_meet ⟨#[]⟩ (show (⟨#[]⟩ : ByteArray).size ≤ 1000000 by decide) ⟨rfl, rfl, rfl, rfl, rfl, rfl, rfl, rfl, trivial⟩ (fun _ hm => (hm.more rfl (by first | omega | (dsimp only; omega))).pick [0, 1, 2] [0] [0, 1] rfl rfl)
  intro to3 hinv
  replace hinv : to3.size ≤ 1000000 := hinv
  have hto3 : to3.size ≤ 1000000 := hinv
  refine gw_cut (γ := Int × ByteArray × ByteArray × Int × ByteArray) (I := (fun g => EvOk (⟨g.1, g.2.1, g.2.2.1, g.2.2.2.1, g.2.2.2.2⟩ : Ev))) (S' := (fun g => [(0, .pointer (some ⟨sb, 0, none⟩)), (4, .pointer (some ⟨g1, 0, none⟩)), (6, .slice none 0 0), (7, .slice oA k oc), (8, .int .i64 t8), (10, .pointer (some ⟨g10, 0, none⟩)), (23, .int .i64 ((q : Nat) : Int)), (24, .int .i64 ((i : Nat) : Int))])) (K' := (fun g => fun w => Strm 25 w B sb (m + 20 * i + 12))) (L' := (fun g => [(g10, 92, [.int .i64 g.1, .string g.2.1, .string g.2.2.1, .int .i64 g.2.2.2.1, .string g.2.2.2.2]), (g2, 3, [.int .i64 0, .int .i64 1, .int .i64 10, .int .i64 50, .int .i64 100, .int .i64 500]), (g1, 31, [.slice (some ⟨bs, os, none⟩) sn sc, .slice cA cn cc, .slice (some ⟨bv, ov, none⟩) vn vc, .slice pA pn pc])])) (O' := (fun g => [⟨.slice oA k oc, 92, 5, k, xl.flatMap evEnc⟩])) (X' := (fun g => [SlOld stEnc 15 140 w.heap.size (some sb) (some ⟨bs, os, none⟩) sn sl, SlOld vhEnc 2 77 w.heap.size (some sb) (some ⟨bv, ov, none⟩) vn vl])) ?_ ?_
  ·refine sr_ (mv_ rfl ?_)
   refine wl_got (γ := Bool) (val := fun v => .bool v) (φ := fun v => True) rfl cb53 rfl rfl rfl rfl (fun wx hm => ((flip_any _ wx B sb _ hm.k (by omega) (by omega) (by omega)).mono fun _ _ ⟨v, he, hS, hg⟩ => ⟨v, trivial, he, hS, hg⟩)) fun f25 _ => ?_
   refine nn_ ?_
   refine gw_cond rfl (fun hh => ?_) (fun hh => ?_)
   ·have hd26 : f25 = true := by simpa using hh
    clear hh
    refine sr_ (mv_ rfl ?_)
    refine wl_got (γ := Int) (val := fun v => .int .i64 v) (φ := fun v => IsBelow 4 v) rfl cb42 rfl rfl rfl rfl (fun wx hm => (next_any _ wx B sb _ hm.k (by omega) (by omega) (by omega))) fun v4 hv4 => ?_
    refine nn_ (gw_block (sr_ (wl_ov (ov_eql rfl rfl) rfl (sg_ rfl (nn_ ?_)))))
    refine gw_cond rfl (fun hh => ?_) (fun hh => ?_)
    ·have hd27 : v4 = 0 := by simpa using hh
     clear hh
     refine gw_region (mv_ rfl ?_)
     refine wl_got (γ := Int) (val := fun v => .int .i64 v) (φ := fun v => -2000000000000000 ≤ v ∧ v ≤ 2000000000000000) rfl cb77 rfl rfl rfl rfl (fun wx hm => (odd_any _ _ wx B sb _ hm.k (by omega) (by omega) (by omega) (by omega))) fun v28 hv28 => ?_
     refine fd_ fo92_3 rfl rfl ?_
     refine wl_store 0 sc3 rfl rfl rfl rfl rfl rfl ?_
     refine wl_nil (nx_blk_nrm ?_)
     exact nx_meet (t8, y0, st2, v28, to3) ⟨⟨by dsimp only; omega, by dsimp only; omega⟩, ⟨by dsimp only; omega, by dsimp only; omega⟩, by dsimp only; omega, by dsimp only; omega, by dsimp only; omega⟩ ⟨rfl, rfl, rfl, rfl, rfl, rfl, rfl, rfl, trivial⟩ (fun _ hm => (hm.more rfl (by first | omega | (dsimp only; omega))).pick [0, 1, 2] [0] [0, 1] rfl rfl)
    have hd27 : ¬ (v4 = 0) := by simpa using hh
    clear hh
    refine sr_ (wl_ov (ov_eql rfl rfl) rfl (sg_ rfl (nn_ ?_)))
    refine gw_cond rfl (fun hh => ?_) (fun hh => ?_)
    ·have hd29 : v4 = 1 := by simpa using hh
     clear hh
     refine gw_region (mv_ rfl ?_)
     refine wl_buildSlice (e := 9) (cs := [.string ⟨#[115, 49]⟩, .string ⟨#[110, 111, 110, 101]⟩, .string ⟨#[]⟩]) rfl (by kernel_rfl) rfl fun g30 => ?_
     refine wl_got (γ := ByteArray) (val := fun v => .string v) (φ := fun v => v ∈ ([⟨#[115, 49]⟩, ⟨#[110, 111, 110, 101]⟩, ⟨#[]⟩] : List ByteArray)) rfl cb43 rfl rfl rfl rfl (fun wx hm => (some_any [⟨#[115, 49]⟩, ⟨#[110, 111, 110, 101]⟩, ⟨#[]⟩] _ _ _ wx B sb _ hm.k (by omega) (by simp) (by simp) (hm.blkI 0 rfl) (hm.neRow 0 rfl rfl))) fun s31 hs31 => ?_
     have zs31 : s31.size ≤ 100 := mem_sz hs31 (by decide)
     refine fd_ fo92_4 rfl rfl ?_
     refine wl_store 1 sc9 rfl rfl rfl rfl rfl rfl ?_
     refine wl_nil (nx_blk_nrm ?_)
     exact nx_meet (t8, y0, st2, kd2, s31) ⟨⟨by dsimp only; omega, by dsimp only; omega⟩, ⟨by dsimp only; omega, by dsimp only; omega⟩, by dsimp only; omega, by dsimp only; omega, by dsimp only; omega⟩ ⟨rfl, rfl, rfl, rfl, rfl, rfl, rfl, rfl, trivial⟩ (fun _ hm => (hm.more rfl (by first | omega | (dsimp only; omega))).pick [1, 2, 3] [0] [0, 1] rfl rfl)
    have hd29 : ¬ (v4 = 1) := by simpa using hh
    clear hh
    refine sr_ (wl_ov (ov_eql rfl rfl) rfl (sg_ rfl (nn_ ?_)))
    refine gw_cond rfl (fun hh => ?_) (fun hh => ?_)
    ·have hd32 : v4 = 2 := by simpa using hh
     clear hh
     refine gw_region (mv_ rfl ?_)
     refine wl_calls (γ := ByteArray) (val := (fun g => .string g)) (φ := (fun g => g.size ≤ 100)) (Y := (fun g => fun _ => True)) (m' := m + 20 * i + 7 + 1 + 1 + 1) rfl cb12 rfl rfl rfl rfl (fun wx hm => (gvehicleKey_any wx B sb _ hm.k (by omega)).mono fun _ _ ⟨v, he, hv, hS, hg⟩ => ⟨v, he, hv, hS, hg, trivial⟩) (fun _ => Lasts2.true_) ?_
     rintro vk hvk
     refine fd_ fo92_1 rfl rfl ?_
     refine wl_store 0 sc9 rfl rfl rfl rfl rfl rfl ?_
     refine wl_nil (nx_blk_nrm ?_)
     exact nx_meet (t8, vk, st2, kd2, to3) ⟨⟨by dsimp only; omega, by dsimp only; omega⟩, ⟨by dsimp only; omega, by dsimp only; omega⟩, by dsimp only; omega, by dsimp only; omega, by dsimp only; omega⟩ ⟨rfl, rfl, rfl, rfl, rfl, rfl, rfl, rfl, trivial⟩ (fun _ hm => (hm.more rfl (by first | omega | (dsimp only; omega))).pick [0, 1, 2] [0] [1, 2] rfl rfl)
    have hd32 : ¬ (v4 = 2) := by simpa using hh
    clear hh
    refine gw_region (mv_ rfl ?_)
    refine wl_got (γ := Int) (val := fun v => .int .i64 v) (φ := fun v => -2000000000000000 ≤ v ∧ v ≤ 2000000000000000) rfl cb77 rfl rfl rfl rfl (fun wx hm => (odd_any _ _ wx B sb _ hm.k (by omega) (by omega) (by omega) (by omega))) fun v34 hv34 => ?_
    refine fd_ fo92_0 rfl rfl ?_
    refine wl_store 0 sc3 rfl rfl rfl rfl rfl rfl ?_
    refine wl_nil (nx_blk_nrm ?_)
    exact nx_meet (v34, y0, st2, kd2, to3) ⟨⟨by dsimp only; omega, by dsimp only; omega⟩, ⟨by dsimp only; omega, by dsimp only; omega⟩, by dsimp only; omega, by dsimp only; omega, by dsimp only; omega⟩ ⟨rfl, rfl, rfl, rfl, rfl, rfl, rfl, rfl, trivial⟩ (fun _ hm => (hm.more rfl (by first | omega | (dsimp only; omega))).pick [0, 1, 2] [0] [0, 1] rfl rfl)
   have hd26 : f25 = false := by simpa using hh
   clear hh
   refine gw_skip ?_
   exact nx_meet (t8, y0, st2, kd2, to3) ⟨⟨by dsimp only; omega, by dsimp only; omega⟩, ⟨by dsimp only; omega, by dsimp only; omega⟩, by dsimp only; omega, by dsimp only; omega, by dsimp only; omega⟩ ⟨rfl, rfl, rfl, rfl, rfl, rfl, rfl, rfl, trivial⟩ (fun _ hm => (hm.more rfl (by first | omega | (dsimp only; omega))).pick [0, 1, 2] [0] [0, 1] rfl rfl)
  rintro ⟨a4, ve4, st4, kd4, to4⟩ hinv
  replace hinv : EvOk (⟨a4, ve4, st4, kd4, to4⟩ : Ev) := hinv
  dsimp only
  have hx4 : EvOk (⟨a4, ve4, st4, kd4, to4⟩ : Ev) := hinv
  have huok : ∀ x ∈ xl ++ [(⟨a4, ve4, st4, kd4, to4⟩ : Ev)], EvOk x := all_snoc hxok hx4
  have hul : (xl ++ [(⟨a4, ve4, st4, kd4, to4⟩ : Ev)]).length = k + 1 := by simp [hxl]
  obtain ⟨us, hus⟩ : ∃ z, z = xl ++ [(⟨a4, ve4, st4, kd4, to4⟩ : Ev)] := ⟨_, rfl⟩
  rw [← hus] at huok hul
  obtain ⟨LE, hLE⟩ : ∃ z, z = logE sl vl us := ⟨_, rfl⟩
  refine gw_cut (γ := Bool) (I := (fun (bb : Bool) => True)) (S' := (fun (bb : Bool) => [(0, .pointer (some ⟨sb, 0, none⟩)), (4, .pointer (some ⟨g1, 0, none⟩)), (6, .slice none 0 0), (7, .slice oA k oc), (8, .int .i64 t8), (10, .pointer (some ⟨g10, 0, none⟩)), (23, .int .i64 ((q : Nat) : Int)), (24, .int .i64 ((i : Nat) : Int)), (130, .bool bb)])) (K' := (fun (bb : Bool) => fun w => Strm 25 w B sb (m + 20 * i + 13))) (L' := (fun (bb : Bool) => [(g10, 92, [.int .i64 a4, .string ve4, .string st4, .int .i64 kd4, .string to4]), (g2, 3, [.int .i64 0, .int .i64 1, .int .i64 10, .int .i64 50, .int .i64 100, .int .i64 500]), (g1, 31, [.slice (some ⟨bs, os, none⟩) sn sc, .slice cA cn cc, .slice (some ⟨bv, ov, none⟩) vn vc, .slice pA pn pc])])) (O' := (fun (bb : Bool) => [⟨.slice oA k oc, 92, 5, k, xl.flatMap evEnc⟩])) (X' := (fun (bb : Bool) => [SlOld stEnc 15 140 w.heap.size (some sb) (some ⟨bs, os, none⟩) sn sl, SlOld vhEnc 2 77 w.heap.size (some sb) (some ⟨bv, ov, none⟩) vn vl])) ?_ ?_
  ·refine gd (fun wz => Blk wz g10 92 [.int .i64 a4, .string ve4, .string st4, .int .i64 kd4, .string to4] ∧ Blk wz g2 3 [.int .i64 0, .int .i64 1, .int .i64 10, .int .i64 50, .int .i64 100, .int .i64 500] ∧ Blk wz g1 31 [.slice (some ⟨bs, os, none⟩) sn sc, .slice cA cn cc, .slice (some ⟨bv, ov, none⟩) vn vc, .slice pA pn pc] ∧ (SlOld stEnc 15 140 w.heap.size (some sb) (some ⟨bs, os, none⟩) sn sl) wz ∧ (SlOld vhEnc 2 77 w.heap.size (some sb) (some ⟨bv, ov, none⟩) vn vl) wz ∧ True) mixed (fun _ hm => ⟨hm.bl 0, hm.bl 1, hm.bl 2, hm.fa 0, hm.fa 1, trivial⟩) fun z => ?_
   refine wt 0 12 1 rfl z (ov_move rfl) ?_
   refine wa1 1 rfl ?_
   refine wl_got (γ := Bool) (val := fun v => .bool v) (φ := fun v => True) rfl cb53 rfl rfl rfl rfl (fun wx hm => ((flip_any _ wx B sb _ hm.k (by omega) (by omega) (by omega)).mono fun _ _ ⟨v, he, hS, hg⟩ => ⟨v, trivial, he, hS, hg⟩)) fun f35 _ => ?_
   refine wl_nil ?_
   refine nw 12 3 (fun _ hm => ⟨hm.bl 0, hm.bl 1, hm.bl 2, hm.fa 0, hm.fa 1, trivial⟩) fun z => ?_
   refine wt 2 12 7 rfl z (ov_move rfl) ?_
   rcases Bool.eq_false_or_eq_true f35 with hg8 | hg8
   ·refine wa_set 121 rfl (congrArg Value.bool hg8) ?_
    refine wtf 3 12 15 rfl rfl rfl z ?_
    refine wtf 4 12 31 rfl rfl rfl z ?_
    refine wtf 5 12 63 rfl rfl rfl z ?_
    refine wtf 6 12 127 rfl rfl rfl z ?_
    refine wtf 7 12 255 rfl rfl rfl z ?_
    refine wtf 8 12 511 rfl rfl rfl z ?_
    refine wtf 9 12 1023 rfl rfl rfl z ?_
    refine wtf 10 12 2047 rfl rfl rfl z ?_
    refine wt 11 12 4095 rfl z (ov_pick_t rfl rfl) ?_
    refine wa_done (by kernel_rfl) ?_
    exact nx_meet true trivial ⟨rfl, rfl, rfl, rfl, rfl, rfl, rfl, rfl, rfl, trivial⟩ (fun _ hm => (hm.more rfl (by first | omega | (dsimp only; omega))).pick [0, 1, 2] [0] [0, 1] rfl rfl)
   refine wa_set 121 rfl (congrArg Value.bool hg8) ?_
   refine wto 3 12 15 rfl rfl rfl z (ov_loads rz31 rfl (fun _ hm => hm.2.2.1) rfl rfl) ?_
   refine wto 4 12 31 rfl rfl rfl z (ov_move rfl) ?_
   refine wto 6 12 95 rfl rfl rfl z (ov_loads rz92 rfl (fun _ hm => hm.1) rfl rfl) ?_
   refine wa_all [5, 7] (by kernel_rfl) rfl ⟨⟨_, rfl, ?_⟩, ⟨_, rfl, ?_⟩, trivial⟩
   ·refine wl_guard_on rfl rfl rfl ?_
    refine wl_callgo (γ := Option Addr × Nat) (val := (fun g => .slice g.1 k g.2)) (φ := (fun g => True)) (fun g => ⟨.slice g.1 k g.2, 92, 5, k, xl.flatMap evEnc⟩) rfl cb54 rfl rfl (fun wx hm => (cloneEvents_all xl oA k oc wx (SlT.ofOwn ev_len (hm.ownI 0 rfl) hxl) (own_shape (hm.ownI 0 rfl)) (by omega)).mono fun _ _ ⟨A, c, he, ho, hg⟩ => ⟨(A, c), he, trivial, ho, hg⟩) ?_
    rintro ⟨A3, c3⟩ hphi
    dsimp only at hphi ⊢
    refine wl_nil ?_
    refine nw 12 127 (fun _ hm => ⟨hm.bl 0, hm.bl 1, hm.bl 2, hm.fa 0, hm.fa 1, trivial⟩) fun z => ?_
    refine wa1 7 rfl ?_
    refine wl_guard_on rfl rfl rfl ?_
    refine wl_buildSlice (e := 92) (cs := [.int .i64 a4, .string ve4, .string st4, .int .i64 kd4, .string to4]) rfl (by kernel_rfl) rfl fun g36 => ?_
    refine wl_nil ?_
    refine nw 12 255 (fun _ hm => ⟨hm.bl 1, hm.bl 2, hm.bl 3, hm.fa 0, hm.fa 1, trivial⟩) fun z => ?_
    refine wa1 8 rfl ?_
    refine wl_guard_on rfl rfl rfl ?_
    refine wl_append (news := [.int .i64 a4, .string ve4, .string st4, .int .i64 kd4, .string to4]) 0 0 ap48 rfl rfl rfl rfl rfl rfl rfl (by omega) (by unfold maxLen; omega) rfl rfl fun v2 hv2 => ?_
    refine wl_look (R := ∃ A cc, v2 = .slice A (k + 1) cc) (fun wx hm => own_slice (hm.ownI 0 rfl)) ?_
    rintro ⟨A4, c4, rfl⟩
    have hxs : xl.flatMap evEnc ++ ([.int .i64 a4, .string ve4, .string st4, .int .i64 kd4, .string to4] : List Value) = us.flatMap evEnc := by rw [hus]; simp [evEnc]
    rw [hxs]
    refine wl_nil ?_
    refine nw 12 511 (fun _ hm => ⟨hm.bl 1, hm.bl 2, hm.bl 3, hm.fa 0, hm.fa 1, trivial⟩) fun z => ?_
    refine wa1 9 rfl ?_
    refine wl_guard_on rfl rfl rfl ?_
    refine wl_callv (v := .int .i64 LE) rfl cb40 rfl rfl (fun wx hm => (by rw [hLE]; exact logFault_any sl vl (some ⟨bs, os, none⟩) cA (some ⟨bv, ov, none⟩) pA sn sc cn cc vn vc pn pc us A4 (k + 1) c4 wx (hm.fact 0 rfl).1 (hm.fact 1 rfl).1 hsok hsn hvn (SlT.ofOwn ev_len (hm.ownI 0 rfl) hul) huok (by omega))) ?_
    refine wl_nil ?_
    refine nw 12 1023 (fun _ hm => ⟨hm.bl 1, hm.bl 2, hm.bl 3, hm.fa 0, hm.fa 1, trivial⟩) fun z => ?_
    refine wto 10 12 2047 rfl rfl rfl z (ov_eql rfl rfl) ?_
    refine wt 11 12 4095 rfl z (ov_pick_f rfl rfl) ?_
    refine wa_done (by kernel_rfl) ?_
    exact nx_meet (decide (LE = 0)) trivial ⟨rfl, rfl, rfl, rfl, rfl, rfl, rfl, rfl, rfl, trivial⟩ (fun _ hm => (hm.more rfl (by first | omega | (dsimp only; omega))).pick [1, 2, 3] [1] [0, 1] rfl rfl)
   refine wl_guard_on rfl rfl rfl ?_
   refine wl_buildSlice (e := 92) (cs := [.int .i64 a4, .string ve4, .string st4, .int .i64 kd4, .string to4]) rfl (by kernel_rfl) rfl fun g37 => ?_
   refine wl_nil ?_
   refine nw 12 223 (fun _ hm => ⟨hm.bl 1, hm.bl 2, hm.bl 3, hm.fa 0, hm.fa 1, trivial⟩) fun z => ?_
   refine wa1 5 rfl ?_
   refine wl_guard_on rfl rfl rfl ?_
   refine wl_callgo (γ := Option Addr × Nat) (val := (fun g => .slice g.1 k g.2)) (φ := (fun g => True)) (fun g => ⟨.slice g.1 k g.2, 92, 5, k, xl.flatMap evEnc⟩) rfl cb54 rfl rfl (fun wx hm => (cloneEvents_all xl oA k oc wx (SlT.ofOwn ev_len (hm.ownI 0 rfl) hxl) (own_shape (hm.ownI 0 rfl)) (by omega)).mono fun _ _ ⟨A, c, he, ho, hg⟩ => ⟨(A, c), he, trivial, ho, hg⟩) ?_
   rintro ⟨A3, c3⟩ hphi
   dsimp only at hphi ⊢
   refine wl_nil ?_
   refine nw 12 255 (fun _ hm => ⟨hm.bl 1, hm.bl 2, hm.bl 3, hm.fa 0, hm.fa 1, trivial⟩) fun z => ?_
   refine wa1 8 rfl ?_
   refine wl_guard_on rfl rfl rfl ?_
   refine wl_append (news := [.int .i64 a4, .string ve4, .string st4, .int .i64 kd4, .string to4]) 0 0 ap48 rfl rfl rfl rfl rfl rfl rfl (by omega) (by unfold maxLen; omega) rfl rfl fun v2 hv2 => ?_
   refine wl_look (R := ∃ A cc, v2 = .slice A (k + 1) cc) (fun wx hm => own_slice (hm.ownI 0 rfl)) ?_
   rintro ⟨A4, c4, rfl⟩
   have hxs : xl.flatMap evEnc ++ ([.int .i64 a4, .string ve4, .string st4, .int .i64 kd4, .string to4] : List Value) = us.flatMap evEnc := by rw [hus]; simp [evEnc]
   rw [hxs]
   refine wl_nil ?_
   refine nw 12 511 (fun _ hm => ⟨hm.bl 1, hm.bl 2, hm.bl 3, hm.fa 0, hm.fa 1, trivial⟩) fun z => ?_
   refine wa1 9 rfl ?_
   refine wl_guard_on rfl rfl rfl ?_
   refine wl_callv (v := .int .i64 LE) rfl cb40 rfl rfl (fun wx hm => (by rw [hLE]; exact logFault_any sl vl (some ⟨bs, os, none⟩) cA (some ⟨bv, ov, none⟩) pA sn sc cn cc vn vc pn pc us A4 (k + 1) c4 wx (hm.fact 0 rfl).1 (hm.fact 1 rfl).1 hsok hsn hvn (SlT.ofOwn ev_len (hm.ownI 0 rfl) hul) huok (by omega))) ?_
   refine wl_nil ?_
   refine nw 12 1023 (fun _ hm => ⟨hm.bl 1, hm.bl 2, hm.bl 3, hm.fa 0, hm.fa 1, trivial⟩) fun z => ?_
   refine wto 10 12 2047 rfl rfl rfl z (ov_eql rfl rfl) ?_
   refine wt 11 12 4095 rfl z (ov_pick_f rfl rfl) ?_
   refine wa_done (by kernel_rfl) ?_
   exact nx_meet (decide (LE = 0)) trivial ⟨rfl, rfl, rfl, rfl, rfl, rfl, rfl, rfl, rfl, trivial⟩ (fun _ hm => (hm.more rfl (by first | omega | (dsimp only; omega))).pick [1, 2, 3] [1] [0, 1] rfl rfl)
  intro bb hinv
  replace hinv : True := hinv
  refine gw_cond rfl (fun hh => ?_) (fun hh => ?_)
  ·have hbb : bb = true := by simpa using hh
   clear hh
   refine gw_region (mv_ rfl ?_)
   refine wl_ov (ov_loads rz92 rfl (fun _ hm => hm.blkI 0 rfl) rfl rfl) rfl ?_
   refine wl_buildSlice (e := 92) (cs := [.int .i64 a4, .string ve4, .string st4, .int .i64 kd4, .string to4]) rfl (by kernel_rfl) rfl fun g38 => ?_
   refine wl_append (news := [.int .i64 a4, .string ve4, .string st4, .int .i64 kd4, .string to4]) 0 0 ap48 rfl rfl rfl rfl rfl rfl rfl (by omega) (by unfold maxLen; omega) rfl rfl fun v2 hv2 => ?_
   refine wl_look (R := ∃ A cc, v2 = .slice A (k + 1) cc) (fun wx hm => own_slice (hm.ownI 0 rfl)) ?_
   rintro ⟨A4, c4, rfl⟩
   have hxs : xl.flatMap evEnc ++ ([.int .i64 a4, .string ve4, .string st4, .int .i64 kd4, .string to4] : List Value) = us.flatMap evEnc := by rw [hus]; simp [evEnc]
   rw [hxs]
   refine sg_ rfl (wl_nil (nx_blk_nrm (nx_then (gw_region (ad_ rfl rfl (mv_ rfl (wl_nil ?_)))))))
   exact nx_round (i + 1, k + 1, t8, A4, c4, us) ⟨by dsimp only; omega, by dsimp only; omega, ⟨by dsimp only; omega, by dsimp only; omega⟩, hul, huok⟩ (by dsimp only; omega) ⟨rfl, rfl, rfl, rfl, rfl, rfl, (some_int (by omega)), trivial⟩ (fun _ hm => (hm.more rfl (by first | omega | (dsimp only; omega))).pick [3] [0] [0, 1] rfl rfl)
  have hbb : bb = false := by simpa using hh
  clear hh
  refine gw_skip (nx_blk_nrm (nx_then (gw_region (ad_ rfl rfl (mv_ rfl (wl_nil ?_))))))
  exact nx_round (i + 1, k, t8, oA, oc, xl) ⟨by dsimp only; omega, by dsimp only; omega, ⟨by dsimp only; omega, by dsimp only; omega⟩, hxl, hxok⟩ (by dsimp only; omega) ⟨rfl, rfl, rfl, rfl, rfl, rfl, (some_int (by omega)), trivial⟩ (fun _ hm => (hm.more rfl (by first | omega | (dsimp only; omega))).pick [2] [0] [0, 1] rfl rfl)
 have hi : ¬ (((i : Nat) : Int) < ((q : Nat) : Int)) := by simpa using hh
 clear hh
 refine gw_exit ?_
 refine nx_then_exit (nx_then_exit ?_)
 refine nx_blk_here ?_
 refine nx_then (sr_ (mv_ rfl (sg_ rfl (nn_ ?_))))
 refine gw_ret ?_
 refine nx_ret1 rfl rfl fun wx hm => ?_
 exact ⟨oA, k, oc, xl, rfl, (hm.ownI 0 rfl), hxl, hxok, by omega, hm.k.more (by omega), hm.g⟩
end Go.Proofs.YtjecbkgjabnmoaaGreatDoor
namespace Go.Proofs.YtjecbkgjabnmoaaGreatDoor
open Go.RowKit
theorem fleet_rise {sl : List St} {cl : List Cs} {vl : List Vh} {pl : List Pl} (h : fleetE sl cl vl pl = 0) : Rise vl := by
  unfold fleetE at h
  exact (vehs_rise (fe_all h (vehsE cl vl) (by simp))).2
theorem fe_hd {a : Int} {r : List Int} (h : a ≠ 0) : firstE (a :: r) = a := by simp [firstE, h]
theorem fe_tl {r : List Int} : firstE (0 :: r) = firstE r := by simp [firstE]
end Go.Proofs.YtjecbkgjabnmoaaGreatDoor
namespace Go.Proofs.YtjecbkgjabnmoaaGreatDoor
open Go.RowKit
def evsE (sl : List St) (cl : List Cs) (vl : List Vh) (pl : List Pl) (el : List Ev) : Int := firstE [fleetE sl cl vl pl, logE sl vl el]
theorem evs_one {sl : List St} {cl : List Cs} {vl : List Vh} {pl : List Pl} {el : List Ev} (h : fleetE sl cl vl pl ≠ 0) : evsE sl cl vl pl el = fleetE sl cl vl pl := fe_hd h
theorem evs_two {sl : List St} {cl : List Cs} {vl : List Vh} {pl : List Pl} {el : List Ev} (h : fleetE sl cl vl pl = 0) : evsE sl cl vl pl el = logE sl vl el := by
  unfold evsE; rw [h, fe_tl]
  by_cases h2 : logE sl vl el = 0
  · rw [h2]; rfl
  · exact fe_hd h2
theorem evs_ok {sl : List St} {cl : List Cs} {vl : List Vh} {pl : List Pl} {el : List Ev} (h : evsE sl cl vl pl el = 0) : fleetE sl cl vl pl = 0 ∧ logE sl vl el = 0 := ⟨fe_all h _ (by simp), fe_all h _ (by simp)⟩
theorem eventsFault_any (sl : List St) (cl : List Cs) (vl : List Vh) (pl : List Pl) (sA cA vA pA : Option Addr) (sn sc cn cc vn vc pn pc : Nat) (el : List Ev) (eA : Option Addr) (en ec : Nat) (w : World) (hs : SlT stEnc 15 140 w sA sn sl) (hc : SlT csEnc 2 159 w cA cn cl) (hv : SlT vhEnc 2 77 w vA vn vl) (hp : SlT plEnc 3 143 w pA pn pl) (hsok : ∀ x ∈ sl, StOk x) (hcok : ∀ x ∈ cl, CsOk x) (hvok : ∀ x ∈ vl, VhOk x) (hpok : ∀ x ∈ pl, PlOk x) (hsn : sn ≤ 1000) (hcn : cn ≤ 1000) (hvn : vn ≤ 1000) (hpn : pn ≤ 1000) (hl : SlT evEnc 5 92 w eA en el) (heok : ∀ x ∈ el, EvOk x) (hen : en ≤ 100000) (hpc : pn ≤ pc) :
  Calls Tryz.prog 101 #[.agg #[.slice sA sn sc, .slice cA cn cc, .slice vA vn vc, .slice pA pn pc], .slice eA en ec] w (GotE w (evsE sl cl vl pl el)) := by
 refine gw_enter ⟨14, w, none, []⟩ Tryz.func101 rfl Tryz.ntmps101 rfl (mem0 (X := [SlOld stEnc 15 140 w.heap.size none sA sn sl, SlOld csEnc 2 159 w.heap.size none cA cn cl, SlOld vhEnc 2 77 w.heap.size none vA vn vl, SlOld plEnc 3 143 w.heap.size none pA pn pl, SlOld evEnc 5 92 w.heap.size none eA en el]) (allF_cons hs.old (allF_cons hc.old (allF_cons hv.old (allF_cons hp.old (allF_cons hl.old allF_nil))))) (allL_cons SlOld.lasts (allL_cons SlOld.lasts (allL_cons SlOld.lasts (allL_cons SlOld.lasts (allL_cons SlOld.lasts allL_nil)))))) ?_
 refine sr_ ?_
 obtain ⟨FE, hFE⟩ : ∃ z, z = fleetE sl cl vl pl := ⟨_, rfl⟩
 obtain ⟨LE, hLE⟩ : ∃ z, z = logE sl vl el := ⟨_, rfl⟩
 refine wl_box rfl rfl rfl fun g1 => ?_
 refine sg_ rfl (nn_ (gw_seq (sr_ ?_)))
 refine wl_ov (ov_loads rz31 rfl (fun _ hm => hm.blkI 0 rfl) rfl rfl) rfl ?_
 refine wl_callv (v := .int .i64 FE) rfl cb17 rfl rfl (fun wx hm => (by rw [hFE]; exact fleetFault_any sl cl vl pl sA cA vA pA sn sc cn cc vn vc pn pc wx (hm.fact 0 rfl).1 (hm.fact 1 rfl).1 (hm.fact 2 rfl).1 (hm.fact 3 rfl).1 hsok hcok hvok hpok hsn hcn hvn hpn hpc)) ?_
 refine sg_ rfl (nn_ (sr_ (mv_ rfl (wl_ov (ov_neq rfl rfl) rfl (nn_ ?_)))))
 refine gw_cond rfl (fun hh => ?_) (fun hh => ?_)
 ·have h1 : ¬ (FE = 0) := by simpa using hh
  clear hh
  refine sr_ (mv_ rfl (sg_ rfl (nn_ ?_)))
  refine gw_ret ?_
  refine nx_then_ret ?_
  refine nx_ret1 rfl rfl fun wx hm => ?_
  exact ⟨ret_int (by rw [evs_one (by rw [← hFE]; simpa using h1)]; exact hFE), hm.g⟩
 have h1 : FE = 0 := by simpa using hh
 clear hh
 refine gw_skip (nx_then (sr_ ?_))
 have h0 : fleetE sl cl vl pl = 0 := by rw [← hFE]; simpa using h1
 refine wl_ov (ov_loads rz31 rfl (fun _ hm => hm.blkI 0 rfl) rfl rfl) rfl ?_
 refine mv_ rfl ?_
 refine wl_callv (v := .int .i64 LE) rfl cb40 rfl rfl (fun wx hm => (by rw [hLE]; exact logFault_any sl vl sA cA vA pA sn sc cn cc vn vc pn pc el eA en ec wx (hm.fact 0 rfl).1 (hm.fact 2 rfl).1 hsok hsn hvn (hm.fact 4 rfl).1 heok hen)) ?_
 refine sg_ rfl (nn_ ?_)
 refine gw_ret ?_
 refine nx_ret1 rfl rfl fun wx hm => ?_
 exact ⟨ret_int (by rw [evs_two h0]; exact hLE), hm.g⟩
theorem check2_any (sl : List St) (cl : List Cs) (vl : List Vh) (pl : List Pl) (sA cA vA pA : Option Addr) (sn sc cn cc vn vc pn pc : Nat) (el : List Ev) (eA : Option Addr) (en ec : Nat) (w : World) (hs : SlT stEnc 15 140 w sA sn sl) (hc : SlT csEnc 2 159 w cA cn cl) (hv : SlT vhEnc 2 77 w vA vn vl) (hp : SlT plEnc 3 143 w pA pn pl) (hsok : ∀ x ∈ sl, StOk x) (hcok : ∀ x ∈ cl, CsOk x) (hvok : ∀ x ∈ vl, VhOk x) (hpok : ∀ x ∈ pl, PlOk x) (hsn : sn ≤ 1000) (hcn : cn ≤ 1000) (hvn : vn ≤ 1000) (hpn : pn ≤ 1000) (hl : SlT evEnc 5 92 w eA en el) (heok : ∀ x ∈ el, EvOk x) (hen : en ≤ 100000) :
  Calls Tryz.prog 56 #[.agg #[.slice sA sn sc, .slice cA cn cc, .slice vA vn vc, .slice pA pn pc], .slice eA en ec] w (GotE w (evsE sl cl vl pl el)) := by
 refine gw_enter ⟨14, w, none, []⟩ Tryz.func56 rfl Tryz.ntmps56 rfl (mem0 (X := [SlOld stEnc 15 140 w.heap.size none sA sn sl, SlOld csEnc 2 159 w.heap.size none cA cn cl, SlOld vhEnc 2 77 w.heap.size none vA vn vl, SlOld plEnc 3 143 w.heap.size none pA pn pl, SlOld evEnc 5 92 w.heap.size none eA en el]) (allF_cons hs.old (allF_cons hc.old (allF_cons hv.old (allF_cons hp.old (allF_cons hl.old allF_nil))))) (allL_cons SlOld.lasts (allL_cons SlOld.lasts (allL_cons SlOld.lasts (allL_cons SlOld.lasts (allL_cons SlOld.lasts allL_nil)))))) ?_
 refine sr_ ?_
 obtain ⟨FE, hFE⟩ : ∃ z, z = fleetE sl cl vl pl := ⟨_, rfl⟩
 obtain ⟨LE, hLE⟩ : ∃ z, z = logE sl vl el := ⟨_, rfl⟩
 refine wl_box rfl rfl rfl fun g1 => ?_
 refine sg_ rfl (nn_ (gw_seq (sr_ ?_)))
 refine wl_ov (ov_loads rz31 rfl (fun _ hm => hm.blkI 0 rfl) rfl rfl) rfl ?_
 refine wl_callv (v := .int .i64 FE) rfl cb23 rfl rfl (fun wx hm => (by rw [hFE]; exact checkFleet_any sl cl vl pl sA cA vA pA sn sc cn cc vn vc pn pc wx (hm.fact 0 rfl).1 (hm.fact 1 rfl).1 (hm.fact 2 rfl).1 (hm.fact 3 rfl).1 hsok hcok hvok hpok hsn hcn hvn hpn)) ?_
 refine sg_ rfl (nn_ (sr_ (mv_ rfl (wl_ov (ov_neq rfl rfl) rfl (nn_ ?_)))))
 refine gw_cond rfl (fun hh => ?_) (fun hh => ?_)
 ·have h1 : ¬ (FE = 0) := by simpa using hh
  clear hh
  refine sr_ (mv_ rfl (sg_ rfl (nn_ ?_)))
  refine gw_ret ?_
  refine nx_then_ret ?_
  refine nx_ret1 rfl rfl fun wx hm => ?_
  exact ⟨ret_int (by rw [evs_one (by rw [← hFE]; simpa using h1)]; exact hFE), hm.g⟩
 have h1 : FE = 0 := by simpa using hh
 clear hh
 refine gw_skip (nx_then (sr_ ?_))
 have h0 : fleetE sl cl vl pl = 0 := by rw [← hFE]; simpa using h1
 have hrise := fleet_rise h0
 refine wl_ov (ov_loads rz31 rfl (fun _ hm => hm.blkI 0 rfl) rfl rfl) rfl ?_
 refine mv_ rfl ?_
 refine wl_callv (v := .int .i64 LE) rfl cb132 rfl rfl (fun wx hm => (by rw [hLE]; exact check_any sl vl sA cA vA pA sn sc cn cc vn vc pn pc el eA en ec wx (hm.fact 0 rfl).1 (hm.fact 2 rfl).1 hsok hsn hvn (hm.fact 4 rfl).1 heok hen hrise)) ?_
 refine sg_ rfl (nn_ ?_)
 refine gw_ret ?_
 refine nx_ret1 rfl rfl fun wx hm => ?_
 exact ⟨ret_int (by rw [evs_two h0]; exact hLE), hm.g⟩
section
variable {P : Program} {c : Cx} {S : List (Nat × Value)} {K : World → Prop} {L : List (Nat × TypeId × List Value)} {O : List Own} {X : List (World → Prop)} {fn : Func} {R : Ending → World → Prop}
theorem results_ctt {p u r : Tmp} {t : TypeId} (h : fn.results = #[.cell p t, .tmp u, .tmp r]) (tmps : Array Value) (w : World) (g : Nat) (T : TypeId) (cs : Array Value) (fr : Nat × Nat) (d : TypeDesc) (hp : tmps.getD p undef = .pointer (some ⟨g, 0, none⟩)) (hg : w.heap[g]? = some (.cells cs T fr)) (hu : P.underlying t = some d) (hd : (match d with | .struct _ | .array _ _ => true | _ => false) = true) (hi : (P.info? t).map (·.size) = some cs.size) :
    (results fn tmps).run P w = .ok (.tuple #[.agg cs, tmps.getD u undef, tmps.getD r undef]) w := by
  have hp' : tmps[p]?.getD undef = .pointer (some ⟨g, 0, none⟩) := by simpa using hp
  simp [results, h, hp', asAddr, run_loadVar_row w g T t cs fr d hg hu hd hi]
theorem nx_retctt {p u r : Nat} {t T : TypeId} {g n : Nat} {cs : List Value} {v v' : Value} (i : Nat) (hr : fn.results = #[.cell p t, .tmp u, .tmp r]) (hs : rowSz P t = some n) (hp : look S p = some (.pointer (some ⟨g, 0, none⟩))) (hv : look S u = some v) (hv' : look S r = some v') (hL : L[i]? = some (g, T, cs)) (hn : cs.length = n)
    (h : ∀ w, Mem c K L O X w → R (.returned (.tuple #[.agg cs.toArray, v, v'])) w) : Nx c (bodyPost P fn R) .ret S K L O X := fun a w ha hm => by
  obtain ⟨dd, hu, hd, hi⟩ := run_row hs
  have hb : w.heap[g]? = some (.cells cs.toArray T (0, 0)) := hm.blk (List.mem_of_getElem? hL)
  have h1 := results_ctt (P := P) hr a.tmps w g T cs.toArray (0, 0) dd (by simp [Array.getD_eq_getD_getElem?, ha.val p _ hp]) hb hu (by cases dd <;> simp_all [TypeDesc.isRow]) (by simpa [hn] using hi)
  rw [show a.tmps.getD u undef = v by simp [Array.getD_eq_getD_getElem?, ha.val u _ hv], show a.tmps.getD r undef = v' by simp [Array.getD_eq_getD_getElem?, ha.val r _ hv']] at h1
  exact bodyPost_ret h1 ha.df (h w hm)
end
theorem scene_any (q : Nat) (w : World) (B sb m : Nat) (hS : Strm 25 w B sb m) (hm : m ≤ 1000000) (hq : q ≤ 1000) :
  Calls Tryz.prog 27 #[.pointer (some ⟨sb, 0, none⟩), .int .i64 ((q : Nat) : Int)] w (fun e w' => ∃ (sA cA vA pA : Option Addr) (sn sc cc vn vc pn pc : Nat) (sl : List St) (cl : List Cs) (vl : List Vh) (pl : List Pl) (eA : Option Addr) (en ec : Nat) (el : List Ev),  e = .returned (.tuple #[.agg #[.slice sA sn sc, .slice cA 4 cc, .slice vA vn vc, .slice pA pn pc], .slice eA en ec, .int .i64 (evsE sl cl vl pl el)]) ∧ (FlOk sl cl vl pl sn vn pn ∧ ShapeA pA pn pc ∧ pn ≤ pc) ∧ (el.length = en ∧ (∀ x ∈ el, EvOk x) ∧ en ≤ q) ∧ Strm 25 w' B sb (m + 20 * q + 420) ∧ w.grownBy w' (some sb) ∧ w'.ownsRow w.heap.size 92 5 (.slice eA en ec) en (el.flatMap evEnc) ∧ SlT stEnc 15 140 w' sA sn sl ∧ SlT csEnc 2 159 w' cA 4 cl ∧ SlT vhEnc 2 77 w' vA vn vl ∧ SlT plEnc 3 143 w' pA pn pl) := by
 refine gw_enter ⟨20, w, (some sb), [140, 159, 77, 143]⟩ Tryz.func27 rfl Tryz.ntmps27 rfl (memS (X := []) hS allF_nil allL_nil) ?_
 refine sr_ ?_
 refine wl_alloc zc31 rfl fun g1 => ?_
 refine sg_ rfl (sg_ rfl (nn_ (sr_ (mv_ rfl ?_))))
 refine wl_calls (γ := Option Addr × Option Addr × Option Addr × Option Addr × Nat × Nat × Nat × Nat × Nat × Nat × Nat × List St × List Cs × List Vh × List Pl) (val := (fun g => .agg #[.slice g.1 g.2.2.2.2.1 g.2.2.2.2.2.1, .slice g.2.1 4 g.2.2.2.2.2.2.1, .slice g.2.2.1 g.2.2.2.2.2.2.2.1 g.2.2.2.2.2.2.2.2.1, .slice g.2.2.2.1 g.2.2.2.2.2.2.2.2.2.1 g.2.2.2.2.2.2.2.2.2.2.1])) (φ := (fun g => FlOk g.2.2.2.2.2.2.2.2.2.2.2.1 g.2.2.2.2.2.2.2.2.2.2.2.2.1 g.2.2.2.2.2.2.2.2.2.2.2.2.2.1 g.2.2.2.2.2.2.2.2.2.2.2.2.2.2 g.2.2.2.2.1 g.2.2.2.2.2.2.2.1 g.2.2.2.2.2.2.2.2.2.1 ∧ ShapeA g.2.2.2.1 g.2.2.2.2.2.2.2.2.2.1 g.2.2.2.2.2.2.2.2.2.2.1 ∧ g.2.2.2.2.2.2.2.2.2.1 ≤ g.2.2.2.2.2.2.2.2.2.2.1)) (Y := (fun g => fun wy => SlT stEnc 15 140 wy g.1 g.2.2.2.2.1 g.2.2.2.2.2.2.2.2.2.2.2.1 ∧ SlT csEnc 2 159 wy g.2.1 4 g.2.2.2.2.2.2.2.2.2.2.2.2.1 ∧ SlT vhEnc 2 77 wy g.2.2.1 g.2.2.2.2.2.2.2.1 g.2.2.2.2.2.2.2.2.2.2.2.2.2.1 ∧ SlT plEnc 3 143 wy g.2.2.2.1 g.2.2.2.2.2.2.2.2.2.1 g.2.2.2.2.2.2.2.2.2.2.2.2.2.2)) (m' := m + 400) rfl cb11 rfl rfl rfl rfl (fun wx hm => (fleet_any wx B sb _ hm.k (by omega)).mono fun _ _ ⟨sA, cA, vA, pA, sn, sc, cc, vn, vc, pn, pc, sl, cl, vl, pl, he, hok, hS, hg, h1, h2, h3, h4, h5, h6⟩ => ⟨(sA, cA, vA, pA, sn, sc, cc, vn, vc, pn, pc, sl, cl, vl, pl), he, ⟨hok, h5, h6⟩, hS, hg, h1, h2, h3, h4⟩) (fun _ => (SlT.lasts2 rfl).and_ ((SlT.lasts2 rfl).and_ ((SlT.lasts2 rfl).and_ (SlT.lasts2 rfl)))) ?_
 rintro ⟨sA, cA, vA, pA, sn, sc, cc, vn, vc, pn, pc, sl, cl, vl, pl⟩ hfl
 dsimp only at hfl ⊢
 have hfl2 := hfl
 obtain ⟨⟨⟨hsok, hsn10⟩, hcok, ⟨hvB, hvn10⟩, hpB, hpn10⟩, hsh, hpnc⟩ := hfl
 have hvok : ∀ x ∈ vl, VhOk x := fun x hx => vhB_ok (hvB x hx)
 have hpok : ∀ x ∈ pl, PlOk x := fun x hx => plB_ok (hpB x hx)
 refine wl_alloc zc31 rfl fun g2 => ?_
 refine wl_stores (cs' := [.slice sA sn sc, .slice cA 4 cc, .slice vA vn vc, .slice pA pn pc]) 0 rz31 rfl rfl rfl rfl rfl rfl rfl rfl ?_
 refine nn_ (sr_ (mv_ rfl ?_))
 refine wl_ov (ov_loads rz31 rfl (fun _ hm => hm.blkI 0 rfl) rfl rfl) rfl ?_
 refine mv_ rfl ?_
 refine wl_callgs (γ := Option Addr × Nat × Nat × List Ev) (val := (fun g => .slice g.1 g.2.1 g.2.2.1)) (φ := (fun g => g.2.2.2.length = g.2.1 ∧ (∀ x ∈ g.2.2.2, EvOk x) ∧ g.2.1 ≤ q)) (m' := m + 400 + (20 * q + 20)) (fun g => ⟨.slice g.1 g.2.1 g.2.2.1, 92, 5, g.2.1, g.2.2.2.flatMap evEnc⟩) rfl cb39 rfl rfl rfl rfl (fun wx hm => (glog_any sl vl sA cA vA pA sn sc 4 cc vn vc pn pc q wx B sb _ hm.k (by omega) (hm.fact 0 rfl).1 (hm.fact 0 rfl).2.2.1 hsok hvok (by omega) (by omega) (by omega)).mono fun _ _ ⟨A, n, c, l, he, ho, hl, hok, hn, hS, hg⟩ => ⟨(A, n, c, l), he, ⟨hl, hok, hn⟩, hS, hg, ho⟩) ?_
 rintro ⟨eA, en, ec, el⟩ hel
 dsimp only at hel ⊢
 obtain ⟨hell, heok, henq⟩ := hel
 obtain ⟨FE, hFE⟩ : ∃ z, z = evsE sl cl vl pl el := ⟨_, rfl⟩
 refine sg_ rfl (nn_ (gw_seq ?_))
 refine gd (fun wz => Blk wz g2 31 [.slice sA sn sc, .slice cA 4 cc, .slice vA vn vc, .slice pA pn pc] ∧ (fun wy => SlT stEnc 15 140 wy sA sn sl ∧ SlT csEnc 2 159 wy cA 4 cl ∧ SlT vhEnc 2 77 wy vA vn vl ∧ SlT plEnc 3 143 wy pA pn pl) wz ∧ True) mixed (fun _ hm => ⟨hm.bl 0, hm.fa 0, trivial⟩) fun z => ?_
 refine wt 0 8 1 rfl z (ov_loads rz31 rfl (fun _ hm => hm.1) rfl rfl) ?_
 refine wt 1 8 3 rfl z (ov_move rfl) ?_
 refine wt 2 8 7 rfl z (ov_loads rz31 rfl (fun _ hm => hm.1) rfl rfl) ?_
 refine wt 3 8 15 rfl z (ov_move rfl) ?_
 refine wa1 4 rfl ?_
 refine wl_callv (v := .int .i64 FE) rfl cb101 rfl rfl (fun wx hm => (by rw [hFE]; exact eventsFault_any sl cl vl pl sA cA vA pA sn sc 4 cc vn vc pn pc el eA en ec wx (hm.fact 0 rfl).1 (hm.fact 0 rfl).2.1 (hm.fact 0 rfl).2.2.1 (hm.fact 0 rfl).2.2.2 hsok hcok hvok hpok (by omega) (by omega) (by omega) (by omega) (SlT.ofOwn ev_len (hm.ownI 0 rfl) hell) heok (by omega) hpnc)) ?_
 refine wl_nil ?_
 refine nw 8 31 (fun _ hm => ⟨hm.bl 0, hm.fa 0, trivial⟩) fun z => ?_
 refine wa1 5 rfl ?_
 refine wl_stores (cs' := [.slice sA sn sc, .slice cA 4 cc, .slice vA vn vc, .slice pA pn pc]) 1 rz31 rfl rfl rfl rfl rfl rfl rfl rfl ?_
 refine wl_nil ?_
 refine nw 8 63 (fun _ hm => ⟨hm.bl 0, hm.fa 0, trivial⟩) fun z => ?_
 refine wt 6 8 127 rfl z (ov_assign rfl) ?_
 refine wt 7 8 255 rfl z (ov_assign rfl) ?_
 refine wa_done (by kernel_rfl) ?_
 refine nx_then ?_
 refine gw_ret ?_
 refine nx_retctt 1 rfl rz31 rfl rfl rfl rfl rfl fun wx hm => ?_
 exact ⟨sA, cA, vA, pA, sn, sc, cc, vn, vc, pn, pc, sl, cl, vl, pl, eA, en, ec, el, by rw [hFE], hfl2, ⟨hell, heok, henq⟩, hm.k.more (by omega), hm.g, (hm.ownI 0 rfl), (hm.fact 0 rfl)⟩
end Go.Proofs.YtjecbkgjabnmoaaGreatDoor
namespace Go.Proofs.YtjecbkgjabnmoaaGreatDoor
open Go.RowKit
theorem zeroCells_size (z : Array Value) (n : Nat) : (Builtin.zeroCells z n).size = n * z.size := by simp [Builtin.zeroCells]
theorem own_shrink0 {w : World} {base sz n cap g : Nat} {e : TypeId} {xs : List Value} (h : w.ownsRow base e sz (.slice (some ⟨g, 0, none⟩) n cap) n xs) : w.ownsRow base e sz (.slice (some ⟨g, 0, none⟩) 0 cap) 0 [] := by
  rcases h.2 with ⟨h1, _⟩ | ⟨g', cap', cur, h1, hb, hh, hle, hm, hs, ht⟩
  · cases h1
  · injection h1 with h1 _ h3
    injection h1 with h1
    injection h1 with h1 _ _
    subst h1 h3
    exact ⟨by simp, .inr ⟨g, cap, cur, rfl, hb, hh, Nat.zero_le _, hm, hs, by simp⟩⟩
section
variable {P : Program} {c : Cx} {ops : Array Oper} {Q : Exit → Act → World → Prop} {rest : List Oper} {S : List (Nat × Value)} {K : World → Prop} {L : List (Nat × TypeId × List Value)} {O : List Own} {X : List (World → Prop)}
variable {d : Nat} {ty : TypeId} {pos : String} {aft : Array Edge}
theorem wl_appendZ {t tn e : TypeId} {kn : IntKind} {sz by_ : Nat} {x y : Operand} {n : Nat} (ht : appB P t = some (e, sz, by_)) (htn : P.underlying tn = some (.int kn)) (h0 : 0 < n) (hx : rd S x = some (.slice none 0 0)) (hy : rd S y = some (.int .i64 (n : Int))) (hb : n * by_ ≤ 140737488355328) (h63 : n ≤ maxLen) (hd : Nat.ble (d + 1) c.n = true)
    (h : ∀ g cap zs, n ≤ cap → WL P c ops Q rest ((d, .slice (some ⟨g, 0, none⟩) n cap) :: S) K L (⟨.slice (some ⟨g, 0, none⟩) n cap, e, sz, n, zs⟩ :: O) X) : WL P c ops Q (⟨some d, .call ⟨.builtin .append, #[x, y], #[t, tn]⟩, ty, pos, aft, none⟩ :: rest) S K L O X := by
  intro a w ha hm
  unfold appB at ht
  split at ht
  · rename_i e' hu
    split at ht
    · rename_i inf hi
      split at ht
      · rename_i z hz
        split at ht
        · rename_i hzz
          simp only [Option.some.injEq, Prod.mk.injEq] at ht
          obtain ⟨rfl, rfl, rfl⟩ := ht
          have hml : maxLen ≤ 9223372036854775807 := by unfold maxLen; omega
          have hr := Lib.run_append_nil_zeros (P := P) w t tn ty e' inf z .i64 kn hu htn hi hz n h0 hzz.2 (by omega) (by omega)
          refine Lib.wpList_append_run w rfl x y t tn rfl _ _ (ha.eval hx) (ha.eval hy) _ _ hr ?_
          have hcs : (Builtin.zeroCells z.cells n ++ Builtin.zeroCells z.cells (grownCap w n 0 e' - n)).size = grownCap w n 0 e' * inf.size := by
            have hge := grownCap_ge w n 0 e'
            rw [Array.size_append, zeroCells_size, zeroCells_size, hzz.1, ← Nat.add_mul]
            congr 1; omega
          have hown : (w.drew.alloc (.cells (Builtin.zeroCells z.cells n ++ Builtin.zeroCells z.cells (grownCap w n 0 e' - n)) e')).ownsRow w.heap.size e' inf.size (.slice (some ⟨w.heap.size, 0, none⟩) n (grownCap w n 0 e')) n ((Builtin.zeroCells z.cells n ++ Builtin.zeroCells z.cells (grownCap w n 0 e' - n)).toList.take (n * inf.size)) := by
            have hge := grownCap_ge w n 0 e'
            have hmul := Nat.mul_le_mul_right inf.size hge
            refine ⟨by rw [List.length_take, Array.length_toList, hcs]; omega, .inr ⟨w.heap.size, grownCap w n 0 e', _, rfl, Nat.le_refl _, ?_, hge, grownCap_le_maxLen w n 0 e' h63, hcs, rfl⟩⟩
            exact heap_alloc_new w.drew _
          have hg : w.grownBy (w.drew.alloc (.cells (Builtin.zeroCells z.cells n ++ Builtin.zeroCells z.cells (grownCap w n 0 e' - n)) e')) none := grow_alloc (⟨rfl, rfl, rfl, Nat.le_refl _, fun _ _ _ => rfl⟩ : w.grownBy w.drew none) _
          exact h _ _ _ (grownCap_ge w n 0 e') _ _ (ha.put hd _) (hm.newOwn hg hown)
        · cases ht
      · cases ht
    · cases ht
  · cases ht
theorem ov_cap {nn : Nat} {Z : World → Prop} {t e : TypeId} {sz : Nat} {x : Operand} {A : Option Addr} {n cap : Nat} (he : elemSz P t = some (e, sz)) (hx : rd S x = some (.slice A n cap)) : OV P nn S Z ⟨some d, .call ⟨.builtin .cap, #[x], #[t]⟩, ty, pos, aft, none⟩ (.int .i64 (cap : Int)) :=
  (fun a w ha hm => by
    obtain ⟨hu, _⟩ := elemSz_parts he
    simp [execOp, resolve, invoke, builtin, ha.eval hx, Builtin.cap_, run_underlying hu, goInt])
theorem ov_sliceHi0 {nn : Nat} {Z : World → Prop} {t e : TypeId} {sz : Nat} {x y : Operand} (he : elemSz P t = some (e, sz)) (hx : rd S x = some (.slice none 0 0)) (hy : rd S y = some (.int .i64 0)) : OV P nn S Z ⟨some d, .slice t x none (some y) none, ty, pos, aft, none⟩ (.slice none 0 0) := fun a w ha hm => by
  obtain ⟨hu, hs⟩ := elemSz_parts he
  have h1 : (Instr.slice t (.slice none 0 0) none (some (.int .i64 0)) none).run P w = .ok (.slice none 0 0) w := by
    rw [run_slice_any w t _ 0 0 hu]
    have hb := run_sliceBound (P := P) w .i64 0 0 .sliceAcap (by omega) (by omega)
    simp [Instr.sliceBounds, hs, sliced, hb]
  simp [execOp, ha.eval hx, ha.eval hy, run_sliceAt_slice w t _ _ _ _ hu, h1]
/-- append of a slice that is known, behind a row of the call's own. -/
theorem wl_appendS {α : Type} {enc : α → List Value} {t e T : TypeId} {sz by_ : Nat} {x y : Operand} {m n cc : Nat} {A : Option Addr} {l : List α} {v : Value} {xs : List Value} (i : Nat) (ht : appB P t = some (e, sz, by_)) (hx : rd S x = some v) (hO : O[i]? = some ⟨v, e, sz, n, xs⟩) (hy : rd S y = some (.slice A m cc)) (hS : ∀ w, Mem c K L O X w → SlT enc sz T w A m l) (hnil : m = 0 → A = none ∧ cc = 0 ∨ ∃ b o, A = some ⟨b, o, none⟩) (hk : ∀ x, (enc x).length = sz)
    (h1 : ∀ x, ∀ u ∈ enc x, u.oneCell' = true) (hb : (n + m) * by_ ≤ 140737488355328) (h63 : n + m ≤ maxLen) (hT : c.Tt.contains e = false) (hd : Nat.ble (d + 1) c.n = true)
    (h : ∀ v', WL P c ops Q rest ((d, v') :: S) K L (setOwn ⟨v', e, sz, n + m, xs ++ l.flatMap enc⟩ O i) X) : WL P c ops Q (⟨some d, .call ⟨.builtin .append, #[x, y], #[t, t]⟩, ty, pos, aft, none⟩ :: rest) S K L O X := by
  intro a w ha hm
  unfold appB at ht
  split at ht
  · rename_i e' hu
    split at ht
    · rename_i inf hi
      split at ht
      · rename_i z hz
        split at ht
        · rename_i hzz
          simp only [Option.some.injEq, Prod.mk.injEq] at ht
          obtain ⟨rfl, rfl, rfl⟩ := ht
          have hown := hm.o _ (List.mem_of_getElem? hO)
          have hs := hS w hm
          have hll := flat_len enc inf.size hk l
          rw [hs.len] at hll
          have hone := flat_one enc h1 l
          rcases Nat.eq_zero_or_pos m with rfl | hm0
          · have hl0 : l = [] := List.length_eq_zero_iff.1 hs.len
            subst hl0
            rcases hnil rfl with ⟨rfl, rfl⟩ | ⟨b, o, rfl⟩
            · refine wpList_append_own_none rfl x y t rfl c.w0.heap.size e' inf inf.size hu hi v n xs (ha.eval hx) hown (ha.eval hy) ?_
              have h2 := h v
              rw [List.flatMap_nil, List.append_nil, Nat.add_zero, setOwn_self hO] at h2
              exact h2 _ _ (ha.put hd _) hm
            · refine wpList_append_own_at _ rfl x y t rfl c.w0.heap.size e' inf z inf.size inf.bytes hu hi hz rfl rfl hzz.1 hzz.2 v n xs (ha.eval hx) hown ⟨b, o, none⟩ 0 cc [] (ha.eval hy) (by simp) (fun k u hk => by simp at hk) (fun u hu => by cases hu) h63 hb hm.g.size fun v' w' h2 h3 h4 h5 => ?_
              exact h v' _ _ (ha.put hd _) (hm.append hO hT h2 h3 h5)
          · obtain ⟨b, o, rfl, hbl, hfl⟩ := hs.flat hk hm0
            refine wpList_append_own_at _ rfl x y t rfl c.w0.heap.size e' inf z inf.size inf.bytes hu hi hz rfl rfl hzz.1 hzz.2 v n xs (ha.eval hx) hown ⟨b, o, none⟩ m cc (l.flatMap enc) (ha.eval hy) hll hfl hone h63 hb hm.g.size fun v' w' h2 h3 h4 h5 => ?_
            exact h v' _ _ (ha.put hd _) (hm.append hO hT h2 h3 h5)
        · cases ht
      · cases ht
    · cases ht
  · cases ht
end
end Go.Proofs.YtjecbkgjabnmoaaGreatDoor
namespace Go.Proofs.YtjecbkgjabnmoaaGreatDoor
open Go.RowKit
theorem growEv_any (n : Nat) (w : World) (hn : n ≤ 100000) : Calls Tryz.prog 195 #[.slice none 0 0, .int .i64 ((n : Nat) : Int)] w (fun e w' => ∃ (A : Option Addr) (c : Nat), e = .returned (.slice A 0 c) ∧ w'.ownsRow w.heap.size 92 5 (.slice A 0 c) 0 [] ∧ w.grownBy w' none) := by
 refine gw_enter ⟨27, w, none, []⟩ Tryz.func195 rfl Tryz.ntmps195 rfl (mem0 (X := []) allF_nil allL_nil) ?_
 refine sr_ (sg_ rfl (nn_ (gw_seq (sr_ (mv_ rfl (wl_ov (ov_lss rfl rfl) rfl ?_))))))
 refine wl_set 6 (v' := .bool false) rfl (congrArg Value.bool (decide_eq_false (by omega))) ?_
 refine nn_ (cf_ rfl (gw_skip (nx_then (gw_seq (sr_ (mv_ rfl (mv_ rfl ?_)))))))
 refine wl_ov (ov_cap es48 rfl) rfl ?_
 refine wl_set 10 (v' := .int .i64 0) rfl rfl ?_
 refine mv_ rfl (wl_ov (ov_len es48 rfl) rfl ?_)
 refine wl_set 12 (v' := .int .i64 0) rfl rfl ?_
 refine wl_ov (ov_sub rfl rfl (by omega) (by omega)) rfl ?_
 refine wl_set 13 (v' := .int .i64 0) rfl rfl ?_
 refine wl_ov (ov_sub rfl rfl (by omega) (by omega)) rfl ?_
 refine wl_set 14 (v' := .int .i64 ((n : Nat) : Int)) rfl (congrArg (Value.int .i64) (by omega)) ?_
 refine sg_ rfl (nn_ (sr_ (mv_ rfl ?_)))
 refine wl_ov (ov_gtr rfl rfl) rfl ?_
 refine nn_ ?_
 refine gw_cond rfl (fun hh => ?_) (fun hh => ?_)
 ·have h0 : 0 < ((n : Nat) : Int) := by simpa using hh
  clear hh
  refine gw_region (mv_ rfl (mv_ rfl ?_))
  refine wl_ov (ov_cap es48 rfl) rfl ?_
  refine wl_set 19 (v' := .int .i64 0) rfl rfl ?_
  refine wl_ov (ov_sliceHi0 es48 rfl rfl) rfl ?_
  refine mv_ rfl ?_
  refine wl_appendZ (n := n) ap48 (kn := .i64) (by kernel_rfl) (by omega) rfl rfl (by omega) (by unfold maxLen; omega) rfl fun g cap zs hcap => ?_
  refine mv_ rfl (wl_ov (ov_len es48 rfl) rfl ?_)
  refine wl_set 24 (v' := .int .i64 0) rfl rfl ?_
  refine wl_ov (ov_sliceHi (hi := 0) es48 rfl rfl rfl (by omega)) rfl ?_
  refine sg_ rfl (nn_ (sr_ (mv_ rfl (sg_ rfl (nn_ ?_)))))
  refine gw_ret ?_
  refine nx_ret1 rfl rfl fun wx hm => ?_
  exact ⟨_, cap, rfl, own_shrink0 (hm.ownI 0 rfl), hm.g⟩
 have h0 : ¬ (0 < ((n : Nat) : Int)) := by simpa using hh
 clear hh
 refine gw_skip (nx_then (sr_ (mv_ rfl (sg_ rfl (nn_ ?_)))))
 refine gw_ret ?_
 refine nx_ret1 rfl rfl fun wx hm => ?_
 exact ⟨none, 0, rfl, ⟨rfl, .inl ⟨rfl, rfl⟩⟩, hm.g⟩
theorem shape_nil {A : Option Addr} {n c : Nat} (h : ShapeA A n c) : n = 0 → A = none ∧ c = 0 ∨ ∃ b o, A = some ⟨b, o, none⟩ := fun _ => by
  rcases h with ⟨h1, _, h3⟩ | h1
  · exact .inl ⟨h1, h3⟩
  · exact .inr h1
theorem concat_any (l1 l2 : List Ev) (A1 A2 : Option Addr) (n1 c1 n2 c2 ga : Nat) (w : World) (hb : Blk w ga 48 [.slice A1 n1 c1, .slice A2 n2 c2]) (h1 : SlT evEnc 5 92 w A1 n1 l1) (h2 : SlT evEnc 5 92 w A2 n2 l2) (hs1 : ShapeA A1 n1 c1) (hs2 : ShapeA A2 n2 c2) (hn1 : n1 ≤ 10000) (hn2 : n2 ≤ 10000) :
  Calls Tryz.prog 133 #[.slice (some ⟨ga, 0, none⟩) 2 2] w (fun e w' => ∃ (A : Option Addr) (n c : Nat), e = .returned (.slice A n c) ∧ w'.ownsRow w.heap.size 92 5 (.slice A n c) n ((l1 ++ l2).flatMap evEnc) ∧ n = n1 + n2 ∧ w.grownBy w' none) := by
 refine gw_enter ⟨36, w, none, []⟩ Tryz.func133 rfl Tryz.ntmps133 rfl (mem0 (X := [BlkOld w.heap.size none ga 48 [.slice A1 n1 c1, .slice A2 n2 c2], SlOld evEnc 5 92 w.heap.size none A1 n1 l1, SlOld evEnc 5 92 w.heap.size none A2 n2 l2]) (allF_cons hb.old (allF_cons h1.old (allF_cons h2.old allF_nil))) (allL_cons BlkOld.lasts (allL_cons SlOld.lasts (allL_cons SlOld.lasts allL_nil)))) ?_
 refine sr_ (sg_ rfl (nn_ (sr_ (sg_ rfl (nn_ (gw_seq (sr_ (mv_ rfl ?_))))))))
 refine wl_ov (ov_len es258 rfl) rfl ?_
 refine wl_set 10 (v' := .int .i64 2) rfl rfl ?_
 refine mv_ rfl (nn_ (gw_block ?_))
 refine gw_rounds 3 ?_
 refine gr_next ?_
 refine sr_ (wl_ov (ov_lss rfl rfl) rfl ?_)
 refine wl_set 12 (v' := .bool true) rfl (congrArg Value.bool (by decide)) ?_
 refine nn_ (gw_seq (ct_ rfl (gw_skip (nx_then (gw_seq (gw_block (sr_ ?_)))))))
 refine wl_ov (ov_index (j := 0) es258 rfl rfl (by decide)) rfl ?_
 refine wl_ov (ov_load (v := .slice A1 n1 c1) sc48 rfl (fun _ hm => (hm.fact 0 rfl).2) rfl) rfl ?_
 refine sg_ rfl (nn_ (sr_ (mv_ rfl (mv_ rfl (wl_ov (ov_len es48 rfl) rfl (ad_ rfl rfl (sg_ rfl (nn_ (sr_ ?_)))))))))
 refine mv_ rfl (wl_ov (ov_lss rfl rfl) rfl ?_)
 refine wl_set 20 (v' := .bool false) rfl (congrArg Value.bool (decide_eq_false (by omega))) ?_
 refine nn_ (cf_ rfl (gw_skip (nx_blk_nrm (nx_then (gw_region (ad_ rfl rfl ?_))))))
 refine wl_set 22 (v' := .int .i64 1) rfl rfl ?_
 refine mv_ rfl (wl_nil ?_)
 refine nx_next ?_
 refine gr_next ?_
 refine sr_ (wl_ov (ov_lss rfl rfl) rfl ?_)
 refine wl_set 12 (v' := .bool true) rfl (congrArg Value.bool (by decide)) ?_
 refine nn_ (gw_seq (ct_ rfl (gw_skip (nx_then (gw_seq (gw_block (sr_ ?_)))))))
 refine wl_ov (ov_index (j := 1) es258 rfl rfl (by decide)) rfl ?_
 refine wl_ov (ov_load (v := .slice A2 n2 c2) sc48 rfl (fun _ hm => (hm.fact 0 rfl).2) rfl) rfl ?_
 refine sg_ rfl (nn_ (sr_ (mv_ rfl (mv_ rfl (wl_ov (ov_len es48 rfl) rfl (ad_ rfl rfl (sg_ rfl (nn_ (sr_ ?_)))))))))
 refine mv_ rfl (wl_ov (ov_lss rfl rfl) rfl ?_)
 refine wl_set 20 (v' := .bool false) rfl (congrArg Value.bool (decide_eq_false (by omega))) ?_
 refine nn_ (cf_ rfl (gw_skip (nx_blk_nrm (nx_then (gw_region (ad_ rfl rfl ?_))))))
 refine wl_set 22 (v' := .int .i64 2) rfl rfl ?_
 refine mv_ rfl (wl_nil ?_)
 refine nx_next ?_
 refine gr_next ?_
 refine sr_ (wl_ov (ov_lss rfl rfl) rfl ?_)
 refine wl_set 12 (v' := .bool false) rfl (congrArg Value.bool (by decide)) ?_
 refine nn_ (gw_seq (cf_ rfl ?_))
 refine gw_exit ?_
 refine nx_then_exit (nx_then_exit ?_)
 refine nx_blk_here ?_
 refine nx_then (sr_ (mv_ rfl ?_))
 refine wl_callgo (γ := Option Addr × Nat) (val := (fun g => .slice g.1 0 g.2)) (φ := (fun g => True)) (fun g => ⟨.slice g.1 0 g.2, 92, 5, 0, []⟩) rfl cb195 rfl rfl (fun wx hm => (by have h := growEv_any (n1 + n2) wx (by omega); rw [show (((n1 + n2 : Nat)) : Int) = (0 + ((n1 : Nat) : Int)) + ((n2 : Nat) : Int) by omega] at h; exact h.mono fun _ _ ⟨A, c, he, ho, hg⟩ => ⟨(A, c), he, trivial, ho, hg⟩)) ?_
 rintro ⟨A, c⟩ hphi
 dsimp only at hphi ⊢
 refine sg_ rfl (nn_ (gw_seq (sr_ (mv_ rfl (wl_ov (ov_len es258 rfl) rfl ?_)))))
 refine wl_set 26 (v' := .int .i64 2) rfl rfl ?_
 refine mv_ rfl (nn_ (gw_block ?_))
 refine gw_rounds 3 ?_
 refine gr_next ?_
 refine sr_ (wl_ov (ov_lss rfl rfl) rfl ?_)
 refine wl_set 28 (v' := .bool true) rfl (congrArg Value.bool (by decide)) ?_
 refine nn_ (gw_seq (ct_ rfl (gw_skip (nx_then (gw_seq (gw_block (sr_ ?_)))))))
 refine wl_ov (ov_index (j := 0) es258 rfl rfl (by decide)) rfl ?_
 refine wl_ov (ov_load (v := .slice A1 n1 c1) sc48 rfl (fun _ hm => (hm.fact 0 rfl).2) rfl) rfl ?_
 refine sg_ rfl (nn_ (gw_region (mv_ rfl (mv_ rfl ?_))))
 refine wl_appendS (l := l1) 0 ap48 rfl rfl rfl (fun wx hm => (show SlOld evEnc 5 92 w.heap.size none A1 n1 l1 wx from (hm.fact 1 rfl)).1) (shape_nil hs1) ev_len ev_one (by omega) (by unfold maxLen; omega) rfl rfl fun v1 => ?_
 refine sg_ rfl (wl_nil (nx_blk_nrm (nx_then (gw_region (ad_ rfl rfl ?_)))))
 refine wl_set 34 (v' := .int .i64 1) rfl rfl ?_
 refine mv_ rfl (wl_nil ?_)
 refine nx_next ?_
 refine gr_next ?_
 refine sr_ (wl_ov (ov_lss rfl rfl) rfl ?_)
 refine wl_set 28 (v' := .bool true) rfl (congrArg Value.bool (by decide)) ?_
 refine nn_ (gw_seq (ct_ rfl (gw_skip (nx_then (gw_seq (gw_block (sr_ ?_)))))))
 refine wl_ov (ov_index (j := 1) es258 rfl rfl (by decide)) rfl ?_
 refine wl_ov (ov_load (v := .slice A2 n2 c2) sc48 rfl (fun _ hm => (hm.fact 0 rfl).2) rfl) rfl ?_
 refine sg_ rfl (nn_ (gw_region (mv_ rfl (mv_ rfl ?_))))
 refine wl_appendS (l := l2) 0 ap48 rfl rfl rfl (fun wx hm => (show SlOld evEnc 5 92 w.heap.size none A2 n2 l2 wx from (hm.fact 2 rfl)).1) (shape_nil hs2) ev_len ev_one (by omega) (by unfold maxLen; omega) rfl rfl fun v2 => ?_
 refine sg_ rfl (wl_nil (nx_blk_nrm (nx_then (gw_region (ad_ rfl rfl ?_)))))
 refine wl_set 34 (v' := .int .i64 2) rfl rfl ?_
 refine mv_ rfl (wl_nil ?_)
 refine nx_next ?_
 refine gr_next ?_
 refine sr_ (wl_ov (ov_lss rfl rfl) rfl ?_)
 refine wl_set 28 (v' := .bool false) rfl (congrArg Value.bool (by decide)) ?_
 refine nn_ (gw_seq (cf_ rfl ?_))
 refine gw_exit ?_
 refine nx_then_exit (nx_then_exit ?_)
 refine nx_blk_here ?_
 refine nx_then (sr_ (mv_ rfl (sg_ rfl (nn_ ?_))))
 refine gw_ret ?_
 refine nx_look (R := ∃ A cc, v2 = .slice A (0 + n1 + n2) cc) (fun wx hm => own_slice (hm.ownI 0 rfl)) ?_
 rintro ⟨A5, c5, rfl⟩
 have hxs : [] ++ l1.flatMap evEnc ++ l2.flatMap evEnc = (l1 ++ l2).flatMap evEnc := by simp
 rw [hxs]
 refine nx_ret1 rfl rfl fun wx hm => ?_
 exact ⟨A5, 0 + n1 + n2, c5, rfl, hm.ownI 0 rfl, by omega, hm.g⟩
def evLt (x y : Ev) : Bool := decide (evOrd x y < 0)
theorem ins_bt  (l0 : List Ev) (br n cap base : Nat) (w : World) (h : w.ownsRow base 92 5 (.slice (some ⟨br, 0, none⟩) n cap) n (l0.flatMap evEnc)) (hl0 : l0.length = n) (hn : n ≤ 1000000)  :
  Calls Tryz.prog 250 #[.slice (some ⟨br, 0, none⟩) n cap, .int .i64 0, .int .i64 ((n : Nat) : Int), .func (.func 135) #[] #[]] w (fun e w' => e = .returned (.tuple #[]) ∧ w'.ownsRow base 92 5 (.slice (some ⟨br, 0, none⟩) n cap) n ((isort (evLt) l0).flatMap evEnc) ∧ w.grownBy w' (some br)) := by
 obtain ⟨R, hR⟩ : ∃ z, z = isort (evLt) l0 := ⟨_, rfl⟩
 rw [← hR]
 refine gw_enter ⟨53, w, (some br), []⟩ Tryz.func250 rfl Tryz.ntmps250 rfl (memR (X := []) h allF_nil allL_nil) ?_
 refine sr_ (mv_ rfl (ad_ rfl rfl ?_))
 refine wl_set 11 (v' := .int .i64 1) rfl rfl ?_
 refine sg_ rfl (nn_ (gw_block ?_))
 refine gw_loop (γ := Nat × List Ev) (fun gg => (1 ≤ gg.1 ∧ gg.1 ≤ n + 1) ∧ gg.2.length = n ∧ isortF (evLt) (n - gg.1) gg.1 gg.2 = R) (fun gg => [(0, .slice (some ⟨br, 0, none⟩) n cap), (1, .int .i64 0), (2, .int .i64 ((n : Nat) : Int)), (3, .func (.func 135) #[] #[]), (8, .int .i64 ((gg.1 : Nat) : Int))]) (fun gg => RowK base 92 5 n cap br ((gg.2).flatMap evEnc)) (fun gg => []) (fun gg => []) (fun gg => []) (fun gg => n + 1 - gg.1) (1, l0) ⟨⟨Nat.le_refl _, by omega⟩, hl0, by rw [hR]; unfold isort; rw [hl0]⟩ ⟨rfl, rfl, rfl, rfl, (some_int (by omega)), trivial⟩ (fun _ hm => hm.pick [] [] [] rfl rfl) ?_
 rintro ⟨i, l⟩ hinv
 replace hinv : (1 ≤ i ∧ i ≤ n + 1) ∧ l.length = n ∧ isortF (evLt) (n - i) i l = R := hinv
 dsimp only
 refine gw_seq (sr_ ?_)
 obtain ⟨⟨hi1, hi2⟩, hl1, hR1⟩ := hinv
 refine mv_ rfl (mv_ rfl (wl_ov (ov_lss rfl rfl) rfl (nn_ ?_)))
 refine gw_cond rfl (fun hh => ?_) (fun hh => ?_)
 ·have hi : ((i : Nat) : Int) < ((n : Nat) : Int) := by simpa using hh
  clear hh
  refine gw_skip (nx_then (gw_seq (gw_block (sr_ ?_))))
  have hRi : isortF (evLt) (n - (i + 1)) (i + 1) (sink (evLt) i l) = R := by rw [← hR1, show n - i = (n - (i + 1)) + 1 by omega]; rfl
  obtain ⟨S, hS⟩ : ∃ z, z = sink (evLt) i l := ⟨_, rfl⟩
  rw [← hS] at hRi
  have hSl : S.length = n := by rw [hS, sink_len]; exact hl1
  refine mv_ rfl (sg_ rfl (nn_ (gw_block ?_)))
  refine gw_loop (γ := Nat × List Ev) (fun gg => (gg.1 ≤ i) ∧ gg.2.length = n ∧ sink (evLt) gg.1 gg.2 = S) (fun gg => [(0, .slice (some ⟨br, 0, none⟩) n cap), (1, .int .i64 0), (2, .int .i64 ((n : Nat) : Int)), (3, .func (.func 135) #[] #[]), (8, .int .i64 ((i : Nat) : Int)), (9, .int .i64 ((gg.1 : Nat) : Int))]) (fun gg => RowK base 92 5 n cap br ((gg.2).flatMap evEnc)) (fun gg => []) (fun gg => []) (fun gg => []) (fun gg => gg.1) (i, l) ⟨Nat.le_refl _, hl1, hS.symm⟩ ⟨rfl, rfl, rfl, rfl, rfl, rfl, trivial⟩ (fun _ hm => hm.pick [] [] [] rfl rfl) ?_
  rintro ⟨jj, m⟩ hinv
  replace hinv : (jj ≤ i) ∧ m.length = n ∧ sink (evLt) jj m = S := hinv
  dsimp only
  refine gw_seq (gw_seq ?_)
  obtain ⟨hj1, hm1, hS1⟩ := hinv
  rcases jj with _ | j
  ·refine gd (fun wz => True) mixed (fun _ _ => trivial) fun z => ?_
   refine wt 0 17 1 rfl z (ov_move rfl) ?_
   refine wa_set 18 (v' := .int .i64 0) rfl rfl ?_
   refine wt 1 17 3 rfl z (ov_move rfl) ?_
   refine wt 2 17 7 rfl z (ov_gtr rfl rfl) ?_
   refine wa_set 20 (v' := .bool false) rfl (congrArg Value.bool (by decide)) ?_
   refine wt 3 17 15 rfl z (ov_move rfl) ?_
   refine wtf 4 17 31 rfl rfl rfl z ?_
   refine wtf 5 17 63 rfl rfl rfl z ?_
   refine wtf 6 17 127 rfl rfl rfl z ?_
   refine wtf 7 17 255 rfl rfl rfl z ?_
   refine wtf 8 17 511 rfl rfl rfl z ?_
   refine wtf 9 17 1023 rfl rfl rfl z ?_
   refine wtf 10 17 2047 rfl rfl rfl z ?_
   refine wtf 11 17 4095 rfl rfl rfl z ?_
   refine wtf 12 17 8191 rfl rfl rfl z ?_
   refine wtf 13 17 16383 rfl rfl rfl z ?_
   refine wtf 14 17 32767 rfl rfl rfl z ?_
   refine wtf 15 17 65535 rfl rfl rfl z ?_
   refine wt 16 17 131071 rfl z (ov_pick_f rfl rfl) ?_
   refine wa_done (by kernel_rfl) ?_
   refine nx_then (cf_ rfl ?_)
   refine gw_exit ?_
   refine nx_then_exit (nx_then_exit ?_)
   refine nx_blk_here ?_
   refine nx_blk_nrm (nx_then (gw_region (mv_ rfl (ad_ rfl rfl (sg_ rfl (wl_nil ?_))))))
   have hm2 : m = S := hS1
   exact nx_round (i + 1, m) ⟨⟨by dsimp only; omega, by dsimp only; omega⟩, by rw [hm2]; exact hSl, by rw [hm2]; exact hRi⟩ (by dsimp only; omega) ⟨rfl, rfl, rfl, rfl, (some_int (by omega)), trivial⟩ (fun _ hm => hm.pick [] [] [] rfl rfl)
  have hj2 : j + 1 < n := by omega
  obtain ⟨xx, hx⟩ : ∃ x, m[j + 1]? = some x := ⟨_, List.getElem?_eq_getElem (by omega)⟩
  obtain ⟨x0, x1, x2, x3, x4⟩ := xx
  obtain ⟨yy, hy⟩ : ∃ x, m[j]? = some x := ⟨_, List.getElem?_eq_getElem (by omega)⟩
  obtain ⟨y0, y1, y2, y3, y4⟩ := yy
  refine gd (fun wz => (RowK base 92 5 n cap br ((m).flatMap evEnc)) wz ∧ True) mixed (fun _ hm => ⟨hm.k, trivial⟩) fun z => ?_
  refine wt 0 17 1 rfl z (ov_move rfl) ?_
  refine wt 1 17 3 rfl z (ov_move rfl) ?_
  refine wt 2 17 7 rfl z (ov_gtr rfl rfl) ?_
  refine wa_set 20 (v' := .bool true) rfl (congrArg Value.bool (decide_eq_true (by omega))) ?_
  refine wt 3 17 15 rfl z (ov_move rfl) ?_
  refine wto 4 17 31 rfl rfl rfl z (ov_move rfl) ?_
  refine wto 5 17 63 rfl rfl rfl z (ov_move rfl) ?_
  refine wto 6 17 127 rfl rfl rfl z (ov_move rfl) ?_
  refine wto 7 17 255 rfl rfl rfl z (ov_index (j := (j + 1)) es48 rfl rfl (by omega)) ?_
  refine wto 8 17 511 rfl rfl rfl z (ov_elem (vs := [.int .i64 x0, .string x1, .string x2, .int .i64 x3, .string x4]) rz92 rfl (fun _ hm => (RowK.get (hm.1) ev_len hm1)) hx rfl rfl) ?_
  refine wto 9 17 1023 rfl rfl rfl z (ov_move rfl) ?_
  refine wto 10 17 2047 rfl rfl rfl z (ov_move rfl) ?_
  refine wto 11 17 4095 rfl rfl rfl z (ov_sub rfl rfl (by omega) (by omega)) ?_
  refine wa_set 29 (v' := .int .i64 ((j : Nat) : Int)) rfl (congrArg (Value.int .i64) (by omega)) ?_
  refine wto 12 17 8191 rfl rfl rfl z (ov_index (j := j) es48 rfl rfl (by omega)) ?_
  refine wto 13 17 16383 rfl rfl rfl z (ov_elem (vs := [.int .i64 y0, .string y1, .string y2, .int .i64 y3, .string y4]) rz92 rfl (fun _ hm => (RowK.get (hm.1) ev_len hm1)) hy rfl rfl) ?_
  refine wa1 14 rfl ?_
  refine wl_guard_on rfl rfl rfl ?_
  refine wl_callv (v := .int .i64 (evOrd ⟨x0, x1, x2, x3, x4⟩ ⟨y0, y1, y2, y3, y4⟩)) rfl cb135 rfl rfl (fun wx hm => (byTime_any x0 x1 x2 x3 x4 y0 y1 y2 y3 y4 wx)) ?_
  refine wl_nil ?_
  refine nw 17 32767 (fun _ hm => ⟨hm.k, trivial⟩) fun z => ?_
  refine wto 15 17 65535 rfl rfl rfl z (ov_lss rfl rfl) ?_
  refine wt 16 17 131071 rfl z (ov_pick_t rfl rfl) ?_
  refine wa_done (by kernel_rfl) ?_
  refine nx_then ?_
  refine gw_cond rfl (fun hh => ?_) (fun hh => ?_)
  ·have hlt : evOrd ⟨x0, x1, x2, x3, x4⟩ ⟨y0, y1, y2, y3, y4⟩ < 0 := by simpa using hh
   clear hh
   refine gw_skip (nx_then (gw_seq (gw_block ?_)))
   have hlt2 : (evLt) ⟨x0, x1, x2, x3, x4⟩ ⟨y0, y1, y2, y3, y4⟩ = true := decide_eq_true (show evOrd ⟨x0, x1, x2, x3, x4⟩ ⟨y0, y1, y2, y3, y4⟩ < 0 from hlt)
   have hS2 := (sink_yes hx hy hlt2).symm.trans hS1
   refine gd (fun wz => True) mixed (fun _ _ => trivial) fun z => ?_
   refine wt 0 18 1 rfl z (ov_move rfl) ?_
   refine wt 1 18 3 rfl z (ov_move rfl) ?_
   refine wt 2 18 7 rfl z (ov_move rfl) ?_
   refine wt 3 18 15 rfl z (ov_move rfl) ?_
   refine wt 4 18 31 rfl z (ov_sub rfl rfl (by omega) (by omega)) ?_
   refine wa_set 41 (v' := .int .i64 ((j : Nat) : Int)) rfl (congrArg (Value.int .i64) (by omega)) ?_
   refine wt 5 18 63 rfl z (ov_move rfl) ?_
   refine wt 6 18 127 rfl z (ov_move rfl) ?_
   refine wt 7 18 255 rfl z (ov_sub rfl rfl (by omega) (by omega)) ?_
   refine wa_set 44 (v' := .int .i64 ((j : Nat) : Int)) rfl (congrArg (Value.int .i64) (by omega)) ?_
   refine wt 8 18 511 rfl z (ov_index (j := j) es48 rfl rfl (by omega)) ?_
   refine wt 10 18 1535 rfl z (ov_move rfl) ?_
   refine wt 11 18 3583 rfl z (ov_move rfl) ?_
   refine wt 12 18 7679 rfl z (ov_index (j := (j + 1)) es48 rfl rfl (by omega)) ?_
   refine wa_all [9, 13] (by kernel_rfl) rfl ⟨⟨_, rfl, ?_⟩, ⟨_, rfl, ?_⟩, trivial⟩
   ·refine wl_ov (ov_elem (vs := [.int .i64 y0, .string y1, .string y2, .int .i64 y3, .string y4]) rz92 rfl (fun _ hm => (RowK.get hm.k ev_len hm1)) hy rfl rfl) rfl ?_
    refine wl_nil ?_
    refine nw 18 8191 (fun _ _ => trivial) fun z => ?_
    refine wa1 13 rfl ?_
    refine wl_ov (ov_elem (vs := [.int .i64 x0, .string x1, .string x2, .int .i64 x3, .string x4]) rz92 rfl (fun _ hm => (RowK.get hm.k ev_len hm1)) hx rfl rfl) rfl ?_
    refine wl_nil ?_
    refine nw 18 16383 (fun _ _ => trivial) fun z => ?_
    refine wt 14 18 32767 rfl z (ov_index (j := (j + 1)) es48 rfl rfl (by omega)) ?_
    refine wa1 15 rfl ?_
    refine wl_storesRow (l := m) (j := j + 1) (r := 0) (el := ⟨x0, x1, x2, x3, x4⟩) (el' := ⟨y0, y1, y2, y3, y4⟩) rfl rz92 rfl rfl rfl rfl ev_len rfl hx hm1 (by decide) rfl rfl ?_
    refine wl_nil ?_
    refine nw 18 65535 (fun _ _ => trivial) fun z => ?_
    refine wt 16 18 131071 rfl z (ov_index (j := j) es48 rfl rfl (by omega)) ?_
    refine wa1 17 rfl ?_
    refine wl_storesRow (l := m.set (j + 1) ⟨y0, y1, y2, y3, y4⟩) (j := j) (r := 0) (el := ⟨y0, y1, y2, y3, y4⟩) (el' := ⟨x0, x1, x2, x3, x4⟩) rfl rz92 rfl rfl rfl rfl ev_len rfl (by rw [List.getElem?_set_ne (by omega)]; exact hy) (by rw [List.length_set]; exact hm1) (by decide) rfl rfl ?_
    refine wl_nil ?_
    refine nw 18 262143 (fun _ _ => trivial) fun z => ?_
    refine wa_done (by kernel_rfl) ?_
    refine nx_blk_nrm (nx_then (gw_region (mv_ rfl ?_)))
    refine wl_ov (ov_sub rfl rfl (by omega) (by omega)) rfl ?_
    refine wl_set 36 (v' := .int .i64 ((j : Nat) : Int)) rfl (congrArg (Value.int .i64) (by omega)) ?_
    refine sg_ rfl (wl_nil ?_)
    exact nx_round (j, (m.set (j + 1) ⟨y0, y1, y2, y3, y4⟩).set j ⟨x0, x1, x2, x3, x4⟩) ⟨by dsimp only; omega, by simp [hm1], hS2⟩ (by dsimp only; omega) ⟨rfl, rfl, rfl, rfl, rfl, (some_int (by omega)), trivial⟩ (fun _ hm => hm.pick [] [] [] rfl rfl)
   refine wl_ov (ov_elem (vs := [.int .i64 x0, .string x1, .string x2, .int .i64 x3, .string x4]) rz92 rfl (fun _ hm => (RowK.get hm.k ev_len hm1)) hx rfl rfl) rfl ?_
   refine wl_nil ?_
   refine nw 18 15871 (fun _ _ => trivial) fun z => ?_
   refine wa1 9 rfl ?_
   refine wl_ov (ov_elem (vs := [.int .i64 y0, .string y1, .string y2, .int .i64 y3, .string y4]) rz92 rfl (fun _ hm => (RowK.get hm.k ev_len hm1)) hy rfl rfl) rfl ?_
   refine wl_nil ?_
   refine nw 18 16383 (fun _ _ => trivial) fun z => ?_
   refine wt 14 18 32767 rfl z (ov_index (j := (j + 1)) es48 rfl rfl (by omega)) ?_
   refine wa1 15 rfl ?_
   refine wl_storesRow (l := m) (j := j + 1) (r := 0) (el := ⟨x0, x1, x2, x3, x4⟩) (el' := ⟨y0, y1, y2, y3, y4⟩) rfl rz92 rfl rfl rfl rfl ev_len rfl hx hm1 (by decide) rfl rfl ?_
   refine wl_nil ?_
   refine nw 18 65535 (fun _ _ => trivial) fun z => ?_
   refine wt 16 18 131071 rfl z (ov_index (j := j) es48 rfl rfl (by omega)) ?_
   refine wa1 17 rfl ?_
   refine wl_storesRow (l := m.set (j + 1) ⟨y0, y1, y2, y3, y4⟩) (j := j) (r := 0) (el := ⟨y0, y1, y2, y3, y4⟩) (el' := ⟨x0, x1, x2, x3, x4⟩) rfl rz92 rfl rfl rfl rfl ev_len rfl (by rw [List.getElem?_set_ne (by omega)]; exact hy) (by rw [List.length_set]; exact hm1) (by decide) rfl rfl ?_
   refine wl_nil ?_
   refine nw 18 262143 (fun _ _ => trivial) fun z => ?_
   refine wa_done (by kernel_rfl) ?_
   refine nx_blk_nrm (nx_then (gw_region (mv_ rfl ?_)))
   refine wl_ov (ov_sub rfl rfl (by omega) (by omega)) rfl ?_
   refine wl_set 36 (v' := .int .i64 ((j : Nat) : Int)) rfl (congrArg (Value.int .i64) (by omega)) ?_
   refine sg_ rfl (wl_nil ?_)
   exact nx_round (j, (m.set (j + 1) ⟨y0, y1, y2, y3, y4⟩).set j ⟨x0, x1, x2, x3, x4⟩) ⟨by dsimp only; omega, by simp [hm1], hS2⟩ (by dsimp only; omega) ⟨rfl, rfl, rfl, rfl, rfl, (some_int (by omega)), trivial⟩ (fun _ hm => hm.pick [] [] [] rfl rfl)
  have hlt : ¬ (evOrd ⟨x0, x1, x2, x3, x4⟩ ⟨y0, y1, y2, y3, y4⟩ < 0) := by simpa using hh
  clear hh
  refine gw_exit ?_
  refine nx_then_exit (nx_then_exit ?_)
  refine nx_blk_here ?_
  refine nx_blk_nrm (nx_then (gw_region ?_))
  have hlt2 : (evLt) ⟨x0, x1, x2, x3, x4⟩ ⟨y0, y1, y2, y3, y4⟩ = false := decide_eq_false (show ¬ evOrd ⟨x0, x1, x2, x3, x4⟩ ⟨y0, y1, y2, y3, y4⟩ < 0 from hlt)
  have hS2 := (sink_no hx hy hlt2).symm.trans hS1
  refine mv_ rfl (ad_ rfl rfl (sg_ rfl (wl_nil ?_)))
  have hm2 : m = S := hS2
  exact nx_round (i + 1, m) ⟨⟨by dsimp only; omega, by dsimp only; omega⟩, by rw [hm2]; exact hSl, by rw [hm2]; exact hRi⟩ (by dsimp only; omega) ⟨rfl, rfl, rfl, rfl, (some_int (by omega)), trivial⟩ (fun _ hm => hm.pick [] [] [] rfl rfl)
 have hi : ¬ (((i : Nat) : Int) < ((n : Nat) : Int)) := by simpa using hh
 clear hh
 refine gw_exit ?_
 refine nx_then_exit (nx_then_exit ?_)
 refine nx_blk_here ?_
 obtain rfl : l = R := by rw [← hR1, show n - i = 0 by omega]; rfl
 refine nx_ret0 rfl fun wx hm => ?_
 exact ⟨rfl, fin_row hm.k hm.g⟩
theorem stb_bt (l0 : List Ev) (br n cap base : Nat) (w : World) (h : w.ownsRow base 92 5 (.slice (some ⟨br, 0, none⟩) n cap) n (l0.flatMap evEnc)) (hl0 : l0.length = n) (hn : n ≤ 19)  :
  Calls Tryz.prog 196 #[.slice (some ⟨br, 0, none⟩) n cap, .int .i64 ((n : Nat) : Int), .func (.func 135) #[] #[]] w (fun e w' => e = .returned (.tuple #[]) ∧ w'.ownsRow base 92 5 (.slice (some ⟨br, 0, none⟩) n cap) n ((isort evLt l0).flatMap evEnc) ∧ w.grownBy w' (some br)) := by
 refine gw_enter ⟨63, w, (some br), []⟩ Tryz.func196 rfl Tryz.ntmps196 rfl (memR (X := []) h allF_nil allL_nil) ?_
 refine sr_ (sg_ rfl (nn_ (sr_ (mv_ rfl (sg_ rfl (sg_ rfl (nn_ (gw_seq (gw_block ?_)))))))))
 refine gw_rounds 1 ?_
 refine gr_next ?_
 refine gw_seq (sr_ (mv_ rfl (mv_ rfl (wl_ov (ov_leq rfl rfl) rfl ?_))))
 refine wl_set 13 (v' := .bool false) rfl (congrArg Value.bool (decide_eq_false (by omega))) ?_
 refine nn_ (cf_ rfl ?_)
 refine gw_exit ?_
 refine nx_then_exit (nx_then_exit ?_)
 refine nx_blk_here ?_
 refine nx_then (sr_ (mv_ rfl (mv_ rfl (mv_ rfl (mv_ rfl ?_)))))
 refine wl_callK rfl rfl rfl cb250 rfl rfl (fun wx hm => (ins_bt l0 br n cap base wx hm.k hl0 (by omega) )) ?_
 refine nn_ (gw_block ?_)
 refine gw_rounds 1 ?_
 refine gr_next ?_
 refine gw_seq (sr_ (mv_ rfl (mv_ rfl (wl_ov (ov_lss rfl rfl) rfl ?_))))
 refine wl_set 30 (v' := .bool false) rfl (congrArg Value.bool (decide_eq_false (by omega))) ?_
 refine nn_ (cf_ rfl ?_)
 refine gw_exit ?_
 refine nx_then_exit (nx_then_exit ?_)
 refine nx_blk_here ?_
 refine nx_ret0 rfl fun wx hm => ?_
 exact ⟨rfl, fin_row hm.k hm.g⟩
set_option maxRecDepth 100000 in
set_option maxHeartbeats 400000 in
theorem stable_bt (l0 : List Ev) (br n cap base : Nat) (w : World) (h : w.ownsRow base 92 5 (.slice (some ⟨br, 0, none⟩) n cap) n (l0.flatMap evEnc)) (hl0 : l0.length = n) (hn : n ≤ 19)  :
    Calls Tryz.prog 134 #[.slice (some ⟨br, 0, none⟩) n cap, .func (.func 135) #[] #[]] w (fun e w' => e = .returned (.tuple #[]) ∧ w'.ownsRow base 92 5 (.slice (some ⟨br, 0, none⟩) n cap) n ((isort evLt l0).flatMap evEnc) ∧ w.grownBy w' (some br)) := by
  refine gw_enter ⟨9, w, (some br), []⟩ Tryz.func134 rfl Tryz.ntmps134 rfl (memR (X := []) h allF_nil allL_nil) ?_
  refine gw_region ?_
  refine wl_ov (ov_move rfl) rfl ?_
  refine wl_ov (ov_move rfl) rfl ?_
  refine wl_ov (ov_len es48 rfl) rfl ?_
  refine wl_ov (ov_move rfl) rfl ?_
  refine wl_callK rfl rfl rfl cb196 rfl rfl (fun wx hm => (stb_bt l0 br n cap base wx hm.k hl0 hn )) ?_
  refine wl_nil ?_
  refine nx_ret0 rfl fun wx hm => ?_
  exact ⟨rfl, fin_row hm.k hm.g⟩
theorem ins0_bt (A : Option Addr) (cap : Nat) (w : World) : Calls Tryz.prog 250 #[.slice A 0 cap, .int .i64 0, .int .i64 0, .func (.func 135) #[] #[]] w (fun e w' => e = .returned (.tuple #[]) ∧ w.grownBy w' none) := by
 refine gw_enter ⟨53, w, none, []⟩ Tryz.func250 rfl Tryz.ntmps250 rfl (mem0 (X := []) allF_nil allL_nil) ?_
 refine sr_ (mv_ rfl (ad_ rfl rfl ?_))
 refine wl_set 11 (v' := .int .i64 1) rfl rfl ?_
 refine sg_ rfl (nn_ (gw_block ?_))
 refine gw_rounds 1 ?_
 refine gr_next ?_
 refine gw_seq (sr_ (mv_ rfl (mv_ rfl (wl_ov (ov_lss rfl rfl) rfl ?_))))
 refine wl_set 14 (v' := .bool false) rfl (congrArg Value.bool (by decide)) ?_
 refine nn_ (cf_ rfl ?_)
 refine gw_exit ?_
 refine nx_then_exit (nx_then_exit ?_)
 refine nx_blk_here ?_
 refine nx_ret0 rfl fun wx hm => ?_
 exact ⟨rfl, hm.g⟩
theorem stb0_bt (A : Option Addr) (cap : Nat) (w : World) : Calls Tryz.prog 196 #[.slice A 0 cap, .int .i64 0, .func (.func 135) #[] #[]] w (fun e w' => e = .returned (.tuple #[]) ∧ w.grownBy w' none) := by
 refine gw_enter ⟨63, w, none, []⟩ Tryz.func196 rfl Tryz.ntmps196 rfl (mem0 (X := []) allF_nil allL_nil) ?_
 refine sr_ (sg_ rfl (nn_ (sr_ (mv_ rfl (sg_ rfl (sg_ rfl (nn_ (gw_seq (gw_block ?_)))))))))
 refine gw_rounds 1 ?_
 refine gr_next ?_
 refine gw_seq (sr_ (mv_ rfl (mv_ rfl (wl_ov (ov_leq rfl rfl) rfl ?_))))
 refine wl_set 13 (v' := .bool false) rfl (congrArg Value.bool (by decide)) ?_
 refine nn_ (cf_ rfl ?_)
 refine gw_exit ?_
 refine nx_then_exit (nx_then_exit ?_)
 refine nx_blk_here ?_
 refine nx_then (sr_ (mv_ rfl (mv_ rfl (mv_ rfl (mv_ rfl ?_)))))
 refine wl_callv rfl cb250 rfl rfl (fun wx hm => (ins0_bt A cap wx)) ?_
 refine nn_ (gw_block ?_)
 refine gw_rounds 1 ?_
 refine gr_next ?_
 refine gw_seq (sr_ (mv_ rfl (mv_ rfl (wl_ov (ov_lss rfl rfl) rfl ?_))))
 refine wl_set 30 (v' := .bool false) rfl (congrArg Value.bool (by decide)) ?_
 refine nn_ (cf_ rfl ?_)
 refine gw_exit ?_
 refine nx_then_exit (nx_then_exit ?_)
 refine nx_blk_here ?_
 refine nx_ret0 rfl fun wx hm => ?_
 exact ⟨rfl, hm.g⟩
set_option maxRecDepth 100000 in
set_option maxHeartbeats 400000 in
theorem stable0_bt (A : Option Addr) (cap : Nat) (w : World) : Calls Tryz.prog 134 #[.slice A 0 cap, .func (.func 135) #[] #[]] w (fun e w' => e = .returned (.tuple #[]) ∧ w.grownBy w' none) := by
  refine gw_enter ⟨9, w, none, []⟩ Tryz.func134 rfl Tryz.ntmps134 rfl (mem0 (X := []) allF_nil allL_nil) ?_
  refine gw_region ?_
  refine wl_ov (ov_move rfl) rfl ?_
  refine wl_ov (ov_move rfl) rfl ?_
  refine wl_ov (ov_len es48 rfl) rfl ?_
  refine wl_set 6 (v' := .int .i64 0) rfl rfl ?_
  refine wl_ov (ov_move rfl) rfl ?_
  refine wl_callv rfl cb196 rfl rfl (fun wx hm => (stb0_bt A cap wx)) ?_
  refine wl_nil ?_
  refine nx_ret0 rfl fun wx hm => ?_
  exact ⟨rfl, hm.g⟩
theorem ins_eo  (l0 : List Ev) (br n cap base : Nat) (w : World) (h : w.ownsRow base 92 5 (.slice (some ⟨br, 0, none⟩) n cap) n (l0.flatMap evEnc)) (hl0 : l0.length = n) (hn : n ≤ 1000000) (hall : ∀ x ∈ l0, EvOk x) :
  Calls Tryz.prog 250 #[.slice (some ⟨br, 0, none⟩) n cap, .int .i64 0, .int .i64 ((n : Nat) : Int), .func (.func 114) #[] #[]] w (fun e w' => e = .returned (.tuple #[]) ∧ w'.ownsRow base 92 5 (.slice (some ⟨br, 0, none⟩) n cap) n ((isort (evLt) l0).flatMap evEnc) ∧ w.grownBy w' (some br)) := by
 obtain ⟨R, hR⟩ : ∃ z, z = isort (evLt) l0 := ⟨_, rfl⟩
 rw [← hR]
 refine gw_enter ⟨53, w, (some br), []⟩ Tryz.func250 rfl Tryz.ntmps250 rfl (memR (X := []) h allF_nil allL_nil) ?_
 refine sr_ (mv_ rfl (ad_ rfl rfl ?_))
 refine wl_set 11 (v' := .int .i64 1) rfl rfl ?_
 refine sg_ rfl (nn_ (gw_block ?_))
 refine gw_loop (γ := Nat × List Ev) (fun gg => (1 ≤ gg.1 ∧ gg.1 ≤ n + 1) ∧ gg.2.length = n ∧ isortF (evLt) (n - gg.1) gg.1 gg.2 = R) (fun gg => [(0, .slice (some ⟨br, 0, none⟩) n cap), (1, .int .i64 0), (2, .int .i64 ((n : Nat) : Int)), (3, .func (.func 114) #[] #[]), (8, .int .i64 ((gg.1 : Nat) : Int))]) (fun gg => RowK base 92 5 n cap br ((gg.2).flatMap evEnc)) (fun gg => []) (fun gg => []) (fun gg => []) (fun gg => n + 1 - gg.1) (1, l0) ⟨⟨Nat.le_refl _, by omega⟩, hl0, by rw [hR]; unfold isort; rw [hl0]⟩ ⟨rfl, rfl, rfl, rfl, (some_int (by omega)), trivial⟩ (fun _ hm => hm.pick [] [] [] rfl rfl) ?_
 rintro ⟨i, l⟩ hinv
 replace hinv : (1 ≤ i ∧ i ≤ n + 1) ∧ l.length = n ∧ isortF (evLt) (n - i) i l = R := hinv
 dsimp only
 refine gw_seq (sr_ ?_)
 obtain ⟨⟨hi1, hi2⟩, hl1, hR1⟩ := hinv
 refine mv_ rfl (mv_ rfl (wl_ov (ov_lss rfl rfl) rfl (nn_ ?_)))
 refine gw_cond rfl (fun hh => ?_) (fun hh => ?_)
 ·have hi : ((i : Nat) : Int) < ((n : Nat) : Int) := by simpa using hh
  clear hh
  refine gw_skip (nx_then (gw_seq (gw_block (sr_ ?_))))
  have hRi : isortF (evLt) (n - (i + 1)) (i + 1) (sink (evLt) i l) = R := by rw [← hR1, show n - i = (n - (i + 1)) + 1 by omega]; rfl
  obtain ⟨S, hS⟩ : ∃ z, z = sink (evLt) i l := ⟨_, rfl⟩
  rw [← hS] at hRi
  have hSl : S.length = n := by rw [hS, sink_len]; exact hl1
  refine mv_ rfl (sg_ rfl (nn_ (gw_block ?_)))
  refine gw_loop (γ := Nat × List Ev) (fun gg => (gg.1 ≤ i) ∧ gg.2.length = n ∧ sink (evLt) gg.1 gg.2 = S) (fun gg => [(0, .slice (some ⟨br, 0, none⟩) n cap), (1, .int .i64 0), (2, .int .i64 ((n : Nat) : Int)), (3, .func (.func 114) #[] #[]), (8, .int .i64 ((i : Nat) : Int)), (9, .int .i64 ((gg.1 : Nat) : Int))]) (fun gg => RowK base 92 5 n cap br ((gg.2).flatMap evEnc)) (fun gg => []) (fun gg => []) (fun gg => []) (fun gg => gg.1) (i, l) ⟨Nat.le_refl _, hl1, hS.symm⟩ ⟨rfl, rfl, rfl, rfl, rfl, rfl, trivial⟩ (fun _ hm => hm.pick [] [] [] rfl rfl) ?_
  rintro ⟨jj, m⟩ hinv
  replace hinv : (jj ≤ i) ∧ m.length = n ∧ sink (evLt) jj m = S := hinv
  dsimp only
  refine gw_seq (gw_seq ?_)
  obtain ⟨hj1, hm1, hS1⟩ := hinv
  rcases jj with _ | j
  ·refine gd (fun wz => True) mixed (fun _ _ => trivial) fun z => ?_
   refine wt 0 17 1 rfl z (ov_move rfl) ?_
   refine wa_set 18 (v' := .int .i64 0) rfl rfl ?_
   refine wt 1 17 3 rfl z (ov_move rfl) ?_
   refine wt 2 17 7 rfl z (ov_gtr rfl rfl) ?_
   refine wa_set 20 (v' := .bool false) rfl (congrArg Value.bool (by decide)) ?_
   refine wt 3 17 15 rfl z (ov_move rfl) ?_
   refine wtf 4 17 31 rfl rfl rfl z ?_
   refine wtf 5 17 63 rfl rfl rfl z ?_
   refine wtf 6 17 127 rfl rfl rfl z ?_
   refine wtf 7 17 255 rfl rfl rfl z ?_
   refine wtf 8 17 511 rfl rfl rfl z ?_
   refine wtf 9 17 1023 rfl rfl rfl z ?_
   refine wtf 10 17 2047 rfl rfl rfl z ?_
   refine wtf 11 17 4095 rfl rfl rfl z ?_
   refine wtf 12 17 8191 rfl rfl rfl z ?_
   refine wtf 13 17 16383 rfl rfl rfl z ?_
   refine wtf 14 17 32767 rfl rfl rfl z ?_
   refine wtf 15 17 65535 rfl rfl rfl z ?_
   refine wt 16 17 131071 rfl z (ov_pick_f rfl rfl) ?_
   refine wa_done (by kernel_rfl) ?_
   refine nx_then (cf_ rfl ?_)
   refine gw_exit ?_
   refine nx_then_exit (nx_then_exit ?_)
   refine nx_blk_here ?_
   refine nx_blk_nrm (nx_then (gw_region (mv_ rfl (ad_ rfl rfl (sg_ rfl (wl_nil ?_))))))
   have hm2 : m = S := hS1
   exact nx_round (i + 1, m) ⟨⟨by dsimp only; omega, by dsimp only; omega⟩, by rw [hm2]; exact hSl, by rw [hm2]; exact hRi⟩ (by dsimp only; omega) ⟨rfl, rfl, rfl, rfl, (some_int (by omega)), trivial⟩ (fun _ hm => hm.pick [] [] [] rfl rfl)
  have hj2 : j + 1 < n := by omega
  have hin : ∀ z ∈ m, z ∈ l0 := fun z hz => mem_in hR hRi hS1 hz
  obtain ⟨xx, hx⟩ : ∃ x, m[j + 1]? = some x := ⟨_, List.getElem?_eq_getElem (by omega)⟩
  obtain ⟨x0, x1, x2, x3, x4⟩ := xx
  obtain ⟨yy, hy⟩ : ∃ x, m[j]? = some x := ⟨_, List.getElem?_eq_getElem (by omega)⟩
  obtain ⟨y0, y1, y2, y3, y4⟩ := yy
  refine gd (fun wz => (RowK base 92 5 n cap br ((m).flatMap evEnc)) wz ∧ True) mixed (fun _ hm => ⟨hm.k, trivial⟩) fun z => ?_
  refine wt 0 17 1 rfl z (ov_move rfl) ?_
  refine wt 1 17 3 rfl z (ov_move rfl) ?_
  refine wt 2 17 7 rfl z (ov_gtr rfl rfl) ?_
  refine wa_set 20 (v' := .bool true) rfl (congrArg Value.bool (decide_eq_true (by omega))) ?_
  refine wt 3 17 15 rfl z (ov_move rfl) ?_
  refine wto 4 17 31 rfl rfl rfl z (ov_move rfl) ?_
  refine wto 5 17 63 rfl rfl rfl z (ov_move rfl) ?_
  refine wto 6 17 127 rfl rfl rfl z (ov_move rfl) ?_
  refine wto 7 17 255 rfl rfl rfl z (ov_index (j := (j + 1)) es48 rfl rfl (by omega)) ?_
  refine wto 8 17 511 rfl rfl rfl z (ov_elem (vs := [.int .i64 x0, .string x1, .string x2, .int .i64 x3, .string x4]) rz92 rfl (fun _ hm => (RowK.get (hm.1) ev_len hm1)) hx rfl rfl) ?_
  refine wto 9 17 1023 rfl rfl rfl z (ov_move rfl) ?_
  refine wto 10 17 2047 rfl rfl rfl z (ov_move rfl) ?_
  refine wto 11 17 4095 rfl rfl rfl z (ov_sub rfl rfl (by omega) (by omega)) ?_
  refine wa_set 29 (v' := .int .i64 ((j : Nat) : Int)) rfl (congrArg (Value.int .i64) (by omega)) ?_
  refine wto 12 17 8191 rfl rfl rfl z (ov_index (j := j) es48 rfl rfl (by omega)) ?_
  refine wto 13 17 16383 rfl rfl rfl z (ov_elem (vs := [.int .i64 y0, .string y1, .string y2, .int .i64 y3, .string y4]) rz92 rfl (fun _ hm => (RowK.get (hm.1) ev_len hm1)) hy rfl rfl) ?_
  refine wa1 14 rfl ?_
  refine wl_guard_on rfl rfl rfl ?_
  refine wl_callv rfl cb114 rfl rfl (fun wx hm => (eventOrder_any x0 x1 x2 x3 x4 y0 y1 y2 y3 y4 wx (hall _ (hin _ (List.mem_of_getElem? hx))).1 (hall _ (hin _ (List.mem_of_getElem? hy))).1)) ?_
  refine wl_nil ?_
  refine nw 17 32767 (fun _ hm => ⟨hm.k, trivial⟩) fun z => ?_
  refine wto 15 17 65535 rfl rfl rfl z (ov_lss rfl rfl) ?_
  refine wt 16 17 131071 rfl z (ov_pick_t rfl rfl) ?_
  refine wa_done (by kernel_rfl) ?_
  refine nx_then ?_
  refine gw_cond rfl (fun hh => ?_) (fun hh => ?_)
  ·have hlt : evOrd ⟨x0, x1, x2, x3, x4⟩ ⟨y0, y1, y2, y3, y4⟩ < 0 := by simpa using hh
   clear hh
   refine gw_skip (nx_then (gw_seq (gw_block ?_)))
   have hlt2 : (evLt) ⟨x0, x1, x2, x3, x4⟩ ⟨y0, y1, y2, y3, y4⟩ = true := decide_eq_true (show evOrd ⟨x0, x1, x2, x3, x4⟩ ⟨y0, y1, y2, y3, y4⟩ < 0 from hlt)
   have hS2 := (sink_yes hx hy hlt2).symm.trans hS1
   refine gd (fun wz => True) mixed (fun _ _ => trivial) fun z => ?_
   refine wt 0 18 1 rfl z (ov_move rfl) ?_
   refine wt 1 18 3 rfl z (ov_move rfl) ?_
   refine wt 2 18 7 rfl z (ov_move rfl) ?_
   refine wt 3 18 15 rfl z (ov_move rfl) ?_
   refine wt 4 18 31 rfl z (ov_sub rfl rfl (by omega) (by omega)) ?_
   refine wa_set 41 (v' := .int .i64 ((j : Nat) : Int)) rfl (congrArg (Value.int .i64) (by omega)) ?_
   refine wt 5 18 63 rfl z (ov_move rfl) ?_
   refine wt 6 18 127 rfl z (ov_move rfl) ?_
   refine wt 7 18 255 rfl z (ov_sub rfl rfl (by omega) (by omega)) ?_
   refine wa_set 44 (v' := .int .i64 ((j : Nat) : Int)) rfl (congrArg (Value.int .i64) (by omega)) ?_
   refine wt 8 18 511 rfl z (ov_index (j := j) es48 rfl rfl (by omega)) ?_
   refine wt 10 18 1535 rfl z (ov_move rfl) ?_
   refine wt 11 18 3583 rfl z (ov_move rfl) ?_
   refine wt 12 18 7679 rfl z (ov_index (j := (j + 1)) es48 rfl rfl (by omega)) ?_
   refine wa_all [9, 13] (by kernel_rfl) rfl ⟨⟨_, rfl, ?_⟩, ⟨_, rfl, ?_⟩, trivial⟩
   ·refine wl_ov (ov_elem (vs := [.int .i64 y0, .string y1, .string y2, .int .i64 y3, .string y4]) rz92 rfl (fun _ hm => (RowK.get hm.k ev_len hm1)) hy rfl rfl) rfl ?_
    refine wl_nil ?_
    refine nw 18 8191 (fun _ _ => trivial) fun z => ?_
    refine wa1 13 rfl ?_
    refine wl_ov (ov_elem (vs := [.int .i64 x0, .string x1, .string x2, .int .i64 x3, .string x4]) rz92 rfl (fun _ hm => (RowK.get hm.k ev_len hm1)) hx rfl rfl) rfl ?_
    refine wl_nil ?_
    refine nw 18 16383 (fun _ _ => trivial) fun z => ?_
    refine wt 14 18 32767 rfl z (ov_index (j := (j + 1)) es48 rfl rfl (by omega)) ?_
    refine wa1 15 rfl ?_
    refine wl_storesRow (l := m) (j := j + 1) (r := 0) (el := ⟨x0, x1, x2, x3, x4⟩) (el' := ⟨y0, y1, y2, y3, y4⟩) rfl rz92 rfl rfl rfl rfl ev_len rfl hx hm1 (by decide) rfl rfl ?_
    refine wl_nil ?_
    refine nw 18 65535 (fun _ _ => trivial) fun z => ?_
    refine wt 16 18 131071 rfl z (ov_index (j := j) es48 rfl rfl (by omega)) ?_
    refine wa1 17 rfl ?_
    refine wl_storesRow (l := m.set (j + 1) ⟨y0, y1, y2, y3, y4⟩) (j := j) (r := 0) (el := ⟨y0, y1, y2, y3, y4⟩) (el' := ⟨x0, x1, x2, x3, x4⟩) rfl rz92 rfl rfl rfl rfl ev_len rfl (by rw [List.getElem?_set_ne (by omega)]; exact hy) (by rw [List.length_set]; exact hm1) (by decide) rfl rfl ?_
    refine wl_nil ?_
    refine nw 18 262143 (fun _ _ => trivial) fun z => ?_
    refine wa_done (by kernel_rfl) ?_
    refine nx_blk_nrm (nx_then (gw_region (mv_ rfl ?_)))
    refine wl_ov (ov_sub rfl rfl (by omega) (by omega)) rfl ?_
    refine wl_set 36 (v' := .int .i64 ((j : Nat) : Int)) rfl (congrArg (Value.int .i64) (by omega)) ?_
    refine sg_ rfl (wl_nil ?_)
    exact nx_round (j, (m.set (j + 1) ⟨y0, y1, y2, y3, y4⟩).set j ⟨x0, x1, x2, x3, x4⟩) ⟨by dsimp only; omega, by simp [hm1], hS2⟩ (by dsimp only; omega) ⟨rfl, rfl, rfl, rfl, rfl, (some_int (by omega)), trivial⟩ (fun _ hm => hm.pick [] [] [] rfl rfl)
   refine wl_ov (ov_elem (vs := [.int .i64 x0, .string x1, .string x2, .int .i64 x3, .string x4]) rz92 rfl (fun _ hm => (RowK.get hm.k ev_len hm1)) hx rfl rfl) rfl ?_
   refine wl_nil ?_
   refine nw 18 15871 (fun _ _ => trivial) fun z => ?_
   refine wa1 9 rfl ?_
   refine wl_ov (ov_elem (vs := [.int .i64 y0, .string y1, .string y2, .int .i64 y3, .string y4]) rz92 rfl (fun _ hm => (RowK.get hm.k ev_len hm1)) hy rfl rfl) rfl ?_
   refine wl_nil ?_
   refine nw 18 16383 (fun _ _ => trivial) fun z => ?_
   refine wt 14 18 32767 rfl z (ov_index (j := (j + 1)) es48 rfl rfl (by omega)) ?_
   refine wa1 15 rfl ?_
   refine wl_storesRow (l := m) (j := j + 1) (r := 0) (el := ⟨x0, x1, x2, x3, x4⟩) (el' := ⟨y0, y1, y2, y3, y4⟩) rfl rz92 rfl rfl rfl rfl ev_len rfl hx hm1 (by decide) rfl rfl ?_
   refine wl_nil ?_
   refine nw 18 65535 (fun _ _ => trivial) fun z => ?_
   refine wt 16 18 131071 rfl z (ov_index (j := j) es48 rfl rfl (by omega)) ?_
   refine wa1 17 rfl ?_
   refine wl_storesRow (l := m.set (j + 1) ⟨y0, y1, y2, y3, y4⟩) (j := j) (r := 0) (el := ⟨y0, y1, y2, y3, y4⟩) (el' := ⟨x0, x1, x2, x3, x4⟩) rfl rz92 rfl rfl rfl rfl ev_len rfl (by rw [List.getElem?_set_ne (by omega)]; exact hy) (by rw [List.length_set]; exact hm1) (by decide) rfl rfl ?_
   refine wl_nil ?_
   refine nw 18 262143 (fun _ _ => trivial) fun z => ?_
   refine wa_done (by kernel_rfl) ?_
   refine nx_blk_nrm (nx_then (gw_region (mv_ rfl ?_)))
   refine wl_ov (ov_sub rfl rfl (by omega) (by omega)) rfl ?_
   refine wl_set 36 (v' := .int .i64 ((j : Nat) : Int)) rfl (congrArg (Value.int .i64) (by omega)) ?_
   refine sg_ rfl (wl_nil ?_)
   exact nx_round (j, (m.set (j + 1) ⟨y0, y1, y2, y3, y4⟩).set j ⟨x0, x1, x2, x3, x4⟩) ⟨by dsimp only; omega, by simp [hm1], hS2⟩ (by dsimp only; omega) ⟨rfl, rfl, rfl, rfl, rfl, (some_int (by omega)), trivial⟩ (fun _ hm => hm.pick [] [] [] rfl rfl)
  have hlt : ¬ (evOrd ⟨x0, x1, x2, x3, x4⟩ ⟨y0, y1, y2, y3, y4⟩ < 0) := by simpa using hh
  clear hh
  refine gw_exit ?_
  refine nx_then_exit (nx_then_exit ?_)
  refine nx_blk_here ?_
  refine nx_blk_nrm (nx_then (gw_region ?_))
  have hlt2 : (evLt) ⟨x0, x1, x2, x3, x4⟩ ⟨y0, y1, y2, y3, y4⟩ = false := decide_eq_false (show ¬ evOrd ⟨x0, x1, x2, x3, x4⟩ ⟨y0, y1, y2, y3, y4⟩ < 0 from hlt)
  have hS2 := (sink_no hx hy hlt2).symm.trans hS1
  refine mv_ rfl (ad_ rfl rfl (sg_ rfl (wl_nil ?_)))
  have hm2 : m = S := hS2
  exact nx_round (i + 1, m) ⟨⟨by dsimp only; omega, by dsimp only; omega⟩, by rw [hm2]; exact hSl, by rw [hm2]; exact hRi⟩ (by dsimp only; omega) ⟨rfl, rfl, rfl, rfl, (some_int (by omega)), trivial⟩ (fun _ hm => hm.pick [] [] [] rfl rfl)
 have hi : ¬ (((i : Nat) : Int) < ((n : Nat) : Int)) := by simpa using hh
 clear hh
 refine gw_exit ?_
 refine nx_then_exit (nx_then_exit ?_)
 refine nx_blk_here ?_
 obtain rfl : l = R := by rw [← hR1, show n - i = 0 by omega]; rfl
 refine nx_ret0 rfl fun wx hm => ?_
 exact ⟨rfl, fin_row hm.k hm.g⟩
theorem stb_eo (l0 : List Ev) (br n cap base : Nat) (w : World) (h : w.ownsRow base 92 5 (.slice (some ⟨br, 0, none⟩) n cap) n (l0.flatMap evEnc)) (hl0 : l0.length = n) (hn : n ≤ 19) (hall : ∀ x ∈ l0, EvOk x) :
  Calls Tryz.prog 196 #[.slice (some ⟨br, 0, none⟩) n cap, .int .i64 ((n : Nat) : Int), .func (.func 114) #[] #[]] w (fun e w' => e = .returned (.tuple #[]) ∧ w'.ownsRow base 92 5 (.slice (some ⟨br, 0, none⟩) n cap) n ((isort evLt l0).flatMap evEnc) ∧ w.grownBy w' (some br)) := by
 refine gw_enter ⟨63, w, (some br), []⟩ Tryz.func196 rfl Tryz.ntmps196 rfl (memR (X := []) h allF_nil allL_nil) ?_
 refine sr_ (sg_ rfl (nn_ (sr_ (mv_ rfl (sg_ rfl (sg_ rfl (nn_ (gw_seq (gw_block ?_)))))))))
 refine gw_rounds 1 ?_
 refine gr_next ?_
 refine gw_seq (sr_ (mv_ rfl (mv_ rfl (wl_ov (ov_leq rfl rfl) rfl ?_))))
 refine wl_set 13 (v' := .bool false) rfl (congrArg Value.bool (decide_eq_false (by omega))) ?_
 refine nn_ (cf_ rfl ?_)
 refine gw_exit ?_
 refine nx_then_exit (nx_then_exit ?_)
 refine nx_blk_here ?_
 refine nx_then (sr_ (mv_ rfl (mv_ rfl (mv_ rfl (mv_ rfl ?_)))))
 refine wl_callK rfl rfl rfl cb250 rfl rfl (fun wx hm => (ins_eo l0 br n cap base wx hm.k hl0 (by omega) hall)) ?_
 refine nn_ (gw_block ?_)
 refine gw_rounds 1 ?_
 refine gr_next ?_
 refine gw_seq (sr_ (mv_ rfl (mv_ rfl (wl_ov (ov_lss rfl rfl) rfl ?_))))
 refine wl_set 30 (v' := .bool false) rfl (congrArg Value.bool (decide_eq_false (by omega))) ?_
 refine nn_ (cf_ rfl ?_)
 refine gw_exit ?_
 refine nx_then_exit (nx_then_exit ?_)
 refine nx_blk_here ?_
 refine nx_ret0 rfl fun wx hm => ?_
 exact ⟨rfl, fin_row hm.k hm.g⟩
set_option maxRecDepth 100000 in
set_option maxHeartbeats 400000 in
theorem stable_eo (l0 : List Ev) (br n cap base : Nat) (w : World) (h : w.ownsRow base 92 5 (.slice (some ⟨br, 0, none⟩) n cap) n (l0.flatMap evEnc)) (hl0 : l0.length = n) (hn : n ≤ 19) (hall : ∀ x ∈ l0, EvOk x) :
    Calls Tryz.prog 134 #[.slice (some ⟨br, 0, none⟩) n cap, .func (.func 114) #[] #[]] w (fun e w' => e = .returned (.tuple #[]) ∧ w'.ownsRow base 92 5 (.slice (some ⟨br, 0, none⟩) n cap) n ((isort evLt l0).flatMap evEnc) ∧ w.grownBy w' (some br)) := by
  refine gw_enter ⟨9, w, (some br), []⟩ Tryz.func134 rfl Tryz.ntmps134 rfl (memR (X := []) h allF_nil allL_nil) ?_
  refine gw_region ?_
  refine wl_ov (ov_move rfl) rfl ?_
  refine wl_ov (ov_move rfl) rfl ?_
  refine wl_ov (ov_len es48 rfl) rfl ?_
  refine wl_ov (ov_move rfl) rfl ?_
  refine wl_callK rfl rfl rfl cb196 rfl rfl (fun wx hm => (stb_eo l0 br n cap base wx hm.k hl0 hn hall)) ?_
  refine wl_nil ?_
  refine nx_ret0 rfl fun wx hm => ?_
  exact ⟨rfl, fin_row hm.k hm.g⟩
theorem ins0_eo (A : Option Addr) (cap : Nat) (w : World) : Calls Tryz.prog 250 #[.slice A 0 cap, .int .i64 0, .int .i64 0, .func (.func 114) #[] #[]] w (fun e w' => e = .returned (.tuple #[]) ∧ w.grownBy w' none) := by
 refine gw_enter ⟨53, w, none, []⟩ Tryz.func250 rfl Tryz.ntmps250 rfl (mem0 (X := []) allF_nil allL_nil) ?_
 refine sr_ (mv_ rfl (ad_ rfl rfl ?_))
 refine wl_set 11 (v' := .int .i64 1) rfl rfl ?_
 refine sg_ rfl (nn_ (gw_block ?_))
 refine gw_rounds 1 ?_
 refine gr_next ?_
 refine gw_seq (sr_ (mv_ rfl (mv_ rfl (wl_ov (ov_lss rfl rfl) rfl ?_))))
 refine wl_set 14 (v' := .bool false) rfl (congrArg Value.bool (by decide)) ?_
 refine nn_ (cf_ rfl ?_)
 refine gw_exit ?_
 refine nx_then_exit (nx_then_exit ?_)
 refine nx_blk_here ?_
 refine nx_ret0 rfl fun wx hm => ?_
 exact ⟨rfl, hm.g⟩
theorem stb0_eo (A : Option Addr) (cap : Nat) (w : World) : Calls Tryz.prog 196 #[.slice A 0 cap, .int .i64 0, .func (.func 114) #[] #[]] w (fun e w' => e = .returned (.tuple #[]) ∧ w.grownBy w' none) := by
 refine gw_enter ⟨63, w, none, []⟩ Tryz.func196 rfl Tryz.ntmps196 rfl (mem0 (X := []) allF_nil allL_nil) ?_
 refine sr_ (sg_ rfl (nn_ (sr_ (mv_ rfl (sg_ rfl (sg_ rfl (nn_ (gw_seq (gw_block ?_)))))))))
 refine gw_rounds 1 ?_
 refine gr_next ?_
 refine gw_seq (sr_ (mv_ rfl (mv_ rfl (wl_ov (ov_leq rfl rfl) rfl ?_))))
 refine wl_set 13 (v' := .bool false) rfl (congrArg Value.bool (by decide)) ?_
 refine nn_ (cf_ rfl ?_)
 refine gw_exit ?_
 refine nx_then_exit (nx_then_exit ?_)
 refine nx_blk_here ?_
 refine nx_then (sr_ (mv_ rfl (mv_ rfl (mv_ rfl (mv_ rfl ?_)))))
 refine wl_callv rfl cb250 rfl rfl (fun wx hm => (ins0_eo A cap wx)) ?_
 refine nn_ (gw_block ?_)
 refine gw_rounds 1 ?_
 refine gr_next ?_
 refine gw_seq (sr_ (mv_ rfl (mv_ rfl (wl_ov (ov_lss rfl rfl) rfl ?_))))
 refine wl_set 30 (v' := .bool false) rfl (congrArg Value.bool (by decide)) ?_
 refine nn_ (cf_ rfl ?_)
 refine gw_exit ?_
 refine nx_then_exit (nx_then_exit ?_)
 refine nx_blk_here ?_
 refine nx_ret0 rfl fun wx hm => ?_
 exact ⟨rfl, hm.g⟩
set_option maxRecDepth 100000 in
set_option maxHeartbeats 400000 in
theorem stable0_eo (A : Option Addr) (cap : Nat) (w : World) : Calls Tryz.prog 134 #[.slice A 0 cap, .func (.func 114) #[] #[]] w (fun e w' => e = .returned (.tuple #[]) ∧ w.grownBy w' none) := by
  refine gw_enter ⟨9, w, none, []⟩ Tryz.func134 rfl Tryz.ntmps134 rfl (mem0 (X := []) allF_nil allL_nil) ?_
  refine gw_region ?_
  refine wl_ov (ov_move rfl) rfl ?_
  refine wl_ov (ov_move rfl) rfl ?_
  refine wl_ov (ov_len es48 rfl) rfl ?_
  refine wl_set 6 (v' := .int .i64 0) rfl rfl ?_
  refine wl_ov (ov_move rfl) rfl ?_
  refine wl_callv rfl cb196 rfl rfl (fun wx hm => (stb0_eo A cap wx)) ?_
  refine wl_nil ?_
  refine nx_ret0 rfl fun wx hm => ?_
  exact ⟨rfl, hm.g⟩
def evQ (x y : Ev) : Bool := decide (x.at_ = y.at_) && (x.veh.toList == y.veh.toList && (x.sta.toList == y.sta.toList && (decide (x.kd = y.kd) && x.to_.toList == y.to_.toList)))
theorem evQ_iff {x y : Ev} : evQ x y = true ↔ x = y := by
  obtain ⟨x0, x1, x2, x3, x4⟩ := x
  obtain ⟨y0, y1, y2, y3, y4⟩ := y
  unfold evQ
  simp only [Bool.and_eq_true, decide_eq_true_eq, bytes_eqb, Ev.mk.injEq]
set_option maxRecDepth 100000 in
theorem ev_eql (x0 : Int) (x1 x2 : ByteArray) (x3 : Int) (x4 : ByteArray) (y0 : Int) (y1 y2 : ByteArray) (y3 : Int) (y4 : ByteArray) (w : World) : (binOp .eql 92 (.agg #[.int .i64 x0, .string x1, .string x2, .int .i64 x3, .string x4]) (.agg #[.int .i64 y0, .string y1, .string y2, .int .i64 y3, .string y4])).run Tryz.prog w = .ok (.bool (evQ ⟨x0, x1, x2, x3, x4⟩ ⟨y0, y1, y2, y3, y4⟩)) w := by
  have hS : Tryz.prog.underlying 92 = some (.struct (Tryz.prog.fieldsOf 92)) := by kernel_rfl
  have hp : Tryz.prog.stoodInHeld 92 = false := by kernel_rfl
  rw [run_eql_struct, show (10000 : Nat) = 9999 + 1 from rfl, run_equalIn_agg w 9999 92 _ _ hS hp]
  simp only [Program.fieldsOf, Tryz.underlying92]
  have u3 := Tryz.underlying3
  have u9 := Tryz.underlying9
  clear hS hp
  go_simp
  unfold evQ
  dsimp only
  repeat' split
  all_goals simp_all
set_option maxRecDepth 100000 in
theorem ev_neq (x0 : Int) (x1 x2 : ByteArray) (x3 : Int) (x4 : ByteArray) (y0 : Int) (y1 y2 : ByteArray) (y3 : Int) (y4 : ByteArray) (w : World) : (binOp .neq 92 (.agg #[.int .i64 x0, .string x1, .string x2, .int .i64 x3, .string x4]) (.agg #[.int .i64 y0, .string y1, .string y2, .int .i64 y3, .string y4])).run Tryz.prog w = .ok (.bool (!evQ ⟨x0, x1, x2, x3, x4⟩ ⟨y0, y1, y2, y3, y4⟩)) w := by
  have hS : Tryz.prog.underlying 92 = some (.struct (Tryz.prog.fieldsOf 92)) := by kernel_rfl
  have hp : Tryz.prog.stoodInHeld 92 = false := by kernel_rfl
  rw [run_neq_struct, show (10000 : Nat) = 9999 + 1 from rfl, run_equalIn_agg w 9999 92 _ _ hS hp]
  simp only [Program.fieldsOf, Tryz.underlying92]
  have u3 := Tryz.underlying3
  have u9 := Tryz.underlying9
  clear hS hp
  go_simp
  unfold evQ
  dsimp only
  repeat' split
  all_goals simp_all
theorem guard_event : Tryz.prog.eqGuardType Tryz.prog.depth 92 = false := by kernel_rfl
def compF : Ev → List Ev → List Ev
  | _, [] => []
  | p, y :: r => if evQ y p = true then compF y r else y :: compF y r
def compactF : List Ev → List Ev
  | [] => []
  | x :: r => x :: compF x r
theorem compF_snoc : ∀ (r : List Ev) (p x : Ev), compF p (r ++ [x]) = compF p r ++ (if evQ x (r.getLast?.getD p) = true then [] else [x])
  | [], p, x => by
    show (if evQ x p = true then [] else [x]) = [] ++ (if evQ x p = true then [] else [x])
    rw [List.nil_append]
  | y :: r, p, x => by
    have ih := compF_snoc r y x
    have e : (y :: r).getLast?.getD p = r.getLast?.getD y := by
      cases r with
      | nil => rfl
      | cons z t =>
        rw [List.getLast?_cons_cons]
        cases hq : (z :: t).getLast? with
        | none => simp at hq
        | some u => rfl
    rw [e]
    show (if evQ y p = true then compF y (r ++ [x]) else y :: compF y (r ++ [x])) = (if evQ y p = true then compF y r else y :: compF y r) ++ _
    rw [ih]
    by_cases h : evQ y p = true
    · rw [if_pos h, if_pos h]
    · rw [if_neg h, if_neg h]; rfl
theorem compact_at {l : List Ev} {j : Nat} {x y : Ev} (hx : l[j]? = some x) (hy : l[j - 1]? = some y) (h0 : 0 < j) : compactF (l.take (j + 1)) = compactF (l.take j) ++ (if evQ x y = true then [] else [x]) := by
  have hj := (List.getElem?_eq_some_iff.1 hx).1
  rw [List.take_add_one, hx, Option.toList_some]
  obtain ⟨z, r, hz⟩ : ∃ z r, l.take j = z :: r := by
    cases h : l.take j with
    | nil =>
      have := congrArg List.length h
      rw [List.length_take] at this
      have h3 : min j l.length = 0 := this
      omega
    | cons z r => exact ⟨z, r, rfl⟩
  have hlast : (l.take j).getLast? = some y := by
    rw [List.getLast?_eq_getElem?, List.length_take, Nat.min_eq_left (by omega), List.getElem?_take, if_pos (by omega)]; exact hy
  rw [hz] at hlast ⊢
  show z :: compF z (r ++ [x]) = z :: compF z r ++ _
  rw [compF_snoc]
  have e : r.getLast?.getD z = y := by
    cases r with
    | nil => simpa using hlast
    | cons u t =>
      rw [List.getLast?_cons_cons] at hlast
      rw [hlast]; rfl
  rw [e]; rfl
theorem compact_short {l : List Ev} (h : l.length < 2) : compactF l = l := by
  match l, h with
  | [], _ => rfl
  | [x], _ => rfl
theorem flat_takeE : ∀ (l : List Ev) (i : Nat), (l.flatMap evEnc).take (i * 5) = (l.take i).flatMap evEnc
  | [], i => by simp
  | x :: r, 0 => by simp
  | x :: r, i + 1 => by
    rw [List.flatMap_cons, List.take_succ_cons, List.flatMap_cons, ← flat_takeE r i, show (i + 1) * 5 = (evEnc x).length + i * 5 by rw [ev_len]; omega, List.take_length_add_append]
theorem row_drop {w : World} {br n lo : Nat} {l : List Ev} (h : SlT evEnc 5 92 w (some ⟨br, 0, none⟩) n l) (hlo : lo ≤ n) : SlT evEnc 5 92 w (some ⟨br, lo * 5, none⟩) (n - lo) (l.drop lo) := by
  have hd := h.dropS (c := n + 1) lo hlo (by omega)
  rw [if_neg (by omega)] at hd
  simpa [Option.map, add_addr] using hd
theorem compact_any (l0 : List Ev) (br n cap base : Nat) (w : World) (h : w.ownsRow base 92 5 (.slice (some ⟨br, 0, none⟩) n cap) n (l0.flatMap evEnc)) (hl0 : l0.length = n) (hn : n ≤ 100000) (hcap : n ≤ cap) :
  Calls Tryz.prog 136 #[.slice (some ⟨br, 0, none⟩) n cap] w (fun e w' => ∃ (k : Nat) (ls : List Ev), e = .returned (.slice (some ⟨br, 0, none⟩) k cap) ∧ ls = compactF l0 ∧ ls.length = k ∧ w'.ownsRow base 92 5 (.slice (some ⟨br, 0, none⟩) k cap) k (ls.flatMap evEnc) ∧ w.grownBy w' (some br)) := by
 refine gw_enter ⟨61, w, (some br), []⟩ Tryz.func136 rfl Tryz.ntmps136 rfl (memR (X := []) h allF_nil allL_nil) ?_
 refine sr_ (sg_ rfl (nn_ (gw_seq (sr_ (mv_ rfl (wl_ov (ov_len es48 rfl) rfl (wl_ov (ov_lss rfl rfl) rfl (nn_ ?_))))))))
 refine gw_cond rfl (fun hh => ?_) (fun hh => ?_)
 ·have h2 : ((n : Nat) : Int) < 2 := by simpa using hh
  clear hh
  refine sr_ (mv_ rfl (sg_ rfl (nn_ ?_)))
  refine gw_ret ?_
  refine nx_then_ret ?_
  have hcs : compactF l0 = l0 := compact_short (by omega)
  rw [hcs]
  refine nx_ret1 rfl rfl fun wx hm => ?_
  exact ⟨n, l0, rfl, rfl, hl0, (fin_row hm.k hm.g).1, (fin_row hm.k hm.g).2⟩
 have h2 : ¬ (((n : Nat) : Int) < 2) := by simpa using hh
 clear hh
 refine gw_skip (nx_then (gw_seq (sr_ (sg_ rfl (nn_ (gw_block ?_))))))
 refine gw_loop (γ := Nat) (fun (k : Nat) => (1 ≤ k ∧ k ≤ n) ∧ compactF (l0.take k) = l0.take k) (fun (k : Nat) => [(0, .slice (some ⟨br, 0, none⟩) n cap), (3, .int .i64 ((k : Nat) : Int))]) (fun (k : Nat) => RowK base 92 5 n cap br ((l0).flatMap evEnc)) (fun (k : Nat) => []) (fun (k : Nat) => []) (fun (k : Nat) => []) (fun (k : Nat) => n - k) 1 ⟨⟨Nat.le_refl _, by omega⟩, compact_short (by rw [List.length_take]; omega)⟩ ⟨rfl, rfl, trivial⟩ (fun _ hm => hm.pick [] [] [] rfl rfl) ?_
 intro k hinv
 replace hinv : (1 ≤ k ∧ k ≤ n) ∧ compactF (l0.take k) = l0.take k := hinv
 refine gw_seq (sr_ ?_)
 obtain ⟨⟨hk1, hkn⟩, hck⟩ := hinv
 refine mv_ rfl (mv_ rfl (wl_ov (ov_len es48 rfl) rfl (wl_ov (ov_lss rfl rfl) rfl (nn_ ?_))))
 refine gw_cond rfl (fun hh => ?_) (fun hh => ?_)
 ·have hk : ((k : Nat) : Int) < ((n : Nat) : Int) := by simpa using hh
  clear hh
  refine gw_skip (nx_then (gw_seq (gw_block (gw_seq ?_))))
  obtain ⟨xx, hx⟩ : ∃ x, l0[k]? = some x := ⟨_, List.getElem?_eq_getElem (by omega)⟩
  obtain ⟨x0, x1, x2, x3, x4⟩ := xx
  obtain ⟨yy, hy⟩ : ∃ x, l0[k - 1]? = some x := ⟨_, List.getElem?_eq_getElem (by omega)⟩
  obtain ⟨y0, y1, y2, y3, y4⟩ := yy
  have hk1n : k - 1 < n := by omega
  have hca := compact_at hx hy (by omega)
  refine gd (fun wz => (RowK base 92 5 n cap br ((l0).flatMap evEnc)) wz ∧ True) mixed (fun _ hm => ⟨hm.k, trivial⟩) fun z => ?_
  refine wt 0 10 1 rfl z (ov_move rfl) ?_
  refine wt 1 10 3 rfl z (ov_move rfl) ?_
  refine wt 2 10 7 rfl z (ov_index (j := k) es48 rfl rfl (by omega)) ?_
  refine wt 3 10 15 rfl z (ov_elem (vs := [.int .i64 x0, .string x1, .string x2, .int .i64 x3, .string x4]) rz92 rfl (fun _ hm => (RowK.get (hm.1) ev_len hl0)) hx rfl rfl) ?_
  refine wt 4 10 31 rfl z (ov_move rfl) ?_
  refine wt 5 10 63 rfl z (ov_move rfl) ?_
  refine wt 6 10 127 rfl z (ov_sub rfl rfl (by omega) (by omega)) ?_
  refine wa_set 22 (v' := .int .i64 (((k - 1) : Nat) : Int)) rfl (congrArg (Value.int .i64) (by omega)) ?_
  refine wt 7 10 255 rfl z (ov_index (j := (k - 1)) es48 rfl rfl (by omega)) ?_
  refine wt 8 10 511 rfl z (ov_elem (vs := [.int .i64 y0, .string y1, .string y2, .int .i64 y3, .string y4]) rz92 rfl (fun _ hm => (RowK.get (hm.1) ev_len hl0)) hy rfl rfl) ?_
  refine wt 9 10 1023 rfl z (ov_bin rfl rfl (cmp_agg guard_event (fun wx => ev_eql x0 x1 x2 x3 x4 y0 y1 y2 y3 y4 wx))) ?_
  refine wa_done (by kernel_rfl) ?_
  refine nx_then ?_
  refine gw_cond rfl (fun hh => ?_) (fun hh => ?_)
  ·have hq : (evQ ⟨x0, x1, x2, x3, x4⟩ ⟨y0, y1, y2, y3, y4⟩) = true := by simpa using hh
   clear hh
   refine sr_ ?_
   have hnc : n ≤ cap := hcap
   refine mv_ rfl (mv_ rfl ?_)
   refine wl_ov (ov_sliceLo (lo := k) es48 rfl rfl rfl (by omega)) rfl ?_
   refine wl_set 28 (v' := .slice (some ⟨br, k * 5, none⟩) (n - k) (cap - k)) rfl (by rw [if_neg (by omega)]; simp [Option.map, add_addr]) ?_
   refine sg_ rfl (nn_ (gw_seq (sr_ (sg_ rfl (nn_ (gw_block ?_))))))
   refine gw_loop (γ := Nat × Nat × List Ev) (fun gg => (1 ≤ gg.2.1 ∧ gg.2.1 ≤ n - k) ∧ (k ≤ gg.1 ∧ gg.1 + 1 ≤ k + gg.2.1) ∧ gg.2.2.length = n ∧ gg.2.2.drop (k + gg.2.1 - 1) = l0.drop (k + gg.2.1 - 1) ∧ gg.2.2.take gg.1 = compactF (l0.take (k + gg.2.1))) (fun gg => [(0, .slice (some ⟨br, 0, none⟩) n cap), (3, .int .i64 ((gg.1 : Nat) : Int)), (4, .slice (some ⟨br, k * 5, none⟩) (n - k) (cap - k)), (5, .int .i64 ((gg.2.1 : Nat) : Int))]) (fun gg => RowK base 92 5 n cap br ((gg.2.2).flatMap evEnc)) (fun gg => []) (fun gg => []) (fun gg => []) (fun gg => n - k - gg.2.1) (k, 1, l0) ⟨⟨Nat.le_refl _, by dsimp only; omega⟩, ⟨Nat.le_refl _, Nat.le_refl _⟩, hl0, rfl, by dsimp only; rw [hca, if_pos hq, List.append_nil, hck]⟩ ⟨rfl, rfl, rfl, rfl, trivial⟩ (fun _ hm => hm.pick [] [] [] rfl rfl) ?_
   rintro ⟨k1, k2, cur⟩ hinv
   replace hinv : (1 ≤ k2 ∧ k2 ≤ n - k) ∧ (k ≤ k1 ∧ k1 + 1 ≤ k + k2) ∧ cur.length = n ∧ cur.drop (k + k2 - 1) = l0.drop (k + k2 - 1) ∧ cur.take k1 = compactF (l0.take (k + k2)) := hinv
   dsimp only
   refine gw_seq (sr_ ?_)
   obtain ⟨⟨hk21, hk2n⟩, ⟨hkk1, hk1k⟩, hcl, hdr, htk⟩ := hinv
   refine mv_ rfl (mv_ rfl (wl_ov (ov_len es48 rfl) rfl (wl_ov (ov_lss rfl rfl) rfl (nn_ ?_))))
   refine gw_cond rfl (fun hh => ?_) (fun hh => ?_)
   ·have hk2 : ((k2 : Nat) : Int) < ((n - k : Nat) : Int) := by simpa using hh
    clear hh
    refine gw_skip (nx_then (gw_seq (gw_block (gw_seq ?_))))
    obtain ⟨x, hx2⟩ : ∃ x, (cur.drop k)[k2]? = some x := ⟨_, List.getElem?_eq_getElem (by rw [List.length_drop]; omega)⟩
    obtain ⟨y, hy2⟩ : ∃ y, (cur.drop k)[k2 - 1]? = some y := ⟨_, List.getElem?_eq_getElem (by rw [List.length_drop]; omega)⟩
    have hxl : l0[k + k2]? = some x := by
     have := congrArg (fun z => z[1]?) hdr
     simp only [List.getElem?_drop] at this hx2
     rw [show k + k2 - 1 + 1 = k + k2 by omega] at this
     rw [← this]; exact hx2
    have hyl : l0[k + k2 - 1]? = some y := by
     have := congrArg (fun z => z[0]?) hdr
     simp only [List.getElem?_drop, Nat.add_zero] at this hy2
     rw [← this, show k + k2 - 1 = k + (k2 - 1) by omega]; exact hy2
    have hcb := compact_at hxl hyl (by omega)
    obtain ⟨zz, hz⟩ : ∃ z, cur[k1]? = some z := ⟨_, List.getElem?_eq_getElem (by omega)⟩
    obtain ⟨u0, u1, u2, u3, u4⟩ := x
    obtain ⟨v0, v1, v2, v3, v4⟩ := y
    refine gd (fun wz => (RowK base 92 5 n cap br ((cur).flatMap evEnc)) wz ∧ True) mixed (fun _ hm => ⟨hm.k, trivial⟩) fun z => ?_
    refine wt 0 10 1 rfl z (ov_move rfl) ?_
    refine wt 1 10 3 rfl z (ov_move rfl) ?_
    refine wt 2 10 7 rfl z (ov_index (j := k2) es48 rfl rfl (by omega)) ?_
    refine wt 3 10 15 rfl z (ov_elem (vs := [.int .i64 u0, .string u1, .string u2, .int .i64 u3, .string u4]) rz92 rfl (fun _ hm => (row_drop (RowK.get (hm.1) ev_len hcl) (by omega))) hx2 rfl rfl) ?_
    refine wt 4 10 31 rfl z (ov_move rfl) ?_
    refine wt 5 10 63 rfl z (ov_move rfl) ?_
    refine wt 6 10 127 rfl z (ov_sub rfl rfl (by omega) (by omega)) ?_
    refine wa_set 41 (v' := .int .i64 (((k2 - 1) : Nat) : Int)) rfl (congrArg (Value.int .i64) (by omega)) ?_
    refine wt 7 10 255 rfl z (ov_index (j := (k2 - 1)) es48 rfl rfl (by omega)) ?_
    refine wt 8 10 511 rfl z (ov_elem (vs := [.int .i64 v0, .string v1, .string v2, .int .i64 v3, .string v4]) rz92 rfl (fun _ hm => (row_drop (RowK.get (hm.1) ev_len hcl) (by omega))) hy2 rfl rfl) ?_
    refine wt 9 10 1023 rfl z (ov_bin rfl rfl (cmp_agg guard_event (fun wx => ev_neq u0 u1 u2 u3 u4 v0 v1 v2 v3 v4 wx))) ?_
    refine wa_done (by kernel_rfl) ?_
    refine nx_then ?_
    refine gw_cond rfl (fun hh => ?_) (fun hh => ?_)
    ·have hq2 : evQ ⟨u0, u1, u2, u3, u4⟩ ⟨v0, v1, v2, v3, v4⟩ = false := by simpa using hh
     clear hh
     refine sr_ (mv_ rfl (mv_ rfl (mv_ rfl (mv_ rfl ?_))))
     refine wl_ov (ov_index (j := k2) es48 rfl rfl (by omega)) rfl ?_
     refine wl_ov (ov_elem (vs := [.int .i64 u0, .string u1, .string u2, .int .i64 u3, .string u4]) rz92 rfl (fun _ hm => (row_drop (RowK.get hm.k ev_len hcl) (by omega))) hx2 rfl rfl) rfl ?_
     refine wl_ov (ov_index (j := k1) es48 rfl rfl (by omega)) rfl ?_
     refine wl_storesRow (l := cur) (j := k1) (r := 0) (el := zz) (el' := ⟨u0, u1, u2, u3, u4⟩) rfl rz92 rfl rfl rfl rfl ev_len rfl hz hcl (by decide) rfl rfl ?_
     refine nn_ (gw_region (mv_ rfl (ad_ rfl rfl (sg_ rfl (wl_nil (nx_blk_nrm (nx_then (gw_region (mv_ rfl (ad_ rfl rfl (sg_ rfl (wl_nil ?_))))))))))))
     have hq3 : ¬ evQ ⟨u0, u1, u2, u3, u4⟩ ⟨v0, v1, v2, v3, v4⟩ = true := by rw [hq2]; decide
     exact nx_round (k1 + 1, k2 + 1, cur.set k1 ⟨u0, u1, u2, u3, u4⟩) ⟨⟨by dsimp only; omega, by dsimp only; omega⟩, ⟨by dsimp only; omega, by dsimp only; omega⟩, by rw [List.length_set]; exact hcl, by dsimp only; rw [show k + (k2 + 1) - 1 = k + k2 - 1 + 1 by omega, List.drop_set_of_lt (by omega), ← List.drop_drop, ← List.drop_drop, hdr], by dsimp only; rw [show k + (k2 + 1) = k + k2 + 1 by omega, hcb, if_neg hq3, ← htk, List.take_add_one, List.getElem?_set_self (by omega), List.take_set_of_le (Nat.le_refl _)]; rfl⟩ (by dsimp only; omega) ⟨rfl, (some_int (by dsimp only; omega)), rfl, (some_int (by dsimp only; omega)), trivial⟩ (fun _ hm => hm.pick [] [] [] rfl rfl)
    have hq2 : evQ ⟨u0, u1, u2, u3, u4⟩ ⟨v0, v1, v2, v3, v4⟩ = true := by simpa using hh
    clear hh
    refine gw_skip (nx_blk_nrm (nx_then (gw_region (mv_ rfl (ad_ rfl rfl (sg_ rfl (wl_nil ?_)))))))
    have hq3 : evQ ⟨u0, u1, u2, u3, u4⟩ ⟨v0, v1, v2, v3, v4⟩ = true := by simpa using hq2
    exact nx_round (k1, k2 + 1, cur) ⟨⟨by dsimp only; omega, by dsimp only; omega⟩, ⟨by dsimp only; omega, by dsimp only; omega⟩, hcl, by dsimp only; rw [show k + (k2 + 1) - 1 = k + k2 - 1 + 1 by omega, ← List.drop_drop, ← List.drop_drop, hdr], by dsimp only; rw [show k + (k2 + 1) = k + k2 + 1 by omega, hcb, if_pos hq3, List.append_nil, htk]⟩ (by dsimp only; omega) ⟨rfl, rfl, rfl, (some_int (by dsimp only; omega)), trivial⟩ (fun _ hm => hm.pick [] [] [] rfl rfl)
   have hk2 : ¬ (((k2 : Nat) : Int) < ((n - k : Nat) : Int)) := by simpa using hh
   clear hh
   refine gw_exit ?_
   refine nx_then_exit (nx_then_exit ?_)
   refine nx_blk_here ?_
   refine nx_then (sr_ ?_)
   have hall : l0.take (k + k2) = l0 := List.take_of_length_le (by omega)
   rw [hall] at htk
   refine mv_ rfl (mv_ rfl ?_)
   refine wl_ov (ov_sliceLo (lo := k1) es48 rfl rfl rfl (by omega)) rfl ?_
   refine wl_set 56 (v' := .slice (some ⟨br, k1 * 5, none⟩) (n - k1) (cap - k1)) rfl (by rw [if_neg (by omega)]; simp [Option.map, add_addr]) ?_
   refine wl_clearRow (m := k1) rfl es48 zc92 rfl rfl rfl rfl (by omega) rfl ?_
   rw [flat_takeE, htk]
   refine nn_ (sr_ (mv_ rfl (mv_ rfl ?_)))
   refine wl_ov (ov_sliceHi (hi := k1) es48 rfl rfl rfl (by omega)) rfl ?_
   refine sg_ rfl (nn_ ?_)
   refine gw_ret ?_
   refine nx_blk_ret (nx_then_ret (nx_then_ret (nx_blk_ret (nx_then_ret ?_))))
   have hfl : (compactF l0).length = k1 := by rw [← htk, List.length_take]; omega
   refine nx_ret1 rfl rfl fun wx hm => ?_
   exact ⟨k1, _, rfl, rfl, hfl, (fin_row hm.k hm.g).1, (fin_row hm.k hm.g).2⟩
  have hq : (evQ ⟨x0, x1, x2, x3, x4⟩ ⟨y0, y1, y2, y3, y4⟩) = false := by simpa using hh
  clear hh
  refine gw_skip (nx_blk_nrm (nx_then (gw_region (mv_ rfl (ad_ rfl rfl (sg_ rfl (wl_nil ?_)))))))
  exact nx_round (k + 1) ⟨⟨by omega, by omega⟩, by rw [hca, hck, if_neg (by rw [hq]; decide), List.take_add_one, hx]; rfl⟩ (by omega) ⟨rfl, (some_int (by omega)), trivial⟩ (fun _ hm => hm.pick [] [] [] rfl rfl)
 have hk : ¬ (((k : Nat) : Int) < ((n : Nat) : Int)) := by simpa using hh
 clear hh
 refine gw_exit ?_
 refine nx_then_exit (nx_then_exit ?_)
 refine nx_blk_here ?_
 refine nx_then (sr_ ?_)
 have hcs : compactF l0 = l0 := by rw [show l0.take k = l0 from List.take_of_length_le (by omega)] at hck; exact hck
 rw [hcs]
 refine mv_ rfl (sg_ rfl (nn_ ?_))
 refine gw_ret ?_
 refine nx_ret1 rfl rfl fun wx hm => ?_
 exact ⟨n, l0, rfl, rfl, hl0, (fin_row hm.k hm.g).1, (fin_row hm.k hm.g).2⟩
theorem compact0_any (A : Option Addr) (cap : Nat) (w : World) : Calls Tryz.prog 136 #[.slice A 0 cap] w (fun e w' => e = .returned (.slice A 0 cap) ∧ w.grownBy w' none) := by
 refine gw_enter ⟨61, w, none, []⟩ Tryz.func136 rfl Tryz.ntmps136 rfl (mem0 (X := []) allF_nil allL_nil) ?_
 refine sr_ (sg_ rfl (nn_ (gw_seq (sr_ (mv_ rfl (wl_ov (ov_len es48 rfl) rfl ?_))))))
 refine wl_set 7 (v' := .int .i64 0) rfl rfl ?_
 refine wl_ov (ov_lss rfl rfl) rfl ?_
 refine wl_set 8 (v' := .bool true) rfl (congrArg Value.bool (by decide)) ?_
 refine nn_ (ct_ rfl (sr_ (mv_ rfl (sg_ rfl (nn_ ?_)))))
 refine gw_ret ?_
 refine nx_then_ret ?_
 refine nx_ret1 rfl rfl fun wx hm => ?_
 exact ⟨rfl, hm.g⟩
theorem equal_evs (l : List Ev) (A1 A2 : Option Addr) (n c1 c2 : Nat) (w : World) (h1 : SlT evEnc 5 92 w A1 n l) (h2 : SlT evEnc 5 92 w A2 n l) (hn : n ≤ 1000000) :
  Calls Tryz.prog 58 #[.slice A1 n c1, .slice A2 n c2] w (fun e w' => e = .returned (.bool true) ∧ w.grownBy w' none) := by
 refine gw_enter ⟨26, w, none, []⟩ Tryz.func58 rfl Tryz.ntmps58 rfl (mem0 (X := [SlOld evEnc 5 92 w.heap.size none A1 n l, SlOld evEnc 5 92 w.heap.size none A2 n l]) (allF_cons h1.old (allF_cons h2.old allF_nil)) (allL_cons SlOld.lasts (allL_cons SlOld.lasts allL_nil))) ?_
 refine sr_ ?_
 have hlen := h1.len
 refine sg_ rfl (nn_ (gw_seq (sr_ (mv_ rfl (wl_ov (ov_len es48 rfl) rfl (mv_ rfl (wl_ov (ov_len es48 rfl) rfl (wl_ov (ov_neq rfl rfl) rfl ?_))))))))
 refine wl_set 10 (v' := .bool false) rfl (congrArg Value.bool (by simp)) ?_
 refine nn_ (cf_ rfl (gw_skip (nx_then (gw_seq (sr_ (mv_ rfl (wl_ov (ov_len es48 rfl) rfl (mv_ rfl (nn_ (gw_block ?_))))))))))
 refine gw_loop (γ := Nat) (fun (k : Nat) => k ≤ n) (fun (k : Nat) => [(0, .slice A1 n c1), (1, .slice A2 n c2), (12, .int .i64 ((n : Nat) : Int)), (13, .int .i64 ((k : Nat) : Int))]) (fun (k : Nat) => fun _ => True) (fun (k : Nat) => []) (fun (k : Nat) => []) (fun (k : Nat) => [SlOld evEnc 5 92 w.heap.size none A1 n l, SlOld evEnc 5 92 w.heap.size none A2 n l]) (fun (k : Nat) => n - k) 0 (Nat.zero_le _) ⟨rfl, rfl, rfl, rfl, trivial⟩ (fun _ hm => hm.pick [] [] [0, 1] rfl rfl) ?_
 intro k hinv
 replace hinv : k ≤ n := hinv
 refine sr_ (wl_ov (ov_lss rfl rfl) rfl (nn_ (gw_seq ?_)))
 refine gw_cond rfl (fun hh => ?_) (fun hh => ?_)
 ·have hk : ((k : Nat) : Int) < ((n : Nat) : Int) := by simpa using hh
  clear hh
  refine gw_skip (nx_then (gw_seq (gw_block (sr_ ?_))))
  obtain ⟨b1, o1, hA, _, _⟩ := h1.get (by omega)
  subst hA
  obtain ⟨b2, o2, hA, _, _⟩ := h2.get (by omega)
  subst hA
  obtain ⟨x, hx⟩ : ∃ x, l[k]? = some x := ⟨_, List.getElem?_eq_getElem (by omega)⟩
  obtain ⟨x0, x1, x2, x3, x4⟩ := x
  refine mv_ rfl (sg_ rfl (nn_ (gw_seq ?_)))
  refine gd (fun wz => (SlOld evEnc 5 92 w.heap.size none (some ⟨b1, o1, none⟩) n l) wz ∧ (SlOld evEnc 5 92 w.heap.size none (some ⟨b2, o2, none⟩) n l) wz ∧ True) mixed (fun _ hm => ⟨hm.fa 0, hm.fa 1, trivial⟩) fun z => ?_
  refine wt 0 9 1 rfl z (ov_move rfl) ?_
  refine wt 1 9 3 rfl z (ov_move rfl) ?_
  refine wt 2 9 7 rfl z (ov_index (j := k) es48 rfl rfl (by omega)) ?_
  refine wt 3 9 15 rfl z (ov_elem (vs := [.int .i64 x0, .string x1, .string x2, .int .i64 x3, .string x4]) rz92 rfl (fun _ hm => (hm.1).1) hx rfl rfl) ?_
  refine wt 4 9 31 rfl z (ov_move rfl) ?_
  refine wt 5 9 63 rfl z (ov_move rfl) ?_
  refine wt 6 9 127 rfl z (ov_index (j := k) es48 rfl rfl (by omega)) ?_
  refine wt 7 9 255 rfl z (ov_elem (vs := [.int .i64 x0, .string x1, .string x2, .int .i64 x3, .string x4]) rz92 rfl (fun _ hm => (hm.2.1).1) hx rfl rfl) ?_
  refine wt 8 9 511 rfl z (ov_bin rfl rfl (cmp_agg guard_event (fun wx => ev_neq x0 x1 x2 x3 x4 x0 x1 x2 x3 x4 wx))) ?_
  refine wa_set 24 (v' := .bool false) rfl (congrArg Value.bool (by rw [evQ_iff.2 rfl]; rfl)) ?_
  refine wa_done (by kernel_rfl) ?_
  refine nx_then (cf_ rfl (gw_skip (nx_blk_nrm (nx_then (gw_region (ad_ rfl rfl (mv_ rfl (wl_nil ?_))))))))
  exact nx_round (k + 1) (by omega) (by omega) ⟨rfl, rfl, rfl, (some_int (by omega)), trivial⟩ (fun _ hm => hm.pick [] [] [0, 1] rfl rfl)
 have hk : ¬ (((k : Nat) : Int) < ((n : Nat) : Int)) := by simpa using hh
 clear hh
 refine gw_exit ?_
 refine nx_then_exit (nx_then_exit ?_)
 refine nx_blk_here ?_
 refine nx_then (sr_ (sg_ rfl (nn_ ?_)))
 refine gw_ret ?_
 refine nx_ret1 rfl rfl fun wx hm => ?_
 exact ⟨rfl, hm.g⟩
end Go.Proofs.YtjecbkgjabnmoaaGreatDoor
