/- Several texts as one: Rx Gp Gs -/
import Derived.Test.YtjecbkgjabnmoaaGreatDoorPd
import Derived.Test.YtjecbkgjabnmoaaGreatDoorPb
import Derived.Test.YtjecbkgjabnmoaaGreatDoorPa
set_option maxRecDepth 100000
set_option maxHeartbeats 4000000
namespace Go.Proofs.YtjecbkgjabnmoaaGreatDoor
open Go.RowKit
/-- What the generators' fleets are. -/
def FlOk (sl : List St) (cl : List Cs) (vl : List Vh) (pl : List Pl) (sn vn pn : Nat) : Prop := ((∀ x ∈ sl, StOk x) ∧ sn ≤ 10) ∧ (∀ x ∈ cl, CsOk x) ∧ ((∀ x ∈ vl, VhB x) ∧ vn ≤ 10) ∧ (∀ x ∈ pl, PlB x) ∧ pn ≤ 10
theorem s0_ok : ∀ h ∈ ([0, 0, 0, 0, 0, 0, 0, 0, 0, 0, 0, 0, 0, 0] : List Int), -9223372036854775808 ≤ h ∧ h ≤ 9223372036854775807 := by decide
theorem stB_all {l : List St} (h : ∀ x ∈ l, StB x) : ∀ x ∈ l, StOk x := fun x hx => stB_ok (h x hx)
theorem gclassKey2_any (w : World) (B sb m : Nat) (hS : Strm 25 w B sb m) (hm : m ≤ 100000000000) :
  Calls Tryz.prog 44 #[.pointer (some ⟨sb, 0, none⟩)] w (fun e w' => ∃ v : ByteArray, e = .returned (.string v) ∧ v.size ≤ 100 ∧ Strm 25 w' B sb (m + 1) ∧ w.grownBy w' (some sb)) := by
 refine gw_enter ⟨6, w, (some sb), []⟩ Tryz.func44 rfl Tryz.ntmps44 rfl (memS (X := []) hS allF_nil allL_nil) ?_
 refine sr_ (sg_ rfl (nn_ (sr_ (mv_ rfl ?_))))
 refine wl_buildSlice (e := 9) (cs := [.string ⟨#[109, 105, 110, 105]⟩, .string ⟨#[109, 105, 110, 105]⟩, .string ⟨#[109, 105, 100, 105]⟩, .string ⟨#[109, 97, 120, 105]⟩, .string ⟨#[98, 105, 103]⟩, .string ⟨#[109, 105, 110, 105]⟩, .string ⟨#[110, 111, 110, 101]⟩, .string ⟨#[]⟩, .string ⟨#[65]⟩]) rfl (by kernel_rfl) rfl fun g1 => ?_
 refine wl_got (γ := ByteArray) (val := fun v => .string v) (φ := fun v => v ∈ ([⟨#[109, 105, 110, 105]⟩, ⟨#[109, 105, 110, 105]⟩, ⟨#[109, 105, 100, 105]⟩, ⟨#[109, 97, 120, 105]⟩, ⟨#[98, 105, 103]⟩, ⟨#[109, 105, 110, 105]⟩, ⟨#[110, 111, 110, 101]⟩, ⟨#[]⟩, ⟨#[65]⟩] : List ByteArray)) rfl cb43 rfl rfl rfl rfl (fun wx hm => (some_any [⟨#[109, 105, 110, 105]⟩, ⟨#[109, 105, 110, 105]⟩, ⟨#[109, 105, 100, 105]⟩, ⟨#[109, 97, 120, 105]⟩, ⟨#[98, 105, 103]⟩, ⟨#[109, 105, 110, 105]⟩, ⟨#[110, 111, 110, 101]⟩, ⟨#[]⟩, ⟨#[65]⟩] _ _ _ wx B sb _ hm.k (by omega) (by simp) (by simp) (hm.blkI 0 rfl) (hm.neRow 0 rfl rfl))) fun s2 hs2 => ?_
 have zs2 : s2.size ≤ 100 := mem_sz hs2 (by decide)
 refine sg_ rfl (nn_ ?_)
 refine gw_ret ?_
 refine nx_ret1 rfl rfl fun wx hm => ?_
 exact ⟨s2, rfl, by omega, hm.k, hm.g⟩
theorem fleet_any (w : World) (B sb m : Nat) (hS : Strm 25 w B sb m) (hm : m ≤ 10000000) :
  Calls Tryz.prog 11 #[.pointer (some ⟨sb, 0, none⟩)] w (fun e w' => ∃ (sA cA vA pA : Option Addr) (sn sc cc vn vc pn pc : Nat) (sl : List St) (cl : List Cs) (vl : List Vh) (pl : List Pl), e = .returned (.agg #[.slice sA sn sc, .slice cA 4 cc, .slice vA vn vc, .slice pA pn pc]) ∧ FlOk sl cl vl pl sn vn pn ∧ Strm 25 w' B sb (m + 400) ∧ w.grownBy w' (some sb) ∧ SlT stEnc 15 140 w' sA sn sl ∧ SlT csEnc 2 159 w' cA 4 cl ∧ SlT vhEnc 2 77 w' vA vn vl ∧ SlT plEnc 3 143 w' pA pn pl ∧ ShapeA pA pn pc ∧ pn ≤ pc) := by
 refine gw_enter ⟨56, w, (some sb), [159]⟩ Tryz.func11 rfl Tryz.ntmps11 rfl (memS (X := []) hS allF_nil allL_nil) ?_
 refine sr_ ?_
 refine wl_alloc zc31 rfl fun g1 => ?_
 refine nn_ (sr_ (mv_ rfl ?_))
 refine wl_calls3 (γ := Option Addr × Option Addr × Option Addr × Option Addr × Nat × Nat × Nat × Nat × Nat × Nat × Nat × List St × List Cs × List Vh × List Pl) (val := (fun g => .agg #[.slice g.1 g.2.2.2.2.1 g.2.2.2.2.2.1, .slice g.2.1 4 g.2.2.2.2.2.2.1, .slice g.2.2.1 g.2.2.2.2.2.2.2.1 g.2.2.2.2.2.2.2.2.1, .slice g.2.2.2.1 g.2.2.2.2.2.2.2.2.2.1 g.2.2.2.2.2.2.2.2.2.2.1])) (φ := (fun g => RfOk g.2.2.2.2.2.2.2.2.2.2.2.1 g.2.2.2.2.2.2.2.2.2.2.2.2.1 g.2.2.2.2.2.2.2.2.2.2.2.2.2.1 g.2.2.2.2.2.2.2.2.2.2.2.2.2.2 g.2.2.2.2.1 g.2.2.2.2.2.2.2.1 g.2.2.2.2.2.2.2.2.2.1)) (Y := (fun g => fun wy => SlT csEnc 2 159 wy g.2.1 4 g.2.2.2.2.2.2.2.2.2.2.2.2.1)) (m' := m + 300) (fun g => ⟨.slice g.1 g.2.2.2.2.1 g.2.2.2.2.2.1, 140, 15, g.2.2.2.2.1, g.2.2.2.2.2.2.2.2.2.2.2.1.flatMap stEnc⟩) (fun g => ⟨.slice g.2.2.1 g.2.2.2.2.2.2.2.1 g.2.2.2.2.2.2.2.2.1, 77, 2, g.2.2.2.2.2.2.2.1, g.2.2.2.2.2.2.2.2.2.2.2.2.2.1.flatMap vhEnc⟩) (fun g => ⟨.slice g.2.2.2.1 g.2.2.2.2.2.2.2.2.2.1 g.2.2.2.2.2.2.2.2.2.2.1, 143, 3, g.2.2.2.2.2.2.2.2.2.1, g.2.2.2.2.2.2.2.2.2.2.2.2.2.2.flatMap plEnc⟩) rfl cb38 rfl rfl rfl rfl (fun _ => rfl) (fun _ => rfl) (fun _ => rfl) (fun wx hm => (rightFleet_any wx B sb _ hm.k (by omega)).mono fun _ _ ⟨sA, cA, vA, pA, sn, sc, cc, vn, vc, pn, pc, sl, cl, vl, pl, he, hok, hS, hg, h1, h2, h3, h4⟩ => ⟨(sA, cA, vA, pA, sn, sc, cc, vn, vc, pn, pc, sl, cl, vl, pl), he, hok, hS, hg, h1, h2, h3, h4⟩) (fun _ => SlT.lasts2 rfl) ?_
 rintro ⟨sA, cA, vA, pA, sn, sc, cc, vn, vc, pn, pc, sl, cl, vl, pl⟩ hrf
 dsimp only at hrf ⊢
 obtain ⟨⟨hsl, hsB, hs1, hs3⟩, ⟨hcl4, hcok⟩, ⟨hvl, hvB, hv4⟩, hpl, hpB, hp5⟩ := hrf
 refine wl_alloc zc31 rfl fun g2 => ?_
 refine wl_stores (cs' := [.slice sA sn sc, .slice cA 4 cc, .slice vA vn vc, .slice pA pn pc]) 0 rz31 rfl rfl rfl rfl rfl rfl rfl rfl ?_
 refine nn_ (gw_seq (sr_ (mv_ rfl ?_)))
 refine wl_got (γ := Bool) (val := fun v => .bool v) (φ := fun v => True) rfl cb53 rfl rfl rfl rfl (fun wx hm => ((flip_any _ wx B sb _ hm.k (by omega) (by omega) (by omega)).mono fun _ _ ⟨v, he, hS, hg⟩ => ⟨v, trivial, he, hS, hg⟩)) fun f3 _ => ?_
 refine wl_ov (ov_un_not rfl) rfl (nn_ ?_)
 refine gw_cond rfl (fun hh => ?_) (fun hh => ?_)
 ·have hf : f3 = false := by simpa using hh
  clear hh
  refine sr_ ?_
  refine wl_ov (ov_loads rz31 rfl (fun _ hm => hm.blkI 0 rfl) rfl rfl) rfl ?_
  refine wl_stores (cs' := [.slice sA sn sc, .slice cA 4 cc, .slice vA vn vc, .slice pA pn pc]) 1 rz31 rfl rfl rfl rfl rfl rfl rfl rfl ?_
  refine nn_ ?_
  refine gw_ret ?_
  refine nx_then_ret ?_
  refine nx_retc 1 rfl rz31 rfl rfl rfl fun wx hm => ?_
  exact ⟨sA, cA, vA, pA, sn, sc, cc, vn, vc, pn, pc, sl, cl, vl, pl, rfl, ⟨⟨stB_all hsB, by omega⟩, hcok, ⟨hvB, by omega⟩, hpB, by omega⟩, hm.k.more (by omega), hm.g, SlT.ofOwnL stEnc_lenL (stB_all hsB) (hm.ownI 0 rfl) hsl, (hm.fact 0 rfl), SlT.ofOwn vh_len (hm.ownI 1 rfl) hvl, SlT.ofOwn pl_len (hm.ownI 2 rfl) hpl, own_shape (hm.ownI 2 rfl), own_cap (hm.ownI 2 rfl)⟩
 have hf : f3 = true := by simpa using hh
 clear hh
 refine gw_skip (nx_then (gw_seq (sr_ (mv_ rfl ?_))))
 refine wl_got (γ := Int) (val := fun v => .int .i64 v) (φ := fun v => IsBelow 4 v) rfl cb42 rfl rfl rfl rfl (fun wx hm => (next_any _ wx B sb _ hm.k (by omega) (by omega) (by omega))) fun vj hvj => ?_
 refine nn_ (gw_block (sr_ (wl_ov (ov_eql rfl rfl) rfl (sg_ rfl (nn_ ?_)))))
 refine gw_cond rfl (fun hh => ?_) (fun hh => ?_)
 ·have h0 : vj = 0 := by simpa using hh
  clear hh
  refine gd (fun wz => Blk wz g1 31 [.slice none 0 0, .slice none 0 0, .slice none 0 0, .slice none 0 0] ∧ (fun wy => SlT csEnc 2 159 wy cA 4 cl) wz ∧ True) mixed (fun _ hm => ⟨hm.bl 1, hm.fa 0, trivial⟩) fun z => ?_
  refine wt 0 10 1 rfl z (ov_field fo31_0 rfl rfl) ?_
  refine wt 2 10 5 rfl z (ov_move rfl) ?_
  refine wa_all [1, 3] (by kernel_rfl) rfl ⟨⟨_, rfl, ?_⟩, ⟨_, rfl, ?_⟩, trivial⟩
  ·refine lk_ sc26 0 rfl rfl rfl (wl_nil ?_)
   refine nw 10 7 (fun _ hm => ⟨hm.bl 1, hm.fa 0, trivial⟩) fun z => ?_
   refine wa1 3 rfl ?_
   refine wl_buildSlice (e := 9) (cs := [.string ⟨#[]⟩, .string ⟨#[65]⟩, .string ⟨#[115, 49]⟩, .string ⟨#[115, 57]⟩]) rfl (by kernel_rfl) rfl fun g4 => ?_
   refine wl_nil ?_
   refine nw 10 15 (fun _ hm => ⟨hm.bl 2, hm.fa 0, trivial⟩) fun z => ?_
   refine wa1 4 rfl ?_
   refine wl_got (γ := ByteArray) (val := fun v => .string v) (φ := fun v => v ∈ ([⟨#[]⟩, ⟨#[65]⟩, ⟨#[115, 49]⟩, ⟨#[115, 57]⟩] : List ByteArray)) rfl cb43 rfl rfl rfl rfl (fun wx hm => (some_any [⟨#[]⟩, ⟨#[65]⟩, ⟨#[115, 49]⟩, ⟨#[115, 57]⟩] _ _ _ wx B sb _ hm.k (by omega) (by simp) (by simp) (hm.blkI 0 rfl) (hm.neRow 0 rfl rfl))) fun s5 hs5 => ?_
   have zs5 : s5.size ≤ 100 := mem_sz hs5 (by decide)
   refine wl_nil ?_
   refine nw 10 31 (fun _ hm => ⟨hm.bl 2, hm.fa 0, trivial⟩) fun z => ?_
   refine wt 5 10 63 rfl z (ov_build (cs := [.string s5, .int .i64 0, .int .i64 0, .int .i64 0, .int .i64 0, .int .i64 0, .int .i64 0, .int .i64 0, .int .i64 0, .int .i64 0, .int .i64 0, .int .i64 0, .int .i64 0, .int .i64 0, .int .i64 0]) rfl (by kernel_rfl)) ?_
   refine wa1 6 rfl ?_
   refine wl_buildSlice (e := 140) (cs := [.string s5, .int .i64 0, .int .i64 0, .int .i64 0, .int .i64 0, .int .i64 0, .int .i64 0, .int .i64 0, .int .i64 0, .int .i64 0, .int .i64 0, .int .i64 0, .int .i64 0, .int .i64 0, .int .i64 0]) rfl (by kernel_rfl) rfl fun g6 => ?_
   refine wl_nil ?_
   refine nw 10 127 (fun _ hm => ⟨hm.bl 3, hm.fa 0, trivial⟩) fun z => ?_
   refine wa1 7 rfl ?_
   refine wl_append (news := [.string s5, .int .i64 0, .int .i64 0, .int .i64 0, .int .i64 0, .int .i64 0, .int .i64 0, .int .i64 0, .int .i64 0, .int .i64 0, .int .i64 0, .int .i64 0, .int .i64 0, .int .i64 0, .int .i64 0]) 0 0 ap26 rfl rfl rfl rfl rfl rfl rfl (by omega) (by unfold maxLen; omega) rfl rfl fun v2 hv2 => ?_
   refine wl_look (R := ∃ A cc, v2 = .slice A (sn + 1) cc) (fun wx hm => own_slice (hm.ownI 0 rfl)) ?_
   rintro ⟨A2, c2, rfl⟩
   have hxs : sl.flatMap stEnc ++ ([.string s5, .int .i64 0, .int .i64 0, .int .i64 0, .int .i64 0, .int .i64 0, .int .i64 0, .int .i64 0, .int .i64 0, .int .i64 0, .int .i64 0, .int .i64 0, .int .i64 0, .int .i64 0, .int .i64 0] : List Value) = (sl ++ [(⟨s5, [0, 0, 0, 0, 0, 0, 0, 0, 0, 0, 0, 0, 0, 0]⟩ : St)]).flatMap stEnc := by simp [stEnc, stCells]
   rw [hxs]
   refine wl_nil ?_
   refine nw 10 255 (fun _ hm => ⟨hm.bl 3, hm.fa 0, trivial⟩) fun z => ?_
   refine wt 8 10 511 rfl z (ov_field fo31_0 rfl rfl) ?_
   refine wa1 9 rfl ?_
   refine wl_store 2 sc26 rfl rfl rfl rfl rfl rfl ?_
   refine wl_nil ?_
   refine nw 10 1023 (fun _ hm => ⟨hm.bl 3, hm.fa 0, trivial⟩) fun z => ?_
   refine wa_done (by kernel_rfl) ?_
   refine nx_blk_nrm (nx_then (sr_ ?_))
   refine wl_ov (ov_loads rz31 rfl (fun _ hm => hm.blkI 2 rfl) rfl rfl) rfl ?_
   refine wl_stores (cs' := [.slice A2 (sn + 1) c2, .slice cA 4 cc, .slice vA vn vc, .slice pA pn pc]) 3 rz31 rfl rfl rfl rfl rfl rfl rfl rfl ?_
   refine nn_ ?_
   refine gw_ret ?_
   refine nx_retc 3 rfl rz31 rfl rfl rfl fun wx hm => ?_
   exact ⟨A2, cA, vA, pA, sn + 1, c2, cc, vn, vc, pn, pc, sl ++ [(⟨s5, [0, 0, 0, 0, 0, 0, 0, 0, 0, 0, 0, 0, 0, 0]⟩ : St)], cl, vl, pl, rfl, ⟨⟨all_snoc (stB_all hsB) ⟨rfl, by dsimp only; omega, s0_ok⟩, by omega⟩, hcok, ⟨hvB, by omega⟩, hpB, by omega⟩, hm.k.more (by omega), hm.g, SlT.ofOwnL stEnc_lenL (all_snoc (stB_all hsB) ⟨rfl, by dsimp only; omega, s0_ok⟩) (hm.ownI 0 rfl) (by simp [hsl]), (hm.fact 0 rfl), SlT.ofOwn vh_len (hm.ownI 1 rfl) hvl, SlT.ofOwn pl_len (hm.ownI 2 rfl) hpl, own_shape (hm.ownI 2 rfl), own_cap (hm.ownI 2 rfl)⟩
  refine wl_buildSlice (e := 9) (cs := [.string ⟨#[]⟩, .string ⟨#[65]⟩, .string ⟨#[115, 49]⟩, .string ⟨#[115, 57]⟩]) rfl (by kernel_rfl) rfl fun g7 => ?_
  refine wl_nil ?_
  refine nw 10 13 (fun _ hm => ⟨hm.bl 2, hm.fa 0, trivial⟩) fun z => ?_
  refine wa_all [1, 4] (by kernel_rfl) rfl ⟨⟨_, rfl, ?_⟩, ⟨_, rfl, ?_⟩, trivial⟩
  ·refine lk_ sc26 1 rfl rfl rfl (wl_nil ?_)
   refine nw 10 15 (fun _ hm => ⟨hm.bl 2, hm.fa 0, trivial⟩) fun z => ?_
   refine wa1 4 rfl ?_
   refine wl_got (γ := ByteArray) (val := fun v => .string v) (φ := fun v => v ∈ ([⟨#[]⟩, ⟨#[65]⟩, ⟨#[115, 49]⟩, ⟨#[115, 57]⟩] : List ByteArray)) rfl cb43 rfl rfl rfl rfl (fun wx hm => (some_any [⟨#[]⟩, ⟨#[65]⟩, ⟨#[115, 49]⟩, ⟨#[115, 57]⟩] _ _ _ wx B sb _ hm.k (by omega) (by simp) (by simp) (hm.blkI 0 rfl) (hm.neRow 0 rfl rfl))) fun s8 hs8 => ?_
   have zs8 : s8.size ≤ 100 := mem_sz hs8 (by decide)
   refine wl_nil ?_
   refine nw 10 31 (fun _ hm => ⟨hm.bl 2, hm.fa 0, trivial⟩) fun z => ?_
   refine wt 5 10 63 rfl z (ov_build (cs := [.string s8, .int .i64 0, .int .i64 0, .int .i64 0, .int .i64 0, .int .i64 0, .int .i64 0, .int .i64 0, .int .i64 0, .int .i64 0, .int .i64 0, .int .i64 0, .int .i64 0, .int .i64 0, .int .i64 0]) rfl (by kernel_rfl)) ?_
   refine wa1 6 rfl ?_
   refine wl_buildSlice (e := 140) (cs := [.string s8, .int .i64 0, .int .i64 0, .int .i64 0, .int .i64 0, .int .i64 0, .int .i64 0, .int .i64 0, .int .i64 0, .int .i64 0, .int .i64 0, .int .i64 0, .int .i64 0, .int .i64 0, .int .i64 0]) rfl (by kernel_rfl) rfl fun g9 => ?_
   refine wl_nil ?_
   refine nw 10 127 (fun _ hm => ⟨hm.bl 3, hm.fa 0, trivial⟩) fun z => ?_
   refine wa1 7 rfl ?_
   refine wl_append (news := [.string s8, .int .i64 0, .int .i64 0, .int .i64 0, .int .i64 0, .int .i64 0, .int .i64 0, .int .i64 0, .int .i64 0, .int .i64 0, .int .i64 0, .int .i64 0, .int .i64 0, .int .i64 0, .int .i64 0]) 0 0 ap26 rfl rfl rfl rfl rfl rfl rfl (by omega) (by unfold maxLen; omega) rfl rfl fun v2 hv2 => ?_
   refine wl_look (R := ∃ A cc, v2 = .slice A (sn + 1) cc) (fun wx hm => own_slice (hm.ownI 0 rfl)) ?_
   rintro ⟨A2, c2, rfl⟩
   have hxs : sl.flatMap stEnc ++ ([.string s8, .int .i64 0, .int .i64 0, .int .i64 0, .int .i64 0, .int .i64 0, .int .i64 0, .int .i64 0, .int .i64 0, .int .i64 0, .int .i64 0, .int .i64 0, .int .i64 0, .int .i64 0, .int .i64 0] : List Value) = (sl ++ [(⟨s8, [0, 0, 0, 0, 0, 0, 0, 0, 0, 0, 0, 0, 0, 0]⟩ : St)]).flatMap stEnc := by simp [stEnc, stCells]
   rw [hxs]
   refine wl_nil ?_
   refine nw 10 255 (fun _ hm => ⟨hm.bl 3, hm.fa 0, trivial⟩) fun z => ?_
   refine wt 8 10 511 rfl z (ov_field fo31_0 rfl rfl) ?_
   refine wa1 9 rfl ?_
   refine wl_store 2 sc26 rfl rfl rfl rfl rfl rfl ?_
   refine wl_nil ?_
   refine nw 10 1023 (fun _ hm => ⟨hm.bl 3, hm.fa 0, trivial⟩) fun z => ?_
   refine wa_done (by kernel_rfl) ?_
   refine nx_blk_nrm (nx_then (sr_ ?_))
   refine wl_ov (ov_loads rz31 rfl (fun _ hm => hm.blkI 2 rfl) rfl rfl) rfl ?_
   refine wl_stores (cs' := [.slice A2 (sn + 1) c2, .slice cA 4 cc, .slice vA vn vc, .slice pA pn pc]) 3 rz31 rfl rfl rfl rfl rfl rfl rfl rfl ?_
   refine nn_ ?_
   refine gw_ret ?_
   refine nx_retc 3 rfl rz31 rfl rfl rfl fun wx hm => ?_
   exact ⟨A2, cA, vA, pA, sn + 1, c2, cc, vn, vc, pn, pc, sl ++ [(⟨s8, [0, 0, 0, 0, 0, 0, 0, 0, 0, 0, 0, 0, 0, 0]⟩ : St)], cl, vl, pl, rfl, ⟨⟨all_snoc (stB_all hsB) ⟨rfl, by dsimp only; omega, s0_ok⟩, by omega⟩, hcok, ⟨hvB, by omega⟩, hpB, by omega⟩, hm.k.more (by omega), hm.g, SlT.ofOwnL stEnc_lenL (all_snoc (stB_all hsB) ⟨rfl, by dsimp only; omega, s0_ok⟩) (hm.ownI 0 rfl) (by simp [hsl]), (hm.fact 0 rfl), SlT.ofOwn vh_len (hm.ownI 1 rfl) hvl, SlT.ofOwn pl_len (hm.ownI 2 rfl) hpl, own_shape (hm.ownI 2 rfl), own_cap (hm.ownI 2 rfl)⟩
  refine wl_got (γ := ByteArray) (val := fun v => .string v) (φ := fun v => v ∈ ([⟨#[]⟩, ⟨#[65]⟩, ⟨#[115, 49]⟩, ⟨#[115, 57]⟩] : List ByteArray)) rfl cb43 rfl rfl rfl rfl (fun wx hm => (some_any [⟨#[]⟩, ⟨#[65]⟩, ⟨#[115, 49]⟩, ⟨#[115, 57]⟩] _ _ _ wx B sb _ hm.k (by omega) (by simp) (by simp) (hm.blkI 0 rfl) (hm.neRow 0 rfl rfl))) fun s10 hs10 => ?_
  have zs10 : s10.size ≤ 100 := mem_sz hs10 (by decide)
  refine wl_nil ?_
  refine nw 10 29 (fun _ hm => ⟨hm.bl 2, hm.fa 0, trivial⟩) fun z => ?_
  refine wt 5 10 61 rfl z (ov_build (cs := [.string s10, .int .i64 0, .int .i64 0, .int .i64 0, .int .i64 0, .int .i64 0, .int .i64 0, .int .i64 0, .int .i64 0, .int .i64 0, .int .i64 0, .int .i64 0, .int .i64 0, .int .i64 0, .int .i64 0]) rfl (by kernel_rfl)) ?_
  refine wa_all [1, 6] (by kernel_rfl) rfl ⟨⟨_, rfl, ?_⟩, ⟨_, rfl, ?_⟩, trivial⟩
  ·refine lk_ sc26 1 rfl rfl rfl (wl_nil ?_)
   refine nw 10 63 (fun _ hm => ⟨hm.bl 2, hm.fa 0, trivial⟩) fun z => ?_
   refine wa1 6 rfl ?_
   refine wl_buildSlice (e := 140) (cs := [.string s10, .int .i64 0, .int .i64 0, .int .i64 0, .int .i64 0, .int .i64 0, .int .i64 0, .int .i64 0, .int .i64 0, .int .i64 0, .int .i64 0, .int .i64 0, .int .i64 0, .int .i64 0, .int .i64 0]) rfl (by kernel_rfl) rfl fun g11 => ?_
   refine wl_nil ?_
   refine nw 10 127 (fun _ hm => ⟨hm.bl 3, hm.fa 0, trivial⟩) fun z => ?_
   refine wa1 7 rfl ?_
   refine wl_append (news := [.string s10, .int .i64 0, .int .i64 0, .int .i64 0, .int .i64 0, .int .i64 0, .int .i64 0, .int .i64 0, .int .i64 0, .int .i64 0, .int .i64 0, .int .i64 0, .int .i64 0, .int .i64 0, .int .i64 0]) 0 0 ap26 rfl rfl rfl rfl rfl rfl rfl (by omega) (by unfold maxLen; omega) rfl rfl fun v2 hv2 => ?_
   refine wl_look (R := ∃ A cc, v2 = .slice A (sn + 1) cc) (fun wx hm => own_slice (hm.ownI 0 rfl)) ?_
   rintro ⟨A2, c2, rfl⟩
   have hxs : sl.flatMap stEnc ++ ([.string s10, .int .i64 0, .int .i64 0, .int .i64 0, .int .i64 0, .int .i64 0, .int .i64 0, .int .i64 0, .int .i64 0, .int .i64 0, .int .i64 0, .int .i64 0, .int .i64 0, .int .i64 0, .int .i64 0] : List Value) = (sl ++ [(⟨s10, [0, 0, 0, 0, 0, 0, 0, 0, 0, 0, 0, 0, 0, 0]⟩ : St)]).flatMap stEnc := by simp [stEnc, stCells]
   rw [hxs]
   refine wl_nil ?_
   refine nw 10 255 (fun _ hm => ⟨hm.bl 3, hm.fa 0, trivial⟩) fun z => ?_
   refine wt 8 10 511 rfl z (ov_field fo31_0 rfl rfl) ?_
   refine wa1 9 rfl ?_
   refine wl_store 2 sc26 rfl rfl rfl rfl rfl rfl ?_
   refine wl_nil ?_
   refine nw 10 1023 (fun _ hm => ⟨hm.bl 3, hm.fa 0, trivial⟩) fun z => ?_
   refine wa_done (by kernel_rfl) ?_
   refine nx_blk_nrm (nx_then (sr_ ?_))
   refine wl_ov (ov_loads rz31 rfl (fun _ hm => hm.blkI 2 rfl) rfl rfl) rfl ?_
   refine wl_stores (cs' := [.slice A2 (sn + 1) c2, .slice cA 4 cc, .slice vA vn vc, .slice pA pn pc]) 3 rz31 rfl rfl rfl rfl rfl rfl rfl rfl ?_
   refine nn_ ?_
   refine gw_ret ?_
   refine nx_retc 3 rfl rz31 rfl rfl rfl fun wx hm => ?_
   exact ⟨A2, cA, vA, pA, sn + 1, c2, cc, vn, vc, pn, pc, sl ++ [(⟨s10, [0, 0, 0, 0, 0, 0, 0, 0, 0, 0, 0, 0, 0, 0]⟩ : St)], cl, vl, pl, rfl, ⟨⟨all_snoc (stB_all hsB) ⟨rfl, by dsimp only; omega, s0_ok⟩, by omega⟩, hcok, ⟨hvB, by omega⟩, hpB, by omega⟩, hm.k.more (by omega), hm.g, SlT.ofOwnL stEnc_lenL (all_snoc (stB_all hsB) ⟨rfl, by dsimp only; omega, s0_ok⟩) (hm.ownI 0 rfl) (by simp [hsl]), (hm.fact 0 rfl), SlT.ofOwn vh_len (hm.ownI 1 rfl) hvl, SlT.ofOwn pl_len (hm.ownI 2 rfl) hpl, own_shape (hm.ownI 2 rfl), own_cap (hm.ownI 2 rfl)⟩
  refine wl_buildSlice (e := 140) (cs := [.string s10, .int .i64 0, .int .i64 0, .int .i64 0, .int .i64 0, .int .i64 0, .int .i64 0, .int .i64 0, .int .i64 0, .int .i64 0, .int .i64 0, .int .i64 0, .int .i64 0, .int .i64 0, .int .i64 0]) rfl (by kernel_rfl) rfl fun g12 => ?_
  refine wl_nil ?_
  refine nw 10 125 (fun _ hm => ⟨hm.bl 3, hm.fa 0, trivial⟩) fun z => ?_
  refine wa1 1 rfl ?_
  refine lk_ sc26 2 rfl rfl rfl (wl_nil ?_)
  refine nw 10 127 (fun _ hm => ⟨hm.bl 3, hm.fa 0, trivial⟩) fun z => ?_
  refine wa1 7 rfl ?_
  refine wl_append (news := [.string s10, .int .i64 0, .int .i64 0, .int .i64 0, .int .i64 0, .int .i64 0, .int .i64 0, .int .i64 0, .int .i64 0, .int .i64 0, .int .i64 0, .int .i64 0, .int .i64 0, .int .i64 0, .int .i64 0]) 0 0 ap26 rfl rfl rfl rfl rfl rfl rfl (by omega) (by unfold maxLen; omega) rfl rfl fun v2 hv2 => ?_
  refine wl_look (R := ∃ A cc, v2 = .slice A (sn + 1) cc) (fun wx hm => own_slice (hm.ownI 0 rfl)) ?_
  rintro ⟨A2, c2, rfl⟩
  have hxs : sl.flatMap stEnc ++ ([.string s10, .int .i64 0, .int .i64 0, .int .i64 0, .int .i64 0, .int .i64 0, .int .i64 0, .int .i64 0, .int .i64 0, .int .i64 0, .int .i64 0, .int .i64 0, .int .i64 0, .int .i64 0, .int .i64 0] : List Value) = (sl ++ [(⟨s10, [0, 0, 0, 0, 0, 0, 0, 0, 0, 0, 0, 0, 0, 0]⟩ : St)]).flatMap stEnc := by simp [stEnc, stCells]
  rw [hxs]
  refine wl_nil ?_
  refine nw 10 255 (fun _ hm => ⟨hm.bl 3, hm.fa 0, trivial⟩) fun z => ?_
  refine wt 8 10 511 rfl z (ov_field fo31_0 rfl rfl) ?_
  refine wa1 9 rfl ?_
  refine wl_store 2 sc26 rfl rfl rfl rfl rfl rfl ?_
  refine wl_nil ?_
  refine nw 10 1023 (fun _ hm => ⟨hm.bl 3, hm.fa 0, trivial⟩) fun z => ?_
  refine wa_done (by kernel_rfl) ?_
  refine nx_blk_nrm (nx_then (sr_ ?_))
  refine wl_ov (ov_loads rz31 rfl (fun _ hm => hm.blkI 2 rfl) rfl rfl) rfl ?_
  refine wl_stores (cs' := [.slice A2 (sn + 1) c2, .slice cA 4 cc, .slice vA vn vc, .slice pA pn pc]) 3 rz31 rfl rfl rfl rfl rfl rfl rfl rfl ?_
  refine nn_ ?_
  refine gw_ret ?_
  refine nx_retc 3 rfl rz31 rfl rfl rfl fun wx hm => ?_
  exact ⟨A2, cA, vA, pA, sn + 1, c2, cc, vn, vc, pn, pc, sl ++ [(⟨s10, [0, 0, 0, 0, 0, 0, 0, 0, 0, 0, 0, 0, 0, 0]⟩ : St)], cl, vl, pl, rfl, ⟨⟨all_snoc (stB_all hsB) ⟨rfl, by dsimp only; omega, s0_ok⟩, by omega⟩, hcok, ⟨hvB, by omega⟩, hpB, by omega⟩, hm.k.more (by omega), hm.g, SlT.ofOwnL stEnc_lenL (all_snoc (stB_all hsB) ⟨rfl, by dsimp only; omega, s0_ok⟩) (hm.ownI 0 rfl) (by simp [hsl]), (hm.fact 0 rfl), SlT.ofOwn vh_len (hm.ownI 1 rfl) hvl, SlT.ofOwn pl_len (hm.ownI 2 rfl) hpl, own_shape (hm.ownI 2 rfl), own_cap (hm.ownI 2 rfl)⟩
 have h0 : ¬ (vj = 0) := by simpa using hh
 clear hh
 refine sr_ (wl_ov (ov_eql rfl rfl) rfl (sg_ rfl (nn_ ?_)))
 refine gw_cond rfl (fun hh => ?_) (fun hh => ?_)
 ·have h1 : vj = 1 := by simpa using hh
  clear hh
  refine gw_region (mv_ rfl ?_)
  refine wl_calls (γ := Option Addr × Nat × List Cs) (val := (fun g => .slice g.1 4 g.2.1)) (φ := (fun g => g.2.2.length = 4 ∧ (∀ x ∈ g.2.2, CsOk x))) (Y := (fun g => fun wy => SlT csEnc 2 159 wy g.1 4 g.2.2)) (m' := m + 300 + 1 + 1 + 40) rfl cb76 rfl rfl rfl rfl (fun wx hm => (ganyClasses_any wx B sb _ hm.k (by omega)).mono fun _ _ ⟨A, c, l, he, ho, hl, hok, hS, hg⟩ => ⟨(A, c, l), he, ⟨hl, hok⟩, hS, hg, SlT.ofOwn cs_len ho hl⟩) (fun _ => SlT.lasts2 rfl) ?_
  rintro ⟨cA2, cc2, cl2⟩ hphi
  dsimp only at hphi ⊢
  obtain ⟨hcl42, hcok2⟩ := hphi
  refine fd_ fo31_1 rfl rfl ?_
  refine wl_store 0 sc27 rfl rfl rfl rfl rfl rfl ?_
  refine wl_nil (nx_blk_nrm (nx_then (sr_ ?_)))
  refine wl_ov (ov_loads rz31 rfl (fun _ hm => hm.blkI 0 rfl) rfl rfl) rfl ?_
  refine wl_stores (cs' := [.slice sA sn sc, .slice cA2 4 cc2, .slice vA vn vc, .slice pA pn pc]) 1 rz31 rfl rfl rfl rfl rfl rfl rfl rfl ?_
  refine nn_ ?_
  refine gw_ret ?_
  refine nx_retc 1 rfl rz31 rfl rfl rfl fun wx hm => ?_
  exact ⟨sA, cA2, vA, pA, sn, sc, cc2, vn, vc, pn, pc, sl, cl2, vl, pl, rfl, ⟨⟨stB_all hsB, by omega⟩, hcok2, ⟨hvB, by omega⟩, hpB, by omega⟩, hm.k.more (by omega), hm.g, SlT.ofOwnL stEnc_lenL (stB_all hsB) (hm.ownI 0 rfl) hsl, (hm.fact 0 rfl), SlT.ofOwn vh_len (hm.ownI 1 rfl) hvl, SlT.ofOwn pl_len (hm.ownI 2 rfl) hpl, own_shape (hm.ownI 2 rfl), own_cap (hm.ownI 2 rfl)⟩
 have h1 : ¬ (vj = 1) := by simpa using hh
 clear hh
 refine sr_ (wl_ov (ov_eql rfl rfl) rfl (sg_ rfl (nn_ ?_)))
 refine gw_cond rfl (fun hh => ?_) (fun hh => ?_)
 ·have h2 : vj = 2 := by simpa using hh
  clear hh
  refine gd (fun wz => Blk wz g1 31 [.slice none 0 0, .slice none 0 0, .slice none 0 0, .slice none 0 0] ∧ (fun wy => SlT csEnc 2 159 wy cA 4 cl) wz ∧ True) mixed (fun _ hm => ⟨hm.bl 1, hm.fa 0, trivial⟩) fun z => ?_
  refine wt 0 12 1 rfl z (ov_field fo31_2 rfl rfl) ?_
  refine wt 2 12 5 rfl z (ov_move rfl) ?_
  refine wt 5 12 37 rfl z (ov_move rfl) ?_
  refine wa_all [1, 3] (by kernel_rfl) rfl ⟨⟨_, rfl, ?_⟩, ⟨_, rfl, ?_⟩, trivial⟩
  ·refine lk_ sc28 0 rfl rfl rfl (wl_nil ?_)
   refine nw 12 39 (fun _ hm => ⟨hm.bl 1, hm.fa 0, trivial⟩) fun z => ?_
   refine wa1 3 rfl ?_
   refine wl_buildSlice (e := 9) (cs := [.string ⟨#[]⟩, .string ⟨#[118, 49]⟩, .string ⟨#[118, 57]⟩]) rfl (by kernel_rfl) rfl fun g13 => ?_
   refine wl_nil ?_
   refine nw 12 47 (fun _ hm => ⟨hm.bl 2, hm.fa 0, trivial⟩) fun z => ?_
   refine wa1 4 rfl ?_
   refine wl_got (γ := ByteArray) (val := fun v => .string v) (φ := fun v => v ∈ ([⟨#[]⟩, ⟨#[118, 49]⟩, ⟨#[118, 57]⟩] : List ByteArray)) rfl cb43 rfl rfl rfl rfl (fun wx hm => (some_any [⟨#[]⟩, ⟨#[118, 49]⟩, ⟨#[118, 57]⟩] _ _ _ wx B sb _ hm.k (by omega) (by simp) (by simp) (hm.blkI 0 rfl) (hm.neRow 0 rfl rfl))) fun s14 hs14 => ?_
   have zs14 : s14.size ≤ 100 := mem_sz hs14 (by decide)
   refine wl_nil ?_
   refine nw 12 63 (fun _ hm => ⟨hm.bl 2, hm.fa 0, trivial⟩) fun z => ?_
   refine wa1 6 rfl ?_
   refine wl_calls (γ := ByteArray) (val := (fun g => .string g)) (φ := (fun g => g.size ≤ 100)) (Y := (fun g => fun _ => True)) (m' := m + 300 + 1 + 1 + 1 + 1) rfl cb44 rfl rfl rfl rfl (fun wx hm => (gclassKey2_any wx B sb _ hm.k (by omega)).mono fun _ _ ⟨v, he, hz, hS, hg⟩ => ⟨v, he, hz, hS, hg, trivial⟩) (fun _ => Lasts2.true_) ?_
   rintro ck hck
   refine wl_nil ?_
   refine nw 12 127 (fun _ hm => ⟨hm.bl 2, hm.fa 1, trivial⟩) fun z => ?_
   refine wt 7 12 255 rfl z (ov_build (cs := [.string s14, .string ck]) rfl (by kernel_rfl)) ?_
   refine wa1 8 rfl ?_
   refine wl_buildSlice (e := 77) (cs := [.string s14, .string ck]) rfl (by kernel_rfl) rfl fun g16 => ?_
   refine wl_nil ?_
   refine nw 12 511 (fun _ hm => ⟨hm.bl 3, hm.fa 1, trivial⟩) fun z => ?_
   refine wa1 9 rfl ?_
   refine wl_append (news := [.string s14, .string ck]) 1 0 ap28 rfl rfl rfl rfl rfl rfl rfl (by omega) (by unfold maxLen; omega) rfl rfl fun v2 hv2 => ?_
   refine wl_look (R := ∃ A cc, v2 = .slice A (vn + 1) cc) (fun wx hm => own_slice (hm.ownI 1 rfl)) ?_
   rintro ⟨A2, c2, rfl⟩
   have hxs : vl.flatMap vhEnc ++ ([.string s14, .string ck] : List Value) = (vl ++ [(⟨s14, ck⟩ : Vh)]).flatMap vhEnc := by simp [vhEnc]
   rw [hxs]
   refine wl_nil ?_
   refine nw 12 1023 (fun _ hm => ⟨hm.bl 3, hm.fa 1, trivial⟩) fun z => ?_
   refine wt 10 12 2047 rfl z (ov_field fo31_2 rfl rfl) ?_
   refine wa1 11 rfl ?_
   refine wl_store 2 sc28 rfl rfl rfl rfl rfl rfl ?_
   refine wl_nil ?_
   refine nw 12 4095 (fun _ hm => ⟨hm.bl 3, hm.fa 1, trivial⟩) fun z => ?_
   refine wa_done (by kernel_rfl) ?_
   refine nx_blk_nrm (nx_then (sr_ ?_))
   refine wl_ov (ov_loads rz31 rfl (fun _ hm => hm.blkI 2 rfl) rfl rfl) rfl ?_
   refine wl_stores (cs' := [.slice sA sn sc, .slice cA 4 cc, .slice A2 (vn + 1) c2, .slice pA pn pc]) 3 rz31 rfl rfl rfl rfl rfl rfl rfl rfl ?_
   refine nn_ ?_
   refine gw_ret ?_
   refine nx_retc 3 rfl rz31 rfl rfl rfl fun wx hm => ?_
   exact ⟨sA, cA, A2, pA, sn, sc, cc, vn + 1, c2, pn, pc, sl, cl, vl ++ [(⟨s14, ck⟩ : Vh)], pl, rfl, ⟨⟨stB_all hsB, by omega⟩, hcok, ⟨all_snoc hvB ⟨by dsimp only; omega, by dsimp only; omega⟩, by omega⟩, hpB, by omega⟩, hm.k.more (by omega), hm.g, SlT.ofOwnL stEnc_lenL (stB_all hsB) (hm.ownI 0 rfl) hsl, (hm.fact 1 rfl), SlT.ofOwn vh_len (hm.ownI 1 rfl) (by simp [hvl]), SlT.ofOwn pl_len (hm.ownI 2 rfl) hpl, own_shape (hm.ownI 2 rfl), own_cap (hm.ownI 2 rfl)⟩
  refine wl_buildSlice (e := 9) (cs := [.string ⟨#[]⟩, .string ⟨#[118, 49]⟩, .string ⟨#[118, 57]⟩]) rfl (by kernel_rfl) rfl fun g17 => ?_
  refine wl_nil ?_
  refine nw 12 45 (fun _ hm => ⟨hm.bl 2, hm.fa 0, trivial⟩) fun z => ?_
  refine wa_all [1, 4] (by kernel_rfl) rfl ⟨⟨_, rfl, ?_⟩, ⟨_, rfl, ?_⟩, trivial⟩
  ·refine lk_ sc28 1 rfl rfl rfl (wl_nil ?_)
   refine nw 12 47 (fun _ hm => ⟨hm.bl 2, hm.fa 0, trivial⟩) fun z => ?_
   refine wa1 4 rfl ?_
   refine wl_got (γ := ByteArray) (val := fun v => .string v) (φ := fun v => v ∈ ([⟨#[]⟩, ⟨#[118, 49]⟩, ⟨#[118, 57]⟩] : List ByteArray)) rfl cb43 rfl rfl rfl rfl (fun wx hm => (some_any [⟨#[]⟩, ⟨#[118, 49]⟩, ⟨#[118, 57]⟩] _ _ _ wx B sb _ hm.k (by omega) (by simp) (by simp) (hm.blkI 0 rfl) (hm.neRow 0 rfl rfl))) fun s18 hs18 => ?_
   have zs18 : s18.size ≤ 100 := mem_sz hs18 (by decide)
   refine wl_nil ?_
   refine nw 12 63 (fun _ hm => ⟨hm.bl 2, hm.fa 0, trivial⟩) fun z => ?_
   refine wa1 6 rfl ?_
   refine wl_calls (γ := ByteArray) (val := (fun g => .string g)) (φ := (fun g => g.size ≤ 100)) (Y := (fun g => fun _ => True)) (m' := m + 300 + 1 + 1 + 1 + 1) rfl cb44 rfl rfl rfl rfl (fun wx hm => (gclassKey2_any wx B sb _ hm.k (by omega)).mono fun _ _ ⟨v, he, hz, hS, hg⟩ => ⟨v, he, hz, hS, hg, trivial⟩) (fun _ => Lasts2.true_) ?_
   rintro ck hck
   refine wl_nil ?_
   refine nw 12 127 (fun _ hm => ⟨hm.bl 2, hm.fa 1, trivial⟩) fun z => ?_
   refine wt 7 12 255 rfl z (ov_build (cs := [.string s18, .string ck]) rfl (by kernel_rfl)) ?_
   refine wa1 8 rfl ?_
   refine wl_buildSlice (e := 77) (cs := [.string s18, .string ck]) rfl (by kernel_rfl) rfl fun g20 => ?_
   refine wl_nil ?_
   refine nw 12 511 (fun _ hm => ⟨hm.bl 3, hm.fa 1, trivial⟩) fun z => ?_
   refine wa1 9 rfl ?_
   refine wl_append (news := [.string s18, .string ck]) 1 0 ap28 rfl rfl rfl rfl rfl rfl rfl (by omega) (by unfold maxLen; omega) rfl rfl fun v2 hv2 => ?_
   refine wl_look (R := ∃ A cc, v2 = .slice A (vn + 1) cc) (fun wx hm => own_slice (hm.ownI 1 rfl)) ?_
   rintro ⟨A2, c2, rfl⟩
   have hxs : vl.flatMap vhEnc ++ ([.string s18, .string ck] : List Value) = (vl ++ [(⟨s18, ck⟩ : Vh)]).flatMap vhEnc := by simp [vhEnc]
   rw [hxs]
   refine wl_nil ?_
   refine nw 12 1023 (fun _ hm => ⟨hm.bl 3, hm.fa 1, trivial⟩) fun z => ?_
   refine wt 10 12 2047 rfl z (ov_field fo31_2 rfl rfl) ?_
   refine wa1 11 rfl ?_
   refine wl_store 2 sc28 rfl rfl rfl rfl rfl rfl ?_
   refine wl_nil ?_
   refine nw 12 4095 (fun _ hm => ⟨hm.bl 3, hm.fa 1, trivial⟩) fun z => ?_
   refine wa_done (by kernel_rfl) ?_
   refine nx_blk_nrm (nx_then (sr_ ?_))
   refine wl_ov (ov_loads rz31 rfl (fun _ hm => hm.blkI 2 rfl) rfl rfl) rfl ?_
   refine wl_stores (cs' := [.slice sA sn sc, .slice cA 4 cc, .slice A2 (vn + 1) c2, .slice pA pn pc]) 3 rz31 rfl rfl rfl rfl rfl rfl rfl rfl ?_
   refine nn_ ?_
   refine gw_ret ?_
   refine nx_retc 3 rfl rz31 rfl rfl rfl fun wx hm => ?_
   exact ⟨sA, cA, A2, pA, sn, sc, cc, vn + 1, c2, pn, pc, sl, cl, vl ++ [(⟨s18, ck⟩ : Vh)], pl, rfl, ⟨⟨stB_all hsB, by omega⟩, hcok, ⟨all_snoc hvB ⟨by dsimp only; omega, by dsimp only; omega⟩, by omega⟩, hpB, by omega⟩, hm.k.more (by omega), hm.g, SlT.ofOwnL stEnc_lenL (stB_all hsB) (hm.ownI 0 rfl) hsl, (hm.fact 1 rfl), SlT.ofOwn vh_len (hm.ownI 1 rfl) (by simp [hvl]), SlT.ofOwn pl_len (hm.ownI 2 rfl) hpl, own_shape (hm.ownI 2 rfl), own_cap (hm.ownI 2 rfl)⟩
  refine wl_got (γ := ByteArray) (val := fun v => .string v) (φ := fun v => v ∈ ([⟨#[]⟩, ⟨#[118, 49]⟩, ⟨#[118, 57]⟩] : List ByteArray)) rfl cb43 rfl rfl rfl rfl (fun wx hm => (some_any [⟨#[]⟩, ⟨#[118, 49]⟩, ⟨#[118, 57]⟩] _ _ _ wx B sb _ hm.k (by omega) (by simp) (by simp) (hm.blkI 0 rfl) (hm.neRow 0 rfl rfl))) fun s21 hs21 => ?_
  have zs21 : s21.size ≤ 100 := mem_sz hs21 (by decide)
  refine wl_nil ?_
  refine nw 12 61 (fun _ hm => ⟨hm.bl 2, hm.fa 0, trivial⟩) fun z => ?_
  refine wa_all [1, 6] (by kernel_rfl) rfl ⟨⟨_, rfl, ?_⟩, ⟨_, rfl, ?_⟩, trivial⟩
  ·refine lk_ sc28 1 rfl rfl rfl (wl_nil ?_)
   refine nw 12 63 (fun _ hm => ⟨hm.bl 2, hm.fa 0, trivial⟩) fun z => ?_
   refine wa1 6 rfl ?_
   refine wl_calls (γ := ByteArray) (val := (fun g => .string g)) (φ := (fun g => g.size ≤ 100)) (Y := (fun g => fun _ => True)) (m' := m + 300 + 1 + 1 + 1 + 1) rfl cb44 rfl rfl rfl rfl (fun wx hm => (gclassKey2_any wx B sb _ hm.k (by omega)).mono fun _ _ ⟨v, he, hz, hS, hg⟩ => ⟨v, he, hz, hS, hg, trivial⟩) (fun _ => Lasts2.true_) ?_
   rintro ck hck
   refine wl_nil ?_
   refine nw 12 127 (fun _ hm => ⟨hm.bl 2, hm.fa 1, trivial⟩) fun z => ?_
   refine wt 7 12 255 rfl z (ov_build (cs := [.string s21, .string ck]) rfl (by kernel_rfl)) ?_
   refine wa1 8 rfl ?_
   refine wl_buildSlice (e := 77) (cs := [.string s21, .string ck]) rfl (by kernel_rfl) rfl fun g23 => ?_
   refine wl_nil ?_
   refine nw 12 511 (fun _ hm => ⟨hm.bl 3, hm.fa 1, trivial⟩) fun z => ?_
   refine wa1 9 rfl ?_
   refine wl_append (news := [.string s21, .string ck]) 1 0 ap28 rfl rfl rfl rfl rfl rfl rfl (by omega) (by unfold maxLen; omega) rfl rfl fun v2 hv2 => ?_
   refine wl_look (R := ∃ A cc, v2 = .slice A (vn + 1) cc) (fun wx hm => own_slice (hm.ownI 1 rfl)) ?_
   rintro ⟨A2, c2, rfl⟩
   have hxs : vl.flatMap vhEnc ++ ([.string s21, .string ck] : List Value) = (vl ++ [(⟨s21, ck⟩ : Vh)]).flatMap vhEnc := by simp [vhEnc]
   rw [hxs]
   refine wl_nil ?_
   refine nw 12 1023 (fun _ hm => ⟨hm.bl 3, hm.fa 1, trivial⟩) fun z => ?_
   refine wt 10 12 2047 rfl z (ov_field fo31_2 rfl rfl) ?_
   refine wa1 11 rfl ?_
   refine wl_store 2 sc28 rfl rfl rfl rfl rfl rfl ?_
   refine wl_nil ?_
   refine nw 12 4095 (fun _ hm => ⟨hm.bl 3, hm.fa 1, trivial⟩) fun z => ?_
   refine wa_done (by kernel_rfl) ?_
   refine nx_blk_nrm (nx_then (sr_ ?_))
   refine wl_ov (ov_loads rz31 rfl (fun _ hm => hm.blkI 2 rfl) rfl rfl) rfl ?_
   refine wl_stores (cs' := [.slice sA sn sc, .slice cA 4 cc, .slice A2 (vn + 1) c2, .slice pA pn pc]) 3 rz31 rfl rfl rfl rfl rfl rfl rfl rfl ?_
   refine nn_ ?_
   refine gw_ret ?_
   refine nx_retc 3 rfl rz31 rfl rfl rfl fun wx hm => ?_
   exact ⟨sA, cA, A2, pA, sn, sc, cc, vn + 1, c2, pn, pc, sl, cl, vl ++ [(⟨s21, ck⟩ : Vh)], pl, rfl, ⟨⟨stB_all hsB, by omega⟩, hcok, ⟨all_snoc hvB ⟨by dsimp only; omega, by dsimp only; omega⟩, by omega⟩, hpB, by omega⟩, hm.k.more (by omega), hm.g, SlT.ofOwnL stEnc_lenL (stB_all hsB) (hm.ownI 0 rfl) hsl, (hm.fact 1 rfl), SlT.ofOwn vh_len (hm.ownI 1 rfl) (by simp [hvl]), SlT.ofOwn pl_len (hm.ownI 2 rfl) hpl, own_shape (hm.ownI 2 rfl), own_cap (hm.ownI 2 rfl)⟩
  refine wl_calls (γ := ByteArray) (val := (fun g => .string g)) (φ := (fun g => g.size ≤ 100)) (Y := (fun g => fun _ => True)) (m' := m + 300 + 1 + 1 + 1 + 1) rfl cb44 rfl rfl rfl rfl (fun wx hm => (gclassKey2_any wx B sb _ hm.k (by omega)).mono fun _ _ ⟨v, he, hz, hS, hg⟩ => ⟨v, he, hz, hS, hg, trivial⟩) (fun _ => Lasts2.true_) ?_
  rintro ck hck
  refine wl_nil ?_
  refine nw 12 125 (fun _ hm => ⟨hm.bl 2, hm.fa 1, trivial⟩) fun z => ?_
  refine wt 7 12 253 rfl z (ov_build (cs := [.string s21, .string ck]) rfl (by kernel_rfl)) ?_
  refine wa_all [1, 8] (by kernel_rfl) rfl ⟨⟨_, rfl, ?_⟩, ⟨_, rfl, ?_⟩, trivial⟩
  ·refine lk_ sc28 1 rfl rfl rfl (wl_nil ?_)
   refine nw 12 255 (fun _ hm => ⟨hm.bl 2, hm.fa 1, trivial⟩) fun z => ?_
   refine wa1 8 rfl ?_
   refine wl_buildSlice (e := 77) (cs := [.string s21, .string ck]) rfl (by kernel_rfl) rfl fun g25 => ?_
   refine wl_nil ?_
   refine nw 12 511 (fun _ hm => ⟨hm.bl 3, hm.fa 1, trivial⟩) fun z => ?_
   refine wa1 9 rfl ?_
   refine wl_append (news := [.string s21, .string ck]) 1 0 ap28 rfl rfl rfl rfl rfl rfl rfl (by omega) (by unfold maxLen; omega) rfl rfl fun v2 hv2 => ?_
   refine wl_look (R := ∃ A cc, v2 = .slice A (vn + 1) cc) (fun wx hm => own_slice (hm.ownI 1 rfl)) ?_
   rintro ⟨A2, c2, rfl⟩
   have hxs : vl.flatMap vhEnc ++ ([.string s21, .string ck] : List Value) = (vl ++ [(⟨s21, ck⟩ : Vh)]).flatMap vhEnc := by simp [vhEnc]
   rw [hxs]
   refine wl_nil ?_
   refine nw 12 1023 (fun _ hm => ⟨hm.bl 3, hm.fa 1, trivial⟩) fun z => ?_
   refine wt 10 12 2047 rfl z (ov_field fo31_2 rfl rfl) ?_
   refine wa1 11 rfl ?_
   refine wl_store 2 sc28 rfl rfl rfl rfl rfl rfl ?_
   refine wl_nil ?_
   refine nw 12 4095 (fun _ hm => ⟨hm.bl 3, hm.fa 1, trivial⟩) fun z => ?_
   refine wa_done (by kernel_rfl) ?_
   refine nx_blk_nrm (nx_then (sr_ ?_))
   refine wl_ov (ov_loads rz31 rfl (fun _ hm => hm.blkI 2 rfl) rfl rfl) rfl ?_
   refine wl_stores (cs' := [.slice sA sn sc, .slice cA 4 cc, .slice A2 (vn + 1) c2, .slice pA pn pc]) 3 rz31 rfl rfl rfl rfl rfl rfl rfl rfl ?_
   refine nn_ ?_
   refine gw_ret ?_
   refine nx_retc 3 rfl rz31 rfl rfl rfl fun wx hm => ?_
   exact ⟨sA, cA, A2, pA, sn, sc, cc, vn + 1, c2, pn, pc, sl, cl, vl ++ [(⟨s21, ck⟩ : Vh)], pl, rfl, ⟨⟨stB_all hsB, by omega⟩, hcok, ⟨all_snoc hvB ⟨by dsimp only; omega, by dsimp only; omega⟩, by omega⟩, hpB, by omega⟩, hm.k.more (by omega), hm.g, SlT.ofOwnL stEnc_lenL (stB_all hsB) (hm.ownI 0 rfl) hsl, (hm.fact 1 rfl), SlT.ofOwn vh_len (hm.ownI 1 rfl) (by simp [hvl]), SlT.ofOwn pl_len (hm.ownI 2 rfl) hpl, own_shape (hm.ownI 2 rfl), own_cap (hm.ownI 2 rfl)⟩
  refine wl_buildSlice (e := 77) (cs := [.string s21, .string ck]) rfl (by kernel_rfl) rfl fun g26 => ?_
  refine wl_nil ?_
  refine nw 12 509 (fun _ hm => ⟨hm.bl 3, hm.fa 1, trivial⟩) fun z => ?_
  refine wa1 1 rfl ?_
  refine lk_ sc28 2 rfl rfl rfl (wl_nil ?_)
  refine nw 12 511 (fun _ hm => ⟨hm.bl 3, hm.fa 1, trivial⟩) fun z => ?_
  refine wa1 9 rfl ?_
  refine wl_append (news := [.string s21, .string ck]) 1 0 ap28 rfl rfl rfl rfl rfl rfl rfl (by omega) (by unfold maxLen; omega) rfl rfl fun v2 hv2 => ?_
  refine wl_look (R := ∃ A cc, v2 = .slice A (vn + 1) cc) (fun wx hm => own_slice (hm.ownI 1 rfl)) ?_
  rintro ⟨A2, c2, rfl⟩
  have hxs : vl.flatMap vhEnc ++ ([.string s21, .string ck] : List Value) = (vl ++ [(⟨s21, ck⟩ : Vh)]).flatMap vhEnc := by simp [vhEnc]
  rw [hxs]
  refine wl_nil ?_
  refine nw 12 1023 (fun _ hm => ⟨hm.bl 3, hm.fa 1, trivial⟩) fun z => ?_
  refine wt 10 12 2047 rfl z (ov_field fo31_2 rfl rfl) ?_
  refine wa1 11 rfl ?_
  refine wl_store 2 sc28 rfl rfl rfl rfl rfl rfl ?_
  refine wl_nil ?_
  refine nw 12 4095 (fun _ hm => ⟨hm.bl 3, hm.fa 1, trivial⟩) fun z => ?_
  refine wa_done (by kernel_rfl) ?_
  refine nx_blk_nrm (nx_then (sr_ ?_))
  refine wl_ov (ov_loads rz31 rfl (fun _ hm => hm.blkI 2 rfl) rfl rfl) rfl ?_
  refine wl_stores (cs' := [.slice sA sn sc, .slice cA 4 cc, .slice A2 (vn + 1) c2, .slice pA pn pc]) 3 rz31 rfl rfl rfl rfl rfl rfl rfl rfl ?_
  refine nn_ ?_
  refine gw_ret ?_
  refine nx_retc 3 rfl rz31 rfl rfl rfl fun wx hm => ?_
  exact ⟨sA, cA, A2, pA, sn, sc, cc, vn + 1, c2, pn, pc, sl, cl, vl ++ [(⟨s21, ck⟩ : Vh)], pl, rfl, ⟨⟨stB_all hsB, by omega⟩, hcok, ⟨all_snoc hvB ⟨by dsimp only; omega, by dsimp only; omega⟩, by omega⟩, hpB, by omega⟩, hm.k.more (by omega), hm.g, SlT.ofOwnL stEnc_lenL (stB_all hsB) (hm.ownI 0 rfl) hsl, (hm.fact 1 rfl), SlT.ofOwn vh_len (hm.ownI 1 rfl) (by simp [hvl]), SlT.ofOwn pl_len (hm.ownI 2 rfl) hpl, own_shape (hm.ownI 2 rfl), own_cap (hm.ownI 2 rfl)⟩
 have h2 : ¬ (vj = 2) := by simpa using hh
 clear hh
 refine gd (fun wz => Blk wz g1 31 [.slice none 0 0, .slice none 0 0, .slice none 0 0, .slice none 0 0] ∧ (fun wy => SlT csEnc 2 159 wy cA 4 cl) wz ∧ True) mixed (fun _ hm => ⟨hm.bl 1, hm.fa 0, trivial⟩) fun z => ?_
 refine wt 0 15 1 rfl z (ov_field fo31_3 rfl rfl) ?_
 refine wt 2 15 5 rfl z (ov_move rfl) ?_
 refine wt 4 15 21 rfl z (ov_move rfl) ?_
 refine wt 7 15 149 rfl z (ov_move rfl) ?_
 refine wa_all [1, 3, 5, 8] (by kernel_rfl) rfl ⟨⟨_, rfl, ?_⟩, ⟨_, rfl, ?_⟩, ⟨_, rfl, ?_⟩, ⟨_, rfl, ?_⟩, trivial⟩
 ·refine lk_ sc29 0 rfl rfl rfl (wl_nil ?_)
  refine nw 15 151 (fun _ hm => ⟨hm.bl 1, hm.fa 0, trivial⟩) fun z => ?_
  refine wa_all [3, 5, 8] (by kernel_rfl) rfl ⟨⟨_, rfl, ?_⟩, ⟨_, rfl, ?_⟩, ⟨_, rfl, ?_⟩, trivial⟩
  ·refine wl_got (γ := Int) (val := fun v => .int .i64 v) (φ := fun v => -2000000000000000 ≤ v ∧ v ≤ 2000000000000000) rfl cb77 rfl rfl rfl rfl (fun wx hm => (odd_any _ _ wx B sb _ hm.k (by omega) (by omega) (by omega) (by omega))) fun v27 hv27 => ?_
   refine wl_nil ?_
   refine nw 15 159 (fun _ hm => ⟨hm.bl 1, hm.fa 0, trivial⟩) fun z => ?_
   refine wa_all [5, 8] (by kernel_rfl) rfl ⟨⟨_, rfl, ?_⟩, ⟨_, rfl, ?_⟩, trivial⟩
   ·refine wl_buildSlice (e := 9) (cs := [.string ⟨#[118, 49]⟩, .string ⟨#[110, 111, 110, 101]⟩]) rfl (by kernel_rfl) rfl fun g28 => ?_
    refine wl_nil ?_
    refine nw 15 191 (fun _ hm => ⟨hm.bl 2, hm.fa 0, trivial⟩) fun z => ?_
    refine wa_all [6, 8] (by kernel_rfl) rfl ⟨⟨_, rfl, ?_⟩, ⟨_, rfl, ?_⟩, trivial⟩
    ·refine wl_got (γ := ByteArray) (val := fun v => .string v) (φ := fun v => v ∈ ([⟨#[118, 49]⟩, ⟨#[110, 111, 110, 101]⟩] : List ByteArray)) rfl cb43 rfl rfl rfl rfl (fun wx hm => (some_any [⟨#[118, 49]⟩, ⟨#[110, 111, 110, 101]⟩] _ _ _ wx B sb _ hm.k (by omega) (by simp) (by simp) (hm.blkI 0 rfl) (hm.neRow 0 rfl rfl))) fun s29 hs29 => ?_
     have zs29 : s29.size ≤ 100 := mem_sz hs29 (by decide)
     refine wl_nil ?_
     refine nw 15 255 (fun _ hm => ⟨hm.bl 2, hm.fa 0, trivial⟩) fun z => ?_
     refine wa1 8 rfl ?_
     refine wl_buildSlice (e := 9) (cs := [.string ⟨#[65, 66, 49]⟩, .string ⟨#[97, 49]⟩, .string ⟨#[65]⟩, .string ⟨#[65, 66, 67, 68, 69, 70, 71, 72, 73, 74, 49]⟩, .string ⟨#[65, 66, 49]⟩]) rfl (by kernel_rfl) rfl fun g30 => ?_
     refine wl_nil ?_
     refine nw 15 511 (fun _ hm => ⟨hm.bl 3, hm.fa 0, trivial⟩) fun z => ?_
     refine wa1 9 rfl ?_
     refine wl_got (γ := ByteArray) (val := fun v => .string v) (φ := fun v => v ∈ ([⟨#[65, 66, 49]⟩, ⟨#[97, 49]⟩, ⟨#[65]⟩, ⟨#[65, 66, 67, 68, 69, 70, 71, 72, 73, 74, 49]⟩, ⟨#[65, 66, 49]⟩] : List ByteArray)) rfl cb43 rfl rfl rfl rfl (fun wx hm => (some_any [⟨#[65, 66, 49]⟩, ⟨#[97, 49]⟩, ⟨#[65]⟩, ⟨#[65, 66, 67, 68, 69, 70, 71, 72, 73, 74, 49]⟩, ⟨#[65, 66, 49]⟩] _ _ _ wx B sb _ hm.k (by omega) (by simp) (by simp) (hm.blkI 0 rfl) (hm.neRow 0 rfl rfl))) fun s31 hs31 => ?_
     have zs31 : s31.size ≤ 100 := mem_sz hs31 (by decide)
     refine wl_nil ?_
     refine nw 15 1023 (fun _ hm => ⟨hm.bl 3, hm.fa 0, trivial⟩) fun z => ?_
     refine wt 10 15 2047 rfl z (ov_build (cs := [.int .i64 v27, .string s29, .string s31]) rfl (by kernel_rfl)) ?_
     refine wa1 11 rfl ?_
     refine wl_buildSlice (e := 143) (cs := [.int .i64 v27, .string s29, .string s31]) rfl (by kernel_rfl) rfl fun g32 => ?_
     refine wl_nil ?_
     refine nw 15 4095 (fun _ hm => ⟨hm.bl 4, hm.fa 0, trivial⟩) fun z => ?_
     refine wa1 12 rfl ?_
     refine wl_append (news := [.int .i64 v27, .string s29, .string s31]) 2 0 ap29 rfl rfl rfl rfl rfl rfl rfl (by omega) (by unfold maxLen; omega) rfl rfl fun v2 hv2 => ?_
     refine wl_look (R := ∃ A cc, v2 = .slice A (pn + 1) cc) (fun wx hm => own_slice (hm.ownI 2 rfl)) ?_
     rintro ⟨A2, c2, rfl⟩
     have hxs : pl.flatMap plEnc ++ ([.int .i64 v27, .string s29, .string s31] : List Value) = (pl ++ [(⟨v27, s29, s31⟩ : Pl)]).flatMap plEnc := by simp [plEnc]
     rw [hxs]
     refine wl_nil ?_
     refine nw 15 8191 (fun _ hm => ⟨hm.bl 4, hm.fa 0, trivial⟩) fun z => ?_
     refine wt 13 15 16383 rfl z (ov_field fo31_3 rfl rfl) ?_
     refine wa1 14 rfl ?_
     refine wl_store 3 sc29 rfl rfl rfl rfl rfl rfl ?_
     refine wl_nil ?_
     refine nw 15 32767 (fun _ hm => ⟨hm.bl 4, hm.fa 0, trivial⟩) fun z => ?_
     refine wa_done (by kernel_rfl) ?_
     refine nx_blk_nrm (nx_then (sr_ ?_))
     refine wl_ov (ov_loads rz31 rfl (fun _ hm => hm.blkI 3 rfl) rfl rfl) rfl ?_
     refine wl_stores (cs' := [.slice sA sn sc, .slice cA 4 cc, .slice vA vn vc, .slice A2 (pn + 1) c2]) 4 rz31 rfl rfl rfl rfl rfl rfl rfl rfl ?_
     refine nn_ ?_
     refine gw_ret ?_
     refine nx_retc 4 rfl rz31 rfl rfl rfl fun wx hm => ?_
     exact ⟨sA, cA, vA, A2, sn, sc, cc, vn, vc, pn + 1, c2, sl, cl, vl, pl ++ [(⟨v27, s29, s31⟩ : Pl)], rfl, ⟨⟨stB_all hsB, by omega⟩, hcok, ⟨hvB, by omega⟩, all_snoc hpB ⟨⟨by dsimp only; omega, by dsimp only; omega⟩, by dsimp only; omega, by dsimp only; omega⟩, by omega⟩, hm.k.more (by omega), hm.g, SlT.ofOwnL stEnc_lenL (stB_all hsB) (hm.ownI 0 rfl) hsl, (hm.fact 0 rfl), SlT.ofOwn vh_len (hm.ownI 1 rfl) hvl, SlT.ofOwn pl_len (hm.ownI 2 rfl) (by simp [hpl]), own_shape (hm.ownI 2 rfl), own_cap (hm.ownI 2 rfl)⟩
    refine wl_buildSlice (e := 9) (cs := [.string ⟨#[65, 66, 49]⟩, .string ⟨#[97, 49]⟩, .string ⟨#[65]⟩, .string ⟨#[65, 66, 67, 68, 69, 70, 71, 72, 73, 74, 49]⟩, .string ⟨#[65, 66, 49]⟩]) rfl (by kernel_rfl) rfl fun g33 => ?_
    refine wl_nil ?_
    refine nw 15 447 (fun _ hm => ⟨hm.bl 3, hm.fa 0, trivial⟩) fun z => ?_
    refine wa1 6 rfl ?_
    refine wl_got (γ := ByteArray) (val := fun v => .string v) (φ := fun v => v ∈ ([⟨#[118, 49]⟩, ⟨#[110, 111, 110, 101]⟩] : List ByteArray)) rfl cb43 rfl rfl rfl rfl (fun wx hm => (some_any [⟨#[118, 49]⟩, ⟨#[110, 111, 110, 101]⟩] _ _ _ wx B sb _ hm.k (by omega) (by simp) (by simp) (hm.blkI 1 rfl) (hm.neRow 1 rfl rfl))) fun s34 hs34 => ?_
    have zs34 : s34.size ≤ 100 := mem_sz hs34 (by decide)
    refine wl_nil ?_
    refine nw 15 511 (fun _ hm => ⟨hm.bl 3, hm.fa 0, trivial⟩) fun z => ?_
    refine wa1 9 rfl ?_
    refine wl_got (γ := ByteArray) (val := fun v => .string v) (φ := fun v => v ∈ ([⟨#[65, 66, 49]⟩, ⟨#[97, 49]⟩, ⟨#[65]⟩, ⟨#[65, 66, 67, 68, 69, 70, 71, 72, 73, 74, 49]⟩, ⟨#[65, 66, 49]⟩] : List ByteArray)) rfl cb43 rfl rfl rfl rfl (fun wx hm => (some_any [⟨#[65, 66, 49]⟩, ⟨#[97, 49]⟩, ⟨#[65]⟩, ⟨#[65, 66, 67, 68, 69, 70, 71, 72, 73, 74, 49]⟩, ⟨#[65, 66, 49]⟩] _ _ _ wx B sb _ hm.k (by omega) (by simp) (by simp) (hm.blkI 0 rfl) (hm.neRow 0 rfl rfl))) fun s35 hs35 => ?_
    have zs35 : s35.size ≤ 100 := mem_sz hs35 (by decide)
    refine wl_nil ?_
    refine nw 15 1023 (fun _ hm => ⟨hm.bl 3, hm.fa 0, trivial⟩) fun z => ?_
    refine wt 10 15 2047 rfl z (ov_build (cs := [.int .i64 v27, .string s34, .string s35]) rfl (by kernel_rfl)) ?_
    refine wa1 11 rfl ?_
    refine wl_buildSlice (e := 143) (cs := [.int .i64 v27, .string s34, .string s35]) rfl (by kernel_rfl) rfl fun g36 => ?_
    refine wl_nil ?_
    refine nw 15 4095 (fun _ hm => ⟨hm.bl 4, hm.fa 0, trivial⟩) fun z => ?_
    refine wa1 12 rfl ?_
    refine wl_append (news := [.int .i64 v27, .string s34, .string s35]) 2 0 ap29 rfl rfl rfl rfl rfl rfl rfl (by omega) (by unfold maxLen; omega) rfl rfl fun v2 hv2 => ?_
    refine wl_look (R := ∃ A cc, v2 = .slice A (pn + 1) cc) (fun wx hm => own_slice (hm.ownI 2 rfl)) ?_
    rintro ⟨A2, c2, rfl⟩
    have hxs : pl.flatMap plEnc ++ ([.int .i64 v27, .string s34, .string s35] : List Value) = (pl ++ [(⟨v27, s34, s35⟩ : Pl)]).flatMap plEnc := by simp [plEnc]
    rw [hxs]
    refine wl_nil ?_
    refine nw 15 8191 (fun _ hm => ⟨hm.bl 4, hm.fa 0, trivial⟩) fun z => ?_
    refine wt 13 15 16383 rfl z (ov_field fo31_3 rfl rfl) ?_
    refine wa1 14 rfl ?_
    refine wl_store 3 sc29 rfl rfl rfl rfl rfl rfl ?_
    refine wl_nil ?_
    refine nw 15 32767 (fun _ hm => ⟨hm.bl 4, hm.fa 0, trivial⟩) fun z => ?_
    refine wa_done (by kernel_rfl) ?_
    refine nx_blk_nrm (nx_then (sr_ ?_))
    refine wl_ov (ov_loads rz31 rfl (fun _ hm => hm.blkI 3 rfl) rfl rfl) rfl ?_
    refine wl_stores (cs' := [.slice sA sn sc, .slice cA 4 cc, .slice vA vn vc, .slice A2 (pn + 1) c2]) 4 rz31 rfl rfl rfl rfl rfl rfl rfl rfl ?_
    refine nn_ ?_
    refine gw_ret ?_
    refine nx_retc 4 rfl rz31 rfl rfl rfl fun wx hm => ?_
    exact ⟨sA, cA, vA, A2, sn, sc, cc, vn, vc, pn + 1, c2, sl, cl, vl, pl ++ [(⟨v27, s34, s35⟩ : Pl)], rfl, ⟨⟨stB_all hsB, by omega⟩, hcok, ⟨hvB, by omega⟩, all_snoc hpB ⟨⟨by dsimp only; omega, by dsimp only; omega⟩, by dsimp only; omega, by dsimp only; omega⟩, by omega⟩, hm.k.more (by omega), hm.g, SlT.ofOwnL stEnc_lenL (stB_all hsB) (hm.ownI 0 rfl) hsl, (hm.fact 0 rfl), SlT.ofOwn vh_len (hm.ownI 1 rfl) hvl, SlT.ofOwn pl_len (hm.ownI 2 rfl) (by simp [hpl]), own_shape (hm.ownI 2 rfl), own_cap (hm.ownI 2 rfl)⟩
   refine wl_buildSlice (e := 9) (cs := [.string ⟨#[65, 66, 49]⟩, .string ⟨#[97, 49]⟩, .string ⟨#[65]⟩, .string ⟨#[65, 66, 67, 68, 69, 70, 71, 72, 73, 74, 49]⟩, .string ⟨#[65, 66, 49]⟩]) rfl (by kernel_rfl) rfl fun g37 => ?_
   refine wl_nil ?_
   refine nw 15 415 (fun _ hm => ⟨hm.bl 2, hm.fa 0, trivial⟩) fun z => ?_
   refine wa1 5 rfl ?_
   refine wl_buildSlice (e := 9) (cs := [.string ⟨#[118, 49]⟩, .string ⟨#[110, 111, 110, 101]⟩]) rfl (by kernel_rfl) rfl fun g38 => ?_
   refine wl_nil ?_
   refine nw 15 447 (fun _ hm => ⟨hm.bl 3, hm.fa 0, trivial⟩) fun z => ?_
   refine wa1 6 rfl ?_
   refine wl_got (γ := ByteArray) (val := fun v => .string v) (φ := fun v => v ∈ ([⟨#[118, 49]⟩, ⟨#[110, 111, 110, 101]⟩] : List ByteArray)) rfl cb43 rfl rfl rfl rfl (fun wx hm => (some_any [⟨#[118, 49]⟩, ⟨#[110, 111, 110, 101]⟩] _ _ _ wx B sb _ hm.k (by omega) (by simp) (by simp) (hm.blkI 0 rfl) (hm.neRow 0 rfl rfl))) fun s39 hs39 => ?_
   have zs39 : s39.size ≤ 100 := mem_sz hs39 (by decide)
   refine wl_nil ?_
   refine nw 15 511 (fun _ hm => ⟨hm.bl 3, hm.fa 0, trivial⟩) fun z => ?_
   refine wa1 9 rfl ?_
   refine wl_got (γ := ByteArray) (val := fun v => .string v) (φ := fun v => v ∈ ([⟨#[65, 66, 49]⟩, ⟨#[97, 49]⟩, ⟨#[65]⟩, ⟨#[65, 66, 67, 68, 69, 70, 71, 72, 73, 74, 49]⟩, ⟨#[65, 66, 49]⟩] : List ByteArray)) rfl cb43 rfl rfl rfl rfl (fun wx hm => (some_any [⟨#[65, 66, 49]⟩, ⟨#[97, 49]⟩, ⟨#[65]⟩, ⟨#[65, 66, 67, 68, 69, 70, 71, 72, 73, 74, 49]⟩, ⟨#[65, 66, 49]⟩] _ _ _ wx B sb _ hm.k (by omega) (by simp) (by simp) (hm.blkI 1 rfl) (hm.neRow 1 rfl rfl))) fun s40 hs40 => ?_
   have zs40 : s40.size ≤ 100 := mem_sz hs40 (by decide)
   refine wl_nil ?_
   refine nw 15 1023 (fun _ hm => ⟨hm.bl 3, hm.fa 0, trivial⟩) fun z => ?_
   refine wt 10 15 2047 rfl z (ov_build (cs := [.int .i64 v27, .string s39, .string s40]) rfl (by kernel_rfl)) ?_
   refine wa1 11 rfl ?_
   refine wl_buildSlice (e := 143) (cs := [.int .i64 v27, .string s39, .string s40]) rfl (by kernel_rfl) rfl fun g41 => ?_
   refine wl_nil ?_
   refine nw 15 4095 (fun _ hm => ⟨hm.bl 4, hm.fa 0, trivial⟩) fun z => ?_
   refine wa1 12 rfl ?_
   refine wl_append (news := [.int .i64 v27, .string s39, .string s40]) 2 0 ap29 rfl rfl rfl rfl rfl rfl rfl (by omega) (by unfold maxLen; omega) rfl rfl fun v2 hv2 => ?_
   refine wl_look (R := ∃ A cc, v2 = .slice A (pn + 1) cc) (fun wx hm => own_slice (hm.ownI 2 rfl)) ?_
   rintro ⟨A2, c2, rfl⟩
   have hxs : pl.flatMap plEnc ++ ([.int .i64 v27, .string s39, .string s40] : List Value) = (pl ++ [(⟨v27, s39, s40⟩ : Pl)]).flatMap plEnc := by simp [plEnc]
   rw [hxs]
   refine wl_nil ?_
   refine nw 15 8191 (fun _ hm => ⟨hm.bl 4, hm.fa 0, trivial⟩) fun z => ?_
   refine wt 13 15 16383 rfl z (ov_field fo31_3 rfl rfl) ?_
   refine wa1 14 rfl ?_
   refine wl_store 3 sc29 rfl rfl rfl rfl rfl rfl ?_
   refine wl_nil ?_
   refine nw 15 32767 (fun _ hm => ⟨hm.bl 4, hm.fa 0, trivial⟩) fun z => ?_
   refine wa_done (by kernel_rfl) ?_
   refine nx_blk_nrm (nx_then (sr_ ?_))
   refine wl_ov (ov_loads rz31 rfl (fun _ hm => hm.blkI 3 rfl) rfl rfl) rfl ?_
   refine wl_stores (cs' := [.slice sA sn sc, .slice cA 4 cc, .slice vA vn vc, .slice A2 (pn + 1) c2]) 4 rz31 rfl rfl rfl rfl rfl rfl rfl rfl ?_
   refine nn_ ?_
   refine gw_ret ?_
   refine nx_retc 4 rfl rz31 rfl rfl rfl fun wx hm => ?_
   exact ⟨sA, cA, vA, A2, sn, sc, cc, vn, vc, pn + 1, c2, sl, cl, vl, pl ++ [(⟨v27, s39, s40⟩ : Pl)], rfl, ⟨⟨stB_all hsB, by omega⟩, hcok, ⟨hvB, by omega⟩, all_snoc hpB ⟨⟨by dsimp only; omega, by dsimp only; omega⟩, by dsimp only; omega, by dsimp only; omega⟩, by omega⟩, hm.k.more (by omega), hm.g, SlT.ofOwnL stEnc_lenL (stB_all hsB) (hm.ownI 0 rfl) hsl, (hm.fact 0 rfl), SlT.ofOwn vh_len (hm.ownI 1 rfl) hvl, SlT.ofOwn pl_len (hm.ownI 2 rfl) (by simp [hpl]), own_shape (hm.ownI 2 rfl), own_cap (hm.ownI 2 rfl)⟩
  ·refine wl_buildSlice (e := 9) (cs := [.string ⟨#[118, 49]⟩, .string ⟨#[110, 111, 110, 101]⟩]) rfl (by kernel_rfl) rfl fun g42 => ?_
   refine wl_nil ?_
   refine nw 15 183 (fun _ hm => ⟨hm.bl 2, hm.fa 0, trivial⟩) fun z => ?_
   refine wa_all [3, 8] (by kernel_rfl) rfl ⟨⟨_, rfl, ?_⟩, ⟨_, rfl, ?_⟩, trivial⟩
   ·refine wl_got (γ := Int) (val := fun v => .int .i64 v) (φ := fun v => -2000000000000000 ≤ v ∧ v ≤ 2000000000000000) rfl cb77 rfl rfl rfl rfl (fun wx hm => (odd_any _ _ wx B sb _ hm.k (by omega) (by omega) (by omega) (by omega))) fun v43 hv43 => ?_
    refine wl_nil ?_
    refine nw 15 191 (fun _ hm => ⟨hm.bl 2, hm.fa 0, trivial⟩) fun z => ?_
    refine wa_all [6, 8] (by kernel_rfl) rfl ⟨⟨_, rfl, ?_⟩, ⟨_, rfl, ?_⟩, trivial⟩
    ·refine wl_got (γ := ByteArray) (val := fun v => .string v) (φ := fun v => v ∈ ([⟨#[118, 49]⟩, ⟨#[110, 111, 110, 101]⟩] : List ByteArray)) rfl cb43 rfl rfl rfl rfl (fun wx hm => (some_any [⟨#[118, 49]⟩, ⟨#[110, 111, 110, 101]⟩] _ _ _ wx B sb _ hm.k (by omega) (by simp) (by simp) (hm.blkI 0 rfl) (hm.neRow 0 rfl rfl))) fun s44 hs44 => ?_
     have zs44 : s44.size ≤ 100 := mem_sz hs44 (by decide)
     refine wl_nil ?_
     refine nw 15 255 (fun _ hm => ⟨hm.bl 2, hm.fa 0, trivial⟩) fun z => ?_
     refine wa1 8 rfl ?_
     refine wl_buildSlice (e := 9) (cs := [.string ⟨#[65, 66, 49]⟩, .string ⟨#[97, 49]⟩, .string ⟨#[65]⟩, .string ⟨#[65, 66, 67, 68, 69, 70, 71, 72, 73, 74, 49]⟩, .string ⟨#[65, 66, 49]⟩]) rfl (by kernel_rfl) rfl fun g45 => ?_
     refine wl_nil ?_
     refine nw 15 511 (fun _ hm => ⟨hm.bl 3, hm.fa 0, trivial⟩) fun z => ?_
     refine wa1 9 rfl ?_
     refine wl_got (γ := ByteArray) (val := fun v => .string v) (φ := fun v => v ∈ ([⟨#[65, 66, 49]⟩, ⟨#[97, 49]⟩, ⟨#[65]⟩, ⟨#[65, 66, 67, 68, 69, 70, 71, 72, 73, 74, 49]⟩, ⟨#[65, 66, 49]⟩] : List ByteArray)) rfl cb43 rfl rfl rfl rfl (fun wx hm => (some_any [⟨#[65, 66, 49]⟩, ⟨#[97, 49]⟩, ⟨#[65]⟩, ⟨#[65, 66, 67, 68, 69, 70, 71, 72, 73, 74, 49]⟩, ⟨#[65, 66, 49]⟩] _ _ _ wx B sb _ hm.k (by omega) (by simp) (by simp) (hm.blkI 0 rfl) (hm.neRow 0 rfl rfl))) fun s46 hs46 => ?_
     have zs46 : s46.size ≤ 100 := mem_sz hs46 (by decide)
     refine wl_nil ?_
     refine nw 15 1023 (fun _ hm => ⟨hm.bl 3, hm.fa 0, trivial⟩) fun z => ?_
     refine wt 10 15 2047 rfl z (ov_build (cs := [.int .i64 v43, .string s44, .string s46]) rfl (by kernel_rfl)) ?_
     refine wa1 11 rfl ?_
     refine wl_buildSlice (e := 143) (cs := [.int .i64 v43, .string s44, .string s46]) rfl (by kernel_rfl) rfl fun g47 => ?_
     refine wl_nil ?_
     refine nw 15 4095 (fun _ hm => ⟨hm.bl 4, hm.fa 0, trivial⟩) fun z => ?_
     refine wa1 12 rfl ?_
     refine wl_append (news := [.int .i64 v43, .string s44, .string s46]) 2 0 ap29 rfl rfl rfl rfl rfl rfl rfl (by omega) (by unfold maxLen; omega) rfl rfl fun v2 hv2 => ?_
     refine wl_look (R := ∃ A cc, v2 = .slice A (pn + 1) cc) (fun wx hm => own_slice (hm.ownI 2 rfl)) ?_
     rintro ⟨A2, c2, rfl⟩
     have hxs : pl.flatMap plEnc ++ ([.int .i64 v43, .string s44, .string s46] : List Value) = (pl ++ [(⟨v43, s44, s46⟩ : Pl)]).flatMap plEnc := by simp [plEnc]
     rw [hxs]
     refine wl_nil ?_
     refine nw 15 8191 (fun _ hm => ⟨hm.bl 4, hm.fa 0, trivial⟩) fun z => ?_
     refine wt 13 15 16383 rfl z (ov_field fo31_3 rfl rfl) ?_
     refine wa1 14 rfl ?_
     refine wl_store 3 sc29 rfl rfl rfl rfl rfl rfl ?_
     refine wl_nil ?_
     refine nw 15 32767 (fun _ hm => ⟨hm.bl 4, hm.fa 0, trivial⟩) fun z => ?_
     refine wa_done (by kernel_rfl) ?_
     refine nx_blk_nrm (nx_then (sr_ ?_))
     refine wl_ov (ov_loads rz31 rfl (fun _ hm => hm.blkI 3 rfl) rfl rfl) rfl ?_
     refine wl_stores (cs' := [.slice sA sn sc, .slice cA 4 cc, .slice vA vn vc, .slice A2 (pn + 1) c2]) 4 rz31 rfl rfl rfl rfl rfl rfl rfl rfl ?_
     refine nn_ ?_
     refine gw_ret ?_
     refine nx_retc 4 rfl rz31 rfl rfl rfl fun wx hm => ?_
     exact ⟨sA, cA, vA, A2, sn, sc, cc, vn, vc, pn + 1, c2, sl, cl, vl, pl ++ [(⟨v43, s44, s46⟩ : Pl)], rfl, ⟨⟨stB_all hsB, by omega⟩, hcok, ⟨hvB, by omega⟩, all_snoc hpB ⟨⟨by dsimp only; omega, by dsimp only; omega⟩, by dsimp only; omega, by dsimp only; omega⟩, by omega⟩, hm.k.more (by omega), hm.g, SlT.ofOwnL stEnc_lenL (stB_all hsB) (hm.ownI 0 rfl) hsl, (hm.fact 0 rfl), SlT.ofOwn vh_len (hm.ownI 1 rfl) hvl, SlT.ofOwn pl_len (hm.ownI 2 rfl) (by simp [hpl]), own_shape (hm.ownI 2 rfl), own_cap (hm.ownI 2 rfl)⟩
    refine wl_buildSlice (e := 9) (cs := [.string ⟨#[65, 66, 49]⟩, .string ⟨#[97, 49]⟩, .string ⟨#[65]⟩, .string ⟨#[65, 66, 67, 68, 69, 70, 71, 72, 73, 74, 49]⟩, .string ⟨#[65, 66, 49]⟩]) rfl (by kernel_rfl) rfl fun g48 => ?_
    refine wl_nil ?_
    refine nw 15 447 (fun _ hm => ⟨hm.bl 3, hm.fa 0, trivial⟩) fun z => ?_
    refine wa1 6 rfl ?_
    refine wl_got (γ := ByteArray) (val := fun v => .string v) (φ := fun v => v ∈ ([⟨#[118, 49]⟩, ⟨#[110, 111, 110, 101]⟩] : List ByteArray)) rfl cb43 rfl rfl rfl rfl (fun wx hm => (some_any [⟨#[118, 49]⟩, ⟨#[110, 111, 110, 101]⟩] _ _ _ wx B sb _ hm.k (by omega) (by simp) (by simp) (hm.blkI 1 rfl) (hm.neRow 1 rfl rfl))) fun s49 hs49 => ?_
    have zs49 : s49.size ≤ 100 := mem_sz hs49 (by decide)
    refine wl_nil ?_
    refine nw 15 511 (fun _ hm => ⟨hm.bl 3, hm.fa 0, trivial⟩) fun z => ?_
    refine wa1 9 rfl ?_
    refine wl_got (γ := ByteArray) (val := fun v => .string v) (φ := fun v => v ∈ ([⟨#[65, 66, 49]⟩, ⟨#[97, 49]⟩, ⟨#[65]⟩, ⟨#[65, 66, 67, 68, 69, 70, 71, 72, 73, 74, 49]⟩, ⟨#[65, 66, 49]⟩] : List ByteArray)) rfl cb43 rfl rfl rfl rfl (fun wx hm => (some_any [⟨#[65, 66, 49]⟩, ⟨#[97, 49]⟩, ⟨#[65]⟩, ⟨#[65, 66, 67, 68, 69, 70, 71, 72, 73, 74, 49]⟩, ⟨#[65, 66, 49]⟩] _ _ _ wx B sb _ hm.k (by omega) (by simp) (by simp) (hm.blkI 0 rfl) (hm.neRow 0 rfl rfl))) fun s50 hs50 => ?_
    have zs50 : s50.size ≤ 100 := mem_sz hs50 (by decide)
    refine wl_nil ?_
    refine nw 15 1023 (fun _ hm => ⟨hm.bl 3, hm.fa 0, trivial⟩) fun z => ?_
    refine wt 10 15 2047 rfl z (ov_build (cs := [.int .i64 v43, .string s49, .string s50]) rfl (by kernel_rfl)) ?_
    refine wa1 11 rfl ?_
    refine wl_buildSlice (e := 143) (cs := [.int .i64 v43, .string s49, .string s50]) rfl (by kernel_rfl) rfl fun g51 => ?_
    refine wl_nil ?_
    refine nw 15 4095 (fun _ hm => ⟨hm.bl 4, hm.fa 0, trivial⟩) fun z => ?_
    refine wa1 12 rfl ?_
    refine wl_append (news := [.int .i64 v43, .string s49, .string s50]) 2 0 ap29 rfl rfl rfl rfl rfl rfl rfl (by omega) (by unfold maxLen; omega) rfl rfl fun v2 hv2 => ?_
    refine wl_look (R := ∃ A cc, v2 = .slice A (pn + 1) cc) (fun wx hm => own_slice (hm.ownI 2 rfl)) ?_
    rintro ⟨A2, c2, rfl⟩
    have hxs : pl.flatMap plEnc ++ ([.int .i64 v43, .string s49, .string s50] : List Value) = (pl ++ [(⟨v43, s49, s50⟩ : Pl)]).flatMap plEnc := by simp [plEnc]
    rw [hxs]
    refine wl_nil ?_
    refine nw 15 8191 (fun _ hm => ⟨hm.bl 4, hm.fa 0, trivial⟩) fun z => ?_
    refine wt 13 15 16383 rfl z (ov_field fo31_3 rfl rfl) ?_
    refine wa1 14 rfl ?_
    refine wl_store 3 sc29 rfl rfl rfl rfl rfl rfl ?_
    refine wl_nil ?_
    refine nw 15 32767 (fun _ hm => ⟨hm.bl 4, hm.fa 0, trivial⟩) fun z => ?_
    refine wa_done (by kernel_rfl) ?_
    refine nx_blk_nrm (nx_then (sr_ ?_))
    refine wl_ov (ov_loads rz31 rfl (fun _ hm => hm.blkI 3 rfl) rfl rfl) rfl ?_
    refine wl_stores (cs' := [.slice sA sn sc, .slice cA 4 cc, .slice vA vn vc, .slice A2 (pn + 1) c2]) 4 rz31 rfl rfl rfl rfl rfl rfl rfl rfl ?_
    refine nn_ ?_
    refine gw_ret ?_
    refine nx_retc 4 rfl rz31 rfl rfl rfl fun wx hm => ?_
    exact ⟨sA, cA, vA, A2, sn, sc, cc, vn, vc, pn + 1, c2, sl, cl, vl, pl ++ [(⟨v43, s49, s50⟩ : Pl)], rfl, ⟨⟨stB_all hsB, by omega⟩, hcok, ⟨hvB, by omega⟩, all_snoc hpB ⟨⟨by dsimp only; omega, by dsimp only; omega⟩, by dsimp only; omega, by dsimp only; omega⟩, by omega⟩, hm.k.more (by omega), hm.g, SlT.ofOwnL stEnc_lenL (stB_all hsB) (hm.ownI 0 rfl) hsl, (hm.fact 0 rfl), SlT.ofOwn vh_len (hm.ownI 1 rfl) hvl, SlT.ofOwn pl_len (hm.ownI 2 rfl) (by simp [hpl]), own_shape (hm.ownI 2 rfl), own_cap (hm.ownI 2 rfl)⟩
   refine wl_buildSlice (e := 9) (cs := [.string ⟨#[65, 66, 49]⟩, .string ⟨#[97, 49]⟩, .string ⟨#[65]⟩, .string ⟨#[65, 66, 67, 68, 69, 70, 71, 72, 73, 74, 49]⟩, .string ⟨#[65, 66, 49]⟩]) rfl (by kernel_rfl) rfl fun g52 => ?_
   refine wl_nil ?_
   refine nw 15 439 (fun _ hm => ⟨hm.bl 3, hm.fa 0, trivial⟩) fun z => ?_
   refine wa1 3 rfl ?_
   refine wl_got (γ := Int) (val := fun v => .int .i64 v) (φ := fun v => -2000000000000000 ≤ v ∧ v ≤ 2000000000000000) rfl cb77 rfl rfl rfl rfl (fun wx hm => (odd_any _ _ wx B sb _ hm.k (by omega) (by omega) (by omega) (by omega))) fun v53 hv53 => ?_
   refine wl_nil ?_
   refine nw 15 447 (fun _ hm => ⟨hm.bl 3, hm.fa 0, trivial⟩) fun z => ?_
   refine wa1 6 rfl ?_
   refine wl_got (γ := ByteArray) (val := fun v => .string v) (φ := fun v => v ∈ ([⟨#[118, 49]⟩, ⟨#[110, 111, 110, 101]⟩] : List ByteArray)) rfl cb43 rfl rfl rfl rfl (fun wx hm => (some_any [⟨#[118, 49]⟩, ⟨#[110, 111, 110, 101]⟩] _ _ _ wx B sb _ hm.k (by omega) (by simp) (by simp) (hm.blkI 1 rfl) (hm.neRow 1 rfl rfl))) fun s54 hs54 => ?_
   have zs54 : s54.size ≤ 100 := mem_sz hs54 (by decide)
   refine wl_nil ?_
   refine nw 15 511 (fun _ hm => ⟨hm.bl 3, hm.fa 0, trivial⟩) fun z => ?_
   refine wa1 9 rfl ?_
   refine wl_got (γ := ByteArray) (val := fun v => .string v) (φ := fun v => v ∈ ([⟨#[65, 66, 49]⟩, ⟨#[97, 49]⟩, ⟨#[65]⟩, ⟨#[65, 66, 67, 68, 69, 70, 71, 72, 73, 74, 49]⟩, ⟨#[65, 66, 49]⟩] : List ByteArray)) rfl cb43 rfl rfl rfl rfl (fun wx hm => (some_any [⟨#[65, 66, 49]⟩, ⟨#[97, 49]⟩, ⟨#[65]⟩, ⟨#[65, 66, 67, 68, 69, 70, 71, 72, 73, 74, 49]⟩, ⟨#[65, 66, 49]⟩] _ _ _ wx B sb _ hm.k (by omega) (by simp) (by simp) (hm.blkI 0 rfl) (hm.neRow 0 rfl rfl))) fun s55 hs55 => ?_
   have zs55 : s55.size ≤ 100 := mem_sz hs55 (by decide)
   refine wl_nil ?_
   refine nw 15 1023 (fun _ hm => ⟨hm.bl 3, hm.fa 0, trivial⟩) fun z => ?_
   refine wt 10 15 2047 rfl z (ov_build (cs := [.int .i64 v53, .string s54, .string s55]) rfl (by kernel_rfl)) ?_
   refine wa1 11 rfl ?_
   refine wl_buildSlice (e := 143) (cs := [.int .i64 v53, .string s54, .string s55]) rfl (by kernel_rfl) rfl fun g56 => ?_
   refine wl_nil ?_
   refine nw 15 4095 (fun _ hm => ⟨hm.bl 4, hm.fa 0, trivial⟩) fun z => ?_
   refine wa1 12 rfl ?_
   refine wl_append (news := [.int .i64 v53, .string s54, .string s55]) 2 0 ap29 rfl rfl rfl rfl rfl rfl rfl (by omega) (by unfold maxLen; omega) rfl rfl fun v2 hv2 => ?_
   refine wl_look (R := ∃ A cc, v2 = .slice A (pn + 1) cc) (fun wx hm => own_slice (hm.ownI 2 rfl)) ?_
   rintro ⟨A2, c2, rfl⟩
   have hxs : pl.flatMap plEnc ++ ([.int .i64 v53, .string s54, .string s55] : List Value) = (pl ++ [(⟨v53, s54, s55⟩ : Pl)]).flatMap plEnc := by simp [plEnc]
   rw [hxs]
   refine wl_nil ?_
   refine nw 15 8191 (fun _ hm => ⟨hm.bl 4, hm.fa 0, trivial⟩) fun z => ?_
   refine wt 13 15 16383 rfl z (ov_field fo31_3 rfl rfl) ?_
   refine wa1 14 rfl ?_
   refine wl_store 3 sc29 rfl rfl rfl rfl rfl rfl ?_
   refine wl_nil ?_
   refine nw 15 32767 (fun _ hm => ⟨hm.bl 4, hm.fa 0, trivial⟩) fun z => ?_
   refine wa_done (by kernel_rfl) ?_
   refine nx_blk_nrm (nx_then (sr_ ?_))
   refine wl_ov (ov_loads rz31 rfl (fun _ hm => hm.blkI 3 rfl) rfl rfl) rfl ?_
   refine wl_stores (cs' := [.slice sA sn sc, .slice cA 4 cc, .slice vA vn vc, .slice A2 (pn + 1) c2]) 4 rz31 rfl rfl rfl rfl rfl rfl rfl rfl ?_
   refine nn_ ?_
   refine gw_ret ?_
   refine nx_retc 4 rfl rz31 rfl rfl rfl fun wx hm => ?_
   exact ⟨sA, cA, vA, A2, sn, sc, cc, vn, vc, pn + 1, c2, sl, cl, vl, pl ++ [(⟨v53, s54, s55⟩ : Pl)], rfl, ⟨⟨stB_all hsB, by omega⟩, hcok, ⟨hvB, by omega⟩, all_snoc hpB ⟨⟨by dsimp only; omega, by dsimp only; omega⟩, by dsimp only; omega, by dsimp only; omega⟩, by omega⟩, hm.k.more (by omega), hm.g, SlT.ofOwnL stEnc_lenL (stB_all hsB) (hm.ownI 0 rfl) hsl, (hm.fact 0 rfl), SlT.ofOwn vh_len (hm.ownI 1 rfl) hvl, SlT.ofOwn pl_len (hm.ownI 2 rfl) (by simp [hpl]), own_shape (hm.ownI 2 rfl), own_cap (hm.ownI 2 rfl)⟩
  refine wl_buildSlice (e := 9) (cs := [.string ⟨#[65, 66, 49]⟩, .string ⟨#[97, 49]⟩, .string ⟨#[65]⟩, .string ⟨#[65, 66, 67, 68, 69, 70, 71, 72, 73, 74, 49]⟩, .string ⟨#[65, 66, 49]⟩]) rfl (by kernel_rfl) rfl fun g57 => ?_
  refine wl_nil ?_
  refine nw 15 407 (fun _ hm => ⟨hm.bl 2, hm.fa 0, trivial⟩) fun z => ?_
  refine wa_all [3, 5] (by kernel_rfl) rfl ⟨⟨_, rfl, ?_⟩, ⟨_, rfl, ?_⟩, trivial⟩
  ·refine wl_got (γ := Int) (val := fun v => .int .i64 v) (φ := fun v => -2000000000000000 ≤ v ∧ v ≤ 2000000000000000) rfl cb77 rfl rfl rfl rfl (fun wx hm => (odd_any _ _ wx B sb _ hm.k (by omega) (by omega) (by omega) (by omega))) fun v58 hv58 => ?_
   refine wl_nil ?_
   refine nw 15 415 (fun _ hm => ⟨hm.bl 2, hm.fa 0, trivial⟩) fun z => ?_
   refine wa1 5 rfl ?_
   refine wl_buildSlice (e := 9) (cs := [.string ⟨#[118, 49]⟩, .string ⟨#[110, 111, 110, 101]⟩]) rfl (by kernel_rfl) rfl fun g59 => ?_
   refine wl_nil ?_
   refine nw 15 447 (fun _ hm => ⟨hm.bl 3, hm.fa 0, trivial⟩) fun z => ?_
   refine wa1 6 rfl ?_
   refine wl_got (γ := ByteArray) (val := fun v => .string v) (φ := fun v => v ∈ ([⟨#[118, 49]⟩, ⟨#[110, 111, 110, 101]⟩] : List ByteArray)) rfl cb43 rfl rfl rfl rfl (fun wx hm => (some_any [⟨#[118, 49]⟩, ⟨#[110, 111, 110, 101]⟩] _ _ _ wx B sb _ hm.k (by omega) (by simp) (by simp) (hm.blkI 0 rfl) (hm.neRow 0 rfl rfl))) fun s60 hs60 => ?_
   have zs60 : s60.size ≤ 100 := mem_sz hs60 (by decide)
   refine wl_nil ?_
   refine nw 15 511 (fun _ hm => ⟨hm.bl 3, hm.fa 0, trivial⟩) fun z => ?_
   refine wa1 9 rfl ?_
   refine wl_got (γ := ByteArray) (val := fun v => .string v) (φ := fun v => v ∈ ([⟨#[65, 66, 49]⟩, ⟨#[97, 49]⟩, ⟨#[65]⟩, ⟨#[65, 66, 67, 68, 69, 70, 71, 72, 73, 74, 49]⟩, ⟨#[65, 66, 49]⟩] : List ByteArray)) rfl cb43 rfl rfl rfl rfl (fun wx hm => (some_any [⟨#[65, 66, 49]⟩, ⟨#[97, 49]⟩, ⟨#[65]⟩, ⟨#[65, 66, 67, 68, 69, 70, 71, 72, 73, 74, 49]⟩, ⟨#[65, 66, 49]⟩] _ _ _ wx B sb _ hm.k (by omega) (by simp) (by simp) (hm.blkI 1 rfl) (hm.neRow 1 rfl rfl))) fun s61 hs61 => ?_
   have zs61 : s61.size ≤ 100 := mem_sz hs61 (by decide)
   refine wl_nil ?_
   refine nw 15 1023 (fun _ hm => ⟨hm.bl 3, hm.fa 0, trivial⟩) fun z => ?_
   refine wt 10 15 2047 rfl z (ov_build (cs := [.int .i64 v58, .string s60, .string s61]) rfl (by kernel_rfl)) ?_
   refine wa1 11 rfl ?_
   refine wl_buildSlice (e := 143) (cs := [.int .i64 v58, .string s60, .string s61]) rfl (by kernel_rfl) rfl fun g62 => ?_
   refine wl_nil ?_
   refine nw 15 4095 (fun _ hm => ⟨hm.bl 4, hm.fa 0, trivial⟩) fun z => ?_
   refine wa1 12 rfl ?_
   refine wl_append (news := [.int .i64 v58, .string s60, .string s61]) 2 0 ap29 rfl rfl rfl rfl rfl rfl rfl (by omega) (by unfold maxLen; omega) rfl rfl fun v2 hv2 => ?_
   refine wl_look (R := ∃ A cc, v2 = .slice A (pn + 1) cc) (fun wx hm => own_slice (hm.ownI 2 rfl)) ?_
   rintro ⟨A2, c2, rfl⟩
   have hxs : pl.flatMap plEnc ++ ([.int .i64 v58, .string s60, .string s61] : List Value) = (pl ++ [(⟨v58, s60, s61⟩ : Pl)]).flatMap plEnc := by simp [plEnc]
   rw [hxs]
   refine wl_nil ?_
   refine nw 15 8191 (fun _ hm => ⟨hm.bl 4, hm.fa 0, trivial⟩) fun z => ?_
   refine wt 13 15 16383 rfl z (ov_field fo31_3 rfl rfl) ?_
   refine wa1 14 rfl ?_
   refine wl_store 3 sc29 rfl rfl rfl rfl rfl rfl ?_
   refine wl_nil ?_
   refine nw 15 32767 (fun _ hm => ⟨hm.bl 4, hm.fa 0, trivial⟩) fun z => ?_
   refine wa_done (by kernel_rfl) ?_
   refine nx_blk_nrm (nx_then (sr_ ?_))
   refine wl_ov (ov_loads rz31 rfl (fun _ hm => hm.blkI 3 rfl) rfl rfl) rfl ?_
   refine wl_stores (cs' := [.slice sA sn sc, .slice cA 4 cc, .slice vA vn vc, .slice A2 (pn + 1) c2]) 4 rz31 rfl rfl rfl rfl rfl rfl rfl rfl ?_
   refine nn_ ?_
   refine gw_ret ?_
   refine nx_retc 4 rfl rz31 rfl rfl rfl fun wx hm => ?_
   exact ⟨sA, cA, vA, A2, sn, sc, cc, vn, vc, pn + 1, c2, sl, cl, vl, pl ++ [(⟨v58, s60, s61⟩ : Pl)], rfl, ⟨⟨stB_all hsB, by omega⟩, hcok, ⟨hvB, by omega⟩, all_snoc hpB ⟨⟨by dsimp only; omega, by dsimp only; omega⟩, by dsimp only; omega, by dsimp only; omega⟩, by omega⟩, hm.k.more (by omega), hm.g, SlT.ofOwnL stEnc_lenL (stB_all hsB) (hm.ownI 0 rfl) hsl, (hm.fact 0 rfl), SlT.ofOwn vh_len (hm.ownI 1 rfl) hvl, SlT.ofOwn pl_len (hm.ownI 2 rfl) (by simp [hpl]), own_shape (hm.ownI 2 rfl), own_cap (hm.ownI 2 rfl)⟩
  refine wl_buildSlice (e := 9) (cs := [.string ⟨#[118, 49]⟩, .string ⟨#[110, 111, 110, 101]⟩]) rfl (by kernel_rfl) rfl fun g63 => ?_
  refine wl_nil ?_
  refine nw 15 439 (fun _ hm => ⟨hm.bl 3, hm.fa 0, trivial⟩) fun z => ?_
  refine wa1 3 rfl ?_
  refine wl_got (γ := Int) (val := fun v => .int .i64 v) (φ := fun v => -2000000000000000 ≤ v ∧ v ≤ 2000000000000000) rfl cb77 rfl rfl rfl rfl (fun wx hm => (odd_any _ _ wx B sb _ hm.k (by omega) (by omega) (by omega) (by omega))) fun v64 hv64 => ?_
  refine wl_nil ?_
  refine nw 15 447 (fun _ hm => ⟨hm.bl 3, hm.fa 0, trivial⟩) fun z => ?_
  refine wa1 6 rfl ?_
  refine wl_got (γ := ByteArray) (val := fun v => .string v) (φ := fun v => v ∈ ([⟨#[118, 49]⟩, ⟨#[110, 111, 110, 101]⟩] : List ByteArray)) rfl cb43 rfl rfl rfl rfl (fun wx hm => (some_any [⟨#[118, 49]⟩, ⟨#[110, 111, 110, 101]⟩] _ _ _ wx B sb _ hm.k (by omega) (by simp) (by simp) (hm.blkI 0 rfl) (hm.neRow 0 rfl rfl))) fun s65 hs65 => ?_
  have zs65 : s65.size ≤ 100 := mem_sz hs65 (by decide)
  refine wl_nil ?_
  refine nw 15 511 (fun _ hm => ⟨hm.bl 3, hm.fa 0, trivial⟩) fun z => ?_
  refine wa1 9 rfl ?_
  refine wl_got (γ := ByteArray) (val := fun v => .string v) (φ := fun v => v ∈ ([⟨#[65, 66, 49]⟩, ⟨#[97, 49]⟩, ⟨#[65]⟩, ⟨#[65, 66, 67, 68, 69, 70, 71, 72, 73, 74, 49]⟩, ⟨#[65, 66, 49]⟩] : List ByteArray)) rfl cb43 rfl rfl rfl rfl (fun wx hm => (some_any [⟨#[65, 66, 49]⟩, ⟨#[97, 49]⟩, ⟨#[65]⟩, ⟨#[65, 66, 67, 68, 69, 70, 71, 72, 73, 74, 49]⟩, ⟨#[65, 66, 49]⟩] _ _ _ wx B sb _ hm.k (by omega) (by simp) (by simp) (hm.blkI 1 rfl) (hm.neRow 1 rfl rfl))) fun s66 hs66 => ?_
  have zs66 : s66.size ≤ 100 := mem_sz hs66 (by decide)
  refine wl_nil ?_
  refine nw 15 1023 (fun _ hm => ⟨hm.bl 3, hm.fa 0, trivial⟩) fun z => ?_
  refine wt 10 15 2047 rfl z (ov_build (cs := [.int .i64 v64, .string s65, .string s66]) rfl (by kernel_rfl)) ?_
  refine wa1 11 rfl ?_
  refine wl_buildSlice (e := 143) (cs := [.int .i64 v64, .string s65, .string s66]) rfl (by kernel_rfl) rfl fun g67 => ?_
  refine wl_nil ?_
  refine nw 15 4095 (fun _ hm => ⟨hm.bl 4, hm.fa 0, trivial⟩) fun z => ?_
  refine wa1 12 rfl ?_
  refine wl_append (news := [.int .i64 v64, .string s65, .string s66]) 2 0 ap29 rfl rfl rfl rfl rfl rfl rfl (by omega) (by unfold maxLen; omega) rfl rfl fun v2 hv2 => ?_
  refine wl_look (R := ∃ A cc, v2 = .slice A (pn + 1) cc) (fun wx hm => own_slice (hm.ownI 2 rfl)) ?_
  rintro ⟨A2, c2, rfl⟩
  have hxs : pl.flatMap plEnc ++ ([.int .i64 v64, .string s65, .string s66] : List Value) = (pl ++ [(⟨v64, s65, s66⟩ : Pl)]).flatMap plEnc := by simp [plEnc]
  rw [hxs]
  refine wl_nil ?_
  refine nw 15 8191 (fun _ hm => ⟨hm.bl 4, hm.fa 0, trivial⟩) fun z => ?_
  refine wt 13 15 16383 rfl z (ov_field fo31_3 rfl rfl) ?_
  refine wa1 14 rfl ?_
  refine wl_store 3 sc29 rfl rfl rfl rfl rfl rfl ?_
  refine wl_nil ?_
  refine nw 15 32767 (fun _ hm => ⟨hm.bl 4, hm.fa 0, trivial⟩) fun z => ?_
  refine wa_done (by kernel_rfl) ?_
  refine nx_blk_nrm (nx_then (sr_ ?_))
  refine wl_ov (ov_loads rz31 rfl (fun _ hm => hm.blkI 3 rfl) rfl rfl) rfl ?_
  refine wl_stores (cs' := [.slice sA sn sc, .slice cA 4 cc, .slice vA vn vc, .slice A2 (pn + 1) c2]) 4 rz31 rfl rfl rfl rfl rfl rfl rfl rfl ?_
  refine nn_ ?_
  refine gw_ret ?_
  refine nx_retc 4 rfl rz31 rfl rfl rfl fun wx hm => ?_
  exact ⟨sA, cA, vA, A2, sn, sc, cc, vn, vc, pn + 1, c2, sl, cl, vl, pl ++ [(⟨v64, s65, s66⟩ : Pl)], rfl, ⟨⟨stB_all hsB, by omega⟩, hcok, ⟨hvB, by omega⟩, all_snoc hpB ⟨⟨by dsimp only; omega, by dsimp only; omega⟩, by dsimp only; omega, by dsimp only; omega⟩, by omega⟩, hm.k.more (by omega), hm.g, SlT.ofOwnL stEnc_lenL (stB_all hsB) (hm.ownI 0 rfl) hsl, (hm.fact 0 rfl), SlT.ofOwn vh_len (hm.ownI 1 rfl) hvl, SlT.ofOwn pl_len (hm.ownI 2 rfl) (by simp [hpl]), own_shape (hm.ownI 2 rfl), own_cap (hm.ownI 2 rfl)⟩
 ·refine wl_got (γ := Int) (val := fun v => .int .i64 v) (φ := fun v => -2000000000000000 ≤ v ∧ v ≤ 2000000000000000) rfl cb77 rfl rfl rfl rfl (fun wx hm => (odd_any _ _ wx B sb _ hm.k (by omega) (by omega) (by omega) (by omega))) fun v68 hv68 => ?_
  refine wl_nil ?_
  refine nw 15 157 (fun _ hm => ⟨hm.bl 1, hm.fa 0, trivial⟩) fun z => ?_
  refine wa_all [1, 5, 8] (by kernel_rfl) rfl ⟨⟨_, rfl, ?_⟩, ⟨_, rfl, ?_⟩, ⟨_, rfl, ?_⟩, trivial⟩
  ·refine lk_ sc29 0 rfl rfl rfl (wl_nil ?_)
   refine nw 15 159 (fun _ hm => ⟨hm.bl 1, hm.fa 0, trivial⟩) fun z => ?_
   refine wa_all [5, 8] (by kernel_rfl) rfl ⟨⟨_, rfl, ?_⟩, ⟨_, rfl, ?_⟩, trivial⟩
   ·refine wl_buildSlice (e := 9) (cs := [.string ⟨#[118, 49]⟩, .string ⟨#[110, 111, 110, 101]⟩]) rfl (by kernel_rfl) rfl fun g69 => ?_
    refine wl_nil ?_
    refine nw 15 191 (fun _ hm => ⟨hm.bl 2, hm.fa 0, trivial⟩) fun z => ?_
    refine wa_all [6, 8] (by kernel_rfl) rfl ⟨⟨_, rfl, ?_⟩, ⟨_, rfl, ?_⟩, trivial⟩
    ·refine wl_got (γ := ByteArray) (val := fun v => .string v) (φ := fun v => v ∈ ([⟨#[118, 49]⟩, ⟨#[110, 111, 110, 101]⟩] : List ByteArray)) rfl cb43 rfl rfl rfl rfl (fun wx hm => (some_any [⟨#[118, 49]⟩, ⟨#[110, 111, 110, 101]⟩] _ _ _ wx B sb _ hm.k (by omega) (by simp) (by simp) (hm.blkI 0 rfl) (hm.neRow 0 rfl rfl))) fun s70 hs70 => ?_
     have zs70 : s70.size ≤ 100 := mem_sz hs70 (by decide)
     refine wl_nil ?_
     refine nw 15 255 (fun _ hm => ⟨hm.bl 2, hm.fa 0, trivial⟩) fun z => ?_
     refine wa1 8 rfl ?_
     refine wl_buildSlice (e := 9) (cs := [.string ⟨#[65, 66, 49]⟩, .string ⟨#[97, 49]⟩, .string ⟨#[65]⟩, .string ⟨#[65, 66, 67, 68, 69, 70, 71, 72, 73, 74, 49]⟩, .string ⟨#[65, 66, 49]⟩]) rfl (by kernel_rfl) rfl fun g71 => ?_
     refine wl_nil ?_
     refine nw 15 511 (fun _ hm => ⟨hm.bl 3, hm.fa 0, trivial⟩) fun z => ?_
     refine wa1 9 rfl ?_
     refine wl_got (γ := ByteArray) (val := fun v => .string v) (φ := fun v => v ∈ ([⟨#[65, 66, 49]⟩, ⟨#[97, 49]⟩, ⟨#[65]⟩, ⟨#[65, 66, 67, 68, 69, 70, 71, 72, 73, 74, 49]⟩, ⟨#[65, 66, 49]⟩] : List ByteArray)) rfl cb43 rfl rfl rfl rfl (fun wx hm => (some_any [⟨#[65, 66, 49]⟩, ⟨#[97, 49]⟩, ⟨#[65]⟩, ⟨#[65, 66, 67, 68, 69, 70, 71, 72, 73, 74, 49]⟩, ⟨#[65, 66, 49]⟩] _ _ _ wx B sb _ hm.k (by omega) (by simp) (by simp) (hm.blkI 0 rfl) (hm.neRow 0 rfl rfl))) fun s72 hs72 => ?_
     have zs72 : s72.size ≤ 100 := mem_sz hs72 (by decide)
     refine wl_nil ?_
     refine nw 15 1023 (fun _ hm => ⟨hm.bl 3, hm.fa 0, trivial⟩) fun z => ?_
     refine wt 10 15 2047 rfl z (ov_build (cs := [.int .i64 v68, .string s70, .string s72]) rfl (by kernel_rfl)) ?_
     refine wa1 11 rfl ?_
     refine wl_buildSlice (e := 143) (cs := [.int .i64 v68, .string s70, .string s72]) rfl (by kernel_rfl) rfl fun g73 => ?_
     refine wl_nil ?_
     refine nw 15 4095 (fun _ hm => ⟨hm.bl 4, hm.fa 0, trivial⟩) fun z => ?_
     refine wa1 12 rfl ?_
     refine wl_append (news := [.int .i64 v68, .string s70, .string s72]) 2 0 ap29 rfl rfl rfl rfl rfl rfl rfl (by omega) (by unfold maxLen; omega) rfl rfl fun v2 hv2 => ?_
     refine wl_look (R := ∃ A cc, v2 = .slice A (pn + 1) cc) (fun wx hm => own_slice (hm.ownI 2 rfl)) ?_
     rintro ⟨A2, c2, rfl⟩
     have hxs : pl.flatMap plEnc ++ ([.int .i64 v68, .string s70, .string s72] : List Value) = (pl ++ [(⟨v68, s70, s72⟩ : Pl)]).flatMap plEnc := by simp [plEnc]
     rw [hxs]
     refine wl_nil ?_
     refine nw 15 8191 (fun _ hm => ⟨hm.bl 4, hm.fa 0, trivial⟩) fun z => ?_
     refine wt 13 15 16383 rfl z (ov_field fo31_3 rfl rfl) ?_
     refine wa1 14 rfl ?_
     refine wl_store 3 sc29 rfl rfl rfl rfl rfl rfl ?_
     refine wl_nil ?_
     refine nw 15 32767 (fun _ hm => ⟨hm.bl 4, hm.fa 0, trivial⟩) fun z => ?_
     refine wa_done (by kernel_rfl) ?_
     refine nx_blk_nrm (nx_then (sr_ ?_))
     refine wl_ov (ov_loads rz31 rfl (fun _ hm => hm.blkI 3 rfl) rfl rfl) rfl ?_
     refine wl_stores (cs' := [.slice sA sn sc, .slice cA 4 cc, .slice vA vn vc, .slice A2 (pn + 1) c2]) 4 rz31 rfl rfl rfl rfl rfl rfl rfl rfl ?_
     refine nn_ ?_
     refine gw_ret ?_
     refine nx_retc 4 rfl rz31 rfl rfl rfl fun wx hm => ?_
     exact ⟨sA, cA, vA, A2, sn, sc, cc, vn, vc, pn + 1, c2, sl, cl, vl, pl ++ [(⟨v68, s70, s72⟩ : Pl)], rfl, ⟨⟨stB_all hsB, by omega⟩, hcok, ⟨hvB, by omega⟩, all_snoc hpB ⟨⟨by dsimp only; omega, by dsimp only; omega⟩, by dsimp only; omega, by dsimp only; omega⟩, by omega⟩, hm.k.more (by omega), hm.g, SlT.ofOwnL stEnc_lenL (stB_all hsB) (hm.ownI 0 rfl) hsl, (hm.fact 0 rfl), SlT.ofOwn vh_len (hm.ownI 1 rfl) hvl, SlT.ofOwn pl_len (hm.ownI 2 rfl) (by simp [hpl]), own_shape (hm.ownI 2 rfl), own_cap (hm.ownI 2 rfl)⟩
    refine wl_buildSlice (e := 9) (cs := [.string ⟨#[65, 66, 49]⟩, .string ⟨#[97, 49]⟩, .string ⟨#[65]⟩, .string ⟨#[65, 66, 67, 68, 69, 70, 71, 72, 73, 74, 49]⟩, .string ⟨#[65, 66, 49]⟩]) rfl (by kernel_rfl) rfl fun g74 => ?_
    refine wl_nil ?_
    refine nw 15 447 (fun _ hm => ⟨hm.bl 3, hm.fa 0, trivial⟩) fun z => ?_
    refine wa1 6 rfl ?_
    refine wl_got (γ := ByteArray) (val := fun v => .string v) (φ := fun v => v ∈ ([⟨#[118, 49]⟩, ⟨#[110, 111, 110, 101]⟩] : List ByteArray)) rfl cb43 rfl rfl rfl rfl (fun wx hm => (some_any [⟨#[118, 49]⟩, ⟨#[110, 111, 110, 101]⟩] _ _ _ wx B sb _ hm.k (by omega) (by simp) (by simp) (hm.blkI 1 rfl) (hm.neRow 1 rfl rfl))) fun s75 hs75 => ?_
    have zs75 : s75.size ≤ 100 := mem_sz hs75 (by decide)
    refine wl_nil ?_
    refine nw 15 511 (fun _ hm => ⟨hm.bl 3, hm.fa 0, trivial⟩) fun z => ?_
    refine wa1 9 rfl ?_
    refine wl_got (γ := ByteArray) (val := fun v => .string v) (φ := fun v => v ∈ ([⟨#[65, 66, 49]⟩, ⟨#[97, 49]⟩, ⟨#[65]⟩, ⟨#[65, 66, 67, 68, 69, 70, 71, 72, 73, 74, 49]⟩, ⟨#[65, 66, 49]⟩] : List ByteArray)) rfl cb43 rfl rfl rfl rfl (fun wx hm => (some_any [⟨#[65, 66, 49]⟩, ⟨#[97, 49]⟩, ⟨#[65]⟩, ⟨#[65, 66, 67, 68, 69, 70, 71, 72, 73, 74, 49]⟩, ⟨#[65, 66, 49]⟩] _ _ _ wx B sb _ hm.k (by omega) (by simp) (by simp) (hm.blkI 0 rfl) (hm.neRow 0 rfl rfl))) fun s76 hs76 => ?_
    have zs76 : s76.size ≤ 100 := mem_sz hs76 (by decide)
    refine wl_nil ?_
    refine nw 15 1023 (fun _ hm => ⟨hm.bl 3, hm.fa 0, trivial⟩) fun z => ?_
    refine wt 10 15 2047 rfl z (ov_build (cs := [.int .i64 v68, .string s75, .string s76]) rfl (by kernel_rfl)) ?_
    refine wa1 11 rfl ?_
    refine wl_buildSlice (e := 143) (cs := [.int .i64 v68, .string s75, .string s76]) rfl (by kernel_rfl) rfl fun g77 => ?_
    refine wl_nil ?_
    refine nw 15 4095 (fun _ hm => ⟨hm.bl 4, hm.fa 0, trivial⟩) fun z => ?_
    refine wa1 12 rfl ?_
    refine wl_append (news := [.int .i64 v68, .string s75, .string s76]) 2 0 ap29 rfl rfl rfl rfl rfl rfl rfl (by omega) (by unfold maxLen; omega) rfl rfl fun v2 hv2 => ?_
    refine wl_look (R := ∃ A cc, v2 = .slice A (pn + 1) cc) (fun wx hm => own_slice (hm.ownI 2 rfl)) ?_
    rintro ⟨A2, c2, rfl⟩
    have hxs : pl.flatMap plEnc ++ ([.int .i64 v68, .string s75, .string s76] : List Value) = (pl ++ [(⟨v68, s75, s76⟩ : Pl)]).flatMap plEnc := by simp [plEnc]
    rw [hxs]
    refine wl_nil ?_
    refine nw 15 8191 (fun _ hm => ⟨hm.bl 4, hm.fa 0, trivial⟩) fun z => ?_
    refine wt 13 15 16383 rfl z (ov_field fo31_3 rfl rfl) ?_
    refine wa1 14 rfl ?_
    refine wl_store 3 sc29 rfl rfl rfl rfl rfl rfl ?_
    refine wl_nil ?_
    refine nw 15 32767 (fun _ hm => ⟨hm.bl 4, hm.fa 0, trivial⟩) fun z => ?_
    refine wa_done (by kernel_rfl) ?_
    refine nx_blk_nrm (nx_then (sr_ ?_))
    refine wl_ov (ov_loads rz31 rfl (fun _ hm => hm.blkI 3 rfl) rfl rfl) rfl ?_
    refine wl_stores (cs' := [.slice sA sn sc, .slice cA 4 cc, .slice vA vn vc, .slice A2 (pn + 1) c2]) 4 rz31 rfl rfl rfl rfl rfl rfl rfl rfl ?_
    refine nn_ ?_
    refine gw_ret ?_
    refine nx_retc 4 rfl rz31 rfl rfl rfl fun wx hm => ?_
    exact ⟨sA, cA, vA, A2, sn, sc, cc, vn, vc, pn + 1, c2, sl, cl, vl, pl ++ [(⟨v68, s75, s76⟩ : Pl)], rfl, ⟨⟨stB_all hsB, by omega⟩, hcok, ⟨hvB, by omega⟩, all_snoc hpB ⟨⟨by dsimp only; omega, by dsimp only; omega⟩, by dsimp only; omega, by dsimp only; omega⟩, by omega⟩, hm.k.more (by omega), hm.g, SlT.ofOwnL stEnc_lenL (stB_all hsB) (hm.ownI 0 rfl) hsl, (hm.fact 0 rfl), SlT.ofOwn vh_len (hm.ownI 1 rfl) hvl, SlT.ofOwn pl_len (hm.ownI 2 rfl) (by simp [hpl]), own_shape (hm.ownI 2 rfl), own_cap (hm.ownI 2 rfl)⟩
   refine wl_buildSlice (e := 9) (cs := [.string ⟨#[65, 66, 49]⟩, .string ⟨#[97, 49]⟩, .string ⟨#[65]⟩, .string ⟨#[65, 66, 67, 68, 69, 70, 71, 72, 73, 74, 49]⟩, .string ⟨#[65, 66, 49]⟩]) rfl (by kernel_rfl) rfl fun g78 => ?_
   refine wl_nil ?_
   refine nw 15 415 (fun _ hm => ⟨hm.bl 2, hm.fa 0, trivial⟩) fun z => ?_
   refine wa1 5 rfl ?_
   refine wl_buildSlice (e := 9) (cs := [.string ⟨#[118, 49]⟩, .string ⟨#[110, 111, 110, 101]⟩]) rfl (by kernel_rfl) rfl fun g79 => ?_
   refine wl_nil ?_
   refine nw 15 447 (fun _ hm => ⟨hm.bl 3, hm.fa 0, trivial⟩) fun z => ?_
   refine wa1 6 rfl ?_
   refine wl_got (γ := ByteArray) (val := fun v => .string v) (φ := fun v => v ∈ ([⟨#[118, 49]⟩, ⟨#[110, 111, 110, 101]⟩] : List ByteArray)) rfl cb43 rfl rfl rfl rfl (fun wx hm => (some_any [⟨#[118, 49]⟩, ⟨#[110, 111, 110, 101]⟩] _ _ _ wx B sb _ hm.k (by omega) (by simp) (by simp) (hm.blkI 0 rfl) (hm.neRow 0 rfl rfl))) fun s80 hs80 => ?_
   have zs80 : s80.size ≤ 100 := mem_sz hs80 (by decide)
   refine wl_nil ?_
   refine nw 15 511 (fun _ hm => ⟨hm.bl 3, hm.fa 0, trivial⟩) fun z => ?_
   refine wa1 9 rfl ?_
   refine wl_got (γ := ByteArray) (val := fun v => .string v) (φ := fun v => v ∈ ([⟨#[65, 66, 49]⟩, ⟨#[97, 49]⟩, ⟨#[65]⟩, ⟨#[65, 66, 67, 68, 69, 70, 71, 72, 73, 74, 49]⟩, ⟨#[65, 66, 49]⟩] : List ByteArray)) rfl cb43 rfl rfl rfl rfl (fun wx hm => (some_any [⟨#[65, 66, 49]⟩, ⟨#[97, 49]⟩, ⟨#[65]⟩, ⟨#[65, 66, 67, 68, 69, 70, 71, 72, 73, 74, 49]⟩, ⟨#[65, 66, 49]⟩] _ _ _ wx B sb _ hm.k (by omega) (by simp) (by simp) (hm.blkI 1 rfl) (hm.neRow 1 rfl rfl))) fun s81 hs81 => ?_
   have zs81 : s81.size ≤ 100 := mem_sz hs81 (by decide)
   refine wl_nil ?_
   refine nw 15 1023 (fun _ hm => ⟨hm.bl 3, hm.fa 0, trivial⟩) fun z => ?_
   refine wt 10 15 2047 rfl z (ov_build (cs := [.int .i64 v68, .string s80, .string s81]) rfl (by kernel_rfl)) ?_
   refine wa1 11 rfl ?_
   refine wl_buildSlice (e := 143) (cs := [.int .i64 v68, .string s80, .string s81]) rfl (by kernel_rfl) rfl fun g82 => ?_
   refine wl_nil ?_
   refine nw 15 4095 (fun _ hm => ⟨hm.bl 4, hm.fa 0, trivial⟩) fun z => ?_
   refine wa1 12 rfl ?_
   refine wl_append (news := [.int .i64 v68, .string s80, .string s81]) 2 0 ap29 rfl rfl rfl rfl rfl rfl rfl (by omega) (by unfold maxLen; omega) rfl rfl fun v2 hv2 => ?_
   refine wl_look (R := ∃ A cc, v2 = .slice A (pn + 1) cc) (fun wx hm => own_slice (hm.ownI 2 rfl)) ?_
   rintro ⟨A2, c2, rfl⟩
   have hxs : pl.flatMap plEnc ++ ([.int .i64 v68, .string s80, .string s81] : List Value) = (pl ++ [(⟨v68, s80, s81⟩ : Pl)]).flatMap plEnc := by simp [plEnc]
   rw [hxs]
   refine wl_nil ?_
   refine nw 15 8191 (fun _ hm => ⟨hm.bl 4, hm.fa 0, trivial⟩) fun z => ?_
   refine wt 13 15 16383 rfl z (ov_field fo31_3 rfl rfl) ?_
   refine wa1 14 rfl ?_
   refine wl_store 3 sc29 rfl rfl rfl rfl rfl rfl ?_
   refine wl_nil ?_
   refine nw 15 32767 (fun _ hm => ⟨hm.bl 4, hm.fa 0, trivial⟩) fun z => ?_
   refine wa_done (by kernel_rfl) ?_
   refine nx_blk_nrm (nx_then (sr_ ?_))
   refine wl_ov (ov_loads rz31 rfl (fun _ hm => hm.blkI 3 rfl) rfl rfl) rfl ?_
   refine wl_stores (cs' := [.slice sA sn sc, .slice cA 4 cc, .slice vA vn vc, .slice A2 (pn + 1) c2]) 4 rz31 rfl rfl rfl rfl rfl rfl rfl rfl ?_
   refine nn_ ?_
   refine gw_ret ?_
   refine nx_retc 4 rfl rz31 rfl rfl rfl fun wx hm => ?_
   exact ⟨sA, cA, vA, A2, sn, sc, cc, vn, vc, pn + 1, c2, sl, cl, vl, pl ++ [(⟨v68, s80, s81⟩ : Pl)], rfl, ⟨⟨stB_all hsB, by omega⟩, hcok, ⟨hvB, by omega⟩, all_snoc hpB ⟨⟨by dsimp only; omega, by dsimp only; omega⟩, by dsimp only; omega, by dsimp only; omega⟩, by omega⟩, hm.k.more (by omega), hm.g, SlT.ofOwnL stEnc_lenL (stB_all hsB) (hm.ownI 0 rfl) hsl, (hm.fact 0 rfl), SlT.ofOwn vh_len (hm.ownI 1 rfl) hvl, SlT.ofOwn pl_len (hm.ownI 2 rfl) (by simp [hpl]), own_shape (hm.ownI 2 rfl), own_cap (hm.ownI 2 rfl)⟩
  ·refine wl_buildSlice (e := 9) (cs := [.string ⟨#[118, 49]⟩, .string ⟨#[110, 111, 110, 101]⟩]) rfl (by kernel_rfl) rfl fun g83 => ?_
   refine wl_nil ?_
   refine nw 15 189 (fun _ hm => ⟨hm.bl 2, hm.fa 0, trivial⟩) fun z => ?_
   refine wa_all [1, 6, 8] (by kernel_rfl) rfl ⟨⟨_, rfl, ?_⟩, ⟨_, rfl, ?_⟩, ⟨_, rfl, ?_⟩, trivial⟩
   ·refine lk_ sc29 1 rfl rfl rfl (wl_nil ?_)
    refine nw 15 191 (fun _ hm => ⟨hm.bl 2, hm.fa 0, trivial⟩) fun z => ?_
    refine wa_all [6, 8] (by kernel_rfl) rfl ⟨⟨_, rfl, ?_⟩, ⟨_, rfl, ?_⟩, trivial⟩
    ·refine wl_got (γ := ByteArray) (val := fun v => .string v) (φ := fun v => v ∈ ([⟨#[118, 49]⟩, ⟨#[110, 111, 110, 101]⟩] : List ByteArray)) rfl cb43 rfl rfl rfl rfl (fun wx hm => (some_any [⟨#[118, 49]⟩, ⟨#[110, 111, 110, 101]⟩] _ _ _ wx B sb _ hm.k (by omega) (by simp) (by simp) (hm.blkI 0 rfl) (hm.neRow 0 rfl rfl))) fun s84 hs84 => ?_
     have zs84 : s84.size ≤ 100 := mem_sz hs84 (by decide)
     refine wl_nil ?_
     refine nw 15 255 (fun _ hm => ⟨hm.bl 2, hm.fa 0, trivial⟩) fun z => ?_
     refine wa1 8 rfl ?_
     refine wl_buildSlice (e := 9) (cs := [.string ⟨#[65, 66, 49]⟩, .string ⟨#[97, 49]⟩, .string ⟨#[65]⟩, .string ⟨#[65, 66, 67, 68, 69, 70, 71, 72, 73, 74, 49]⟩, .string ⟨#[65, 66, 49]⟩]) rfl (by kernel_rfl) rfl fun g85 => ?_
     refine wl_nil ?_
     refine nw 15 511 (fun _ hm => ⟨hm.bl 3, hm.fa 0, trivial⟩) fun z => ?_
     refine wa1 9 rfl ?_
     refine wl_got (γ := ByteArray) (val := fun v => .string v) (φ := fun v => v ∈ ([⟨#[65, 66, 49]⟩, ⟨#[97, 49]⟩, ⟨#[65]⟩, ⟨#[65, 66, 67, 68, 69, 70, 71, 72, 73, 74, 49]⟩, ⟨#[65, 66, 49]⟩] : List ByteArray)) rfl cb43 rfl rfl rfl rfl (fun wx hm => (some_any [⟨#[65, 66, 49]⟩, ⟨#[97, 49]⟩, ⟨#[65]⟩, ⟨#[65, 66, 67, 68, 69, 70, 71, 72, 73, 74, 49]⟩, ⟨#[65, 66, 49]⟩] _ _ _ wx B sb _ hm.k (by omega) (by simp) (by simp) (hm.blkI 0 rfl) (hm.neRow 0 rfl rfl))) fun s86 hs86 => ?_
     have zs86 : s86.size ≤ 100 := mem_sz hs86 (by decide)
     refine wl_nil ?_
     refine nw 15 1023 (fun _ hm => ⟨hm.bl 3, hm.fa 0, trivial⟩) fun z => ?_
     refine wt 10 15 2047 rfl z (ov_build (cs := [.int .i64 v68, .string s84, .string s86]) rfl (by kernel_rfl)) ?_
     refine wa1 11 rfl ?_
     refine wl_buildSlice (e := 143) (cs := [.int .i64 v68, .string s84, .string s86]) rfl (by kernel_rfl) rfl fun g87 => ?_
     refine wl_nil ?_
     refine nw 15 4095 (fun _ hm => ⟨hm.bl 4, hm.fa 0, trivial⟩) fun z => ?_
     refine wa1 12 rfl ?_
     refine wl_append (news := [.int .i64 v68, .string s84, .string s86]) 2 0 ap29 rfl rfl rfl rfl rfl rfl rfl (by omega) (by unfold maxLen; omega) rfl rfl fun v2 hv2 => ?_
     refine wl_look (R := ∃ A cc, v2 = .slice A (pn + 1) cc) (fun wx hm => own_slice (hm.ownI 2 rfl)) ?_
     rintro ⟨A2, c2, rfl⟩
     have hxs : pl.flatMap plEnc ++ ([.int .i64 v68, .string s84, .string s86] : List Value) = (pl ++ [(⟨v68, s84, s86⟩ : Pl)]).flatMap plEnc := by simp [plEnc]
     rw [hxs]
     refine wl_nil ?_
     refine nw 15 8191 (fun _ hm => ⟨hm.bl 4, hm.fa 0, trivial⟩) fun z => ?_
     refine wt 13 15 16383 rfl z (ov_field fo31_3 rfl rfl) ?_
     refine wa1 14 rfl ?_
     refine wl_store 3 sc29 rfl rfl rfl rfl rfl rfl ?_
     refine wl_nil ?_
     refine nw 15 32767 (fun _ hm => ⟨hm.bl 4, hm.fa 0, trivial⟩) fun z => ?_
     refine wa_done (by kernel_rfl) ?_
     refine nx_blk_nrm (nx_then (sr_ ?_))
     refine wl_ov (ov_loads rz31 rfl (fun _ hm => hm.blkI 3 rfl) rfl rfl) rfl ?_
     refine wl_stores (cs' := [.slice sA sn sc, .slice cA 4 cc, .slice vA vn vc, .slice A2 (pn + 1) c2]) 4 rz31 rfl rfl rfl rfl rfl rfl rfl rfl ?_
     refine nn_ ?_
     refine gw_ret ?_
     refine nx_retc 4 rfl rz31 rfl rfl rfl fun wx hm => ?_
     exact ⟨sA, cA, vA, A2, sn, sc, cc, vn, vc, pn + 1, c2, sl, cl, vl, pl ++ [(⟨v68, s84, s86⟩ : Pl)], rfl, ⟨⟨stB_all hsB, by omega⟩, hcok, ⟨hvB, by omega⟩, all_snoc hpB ⟨⟨by dsimp only; omega, by dsimp only; omega⟩, by dsimp only; omega, by dsimp only; omega⟩, by omega⟩, hm.k.more (by omega), hm.g, SlT.ofOwnL stEnc_lenL (stB_all hsB) (hm.ownI 0 rfl) hsl, (hm.fact 0 rfl), SlT.ofOwn vh_len (hm.ownI 1 rfl) hvl, SlT.ofOwn pl_len (hm.ownI 2 rfl) (by simp [hpl]), own_shape (hm.ownI 2 rfl), own_cap (hm.ownI 2 rfl)⟩
    refine wl_buildSlice (e := 9) (cs := [.string ⟨#[65, 66, 49]⟩, .string ⟨#[97, 49]⟩, .string ⟨#[65]⟩, .string ⟨#[65, 66, 67, 68, 69, 70, 71, 72, 73, 74, 49]⟩, .string ⟨#[65, 66, 49]⟩]) rfl (by kernel_rfl) rfl fun g88 => ?_
    refine wl_nil ?_
    refine nw 15 447 (fun _ hm => ⟨hm.bl 3, hm.fa 0, trivial⟩) fun z => ?_
    refine wa1 6 rfl ?_
    refine wl_got (γ := ByteArray) (val := fun v => .string v) (φ := fun v => v ∈ ([⟨#[118, 49]⟩, ⟨#[110, 111, 110, 101]⟩] : List ByteArray)) rfl cb43 rfl rfl rfl rfl (fun wx hm => (some_any [⟨#[118, 49]⟩, ⟨#[110, 111, 110, 101]⟩] _ _ _ wx B sb _ hm.k (by omega) (by simp) (by simp) (hm.blkI 1 rfl) (hm.neRow 1 rfl rfl))) fun s89 hs89 => ?_
    have zs89 : s89.size ≤ 100 := mem_sz hs89 (by decide)
    refine wl_nil ?_
    refine nw 15 511 (fun _ hm => ⟨hm.bl 3, hm.fa 0, trivial⟩) fun z => ?_
    refine wa1 9 rfl ?_
    refine wl_got (γ := ByteArray) (val := fun v => .string v) (φ := fun v => v ∈ ([⟨#[65, 66, 49]⟩, ⟨#[97, 49]⟩, ⟨#[65]⟩, ⟨#[65, 66, 67, 68, 69, 70, 71, 72, 73, 74, 49]⟩, ⟨#[65, 66, 49]⟩] : List ByteArray)) rfl cb43 rfl rfl rfl rfl (fun wx hm => (some_any [⟨#[65, 66, 49]⟩, ⟨#[97, 49]⟩, ⟨#[65]⟩, ⟨#[65, 66, 67, 68, 69, 70, 71, 72, 73, 74, 49]⟩, ⟨#[65, 66, 49]⟩] _ _ _ wx B sb _ hm.k (by omega) (by simp) (by simp) (hm.blkI 0 rfl) (hm.neRow 0 rfl rfl))) fun s90 hs90 => ?_
    have zs90 : s90.size ≤ 100 := mem_sz hs90 (by decide)
    refine wl_nil ?_
    refine nw 15 1023 (fun _ hm => ⟨hm.bl 3, hm.fa 0, trivial⟩) fun z => ?_
    refine wt 10 15 2047 rfl z (ov_build (cs := [.int .i64 v68, .string s89, .string s90]) rfl (by kernel_rfl)) ?_
    refine wa1 11 rfl ?_
    refine wl_buildSlice (e := 143) (cs := [.int .i64 v68, .string s89, .string s90]) rfl (by kernel_rfl) rfl fun g91 => ?_
    refine wl_nil ?_
    refine nw 15 4095 (fun _ hm => ⟨hm.bl 4, hm.fa 0, trivial⟩) fun z => ?_
    refine wa1 12 rfl ?_
    refine wl_append (news := [.int .i64 v68, .string s89, .string s90]) 2 0 ap29 rfl rfl rfl rfl rfl rfl rfl (by omega) (by unfold maxLen; omega) rfl rfl fun v2 hv2 => ?_
    refine wl_look (R := ∃ A cc, v2 = .slice A (pn + 1) cc) (fun wx hm => own_slice (hm.ownI 2 rfl)) ?_
    rintro ⟨A2, c2, rfl⟩
    have hxs : pl.flatMap plEnc ++ ([.int .i64 v68, .string s89, .string s90] : List Value) = (pl ++ [(⟨v68, s89, s90⟩ : Pl)]).flatMap plEnc := by simp [plEnc]
    rw [hxs]
    refine wl_nil ?_
    refine nw 15 8191 (fun _ hm => ⟨hm.bl 4, hm.fa 0, trivial⟩) fun z => ?_
    refine wt 13 15 16383 rfl z (ov_field fo31_3 rfl rfl) ?_
    refine wa1 14 rfl ?_
    refine wl_store 3 sc29 rfl rfl rfl rfl rfl rfl ?_
    refine wl_nil ?_
    refine nw 15 32767 (fun _ hm => ⟨hm.bl 4, hm.fa 0, trivial⟩) fun z => ?_
    refine wa_done (by kernel_rfl) ?_
    refine nx_blk_nrm (nx_then (sr_ ?_))
    refine wl_ov (ov_loads rz31 rfl (fun _ hm => hm.blkI 3 rfl) rfl rfl) rfl ?_
    refine wl_stores (cs' := [.slice sA sn sc, .slice cA 4 cc, .slice vA vn vc, .slice A2 (pn + 1) c2]) 4 rz31 rfl rfl rfl rfl rfl rfl rfl rfl ?_
    refine nn_ ?_
    refine gw_ret ?_
    refine nx_retc 4 rfl rz31 rfl rfl rfl fun wx hm => ?_
    exact ⟨sA, cA, vA, A2, sn, sc, cc, vn, vc, pn + 1, c2, sl, cl, vl, pl ++ [(⟨v68, s89, s90⟩ : Pl)], rfl, ⟨⟨stB_all hsB, by omega⟩, hcok, ⟨hvB, by omega⟩, all_snoc hpB ⟨⟨by dsimp only; omega, by dsimp only; omega⟩, by dsimp only; omega, by dsimp only; omega⟩, by omega⟩, hm.k.more (by omega), hm.g, SlT.ofOwnL stEnc_lenL (stB_all hsB) (hm.ownI 0 rfl) hsl, (hm.fact 0 rfl), SlT.ofOwn vh_len (hm.ownI 1 rfl) hvl, SlT.ofOwn pl_len (hm.ownI 2 rfl) (by simp [hpl]), own_shape (hm.ownI 2 rfl), own_cap (hm.ownI 2 rfl)⟩
   ·refine wl_got (γ := ByteArray) (val := fun v => .string v) (φ := fun v => v ∈ ([⟨#[118, 49]⟩, ⟨#[110, 111, 110, 101]⟩] : List ByteArray)) rfl cb43 rfl rfl rfl rfl (fun wx hm => (some_any [⟨#[118, 49]⟩, ⟨#[110, 111, 110, 101]⟩] _ _ _ wx B sb _ hm.k (by omega) (by simp) (by simp) (hm.blkI 0 rfl) (hm.neRow 0 rfl rfl))) fun s92 hs92 => ?_
    have zs92 : s92.size ≤ 100 := mem_sz hs92 (by decide)
    refine wl_nil ?_
    refine nw 15 253 (fun _ hm => ⟨hm.bl 2, hm.fa 0, trivial⟩) fun z => ?_
    refine wa_all [1, 8] (by kernel_rfl) rfl ⟨⟨_, rfl, ?_⟩, ⟨_, rfl, ?_⟩, trivial⟩
    ·refine lk_ sc29 1 rfl rfl rfl (wl_nil ?_)
     refine nw 15 255 (fun _ hm => ⟨hm.bl 2, hm.fa 0, trivial⟩) fun z => ?_
     refine wa1 8 rfl ?_
     refine wl_buildSlice (e := 9) (cs := [.string ⟨#[65, 66, 49]⟩, .string ⟨#[97, 49]⟩, .string ⟨#[65]⟩, .string ⟨#[65, 66, 67, 68, 69, 70, 71, 72, 73, 74, 49]⟩, .string ⟨#[65, 66, 49]⟩]) rfl (by kernel_rfl) rfl fun g93 => ?_
     refine wl_nil ?_
     refine nw 15 511 (fun _ hm => ⟨hm.bl 3, hm.fa 0, trivial⟩) fun z => ?_
     refine wa1 9 rfl ?_
     refine wl_got (γ := ByteArray) (val := fun v => .string v) (φ := fun v => v ∈ ([⟨#[65, 66, 49]⟩, ⟨#[97, 49]⟩, ⟨#[65]⟩, ⟨#[65, 66, 67, 68, 69, 70, 71, 72, 73, 74, 49]⟩, ⟨#[65, 66, 49]⟩] : List ByteArray)) rfl cb43 rfl rfl rfl rfl (fun wx hm => (some_any [⟨#[65, 66, 49]⟩, ⟨#[97, 49]⟩, ⟨#[65]⟩, ⟨#[65, 66, 67, 68, 69, 70, 71, 72, 73, 74, 49]⟩, ⟨#[65, 66, 49]⟩] _ _ _ wx B sb _ hm.k (by omega) (by simp) (by simp) (hm.blkI 0 rfl) (hm.neRow 0 rfl rfl))) fun s94 hs94 => ?_
     have zs94 : s94.size ≤ 100 := mem_sz hs94 (by decide)
     refine wl_nil ?_
     refine nw 15 1023 (fun _ hm => ⟨hm.bl 3, hm.fa 0, trivial⟩) fun z => ?_
     refine wt 10 15 2047 rfl z (ov_build (cs := [.int .i64 v68, .string s92, .string s94]) rfl (by kernel_rfl)) ?_
     refine wa1 11 rfl ?_
     refine wl_buildSlice (e := 143) (cs := [.int .i64 v68, .string s92, .string s94]) rfl (by kernel_rfl) rfl fun g95 => ?_
     refine wl_nil ?_
     refine nw 15 4095 (fun _ hm => ⟨hm.bl 4, hm.fa 0, trivial⟩) fun z => ?_
     refine wa1 12 rfl ?_
     refine wl_append (news := [.int .i64 v68, .string s92, .string s94]) 2 0 ap29 rfl rfl rfl rfl rfl rfl rfl (by omega) (by unfold maxLen; omega) rfl rfl fun v2 hv2 => ?_
     refine wl_look (R := ∃ A cc, v2 = .slice A (pn + 1) cc) (fun wx hm => own_slice (hm.ownI 2 rfl)) ?_
     rintro ⟨A2, c2, rfl⟩
     have hxs : pl.flatMap plEnc ++ ([.int .i64 v68, .string s92, .string s94] : List Value) = (pl ++ [(⟨v68, s92, s94⟩ : Pl)]).flatMap plEnc := by simp [plEnc]
     rw [hxs]
     refine wl_nil ?_
     refine nw 15 8191 (fun _ hm => ⟨hm.bl 4, hm.fa 0, trivial⟩) fun z => ?_
     refine wt 13 15 16383 rfl z (ov_field fo31_3 rfl rfl) ?_
     refine wa1 14 rfl ?_
     refine wl_store 3 sc29 rfl rfl rfl rfl rfl rfl ?_
     refine wl_nil ?_
     refine nw 15 32767 (fun _ hm => ⟨hm.bl 4, hm.fa 0, trivial⟩) fun z => ?_
     refine wa_done (by kernel_rfl) ?_
     refine nx_blk_nrm (nx_then (sr_ ?_))
     refine wl_ov (ov_loads rz31 rfl (fun _ hm => hm.blkI 3 rfl) rfl rfl) rfl ?_
     refine wl_stores (cs' := [.slice sA sn sc, .slice cA 4 cc, .slice vA vn vc, .slice A2 (pn + 1) c2]) 4 rz31 rfl rfl rfl rfl rfl rfl rfl rfl ?_
     refine nn_ ?_
     refine gw_ret ?_
     refine nx_retc 4 rfl rz31 rfl rfl rfl fun wx hm => ?_
     exact ⟨sA, cA, vA, A2, sn, sc, cc, vn, vc, pn + 1, c2, sl, cl, vl, pl ++ [(⟨v68, s92, s94⟩ : Pl)], rfl, ⟨⟨stB_all hsB, by omega⟩, hcok, ⟨hvB, by omega⟩, all_snoc hpB ⟨⟨by dsimp only; omega, by dsimp only; omega⟩, by dsimp only; omega, by dsimp only; omega⟩, by omega⟩, hm.k.more (by omega), hm.g, SlT.ofOwnL stEnc_lenL (stB_all hsB) (hm.ownI 0 rfl) hsl, (hm.fact 0 rfl), SlT.ofOwn vh_len (hm.ownI 1 rfl) hvl, SlT.ofOwn pl_len (hm.ownI 2 rfl) (by simp [hpl]), own_shape (hm.ownI 2 rfl), own_cap (hm.ownI 2 rfl)⟩
    refine wl_buildSlice (e := 9) (cs := [.string ⟨#[65, 66, 49]⟩, .string ⟨#[97, 49]⟩, .string ⟨#[65]⟩, .string ⟨#[65, 66, 67, 68, 69, 70, 71, 72, 73, 74, 49]⟩, .string ⟨#[65, 66, 49]⟩]) rfl (by kernel_rfl) rfl fun g96 => ?_
    refine wl_nil ?_
    refine nw 15 509 (fun _ hm => ⟨hm.bl 3, hm.fa 0, trivial⟩) fun z => ?_
    refine wa_all [1, 9] (by kernel_rfl) rfl ⟨⟨_, rfl, ?_⟩, ⟨_, rfl, ?_⟩, trivial⟩
    ·refine lk_ sc29 2 rfl rfl rfl (wl_nil ?_)
     refine nw 15 511 (fun _ hm => ⟨hm.bl 3, hm.fa 0, trivial⟩) fun z => ?_
     refine wa1 9 rfl ?_
     refine wl_got (γ := ByteArray) (val := fun v => .string v) (φ := fun v => v ∈ ([⟨#[65, 66, 49]⟩, ⟨#[97, 49]⟩, ⟨#[65]⟩, ⟨#[65, 66, 67, 68, 69, 70, 71, 72, 73, 74, 49]⟩, ⟨#[65, 66, 49]⟩] : List ByteArray)) rfl cb43 rfl rfl rfl rfl (fun wx hm => (some_any [⟨#[65, 66, 49]⟩, ⟨#[97, 49]⟩, ⟨#[65]⟩, ⟨#[65, 66, 67, 68, 69, 70, 71, 72, 73, 74, 49]⟩, ⟨#[65, 66, 49]⟩] _ _ _ wx B sb _ hm.k (by omega) (by simp) (by simp) (hm.blkI 0 rfl) (hm.neRow 0 rfl rfl))) fun s97 hs97 => ?_
     have zs97 : s97.size ≤ 100 := mem_sz hs97 (by decide)
     refine wl_nil ?_
     refine nw 15 1023 (fun _ hm => ⟨hm.bl 3, hm.fa 0, trivial⟩) fun z => ?_
     refine wt 10 15 2047 rfl z (ov_build (cs := [.int .i64 v68, .string s92, .string s97]) rfl (by kernel_rfl)) ?_
     refine wa1 11 rfl ?_
     refine wl_buildSlice (e := 143) (cs := [.int .i64 v68, .string s92, .string s97]) rfl (by kernel_rfl) rfl fun g98 => ?_
     refine wl_nil ?_
     refine nw 15 4095 (fun _ hm => ⟨hm.bl 4, hm.fa 0, trivial⟩) fun z => ?_
     refine wa1 12 rfl ?_
     refine wl_append (news := [.int .i64 v68, .string s92, .string s97]) 2 0 ap29 rfl rfl rfl rfl rfl rfl rfl (by omega) (by unfold maxLen; omega) rfl rfl fun v2 hv2 => ?_
     refine wl_look (R := ∃ A cc, v2 = .slice A (pn + 1) cc) (fun wx hm => own_slice (hm.ownI 2 rfl)) ?_
     rintro ⟨A2, c2, rfl⟩
     have hxs : pl.flatMap plEnc ++ ([.int .i64 v68, .string s92, .string s97] : List Value) = (pl ++ [(⟨v68, s92, s97⟩ : Pl)]).flatMap plEnc := by simp [plEnc]
     rw [hxs]
     refine wl_nil ?_
     refine nw 15 8191 (fun _ hm => ⟨hm.bl 4, hm.fa 0, trivial⟩) fun z => ?_
     refine wt 13 15 16383 rfl z (ov_field fo31_3 rfl rfl) ?_
     refine wa1 14 rfl ?_
     refine wl_store 3 sc29 rfl rfl rfl rfl rfl rfl ?_
     refine wl_nil ?_
     refine nw 15 32767 (fun _ hm => ⟨hm.bl 4, hm.fa 0, trivial⟩) fun z => ?_
     refine wa_done (by kernel_rfl) ?_
     refine nx_blk_nrm (nx_then (sr_ ?_))
     refine wl_ov (ov_loads rz31 rfl (fun _ hm => hm.blkI 3 rfl) rfl rfl) rfl ?_
     refine wl_stores (cs' := [.slice sA sn sc, .slice cA 4 cc, .slice vA vn vc, .slice A2 (pn + 1) c2]) 4 rz31 rfl rfl rfl rfl rfl rfl rfl rfl ?_
     refine nn_ ?_
     refine gw_ret ?_
     refine nx_retc 4 rfl rz31 rfl rfl rfl fun wx hm => ?_
     exact ⟨sA, cA, vA, A2, sn, sc, cc, vn, vc, pn + 1, c2, sl, cl, vl, pl ++ [(⟨v68, s92, s97⟩ : Pl)], rfl, ⟨⟨stB_all hsB, by omega⟩, hcok, ⟨hvB, by omega⟩, all_snoc hpB ⟨⟨by dsimp only; omega, by dsimp only; omega⟩, by dsimp only; omega, by dsimp only; omega⟩, by omega⟩, hm.k.more (by omega), hm.g, SlT.ofOwnL stEnc_lenL (stB_all hsB) (hm.ownI 0 rfl) hsl, (hm.fact 0 rfl), SlT.ofOwn vh_len (hm.ownI 1 rfl) hvl, SlT.ofOwn pl_len (hm.ownI 2 rfl) (by simp [hpl]), own_shape (hm.ownI 2 rfl), own_cap (hm.ownI 2 rfl)⟩
    refine wl_got (γ := ByteArray) (val := fun v => .string v) (φ := fun v => v ∈ ([⟨#[65, 66, 49]⟩, ⟨#[97, 49]⟩, ⟨#[65]⟩, ⟨#[65, 66, 67, 68, 69, 70, 71, 72, 73, 74, 49]⟩, ⟨#[65, 66, 49]⟩] : List ByteArray)) rfl cb43 rfl rfl rfl rfl (fun wx hm => (some_any [⟨#[65, 66, 49]⟩, ⟨#[97, 49]⟩, ⟨#[65]⟩, ⟨#[65, 66, 67, 68, 69, 70, 71, 72, 73, 74, 49]⟩, ⟨#[65, 66, 49]⟩] _ _ _ wx B sb _ hm.k (by omega) (by simp) (by simp) (hm.blkI 0 rfl) (hm.neRow 0 rfl rfl))) fun s99 hs99 => ?_
    have zs99 : s99.size ≤ 100 := mem_sz hs99 (by decide)
    refine wl_nil ?_
    refine nw 15 1021 (fun _ hm => ⟨hm.bl 3, hm.fa 0, trivial⟩) fun z => ?_
    refine wt 10 15 2045 rfl z (ov_build (cs := [.int .i64 v68, .string s92, .string s99]) rfl (by kernel_rfl)) ?_
    refine wa_all [1, 11] (by kernel_rfl) rfl ⟨⟨_, rfl, ?_⟩, ⟨_, rfl, ?_⟩, trivial⟩
    ·refine lk_ sc29 2 rfl rfl rfl (wl_nil ?_)
     refine nw 15 2047 (fun _ hm => ⟨hm.bl 3, hm.fa 0, trivial⟩) fun z => ?_
     refine wa1 11 rfl ?_
     refine wl_buildSlice (e := 143) (cs := [.int .i64 v68, .string s92, .string s99]) rfl (by kernel_rfl) rfl fun g100 => ?_
     refine wl_nil ?_
     refine nw 15 4095 (fun _ hm => ⟨hm.bl 4, hm.fa 0, trivial⟩) fun z => ?_
     refine wa1 12 rfl ?_
     refine wl_append (news := [.int .i64 v68, .string s92, .string s99]) 2 0 ap29 rfl rfl rfl rfl rfl rfl rfl (by omega) (by unfold maxLen; omega) rfl rfl fun v2 hv2 => ?_
     refine wl_look (R := ∃ A cc, v2 = .slice A (pn + 1) cc) (fun wx hm => own_slice (hm.ownI 2 rfl)) ?_
     rintro ⟨A2, c2, rfl⟩
     have hxs : pl.flatMap plEnc ++ ([.int .i64 v68, .string s92, .string s99] : List Value) = (pl ++ [(⟨v68, s92, s99⟩ : Pl)]).flatMap plEnc := by simp [plEnc]
     rw [hxs]
     refine wl_nil ?_
     refine nw 15 8191 (fun _ hm => ⟨hm.bl 4, hm.fa 0, trivial⟩) fun z => ?_
     refine wt 13 15 16383 rfl z (ov_field fo31_3 rfl rfl) ?_
     refine wa1 14 rfl ?_
     refine wl_store 3 sc29 rfl rfl rfl rfl rfl rfl ?_
     refine wl_nil ?_
     refine nw 15 32767 (fun _ hm => ⟨hm.bl 4, hm.fa 0, trivial⟩) fun z => ?_
     refine wa_done (by kernel_rfl) ?_
     refine nx_blk_nrm (nx_then (sr_ ?_))
     refine wl_ov (ov_loads rz31 rfl (fun _ hm => hm.blkI 3 rfl) rfl rfl) rfl ?_
     refine wl_stores (cs' := [.slice sA sn sc, .slice cA 4 cc, .slice vA vn vc, .slice A2 (pn + 1) c2]) 4 rz31 rfl rfl rfl rfl rfl rfl rfl rfl ?_
     refine nn_ ?_
     refine gw_ret ?_
     refine nx_retc 4 rfl rz31 rfl rfl rfl fun wx hm => ?_
     exact ⟨sA, cA, vA, A2, sn, sc, cc, vn, vc, pn + 1, c2, sl, cl, vl, pl ++ [(⟨v68, s92, s99⟩ : Pl)], rfl, ⟨⟨stB_all hsB, by omega⟩, hcok, ⟨hvB, by omega⟩, all_snoc hpB ⟨⟨by dsimp only; omega, by dsimp only; omega⟩, by dsimp only; omega, by dsimp only; omega⟩, by omega⟩, hm.k.more (by omega), hm.g, SlT.ofOwnL stEnc_lenL (stB_all hsB) (hm.ownI 0 rfl) hsl, (hm.fact 0 rfl), SlT.ofOwn vh_len (hm.ownI 1 rfl) hvl, SlT.ofOwn pl_len (hm.ownI 2 rfl) (by simp [hpl]), own_shape (hm.ownI 2 rfl), own_cap (hm.ownI 2 rfl)⟩
    refine wl_buildSlice (e := 143) (cs := [.int .i64 v68, .string s92, .string s99]) rfl (by kernel_rfl) rfl fun g101 => ?_
    refine wl_nil ?_
    refine nw 15 4093 (fun _ hm => ⟨hm.bl 4, hm.fa 0, trivial⟩) fun z => ?_
    refine wa1 1 rfl ?_
    refine lk_ sc29 3 rfl rfl rfl (wl_nil ?_)
    refine nw 15 4095 (fun _ hm => ⟨hm.bl 4, hm.fa 0, trivial⟩) fun z => ?_
    refine wa1 12 rfl ?_
    refine wl_append (news := [.int .i64 v68, .string s92, .string s99]) 2 0 ap29 rfl rfl rfl rfl rfl rfl rfl (by omega) (by unfold maxLen; omega) rfl rfl fun v2 hv2 => ?_
    refine wl_look (R := ∃ A cc, v2 = .slice A (pn + 1) cc) (fun wx hm => own_slice (hm.ownI 2 rfl)) ?_
    rintro ⟨A2, c2, rfl⟩
    have hxs : pl.flatMap plEnc ++ ([.int .i64 v68, .string s92, .string s99] : List Value) = (pl ++ [(⟨v68, s92, s99⟩ : Pl)]).flatMap plEnc := by simp [plEnc]
    rw [hxs]
    refine wl_nil ?_
    refine nw 15 8191 (fun _ hm => ⟨hm.bl 4, hm.fa 0, trivial⟩) fun z => ?_
    refine wt 13 15 16383 rfl z (ov_field fo31_3 rfl rfl) ?_
    refine wa1 14 rfl ?_
    refine wl_store 3 sc29 rfl rfl rfl rfl rfl rfl ?_
    refine wl_nil ?_
    refine nw 15 32767 (fun _ hm => ⟨hm.bl 4, hm.fa 0, trivial⟩) fun z => ?_
    refine wa_done (by kernel_rfl) ?_
    refine nx_blk_nrm (nx_then (sr_ ?_))
    refine wl_ov (ov_loads rz31 rfl (fun _ hm => hm.blkI 3 rfl) rfl rfl) rfl ?_
    refine wl_stores (cs' := [.slice sA sn sc, .slice cA 4 cc, .slice vA vn vc, .slice A2 (pn + 1) c2]) 4 rz31 rfl rfl rfl rfl rfl rfl rfl rfl ?_
    refine nn_ ?_
    refine gw_ret ?_
    refine nx_retc 4 rfl rz31 rfl rfl rfl fun wx hm => ?_
    exact ⟨sA, cA, vA, A2, sn, sc, cc, vn, vc, pn + 1, c2, sl, cl, vl, pl ++ [(⟨v68, s92, s99⟩ : Pl)], rfl, ⟨⟨stB_all hsB, by omega⟩, hcok, ⟨hvB, by omega⟩, all_snoc hpB ⟨⟨by dsimp only; omega, by dsimp only; omega⟩, by dsimp only; omega, by dsimp only; omega⟩, by omega⟩, hm.k.more (by omega), hm.g, SlT.ofOwnL stEnc_lenL (stB_all hsB) (hm.ownI 0 rfl) hsl, (hm.fact 0 rfl), SlT.ofOwn vh_len (hm.ownI 1 rfl) hvl, SlT.ofOwn pl_len (hm.ownI 2 rfl) (by simp [hpl]), own_shape (hm.ownI 2 rfl), own_cap (hm.ownI 2 rfl)⟩
   refine wl_buildSlice (e := 9) (cs := [.string ⟨#[65, 66, 49]⟩, .string ⟨#[97, 49]⟩, .string ⟨#[65]⟩, .string ⟨#[65, 66, 67, 68, 69, 70, 71, 72, 73, 74, 49]⟩, .string ⟨#[65, 66, 49]⟩]) rfl (by kernel_rfl) rfl fun g102 => ?_
   refine wl_nil ?_
   refine nw 15 445 (fun _ hm => ⟨hm.bl 3, hm.fa 0, trivial⟩) fun z => ?_
   refine wa_all [1, 6] (by kernel_rfl) rfl ⟨⟨_, rfl, ?_⟩, ⟨_, rfl, ?_⟩, trivial⟩
   ·refine lk_ sc29 2 rfl rfl rfl (wl_nil ?_)
    refine nw 15 447 (fun _ hm => ⟨hm.bl 3, hm.fa 0, trivial⟩) fun z => ?_
    refine wa1 6 rfl ?_
    refine wl_got (γ := ByteArray) (val := fun v => .string v) (φ := fun v => v ∈ ([⟨#[118, 49]⟩, ⟨#[110, 111, 110, 101]⟩] : List ByteArray)) rfl cb43 rfl rfl rfl rfl (fun wx hm => (some_any [⟨#[118, 49]⟩, ⟨#[110, 111, 110, 101]⟩] _ _ _ wx B sb _ hm.k (by omega) (by simp) (by simp) (hm.blkI 1 rfl) (hm.neRow 1 rfl rfl))) fun s103 hs103 => ?_
    have zs103 : s103.size ≤ 100 := mem_sz hs103 (by decide)
    refine wl_nil ?_
    refine nw 15 511 (fun _ hm => ⟨hm.bl 3, hm.fa 0, trivial⟩) fun z => ?_
    refine wa1 9 rfl ?_
    refine wl_got (γ := ByteArray) (val := fun v => .string v) (φ := fun v => v ∈ ([⟨#[65, 66, 49]⟩, ⟨#[97, 49]⟩, ⟨#[65]⟩, ⟨#[65, 66, 67, 68, 69, 70, 71, 72, 73, 74, 49]⟩, ⟨#[65, 66, 49]⟩] : List ByteArray)) rfl cb43 rfl rfl rfl rfl (fun wx hm => (some_any [⟨#[65, 66, 49]⟩, ⟨#[97, 49]⟩, ⟨#[65]⟩, ⟨#[65, 66, 67, 68, 69, 70, 71, 72, 73, 74, 49]⟩, ⟨#[65, 66, 49]⟩] _ _ _ wx B sb _ hm.k (by omega) (by simp) (by simp) (hm.blkI 0 rfl) (hm.neRow 0 rfl rfl))) fun s104 hs104 => ?_
    have zs104 : s104.size ≤ 100 := mem_sz hs104 (by decide)
    refine wl_nil ?_
    refine nw 15 1023 (fun _ hm => ⟨hm.bl 3, hm.fa 0, trivial⟩) fun z => ?_
    refine wt 10 15 2047 rfl z (ov_build (cs := [.int .i64 v68, .string s103, .string s104]) rfl (by kernel_rfl)) ?_
    refine wa1 11 rfl ?_
    refine wl_buildSlice (e := 143) (cs := [.int .i64 v68, .string s103, .string s104]) rfl (by kernel_rfl) rfl fun g105 => ?_
    refine wl_nil ?_
    refine nw 15 4095 (fun _ hm => ⟨hm.bl 4, hm.fa 0, trivial⟩) fun z => ?_
    refine wa1 12 rfl ?_
    refine wl_append (news := [.int .i64 v68, .string s103, .string s104]) 2 0 ap29 rfl rfl rfl rfl rfl rfl rfl (by omega) (by unfold maxLen; omega) rfl rfl fun v2 hv2 => ?_
    refine wl_look (R := ∃ A cc, v2 = .slice A (pn + 1) cc) (fun wx hm => own_slice (hm.ownI 2 rfl)) ?_
    rintro ⟨A2, c2, rfl⟩
    have hxs : pl.flatMap plEnc ++ ([.int .i64 v68, .string s103, .string s104] : List Value) = (pl ++ [(⟨v68, s103, s104⟩ : Pl)]).flatMap plEnc := by simp [plEnc]
    rw [hxs]
    refine wl_nil ?_
    refine nw 15 8191 (fun _ hm => ⟨hm.bl 4, hm.fa 0, trivial⟩) fun z => ?_
    refine wt 13 15 16383 rfl z (ov_field fo31_3 rfl rfl) ?_
    refine wa1 14 rfl ?_
    refine wl_store 3 sc29 rfl rfl rfl rfl rfl rfl ?_
    refine wl_nil ?_
    refine nw 15 32767 (fun _ hm => ⟨hm.bl 4, hm.fa 0, trivial⟩) fun z => ?_
    refine wa_done (by kernel_rfl) ?_
    refine nx_blk_nrm (nx_then (sr_ ?_))
    refine wl_ov (ov_loads rz31 rfl (fun _ hm => hm.blkI 3 rfl) rfl rfl) rfl ?_
    refine wl_stores (cs' := [.slice sA sn sc, .slice cA 4 cc, .slice vA vn vc, .slice A2 (pn + 1) c2]) 4 rz31 rfl rfl rfl rfl rfl rfl rfl rfl ?_
    refine nn_ ?_
    refine gw_ret ?_
    refine nx_retc 4 rfl rz31 rfl rfl rfl fun wx hm => ?_
    exact ⟨sA, cA, vA, A2, sn, sc, cc, vn, vc, pn + 1, c2, sl, cl, vl, pl ++ [(⟨v68, s103, s104⟩ : Pl)], rfl, ⟨⟨stB_all hsB, by omega⟩, hcok, ⟨hvB, by omega⟩, all_snoc hpB ⟨⟨by dsimp only; omega, by dsimp only; omega⟩, by dsimp only; omega, by dsimp only; omega⟩, by omega⟩, hm.k.more (by omega), hm.g, SlT.ofOwnL stEnc_lenL (stB_all hsB) (hm.ownI 0 rfl) hsl, (hm.fact 0 rfl), SlT.ofOwn vh_len (hm.ownI 1 rfl) hvl, SlT.ofOwn pl_len (hm.ownI 2 rfl) (by simp [hpl]), own_shape (hm.ownI 2 rfl), own_cap (hm.ownI 2 rfl)⟩
   refine wl_got (γ := ByteArray) (val := fun v => .string v) (φ := fun v => v ∈ ([⟨#[118, 49]⟩, ⟨#[110, 111, 110, 101]⟩] : List ByteArray)) rfl cb43 rfl rfl rfl rfl (fun wx hm => (some_any [⟨#[118, 49]⟩, ⟨#[110, 111, 110, 101]⟩] _ _ _ wx B sb _ hm.k (by omega) (by simp) (by simp) (hm.blkI 1 rfl) (hm.neRow 1 rfl rfl))) fun s106 hs106 => ?_
   have zs106 : s106.size ≤ 100 := mem_sz hs106 (by decide)
   refine wl_nil ?_
   refine nw 15 509 (fun _ hm => ⟨hm.bl 3, hm.fa 0, trivial⟩) fun z => ?_
   refine wa_all [1, 9] (by kernel_rfl) rfl ⟨⟨_, rfl, ?_⟩, ⟨_, rfl, ?_⟩, trivial⟩
   ·refine lk_ sc29 2 rfl rfl rfl (wl_nil ?_)
    refine nw 15 511 (fun _ hm => ⟨hm.bl 3, hm.fa 0, trivial⟩) fun z => ?_
    refine wa1 9 rfl ?_
    refine wl_got (γ := ByteArray) (val := fun v => .string v) (φ := fun v => v ∈ ([⟨#[65, 66, 49]⟩, ⟨#[97, 49]⟩, ⟨#[65]⟩, ⟨#[65, 66, 67, 68, 69, 70, 71, 72, 73, 74, 49]⟩, ⟨#[65, 66, 49]⟩] : List ByteArray)) rfl cb43 rfl rfl rfl rfl (fun wx hm => (some_any [⟨#[65, 66, 49]⟩, ⟨#[97, 49]⟩, ⟨#[65]⟩, ⟨#[65, 66, 67, 68, 69, 70, 71, 72, 73, 74, 49]⟩, ⟨#[65, 66, 49]⟩] _ _ _ wx B sb _ hm.k (by omega) (by simp) (by simp) (hm.blkI 0 rfl) (hm.neRow 0 rfl rfl))) fun s107 hs107 => ?_
    have zs107 : s107.size ≤ 100 := mem_sz hs107 (by decide)
    refine wl_nil ?_
    refine nw 15 1023 (fun _ hm => ⟨hm.bl 3, hm.fa 0, trivial⟩) fun z => ?_
    refine wt 10 15 2047 rfl z (ov_build (cs := [.int .i64 v68, .string s106, .string s107]) rfl (by kernel_rfl)) ?_
    refine wa1 11 rfl ?_
    refine wl_buildSlice (e := 143) (cs := [.int .i64 v68, .string s106, .string s107]) rfl (by kernel_rfl) rfl fun g108 => ?_
    refine wl_nil ?_
    refine nw 15 4095 (fun _ hm => ⟨hm.bl 4, hm.fa 0, trivial⟩) fun z => ?_
    refine wa1 12 rfl ?_
    refine wl_append (news := [.int .i64 v68, .string s106, .string s107]) 2 0 ap29 rfl rfl rfl rfl rfl rfl rfl (by omega) (by unfold maxLen; omega) rfl rfl fun v2 hv2 => ?_
    refine wl_look (R := ∃ A cc, v2 = .slice A (pn + 1) cc) (fun wx hm => own_slice (hm.ownI 2 rfl)) ?_
    rintro ⟨A2, c2, rfl⟩
    have hxs : pl.flatMap plEnc ++ ([.int .i64 v68, .string s106, .string s107] : List Value) = (pl ++ [(⟨v68, s106, s107⟩ : Pl)]).flatMap plEnc := by simp [plEnc]
    rw [hxs]
    refine wl_nil ?_
    refine nw 15 8191 (fun _ hm => ⟨hm.bl 4, hm.fa 0, trivial⟩) fun z => ?_
    refine wt 13 15 16383 rfl z (ov_field fo31_3 rfl rfl) ?_
    refine wa1 14 rfl ?_
    refine wl_store 3 sc29 rfl rfl rfl rfl rfl rfl ?_
    refine wl_nil ?_
    refine nw 15 32767 (fun _ hm => ⟨hm.bl 4, hm.fa 0, trivial⟩) fun z => ?_
    refine wa_done (by kernel_rfl) ?_
    refine nx_blk_nrm (nx_then (sr_ ?_))
    refine wl_ov (ov_loads rz31 rfl (fun _ hm => hm.blkI 3 rfl) rfl rfl) rfl ?_
    refine wl_stores (cs' := [.slice sA sn sc, .slice cA 4 cc, .slice vA vn vc, .slice A2 (pn + 1) c2]) 4 rz31 rfl rfl rfl rfl rfl rfl rfl rfl ?_
    refine nn_ ?_
    refine gw_ret ?_
    refine nx_retc 4 rfl rz31 rfl rfl rfl fun wx hm => ?_
    exact ⟨sA, cA, vA, A2, sn, sc, cc, vn, vc, pn + 1, c2, sl, cl, vl, pl ++ [(⟨v68, s106, s107⟩ : Pl)], rfl, ⟨⟨stB_all hsB, by omega⟩, hcok, ⟨hvB, by omega⟩, all_snoc hpB ⟨⟨by dsimp only; omega, by dsimp only; omega⟩, by dsimp only; omega, by dsimp only; omega⟩, by omega⟩, hm.k.more (by omega), hm.g, SlT.ofOwnL stEnc_lenL (stB_all hsB) (hm.ownI 0 rfl) hsl, (hm.fact 0 rfl), SlT.ofOwn vh_len (hm.ownI 1 rfl) hvl, SlT.ofOwn pl_len (hm.ownI 2 rfl) (by simp [hpl]), own_shape (hm.ownI 2 rfl), own_cap (hm.ownI 2 rfl)⟩
   refine wl_got (γ := ByteArray) (val := fun v => .string v) (φ := fun v => v ∈ ([⟨#[65, 66, 49]⟩, ⟨#[97, 49]⟩, ⟨#[65]⟩, ⟨#[65, 66, 67, 68, 69, 70, 71, 72, 73, 74, 49]⟩, ⟨#[65, 66, 49]⟩] : List ByteArray)) rfl cb43 rfl rfl rfl rfl (fun wx hm => (some_any [⟨#[65, 66, 49]⟩, ⟨#[97, 49]⟩, ⟨#[65]⟩, ⟨#[65, 66, 67, 68, 69, 70, 71, 72, 73, 74, 49]⟩, ⟨#[65, 66, 49]⟩] _ _ _ wx B sb _ hm.k (by omega) (by simp) (by simp) (hm.blkI 0 rfl) (hm.neRow 0 rfl rfl))) fun s109 hs109 => ?_
   have zs109 : s109.size ≤ 100 := mem_sz hs109 (by decide)
   refine wl_nil ?_
   refine nw 15 1021 (fun _ hm => ⟨hm.bl 3, hm.fa 0, trivial⟩) fun z => ?_
   refine wt 10 15 2045 rfl z (ov_build (cs := [.int .i64 v68, .string s106, .string s109]) rfl (by kernel_rfl)) ?_
   refine wa_all [1, 11] (by kernel_rfl) rfl ⟨⟨_, rfl, ?_⟩, ⟨_, rfl, ?_⟩, trivial⟩
   ·refine lk_ sc29 2 rfl rfl rfl (wl_nil ?_)
    refine nw 15 2047 (fun _ hm => ⟨hm.bl 3, hm.fa 0, trivial⟩) fun z => ?_
    refine wa1 11 rfl ?_
    refine wl_buildSlice (e := 143) (cs := [.int .i64 v68, .string s106, .string s109]) rfl (by kernel_rfl) rfl fun g110 => ?_
    refine wl_nil ?_
    refine nw 15 4095 (fun _ hm => ⟨hm.bl 4, hm.fa 0, trivial⟩) fun z => ?_
    refine wa1 12 rfl ?_
    refine wl_append (news := [.int .i64 v68, .string s106, .string s109]) 2 0 ap29 rfl rfl rfl rfl rfl rfl rfl (by omega) (by unfold maxLen; omega) rfl rfl fun v2 hv2 => ?_
    refine wl_look (R := ∃ A cc, v2 = .slice A (pn + 1) cc) (fun wx hm => own_slice (hm.ownI 2 rfl)) ?_
    rintro ⟨A2, c2, rfl⟩
    have hxs : pl.flatMap plEnc ++ ([.int .i64 v68, .string s106, .string s109] : List Value) = (pl ++ [(⟨v68, s106, s109⟩ : Pl)]).flatMap plEnc := by simp [plEnc]
    rw [hxs]
    refine wl_nil ?_
    refine nw 15 8191 (fun _ hm => ⟨hm.bl 4, hm.fa 0, trivial⟩) fun z => ?_
    refine wt 13 15 16383 rfl z (ov_field fo31_3 rfl rfl) ?_
    refine wa1 14 rfl ?_
    refine wl_store 3 sc29 rfl rfl rfl rfl rfl rfl ?_
    refine wl_nil ?_
    refine nw 15 32767 (fun _ hm => ⟨hm.bl 4, hm.fa 0, trivial⟩) fun z => ?_
    refine wa_done (by kernel_rfl) ?_
    refine nx_blk_nrm (nx_then (sr_ ?_))
    refine wl_ov (ov_loads rz31 rfl (fun _ hm => hm.blkI 3 rfl) rfl rfl) rfl ?_
    refine wl_stores (cs' := [.slice sA sn sc, .slice cA 4 cc, .slice vA vn vc, .slice A2 (pn + 1) c2]) 4 rz31 rfl rfl rfl rfl rfl rfl rfl rfl ?_
    refine nn_ ?_
    refine gw_ret ?_
    refine nx_retc 4 rfl rz31 rfl rfl rfl fun wx hm => ?_
    exact ⟨sA, cA, vA, A2, sn, sc, cc, vn, vc, pn + 1, c2, sl, cl, vl, pl ++ [(⟨v68, s106, s109⟩ : Pl)], rfl, ⟨⟨stB_all hsB, by omega⟩, hcok, ⟨hvB, by omega⟩, all_snoc hpB ⟨⟨by dsimp only; omega, by dsimp only; omega⟩, by dsimp only; omega, by dsimp only; omega⟩, by omega⟩, hm.k.more (by omega), hm.g, SlT.ofOwnL stEnc_lenL (stB_all hsB) (hm.ownI 0 rfl) hsl, (hm.fact 0 rfl), SlT.ofOwn vh_len (hm.ownI 1 rfl) hvl, SlT.ofOwn pl_len (hm.ownI 2 rfl) (by simp [hpl]), own_shape (hm.ownI 2 rfl), own_cap (hm.ownI 2 rfl)⟩
   refine wl_buildSlice (e := 143) (cs := [.int .i64 v68, .string s106, .string s109]) rfl (by kernel_rfl) rfl fun g111 => ?_
   refine wl_nil ?_
   refine nw 15 4093 (fun _ hm => ⟨hm.bl 4, hm.fa 0, trivial⟩) fun z => ?_
   refine wa1 1 rfl ?_
   refine lk_ sc29 3 rfl rfl rfl (wl_nil ?_)
   refine nw 15 4095 (fun _ hm => ⟨hm.bl 4, hm.fa 0, trivial⟩) fun z => ?_
   refine wa1 12 rfl ?_
   refine wl_append (news := [.int .i64 v68, .string s106, .string s109]) 2 0 ap29 rfl rfl rfl rfl rfl rfl rfl (by omega) (by unfold maxLen; omega) rfl rfl fun v2 hv2 => ?_
   refine wl_look (R := ∃ A cc, v2 = .slice A (pn + 1) cc) (fun wx hm => own_slice (hm.ownI 2 rfl)) ?_
   rintro ⟨A2, c2, rfl⟩
   have hxs : pl.flatMap plEnc ++ ([.int .i64 v68, .string s106, .string s109] : List Value) = (pl ++ [(⟨v68, s106, s109⟩ : Pl)]).flatMap plEnc := by simp [plEnc]
   rw [hxs]
   refine wl_nil ?_
   refine nw 15 8191 (fun _ hm => ⟨hm.bl 4, hm.fa 0, trivial⟩) fun z => ?_
   refine wt 13 15 16383 rfl z (ov_field fo31_3 rfl rfl) ?_
   refine wa1 14 rfl ?_
   refine wl_store 3 sc29 rfl rfl rfl rfl rfl rfl ?_
   refine wl_nil ?_
   refine nw 15 32767 (fun _ hm => ⟨hm.bl 4, hm.fa 0, trivial⟩) fun z => ?_
   refine wa_done (by kernel_rfl) ?_
   refine nx_blk_nrm (nx_then (sr_ ?_))
   refine wl_ov (ov_loads rz31 rfl (fun _ hm => hm.blkI 3 rfl) rfl rfl) rfl ?_
   refine wl_stores (cs' := [.slice sA sn sc, .slice cA 4 cc, .slice vA vn vc, .slice A2 (pn + 1) c2]) 4 rz31 rfl rfl rfl rfl rfl rfl rfl rfl ?_
   refine nn_ ?_
   refine gw_ret ?_
   refine nx_retc 4 rfl rz31 rfl rfl rfl fun wx hm => ?_
   exact ⟨sA, cA, vA, A2, sn, sc, cc, vn, vc, pn + 1, c2, sl, cl, vl, pl ++ [(⟨v68, s106, s109⟩ : Pl)], rfl, ⟨⟨stB_all hsB, by omega⟩, hcok, ⟨hvB, by omega⟩, all_snoc hpB ⟨⟨by dsimp only; omega, by dsimp only; omega⟩, by dsimp only; omega, by dsimp only; omega⟩, by omega⟩, hm.k.more (by omega), hm.g, SlT.ofOwnL stEnc_lenL (stB_all hsB) (hm.ownI 0 rfl) hsl, (hm.fact 0 rfl), SlT.ofOwn vh_len (hm.ownI 1 rfl) hvl, SlT.ofOwn pl_len (hm.ownI 2 rfl) (by simp [hpl]), own_shape (hm.ownI 2 rfl), own_cap (hm.ownI 2 rfl)⟩
  refine wl_buildSlice (e := 9) (cs := [.string ⟨#[65, 66, 49]⟩, .string ⟨#[97, 49]⟩, .string ⟨#[65]⟩, .string ⟨#[65, 66, 67, 68, 69, 70, 71, 72, 73, 74, 49]⟩, .string ⟨#[65, 66, 49]⟩]) rfl (by kernel_rfl) rfl fun g112 => ?_
  refine wl_nil ?_
  refine nw 15 413 (fun _ hm => ⟨hm.bl 2, hm.fa 0, trivial⟩) fun z => ?_
  refine wa_all [1, 5] (by kernel_rfl) rfl ⟨⟨_, rfl, ?_⟩, ⟨_, rfl, ?_⟩, trivial⟩
  ·refine lk_ sc29 1 rfl rfl rfl (wl_nil ?_)
   refine nw 15 415 (fun _ hm => ⟨hm.bl 2, hm.fa 0, trivial⟩) fun z => ?_
   refine wa1 5 rfl ?_
   refine wl_buildSlice (e := 9) (cs := [.string ⟨#[118, 49]⟩, .string ⟨#[110, 111, 110, 101]⟩]) rfl (by kernel_rfl) rfl fun g113 => ?_
   refine wl_nil ?_
   refine nw 15 447 (fun _ hm => ⟨hm.bl 3, hm.fa 0, trivial⟩) fun z => ?_
   refine wa1 6 rfl ?_
   refine wl_got (γ := ByteArray) (val := fun v => .string v) (φ := fun v => v ∈ ([⟨#[118, 49]⟩, ⟨#[110, 111, 110, 101]⟩] : List ByteArray)) rfl cb43 rfl rfl rfl rfl (fun wx hm => (some_any [⟨#[118, 49]⟩, ⟨#[110, 111, 110, 101]⟩] _ _ _ wx B sb _ hm.k (by omega) (by simp) (by simp) (hm.blkI 0 rfl) (hm.neRow 0 rfl rfl))) fun s114 hs114 => ?_
   have zs114 : s114.size ≤ 100 := mem_sz hs114 (by decide)
   refine wl_nil ?_
   refine nw 15 511 (fun _ hm => ⟨hm.bl 3, hm.fa 0, trivial⟩) fun z => ?_
   refine wa1 9 rfl ?_
   refine wl_got (γ := ByteArray) (val := fun v => .string v) (φ := fun v => v ∈ ([⟨#[65, 66, 49]⟩, ⟨#[97, 49]⟩, ⟨#[65]⟩, ⟨#[65, 66, 67, 68, 69, 70, 71, 72, 73, 74, 49]⟩, ⟨#[65, 66, 49]⟩] : List ByteArray)) rfl cb43 rfl rfl rfl rfl (fun wx hm => (some_any [⟨#[65, 66, 49]⟩, ⟨#[97, 49]⟩, ⟨#[65]⟩, ⟨#[65, 66, 67, 68, 69, 70, 71, 72, 73, 74, 49]⟩, ⟨#[65, 66, 49]⟩] _ _ _ wx B sb _ hm.k (by omega) (by simp) (by simp) (hm.blkI 1 rfl) (hm.neRow 1 rfl rfl))) fun s115 hs115 => ?_
   have zs115 : s115.size ≤ 100 := mem_sz hs115 (by decide)
   refine wl_nil ?_
   refine nw 15 1023 (fun _ hm => ⟨hm.bl 3, hm.fa 0, trivial⟩) fun z => ?_
   refine wt 10 15 2047 rfl z (ov_build (cs := [.int .i64 v68, .string s114, .string s115]) rfl (by kernel_rfl)) ?_
   refine wa1 11 rfl ?_
   refine wl_buildSlice (e := 143) (cs := [.int .i64 v68, .string s114, .string s115]) rfl (by kernel_rfl) rfl fun g116 => ?_
   refine wl_nil ?_
   refine nw 15 4095 (fun _ hm => ⟨hm.bl 4, hm.fa 0, trivial⟩) fun z => ?_
   refine wa1 12 rfl ?_
   refine wl_append (news := [.int .i64 v68, .string s114, .string s115]) 2 0 ap29 rfl rfl rfl rfl rfl rfl rfl (by omega) (by unfold maxLen; omega) rfl rfl fun v2 hv2 => ?_
   refine wl_look (R := ∃ A cc, v2 = .slice A (pn + 1) cc) (fun wx hm => own_slice (hm.ownI 2 rfl)) ?_
   rintro ⟨A2, c2, rfl⟩
   have hxs : pl.flatMap plEnc ++ ([.int .i64 v68, .string s114, .string s115] : List Value) = (pl ++ [(⟨v68, s114, s115⟩ : Pl)]).flatMap plEnc := by simp [plEnc]
   rw [hxs]
   refine wl_nil ?_
   refine nw 15 8191 (fun _ hm => ⟨hm.bl 4, hm.fa 0, trivial⟩) fun z => ?_
   refine wt 13 15 16383 rfl z (ov_field fo31_3 rfl rfl) ?_
   refine wa1 14 rfl ?_
   refine wl_store 3 sc29 rfl rfl rfl rfl rfl rfl ?_
   refine wl_nil ?_
   refine nw 15 32767 (fun _ hm => ⟨hm.bl 4, hm.fa 0, trivial⟩) fun z => ?_
   refine wa_done (by kernel_rfl) ?_
   refine nx_blk_nrm (nx_then (sr_ ?_))
   refine wl_ov (ov_loads rz31 rfl (fun _ hm => hm.blkI 3 rfl) rfl rfl) rfl ?_
   refine wl_stores (cs' := [.slice sA sn sc, .slice cA 4 cc, .slice vA vn vc, .slice A2 (pn + 1) c2]) 4 rz31 rfl rfl rfl rfl rfl rfl rfl rfl ?_
   refine nn_ ?_
   refine gw_ret ?_
   refine nx_retc 4 rfl rz31 rfl rfl rfl fun wx hm => ?_
   exact ⟨sA, cA, vA, A2, sn, sc, cc, vn, vc, pn + 1, c2, sl, cl, vl, pl ++ [(⟨v68, s114, s115⟩ : Pl)], rfl, ⟨⟨stB_all hsB, by omega⟩, hcok, ⟨hvB, by omega⟩, all_snoc hpB ⟨⟨by dsimp only; omega, by dsimp only; omega⟩, by dsimp only; omega, by dsimp only; omega⟩, by omega⟩, hm.k.more (by omega), hm.g, SlT.ofOwnL stEnc_lenL (stB_all hsB) (hm.ownI 0 rfl) hsl, (hm.fact 0 rfl), SlT.ofOwn vh_len (hm.ownI 1 rfl) hvl, SlT.ofOwn pl_len (hm.ownI 2 rfl) (by simp [hpl]), own_shape (hm.ownI 2 rfl), own_cap (hm.ownI 2 rfl)⟩
  refine wl_buildSlice (e := 9) (cs := [.string ⟨#[118, 49]⟩, .string ⟨#[110, 111, 110, 101]⟩]) rfl (by kernel_rfl) rfl fun g117 => ?_
  refine wl_nil ?_
  refine nw 15 445 (fun _ hm => ⟨hm.bl 3, hm.fa 0, trivial⟩) fun z => ?_
  refine wa_all [1, 6] (by kernel_rfl) rfl ⟨⟨_, rfl, ?_⟩, ⟨_, rfl, ?_⟩, trivial⟩
  ·refine lk_ sc29 2 rfl rfl rfl (wl_nil ?_)
   refine nw 15 447 (fun _ hm => ⟨hm.bl 3, hm.fa 0, trivial⟩) fun z => ?_
   refine wa1 6 rfl ?_
   refine wl_got (γ := ByteArray) (val := fun v => .string v) (φ := fun v => v ∈ ([⟨#[118, 49]⟩, ⟨#[110, 111, 110, 101]⟩] : List ByteArray)) rfl cb43 rfl rfl rfl rfl (fun wx hm => (some_any [⟨#[118, 49]⟩, ⟨#[110, 111, 110, 101]⟩] _ _ _ wx B sb _ hm.k (by omega) (by simp) (by simp) (hm.blkI 0 rfl) (hm.neRow 0 rfl rfl))) fun s118 hs118 => ?_
   have zs118 : s118.size ≤ 100 := mem_sz hs118 (by decide)
   refine wl_nil ?_
   refine nw 15 511 (fun _ hm => ⟨hm.bl 3, hm.fa 0, trivial⟩) fun z => ?_
   refine wa1 9 rfl ?_
   refine wl_got (γ := ByteArray) (val := fun v => .string v) (φ := fun v => v ∈ ([⟨#[65, 66, 49]⟩, ⟨#[97, 49]⟩, ⟨#[65]⟩, ⟨#[65, 66, 67, 68, 69, 70, 71, 72, 73, 74, 49]⟩, ⟨#[65, 66, 49]⟩] : List ByteArray)) rfl cb43 rfl rfl rfl rfl (fun wx hm => (some_any [⟨#[65, 66, 49]⟩, ⟨#[97, 49]⟩, ⟨#[65]⟩, ⟨#[65, 66, 67, 68, 69, 70, 71, 72, 73, 74, 49]⟩, ⟨#[65, 66, 49]⟩] _ _ _ wx B sb _ hm.k (by omega) (by simp) (by simp) (hm.blkI 1 rfl) (hm.neRow 1 rfl rfl))) fun s119 hs119 => ?_
   have zs119 : s119.size ≤ 100 := mem_sz hs119 (by decide)
   refine wl_nil ?_
   refine nw 15 1023 (fun _ hm => ⟨hm.bl 3, hm.fa 0, trivial⟩) fun z => ?_
   refine wt 10 15 2047 rfl z (ov_build (cs := [.int .i64 v68, .string s118, .string s119]) rfl (by kernel_rfl)) ?_
   refine wa1 11 rfl ?_
   refine wl_buildSlice (e := 143) (cs := [.int .i64 v68, .string s118, .string s119]) rfl (by kernel_rfl) rfl fun g120 => ?_
   refine wl_nil ?_
   refine nw 15 4095 (fun _ hm => ⟨hm.bl 4, hm.fa 0, trivial⟩) fun z => ?_
   refine wa1 12 rfl ?_
   refine wl_append (news := [.int .i64 v68, .string s118, .string s119]) 2 0 ap29 rfl rfl rfl rfl rfl rfl rfl (by omega) (by unfold maxLen; omega) rfl rfl fun v2 hv2 => ?_
   refine wl_look (R := ∃ A cc, v2 = .slice A (pn + 1) cc) (fun wx hm => own_slice (hm.ownI 2 rfl)) ?_
   rintro ⟨A2, c2, rfl⟩
   have hxs : pl.flatMap plEnc ++ ([.int .i64 v68, .string s118, .string s119] : List Value) = (pl ++ [(⟨v68, s118, s119⟩ : Pl)]).flatMap plEnc := by simp [plEnc]
   rw [hxs]
   refine wl_nil ?_
   refine nw 15 8191 (fun _ hm => ⟨hm.bl 4, hm.fa 0, trivial⟩) fun z => ?_
   refine wt 13 15 16383 rfl z (ov_field fo31_3 rfl rfl) ?_
   refine wa1 14 rfl ?_
   refine wl_store 3 sc29 rfl rfl rfl rfl rfl rfl ?_
   refine wl_nil ?_
   refine nw 15 32767 (fun _ hm => ⟨hm.bl 4, hm.fa 0, trivial⟩) fun z => ?_
   refine wa_done (by kernel_rfl) ?_
   refine nx_blk_nrm (nx_then (sr_ ?_))
   refine wl_ov (ov_loads rz31 rfl (fun _ hm => hm.blkI 3 rfl) rfl rfl) rfl ?_
   refine wl_stores (cs' := [.slice sA sn sc, .slice cA 4 cc, .slice vA vn vc, .slice A2 (pn + 1) c2]) 4 rz31 rfl rfl rfl rfl rfl rfl rfl rfl ?_
   refine nn_ ?_
   refine gw_ret ?_
   refine nx_retc 4 rfl rz31 rfl rfl rfl fun wx hm => ?_
   exact ⟨sA, cA, vA, A2, sn, sc, cc, vn, vc, pn + 1, c2, sl, cl, vl, pl ++ [(⟨v68, s118, s119⟩ : Pl)], rfl, ⟨⟨stB_all hsB, by omega⟩, hcok, ⟨hvB, by omega⟩, all_snoc hpB ⟨⟨by dsimp only; omega, by dsimp only; omega⟩, by dsimp only; omega, by dsimp only; omega⟩, by omega⟩, hm.k.more (by omega), hm.g, SlT.ofOwnL stEnc_lenL (stB_all hsB) (hm.ownI 0 rfl) hsl, (hm.fact 0 rfl), SlT.ofOwn vh_len (hm.ownI 1 rfl) hvl, SlT.ofOwn pl_len (hm.ownI 2 rfl) (by simp [hpl]), own_shape (hm.ownI 2 rfl), own_cap (hm.ownI 2 rfl)⟩
  refine wl_got (γ := ByteArray) (val := fun v => .string v) (φ := fun v => v ∈ ([⟨#[118, 49]⟩, ⟨#[110, 111, 110, 101]⟩] : List ByteArray)) rfl cb43 rfl rfl rfl rfl (fun wx hm => (some_any [⟨#[118, 49]⟩, ⟨#[110, 111, 110, 101]⟩] _ _ _ wx B sb _ hm.k (by omega) (by simp) (by simp) (hm.blkI 0 rfl) (hm.neRow 0 rfl rfl))) fun s121 hs121 => ?_
  have zs121 : s121.size ≤ 100 := mem_sz hs121 (by decide)
  refine wl_nil ?_
  refine nw 15 509 (fun _ hm => ⟨hm.bl 3, hm.fa 0, trivial⟩) fun z => ?_
  refine wa_all [1, 9] (by kernel_rfl) rfl ⟨⟨_, rfl, ?_⟩, ⟨_, rfl, ?_⟩, trivial⟩
  ·refine lk_ sc29 2 rfl rfl rfl (wl_nil ?_)
   refine nw 15 511 (fun _ hm => ⟨hm.bl 3, hm.fa 0, trivial⟩) fun z => ?_
   refine wa1 9 rfl ?_
   refine wl_got (γ := ByteArray) (val := fun v => .string v) (φ := fun v => v ∈ ([⟨#[65, 66, 49]⟩, ⟨#[97, 49]⟩, ⟨#[65]⟩, ⟨#[65, 66, 67, 68, 69, 70, 71, 72, 73, 74, 49]⟩, ⟨#[65, 66, 49]⟩] : List ByteArray)) rfl cb43 rfl rfl rfl rfl (fun wx hm => (some_any [⟨#[65, 66, 49]⟩, ⟨#[97, 49]⟩, ⟨#[65]⟩, ⟨#[65, 66, 67, 68, 69, 70, 71, 72, 73, 74, 49]⟩, ⟨#[65, 66, 49]⟩] _ _ _ wx B sb _ hm.k (by omega) (by simp) (by simp) (hm.blkI 1 rfl) (hm.neRow 1 rfl rfl))) fun s122 hs122 => ?_
   have zs122 : s122.size ≤ 100 := mem_sz hs122 (by decide)
   refine wl_nil ?_
   refine nw 15 1023 (fun _ hm => ⟨hm.bl 3, hm.fa 0, trivial⟩) fun z => ?_
   refine wt 10 15 2047 rfl z (ov_build (cs := [.int .i64 v68, .string s121, .string s122]) rfl (by kernel_rfl)) ?_
   refine wa1 11 rfl ?_
   refine wl_buildSlice (e := 143) (cs := [.int .i64 v68, .string s121, .string s122]) rfl (by kernel_rfl) rfl fun g123 => ?_
   refine wl_nil ?_
   refine nw 15 4095 (fun _ hm => ⟨hm.bl 4, hm.fa 0, trivial⟩) fun z => ?_
   refine wa1 12 rfl ?_
   refine wl_append (news := [.int .i64 v68, .string s121, .string s122]) 2 0 ap29 rfl rfl rfl rfl rfl rfl rfl (by omega) (by unfold maxLen; omega) rfl rfl fun v2 hv2 => ?_
   refine wl_look (R := ∃ A cc, v2 = .slice A (pn + 1) cc) (fun wx hm => own_slice (hm.ownI 2 rfl)) ?_
   rintro ⟨A2, c2, rfl⟩
   have hxs : pl.flatMap plEnc ++ ([.int .i64 v68, .string s121, .string s122] : List Value) = (pl ++ [(⟨v68, s121, s122⟩ : Pl)]).flatMap plEnc := by simp [plEnc]
   rw [hxs]
   refine wl_nil ?_
   refine nw 15 8191 (fun _ hm => ⟨hm.bl 4, hm.fa 0, trivial⟩) fun z => ?_
   refine wt 13 15 16383 rfl z (ov_field fo31_3 rfl rfl) ?_
   refine wa1 14 rfl ?_
   refine wl_store 3 sc29 rfl rfl rfl rfl rfl rfl ?_
   refine wl_nil ?_
   refine nw 15 32767 (fun _ hm => ⟨hm.bl 4, hm.fa 0, trivial⟩) fun z => ?_
   refine wa_done (by kernel_rfl) ?_
   refine nx_blk_nrm (nx_then (sr_ ?_))
   refine wl_ov (ov_loads rz31 rfl (fun _ hm => hm.blkI 3 rfl) rfl rfl) rfl ?_
   refine wl_stores (cs' := [.slice sA sn sc, .slice cA 4 cc, .slice vA vn vc, .slice A2 (pn + 1) c2]) 4 rz31 rfl rfl rfl rfl rfl rfl rfl rfl ?_
   refine nn_ ?_
   refine gw_ret ?_
   refine nx_retc 4 rfl rz31 rfl rfl rfl fun wx hm => ?_
   exact ⟨sA, cA, vA, A2, sn, sc, cc, vn, vc, pn + 1, c2, sl, cl, vl, pl ++ [(⟨v68, s121, s122⟩ : Pl)], rfl, ⟨⟨stB_all hsB, by omega⟩, hcok, ⟨hvB, by omega⟩, all_snoc hpB ⟨⟨by dsimp only; omega, by dsimp only; omega⟩, by dsimp only; omega, by dsimp only; omega⟩, by omega⟩, hm.k.more (by omega), hm.g, SlT.ofOwnL stEnc_lenL (stB_all hsB) (hm.ownI 0 rfl) hsl, (hm.fact 0 rfl), SlT.ofOwn vh_len (hm.ownI 1 rfl) hvl, SlT.ofOwn pl_len (hm.ownI 2 rfl) (by simp [hpl]), own_shape (hm.ownI 2 rfl), own_cap (hm.ownI 2 rfl)⟩
  refine wl_got (γ := ByteArray) (val := fun v => .string v) (φ := fun v => v ∈ ([⟨#[65, 66, 49]⟩, ⟨#[97, 49]⟩, ⟨#[65]⟩, ⟨#[65, 66, 67, 68, 69, 70, 71, 72, 73, 74, 49]⟩, ⟨#[65, 66, 49]⟩] : List ByteArray)) rfl cb43 rfl rfl rfl rfl (fun wx hm => (some_any [⟨#[65, 66, 49]⟩, ⟨#[97, 49]⟩, ⟨#[65]⟩, ⟨#[65, 66, 67, 68, 69, 70, 71, 72, 73, 74, 49]⟩, ⟨#[65, 66, 49]⟩] _ _ _ wx B sb _ hm.k (by omega) (by simp) (by simp) (hm.blkI 1 rfl) (hm.neRow 1 rfl rfl))) fun s124 hs124 => ?_
  have zs124 : s124.size ≤ 100 := mem_sz hs124 (by decide)
  refine wl_nil ?_
  refine nw 15 1021 (fun _ hm => ⟨hm.bl 3, hm.fa 0, trivial⟩) fun z => ?_
  refine wt 10 15 2045 rfl z (ov_build (cs := [.int .i64 v68, .string s121, .string s124]) rfl (by kernel_rfl)) ?_
  refine wa_all [1, 11] (by kernel_rfl) rfl ⟨⟨_, rfl, ?_⟩, ⟨_, rfl, ?_⟩, trivial⟩
  ·refine lk_ sc29 2 rfl rfl rfl (wl_nil ?_)
   refine nw 15 2047 (fun _ hm => ⟨hm.bl 3, hm.fa 0, trivial⟩) fun z => ?_
   refine wa1 11 rfl ?_
   refine wl_buildSlice (e := 143) (cs := [.int .i64 v68, .string s121, .string s124]) rfl (by kernel_rfl) rfl fun g125 => ?_
   refine wl_nil ?_
   refine nw 15 4095 (fun _ hm => ⟨hm.bl 4, hm.fa 0, trivial⟩) fun z => ?_
   refine wa1 12 rfl ?_
   refine wl_append (news := [.int .i64 v68, .string s121, .string s124]) 2 0 ap29 rfl rfl rfl rfl rfl rfl rfl (by omega) (by unfold maxLen; omega) rfl rfl fun v2 hv2 => ?_
   refine wl_look (R := ∃ A cc, v2 = .slice A (pn + 1) cc) (fun wx hm => own_slice (hm.ownI 2 rfl)) ?_
   rintro ⟨A2, c2, rfl⟩
   have hxs : pl.flatMap plEnc ++ ([.int .i64 v68, .string s121, .string s124] : List Value) = (pl ++ [(⟨v68, s121, s124⟩ : Pl)]).flatMap plEnc := by simp [plEnc]
   rw [hxs]
   refine wl_nil ?_
   refine nw 15 8191 (fun _ hm => ⟨hm.bl 4, hm.fa 0, trivial⟩) fun z => ?_
   refine wt 13 15 16383 rfl z (ov_field fo31_3 rfl rfl) ?_
   refine wa1 14 rfl ?_
   refine wl_store 3 sc29 rfl rfl rfl rfl rfl rfl ?_
   refine wl_nil ?_
   refine nw 15 32767 (fun _ hm => ⟨hm.bl 4, hm.fa 0, trivial⟩) fun z => ?_
   refine wa_done (by kernel_rfl) ?_
   refine nx_blk_nrm (nx_then (sr_ ?_))
   refine wl_ov (ov_loads rz31 rfl (fun _ hm => hm.blkI 3 rfl) rfl rfl) rfl ?_
   refine wl_stores (cs' := [.slice sA sn sc, .slice cA 4 cc, .slice vA vn vc, .slice A2 (pn + 1) c2]) 4 rz31 rfl rfl rfl rfl rfl rfl rfl rfl ?_
   refine nn_ ?_
   refine gw_ret ?_
   refine nx_retc 4 rfl rz31 rfl rfl rfl fun wx hm => ?_
   exact ⟨sA, cA, vA, A2, sn, sc, cc, vn, vc, pn + 1, c2, sl, cl, vl, pl ++ [(⟨v68, s121, s124⟩ : Pl)], rfl, ⟨⟨stB_all hsB, by omega⟩, hcok, ⟨hvB, by omega⟩, all_snoc hpB ⟨⟨by dsimp only; omega, by dsimp only; omega⟩, by dsimp only; omega, by dsimp only; omega⟩, by omega⟩, hm.k.more (by omega), hm.g, SlT.ofOwnL stEnc_lenL (stB_all hsB) (hm.ownI 0 rfl) hsl, (hm.fact 0 rfl), SlT.ofOwn vh_len (hm.ownI 1 rfl) hvl, SlT.ofOwn pl_len (hm.ownI 2 rfl) (by simp [hpl]), own_shape (hm.ownI 2 rfl), own_cap (hm.ownI 2 rfl)⟩
  refine wl_buildSlice (e := 143) (cs := [.int .i64 v68, .string s121, .string s124]) rfl (by kernel_rfl) rfl fun g126 => ?_
  refine wl_nil ?_
  refine nw 15 4093 (fun _ hm => ⟨hm.bl 4, hm.fa 0, trivial⟩) fun z => ?_
  refine wa1 1 rfl ?_
  refine lk_ sc29 3 rfl rfl rfl (wl_nil ?_)
  refine nw 15 4095 (fun _ hm => ⟨hm.bl 4, hm.fa 0, trivial⟩) fun z => ?_
  refine wa1 12 rfl ?_
  refine wl_append (news := [.int .i64 v68, .string s121, .string s124]) 2 0 ap29 rfl rfl rfl rfl rfl rfl rfl (by omega) (by unfold maxLen; omega) rfl rfl fun v2 hv2 => ?_
  refine wl_look (R := ∃ A cc, v2 = .slice A (pn + 1) cc) (fun wx hm => own_slice (hm.ownI 2 rfl)) ?_
  rintro ⟨A2, c2, rfl⟩
  have hxs : pl.flatMap plEnc ++ ([.int .i64 v68, .string s121, .string s124] : List Value) = (pl ++ [(⟨v68, s121, s124⟩ : Pl)]).flatMap plEnc := by simp [plEnc]
  rw [hxs]
  refine wl_nil ?_
  refine nw 15 8191 (fun _ hm => ⟨hm.bl 4, hm.fa 0, trivial⟩) fun z => ?_
  refine wt 13 15 16383 rfl z (ov_field fo31_3 rfl rfl) ?_
  refine wa1 14 rfl ?_
  refine wl_store 3 sc29 rfl rfl rfl rfl rfl rfl ?_
  refine wl_nil ?_
  refine nw 15 32767 (fun _ hm => ⟨hm.bl 4, hm.fa 0, trivial⟩) fun z => ?_
  refine wa_done (by kernel_rfl) ?_
  refine nx_blk_nrm (nx_then (sr_ ?_))
  refine wl_ov (ov_loads rz31 rfl (fun _ hm => hm.blkI 3 rfl) rfl rfl) rfl ?_
  refine wl_stores (cs' := [.slice sA sn sc, .slice cA 4 cc, .slice vA vn vc, .slice A2 (pn + 1) c2]) 4 rz31 rfl rfl rfl rfl rfl rfl rfl rfl ?_
  refine nn_ ?_
  refine gw_ret ?_
  refine nx_retc 4 rfl rz31 rfl rfl rfl fun wx hm => ?_
  exact ⟨sA, cA, vA, A2, sn, sc, cc, vn, vc, pn + 1, c2, sl, cl, vl, pl ++ [(⟨v68, s121, s124⟩ : Pl)], rfl, ⟨⟨stB_all hsB, by omega⟩, hcok, ⟨hvB, by omega⟩, all_snoc hpB ⟨⟨by dsimp only; omega, by dsimp only; omega⟩, by dsimp only; omega, by dsimp only; omega⟩, by omega⟩, hm.k.more (by omega), hm.g, SlT.ofOwnL stEnc_lenL (stB_all hsB) (hm.ownI 0 rfl) hsl, (hm.fact 0 rfl), SlT.ofOwn vh_len (hm.ownI 1 rfl) hvl, SlT.ofOwn pl_len (hm.ownI 2 rfl) (by simp [hpl]), own_shape (hm.ownI 2 rfl), own_cap (hm.ownI 2 rfl)⟩
 ·refine wl_buildSlice (e := 9) (cs := [.string ⟨#[118, 49]⟩, .string ⟨#[110, 111, 110, 101]⟩]) rfl (by kernel_rfl) rfl fun g127 => ?_
  refine wl_nil ?_
  refine nw 15 181 (fun _ hm => ⟨hm.bl 2, hm.fa 0, trivial⟩) fun z => ?_
  refine wa_all [1, 3, 8] (by kernel_rfl) rfl ⟨⟨_, rfl, ?_⟩, ⟨_, rfl, ?_⟩, ⟨_, rfl, ?_⟩, trivial⟩
  ·refine lk_ sc29 1 rfl rfl rfl (wl_nil ?_)
   refine nw 15 183 (fun _ hm => ⟨hm.bl 2, hm.fa 0, trivial⟩) fun z => ?_
   refine wa_all [3, 8] (by kernel_rfl) rfl ⟨⟨_, rfl, ?_⟩, ⟨_, rfl, ?_⟩, trivial⟩
   ·refine wl_got (γ := Int) (val := fun v => .int .i64 v) (φ := fun v => -2000000000000000 ≤ v ∧ v ≤ 2000000000000000) rfl cb77 rfl rfl rfl rfl (fun wx hm => (odd_any _ _ wx B sb _ hm.k (by omega) (by omega) (by omega) (by omega))) fun v128 hv128 => ?_
    refine wl_nil ?_
    refine nw 15 191 (fun _ hm => ⟨hm.bl 2, hm.fa 0, trivial⟩) fun z => ?_
    refine wa_all [6, 8] (by kernel_rfl) rfl ⟨⟨_, rfl, ?_⟩, ⟨_, rfl, ?_⟩, trivial⟩
    ·refine wl_got (γ := ByteArray) (val := fun v => .string v) (φ := fun v => v ∈ ([⟨#[118, 49]⟩, ⟨#[110, 111, 110, 101]⟩] : List ByteArray)) rfl cb43 rfl rfl rfl rfl (fun wx hm => (some_any [⟨#[118, 49]⟩, ⟨#[110, 111, 110, 101]⟩] _ _ _ wx B sb _ hm.k (by omega) (by simp) (by simp) (hm.blkI 0 rfl) (hm.neRow 0 rfl rfl))) fun s129 hs129 => ?_
     have zs129 : s129.size ≤ 100 := mem_sz hs129 (by decide)
     refine wl_nil ?_
     refine nw 15 255 (fun _ hm => ⟨hm.bl 2, hm.fa 0, trivial⟩) fun z => ?_
     refine wa1 8 rfl ?_
     refine wl_buildSlice (e := 9) (cs := [.string ⟨#[65, 66, 49]⟩, .string ⟨#[97, 49]⟩, .string ⟨#[65]⟩, .string ⟨#[65, 66, 67, 68, 69, 70, 71, 72, 73, 74, 49]⟩, .string ⟨#[65, 66, 49]⟩]) rfl (by kernel_rfl) rfl fun g130 => ?_
     refine wl_nil ?_
     refine nw 15 511 (fun _ hm => ⟨hm.bl 3, hm.fa 0, trivial⟩) fun z => ?_
     refine wa1 9 rfl ?_
     refine wl_got (γ := ByteArray) (val := fun v => .string v) (φ := fun v => v ∈ ([⟨#[65, 66, 49]⟩, ⟨#[97, 49]⟩, ⟨#[65]⟩, ⟨#[65, 66, 67, 68, 69, 70, 71, 72, 73, 74, 49]⟩, ⟨#[65, 66, 49]⟩] : List ByteArray)) rfl cb43 rfl rfl rfl rfl (fun wx hm => (some_any [⟨#[65, 66, 49]⟩, ⟨#[97, 49]⟩, ⟨#[65]⟩, ⟨#[65, 66, 67, 68, 69, 70, 71, 72, 73, 74, 49]⟩, ⟨#[65, 66, 49]⟩] _ _ _ wx B sb _ hm.k (by omega) (by simp) (by simp) (hm.blkI 0 rfl) (hm.neRow 0 rfl rfl))) fun s131 hs131 => ?_
     have zs131 : s131.size ≤ 100 := mem_sz hs131 (by decide)
     refine wl_nil ?_
     refine nw 15 1023 (fun _ hm => ⟨hm.bl 3, hm.fa 0, trivial⟩) fun z => ?_
     refine wt 10 15 2047 rfl z (ov_build (cs := [.int .i64 v128, .string s129, .string s131]) rfl (by kernel_rfl)) ?_
     refine wa1 11 rfl ?_
     refine wl_buildSlice (e := 143) (cs := [.int .i64 v128, .string s129, .string s131]) rfl (by kernel_rfl) rfl fun g132 => ?_
     refine wl_nil ?_
     refine nw 15 4095 (fun _ hm => ⟨hm.bl 4, hm.fa 0, trivial⟩) fun z => ?_
     refine wa1 12 rfl ?_
     refine wl_append (news := [.int .i64 v128, .string s129, .string s131]) 2 0 ap29 rfl rfl rfl rfl rfl rfl rfl (by omega) (by unfold maxLen; omega) rfl rfl fun v2 hv2 => ?_
     refine wl_look (R := ∃ A cc, v2 = .slice A (pn + 1) cc) (fun wx hm => own_slice (hm.ownI 2 rfl)) ?_
     rintro ⟨A2, c2, rfl⟩
     have hxs : pl.flatMap plEnc ++ ([.int .i64 v128, .string s129, .string s131] : List Value) = (pl ++ [(⟨v128, s129, s131⟩ : Pl)]).flatMap plEnc := by simp [plEnc]
     rw [hxs]
     refine wl_nil ?_
     refine nw 15 8191 (fun _ hm => ⟨hm.bl 4, hm.fa 0, trivial⟩) fun z => ?_
     refine wt 13 15 16383 rfl z (ov_field fo31_3 rfl rfl) ?_
     refine wa1 14 rfl ?_
     refine wl_store 3 sc29 rfl rfl rfl rfl rfl rfl ?_
     refine wl_nil ?_
     refine nw 15 32767 (fun _ hm => ⟨hm.bl 4, hm.fa 0, trivial⟩) fun z => ?_
     refine wa_done (by kernel_rfl) ?_
     refine nx_blk_nrm (nx_then (sr_ ?_))
     refine wl_ov (ov_loads rz31 rfl (fun _ hm => hm.blkI 3 rfl) rfl rfl) rfl ?_
     refine wl_stores (cs' := [.slice sA sn sc, .slice cA 4 cc, .slice vA vn vc, .slice A2 (pn + 1) c2]) 4 rz31 rfl rfl rfl rfl rfl rfl rfl rfl ?_
     refine nn_ ?_
     refine gw_ret ?_
     refine nx_retc 4 rfl rz31 rfl rfl rfl fun wx hm => ?_
     exact ⟨sA, cA, vA, A2, sn, sc, cc, vn, vc, pn + 1, c2, sl, cl, vl, pl ++ [(⟨v128, s129, s131⟩ : Pl)], rfl, ⟨⟨stB_all hsB, by omega⟩, hcok, ⟨hvB, by omega⟩, all_snoc hpB ⟨⟨by dsimp only; omega, by dsimp only; omega⟩, by dsimp only; omega, by dsimp only; omega⟩, by omega⟩, hm.k.more (by omega), hm.g, SlT.ofOwnL stEnc_lenL (stB_all hsB) (hm.ownI 0 rfl) hsl, (hm.fact 0 rfl), SlT.ofOwn vh_len (hm.ownI 1 rfl) hvl, SlT.ofOwn pl_len (hm.ownI 2 rfl) (by simp [hpl]), own_shape (hm.ownI 2 rfl), own_cap (hm.ownI 2 rfl)⟩
    refine wl_buildSlice (e := 9) (cs := [.string ⟨#[65, 66, 49]⟩, .string ⟨#[97, 49]⟩, .string ⟨#[65]⟩, .string ⟨#[65, 66, 67, 68, 69, 70, 71, 72, 73, 74, 49]⟩, .string ⟨#[65, 66, 49]⟩]) rfl (by kernel_rfl) rfl fun g133 => ?_
    refine wl_nil ?_
    refine nw 15 447 (fun _ hm => ⟨hm.bl 3, hm.fa 0, trivial⟩) fun z => ?_
    refine wa1 6 rfl ?_
    refine wl_got (γ := ByteArray) (val := fun v => .string v) (φ := fun v => v ∈ ([⟨#[118, 49]⟩, ⟨#[110, 111, 110, 101]⟩] : List ByteArray)) rfl cb43 rfl rfl rfl rfl (fun wx hm => (some_any [⟨#[118, 49]⟩, ⟨#[110, 111, 110, 101]⟩] _ _ _ wx B sb _ hm.k (by omega) (by simp) (by simp) (hm.blkI 1 rfl) (hm.neRow 1 rfl rfl))) fun s134 hs134 => ?_
    have zs134 : s134.size ≤ 100 := mem_sz hs134 (by decide)
    refine wl_nil ?_
    refine nw 15 511 (fun _ hm => ⟨hm.bl 3, hm.fa 0, trivial⟩) fun z => ?_
    refine wa1 9 rfl ?_
    refine wl_got (γ := ByteArray) (val := fun v => .string v) (φ := fun v => v ∈ ([⟨#[65, 66, 49]⟩, ⟨#[97, 49]⟩, ⟨#[65]⟩, ⟨#[65, 66, 67, 68, 69, 70, 71, 72, 73, 74, 49]⟩, ⟨#[65, 66, 49]⟩] : List ByteArray)) rfl cb43 rfl rfl rfl rfl (fun wx hm => (some_any [⟨#[65, 66, 49]⟩, ⟨#[97, 49]⟩, ⟨#[65]⟩, ⟨#[65, 66, 67, 68, 69, 70, 71, 72, 73, 74, 49]⟩, ⟨#[65, 66, 49]⟩] _ _ _ wx B sb _ hm.k (by omega) (by simp) (by simp) (hm.blkI 0 rfl) (hm.neRow 0 rfl rfl))) fun s135 hs135 => ?_
    have zs135 : s135.size ≤ 100 := mem_sz hs135 (by decide)
    refine wl_nil ?_
    refine nw 15 1023 (fun _ hm => ⟨hm.bl 3, hm.fa 0, trivial⟩) fun z => ?_
    refine wt 10 15 2047 rfl z (ov_build (cs := [.int .i64 v128, .string s134, .string s135]) rfl (by kernel_rfl)) ?_
    refine wa1 11 rfl ?_
    refine wl_buildSlice (e := 143) (cs := [.int .i64 v128, .string s134, .string s135]) rfl (by kernel_rfl) rfl fun g136 => ?_
    refine wl_nil ?_
    refine nw 15 4095 (fun _ hm => ⟨hm.bl 4, hm.fa 0, trivial⟩) fun z => ?_
    refine wa1 12 rfl ?_
    refine wl_append (news := [.int .i64 v128, .string s134, .string s135]) 2 0 ap29 rfl rfl rfl rfl rfl rfl rfl (by omega) (by unfold maxLen; omega) rfl rfl fun v2 hv2 => ?_
    refine wl_look (R := ∃ A cc, v2 = .slice A (pn + 1) cc) (fun wx hm => own_slice (hm.ownI 2 rfl)) ?_
    rintro ⟨A2, c2, rfl⟩
    have hxs : pl.flatMap plEnc ++ ([.int .i64 v128, .string s134, .string s135] : List Value) = (pl ++ [(⟨v128, s134, s135⟩ : Pl)]).flatMap plEnc := by simp [plEnc]
    rw [hxs]
    refine wl_nil ?_
    refine nw 15 8191 (fun _ hm => ⟨hm.bl 4, hm.fa 0, trivial⟩) fun z => ?_
    refine wt 13 15 16383 rfl z (ov_field fo31_3 rfl rfl) ?_
    refine wa1 14 rfl ?_
    refine wl_store 3 sc29 rfl rfl rfl rfl rfl rfl ?_
    refine wl_nil ?_
    refine nw 15 32767 (fun _ hm => ⟨hm.bl 4, hm.fa 0, trivial⟩) fun z => ?_
    refine wa_done (by kernel_rfl) ?_
    refine nx_blk_nrm (nx_then (sr_ ?_))
    refine wl_ov (ov_loads rz31 rfl (fun _ hm => hm.blkI 3 rfl) rfl rfl) rfl ?_
    refine wl_stores (cs' := [.slice sA sn sc, .slice cA 4 cc, .slice vA vn vc, .slice A2 (pn + 1) c2]) 4 rz31 rfl rfl rfl rfl rfl rfl rfl rfl ?_
    refine nn_ ?_
    refine gw_ret ?_
    refine nx_retc 4 rfl rz31 rfl rfl rfl fun wx hm => ?_
    exact ⟨sA, cA, vA, A2, sn, sc, cc, vn, vc, pn + 1, c2, sl, cl, vl, pl ++ [(⟨v128, s134, s135⟩ : Pl)], rfl, ⟨⟨stB_all hsB, by omega⟩, hcok, ⟨hvB, by omega⟩, all_snoc hpB ⟨⟨by dsimp only; omega, by dsimp only; omega⟩, by dsimp only; omega, by dsimp only; omega⟩, by omega⟩, hm.k.more (by omega), hm.g, SlT.ofOwnL stEnc_lenL (stB_all hsB) (hm.ownI 0 rfl) hsl, (hm.fact 0 rfl), SlT.ofOwn vh_len (hm.ownI 1 rfl) hvl, SlT.ofOwn pl_len (hm.ownI 2 rfl) (by simp [hpl]), own_shape (hm.ownI 2 rfl), own_cap (hm.ownI 2 rfl)⟩
   refine wl_buildSlice (e := 9) (cs := [.string ⟨#[65, 66, 49]⟩, .string ⟨#[97, 49]⟩, .string ⟨#[65]⟩, .string ⟨#[65, 66, 67, 68, 69, 70, 71, 72, 73, 74, 49]⟩, .string ⟨#[65, 66, 49]⟩]) rfl (by kernel_rfl) rfl fun g137 => ?_
   refine wl_nil ?_
   refine nw 15 439 (fun _ hm => ⟨hm.bl 3, hm.fa 0, trivial⟩) fun z => ?_
   refine wa1 3 rfl ?_
   refine wl_got (γ := Int) (val := fun v => .int .i64 v) (φ := fun v => -2000000000000000 ≤ v ∧ v ≤ 2000000000000000) rfl cb77 rfl rfl rfl rfl (fun wx hm => (odd_any _ _ wx B sb _ hm.k (by omega) (by omega) (by omega) (by omega))) fun v138 hv138 => ?_
   refine wl_nil ?_
   refine nw 15 447 (fun _ hm => ⟨hm.bl 3, hm.fa 0, trivial⟩) fun z => ?_
   refine wa1 6 rfl ?_
   refine wl_got (γ := ByteArray) (val := fun v => .string v) (φ := fun v => v ∈ ([⟨#[118, 49]⟩, ⟨#[110, 111, 110, 101]⟩] : List ByteArray)) rfl cb43 rfl rfl rfl rfl (fun wx hm => (some_any [⟨#[118, 49]⟩, ⟨#[110, 111, 110, 101]⟩] _ _ _ wx B sb _ hm.k (by omega) (by simp) (by simp) (hm.blkI 1 rfl) (hm.neRow 1 rfl rfl))) fun s139 hs139 => ?_
   have zs139 : s139.size ≤ 100 := mem_sz hs139 (by decide)
   refine wl_nil ?_
   refine nw 15 511 (fun _ hm => ⟨hm.bl 3, hm.fa 0, trivial⟩) fun z => ?_
   refine wa1 9 rfl ?_
   refine wl_got (γ := ByteArray) (val := fun v => .string v) (φ := fun v => v ∈ ([⟨#[65, 66, 49]⟩, ⟨#[97, 49]⟩, ⟨#[65]⟩, ⟨#[65, 66, 67, 68, 69, 70, 71, 72, 73, 74, 49]⟩, ⟨#[65, 66, 49]⟩] : List ByteArray)) rfl cb43 rfl rfl rfl rfl (fun wx hm => (some_any [⟨#[65, 66, 49]⟩, ⟨#[97, 49]⟩, ⟨#[65]⟩, ⟨#[65, 66, 67, 68, 69, 70, 71, 72, 73, 74, 49]⟩, ⟨#[65, 66, 49]⟩] _ _ _ wx B sb _ hm.k (by omega) (by simp) (by simp) (hm.blkI 0 rfl) (hm.neRow 0 rfl rfl))) fun s140 hs140 => ?_
   have zs140 : s140.size ≤ 100 := mem_sz hs140 (by decide)
   refine wl_nil ?_
   refine nw 15 1023 (fun _ hm => ⟨hm.bl 3, hm.fa 0, trivial⟩) fun z => ?_
   refine wt 10 15 2047 rfl z (ov_build (cs := [.int .i64 v138, .string s139, .string s140]) rfl (by kernel_rfl)) ?_
   refine wa1 11 rfl ?_
   refine wl_buildSlice (e := 143) (cs := [.int .i64 v138, .string s139, .string s140]) rfl (by kernel_rfl) rfl fun g141 => ?_
   refine wl_nil ?_
   refine nw 15 4095 (fun _ hm => ⟨hm.bl 4, hm.fa 0, trivial⟩) fun z => ?_
   refine wa1 12 rfl ?_
   refine wl_append (news := [.int .i64 v138, .string s139, .string s140]) 2 0 ap29 rfl rfl rfl rfl rfl rfl rfl (by omega) (by unfold maxLen; omega) rfl rfl fun v2 hv2 => ?_
   refine wl_look (R := ∃ A cc, v2 = .slice A (pn + 1) cc) (fun wx hm => own_slice (hm.ownI 2 rfl)) ?_
   rintro ⟨A2, c2, rfl⟩
   have hxs : pl.flatMap plEnc ++ ([.int .i64 v138, .string s139, .string s140] : List Value) = (pl ++ [(⟨v138, s139, s140⟩ : Pl)]).flatMap plEnc := by simp [plEnc]
   rw [hxs]
   refine wl_nil ?_
   refine nw 15 8191 (fun _ hm => ⟨hm.bl 4, hm.fa 0, trivial⟩) fun z => ?_
   refine wt 13 15 16383 rfl z (ov_field fo31_3 rfl rfl) ?_
   refine wa1 14 rfl ?_
   refine wl_store 3 sc29 rfl rfl rfl rfl rfl rfl ?_
   refine wl_nil ?_
   refine nw 15 32767 (fun _ hm => ⟨hm.bl 4, hm.fa 0, trivial⟩) fun z => ?_
   refine wa_done (by kernel_rfl) ?_
   refine nx_blk_nrm (nx_then (sr_ ?_))
   refine wl_ov (ov_loads rz31 rfl (fun _ hm => hm.blkI 3 rfl) rfl rfl) rfl ?_
   refine wl_stores (cs' := [.slice sA sn sc, .slice cA 4 cc, .slice vA vn vc, .slice A2 (pn + 1) c2]) 4 rz31 rfl rfl rfl rfl rfl rfl rfl rfl ?_
   refine nn_ ?_
   refine gw_ret ?_
   refine nx_retc 4 rfl rz31 rfl rfl rfl fun wx hm => ?_
   exact ⟨sA, cA, vA, A2, sn, sc, cc, vn, vc, pn + 1, c2, sl, cl, vl, pl ++ [(⟨v138, s139, s140⟩ : Pl)], rfl, ⟨⟨stB_all hsB, by omega⟩, hcok, ⟨hvB, by omega⟩, all_snoc hpB ⟨⟨by dsimp only; omega, by dsimp only; omega⟩, by dsimp only; omega, by dsimp only; omega⟩, by omega⟩, hm.k.more (by omega), hm.g, SlT.ofOwnL stEnc_lenL (stB_all hsB) (hm.ownI 0 rfl) hsl, (hm.fact 0 rfl), SlT.ofOwn vh_len (hm.ownI 1 rfl) hvl, SlT.ofOwn pl_len (hm.ownI 2 rfl) (by simp [hpl]), own_shape (hm.ownI 2 rfl), own_cap (hm.ownI 2 rfl)⟩
  ·refine wl_got (γ := Int) (val := fun v => .int .i64 v) (φ := fun v => -2000000000000000 ≤ v ∧ v ≤ 2000000000000000) rfl cb77 rfl rfl rfl rfl (fun wx hm => (odd_any _ _ wx B sb _ hm.k (by omega) (by omega) (by omega) (by omega))) fun v142 hv142 => ?_
   refine wl_nil ?_
   refine nw 15 189 (fun _ hm => ⟨hm.bl 2, hm.fa 0, trivial⟩) fun z => ?_
   refine wa_all [1, 6, 8] (by kernel_rfl) rfl ⟨⟨_, rfl, ?_⟩, ⟨_, rfl, ?_⟩, ⟨_, rfl, ?_⟩, trivial⟩
   ·refine lk_ sc29 1 rfl rfl rfl (wl_nil ?_)
    refine nw 15 191 (fun _ hm => ⟨hm.bl 2, hm.fa 0, trivial⟩) fun z => ?_
    refine wa_all [6, 8] (by kernel_rfl) rfl ⟨⟨_, rfl, ?_⟩, ⟨_, rfl, ?_⟩, trivial⟩
    ·refine wl_got (γ := ByteArray) (val := fun v => .string v) (φ := fun v => v ∈ ([⟨#[118, 49]⟩, ⟨#[110, 111, 110, 101]⟩] : List ByteArray)) rfl cb43 rfl rfl rfl rfl (fun wx hm => (some_any [⟨#[118, 49]⟩, ⟨#[110, 111, 110, 101]⟩] _ _ _ wx B sb _ hm.k (by omega) (by simp) (by simp) (hm.blkI 0 rfl) (hm.neRow 0 rfl rfl))) fun s143 hs143 => ?_
     have zs143 : s143.size ≤ 100 := mem_sz hs143 (by decide)
     refine wl_nil ?_
     refine nw 15 255 (fun _ hm => ⟨hm.bl 2, hm.fa 0, trivial⟩) fun z => ?_
     refine wa1 8 rfl ?_
     refine wl_buildSlice (e := 9) (cs := [.string ⟨#[65, 66, 49]⟩, .string ⟨#[97, 49]⟩, .string ⟨#[65]⟩, .string ⟨#[65, 66, 67, 68, 69, 70, 71, 72, 73, 74, 49]⟩, .string ⟨#[65, 66, 49]⟩]) rfl (by kernel_rfl) rfl fun g144 => ?_
     refine wl_nil ?_
     refine nw 15 511 (fun _ hm => ⟨hm.bl 3, hm.fa 0, trivial⟩) fun z => ?_
     refine wa1 9 rfl ?_
     refine wl_got (γ := ByteArray) (val := fun v => .string v) (φ := fun v => v ∈ ([⟨#[65, 66, 49]⟩, ⟨#[97, 49]⟩, ⟨#[65]⟩, ⟨#[65, 66, 67, 68, 69, 70, 71, 72, 73, 74, 49]⟩, ⟨#[65, 66, 49]⟩] : List ByteArray)) rfl cb43 rfl rfl rfl rfl (fun wx hm => (some_any [⟨#[65, 66, 49]⟩, ⟨#[97, 49]⟩, ⟨#[65]⟩, ⟨#[65, 66, 67, 68, 69, 70, 71, 72, 73, 74, 49]⟩, ⟨#[65, 66, 49]⟩] _ _ _ wx B sb _ hm.k (by omega) (by simp) (by simp) (hm.blkI 0 rfl) (hm.neRow 0 rfl rfl))) fun s145 hs145 => ?_
     have zs145 : s145.size ≤ 100 := mem_sz hs145 (by decide)
     refine wl_nil ?_
     refine nw 15 1023 (fun _ hm => ⟨hm.bl 3, hm.fa 0, trivial⟩) fun z => ?_
     refine wt 10 15 2047 rfl z (ov_build (cs := [.int .i64 v142, .string s143, .string s145]) rfl (by kernel_rfl)) ?_
     refine wa1 11 rfl ?_
     refine wl_buildSlice (e := 143) (cs := [.int .i64 v142, .string s143, .string s145]) rfl (by kernel_rfl) rfl fun g146 => ?_
     refine wl_nil ?_
     refine nw 15 4095 (fun _ hm => ⟨hm.bl 4, hm.fa 0, trivial⟩) fun z => ?_
     refine wa1 12 rfl ?_
     refine wl_append (news := [.int .i64 v142, .string s143, .string s145]) 2 0 ap29 rfl rfl rfl rfl rfl rfl rfl (by omega) (by unfold maxLen; omega) rfl rfl fun v2 hv2 => ?_
     refine wl_look (R := ∃ A cc, v2 = .slice A (pn + 1) cc) (fun wx hm => own_slice (hm.ownI 2 rfl)) ?_
     rintro ⟨A2, c2, rfl⟩
     have hxs : pl.flatMap plEnc ++ ([.int .i64 v142, .string s143, .string s145] : List Value) = (pl ++ [(⟨v142, s143, s145⟩ : Pl)]).flatMap plEnc := by simp [plEnc]
     rw [hxs]
     refine wl_nil ?_
     refine nw 15 8191 (fun _ hm => ⟨hm.bl 4, hm.fa 0, trivial⟩) fun z => ?_
     refine wt 13 15 16383 rfl z (ov_field fo31_3 rfl rfl) ?_
     refine wa1 14 rfl ?_
     refine wl_store 3 sc29 rfl rfl rfl rfl rfl rfl ?_
     refine wl_nil ?_
     refine nw 15 32767 (fun _ hm => ⟨hm.bl 4, hm.fa 0, trivial⟩) fun z => ?_
     refine wa_done (by kernel_rfl) ?_
     refine nx_blk_nrm (nx_then (sr_ ?_))
     refine wl_ov (ov_loads rz31 rfl (fun _ hm => hm.blkI 3 rfl) rfl rfl) rfl ?_
     refine wl_stores (cs' := [.slice sA sn sc, .slice cA 4 cc, .slice vA vn vc, .slice A2 (pn + 1) c2]) 4 rz31 rfl rfl rfl rfl rfl rfl rfl rfl ?_
     refine nn_ ?_
     refine gw_ret ?_
     refine nx_retc 4 rfl rz31 rfl rfl rfl fun wx hm => ?_
     exact ⟨sA, cA, vA, A2, sn, sc, cc, vn, vc, pn + 1, c2, sl, cl, vl, pl ++ [(⟨v142, s143, s145⟩ : Pl)], rfl, ⟨⟨stB_all hsB, by omega⟩, hcok, ⟨hvB, by omega⟩, all_snoc hpB ⟨⟨by dsimp only; omega, by dsimp only; omega⟩, by dsimp only; omega, by dsimp only; omega⟩, by omega⟩, hm.k.more (by omega), hm.g, SlT.ofOwnL stEnc_lenL (stB_all hsB) (hm.ownI 0 rfl) hsl, (hm.fact 0 rfl), SlT.ofOwn vh_len (hm.ownI 1 rfl) hvl, SlT.ofOwn pl_len (hm.ownI 2 rfl) (by simp [hpl]), own_shape (hm.ownI 2 rfl), own_cap (hm.ownI 2 rfl)⟩
    refine wl_buildSlice (e := 9) (cs := [.string ⟨#[65, 66, 49]⟩, .string ⟨#[97, 49]⟩, .string ⟨#[65]⟩, .string ⟨#[65, 66, 67, 68, 69, 70, 71, 72, 73, 74, 49]⟩, .string ⟨#[65, 66, 49]⟩]) rfl (by kernel_rfl) rfl fun g147 => ?_
    refine wl_nil ?_
    refine nw 15 447 (fun _ hm => ⟨hm.bl 3, hm.fa 0, trivial⟩) fun z => ?_
    refine wa1 6 rfl ?_
    refine wl_got (γ := ByteArray) (val := fun v => .string v) (φ := fun v => v ∈ ([⟨#[118, 49]⟩, ⟨#[110, 111, 110, 101]⟩] : List ByteArray)) rfl cb43 rfl rfl rfl rfl (fun wx hm => (some_any [⟨#[118, 49]⟩, ⟨#[110, 111, 110, 101]⟩] _ _ _ wx B sb _ hm.k (by omega) (by simp) (by simp) (hm.blkI 1 rfl) (hm.neRow 1 rfl rfl))) fun s148 hs148 => ?_
    have zs148 : s148.size ≤ 100 := mem_sz hs148 (by decide)
    refine wl_nil ?_
    refine nw 15 511 (fun _ hm => ⟨hm.bl 3, hm.fa 0, trivial⟩) fun z => ?_
    refine wa1 9 rfl ?_
    refine wl_got (γ := ByteArray) (val := fun v => .string v) (φ := fun v => v ∈ ([⟨#[65, 66, 49]⟩, ⟨#[97, 49]⟩, ⟨#[65]⟩, ⟨#[65, 66, 67, 68, 69, 70, 71, 72, 73, 74, 49]⟩, ⟨#[65, 66, 49]⟩] : List ByteArray)) rfl cb43 rfl rfl rfl rfl (fun wx hm => (some_any [⟨#[65, 66, 49]⟩, ⟨#[97, 49]⟩, ⟨#[65]⟩, ⟨#[65, 66, 67, 68, 69, 70, 71, 72, 73, 74, 49]⟩, ⟨#[65, 66, 49]⟩] _ _ _ wx B sb _ hm.k (by omega) (by simp) (by simp) (hm.blkI 0 rfl) (hm.neRow 0 rfl rfl))) fun s149 hs149 => ?_
    have zs149 : s149.size ≤ 100 := mem_sz hs149 (by decide)
    refine wl_nil ?_
    refine nw 15 1023 (fun _ hm => ⟨hm.bl 3, hm.fa 0, trivial⟩) fun z => ?_
    refine wt 10 15 2047 rfl z (ov_build (cs := [.int .i64 v142, .string s148, .string s149]) rfl (by kernel_rfl)) ?_
    refine wa1 11 rfl ?_
    refine wl_buildSlice (e := 143) (cs := [.int .i64 v142, .string s148, .string s149]) rfl (by kernel_rfl) rfl fun g150 => ?_
    refine wl_nil ?_
    refine nw 15 4095 (fun _ hm => ⟨hm.bl 4, hm.fa 0, trivial⟩) fun z => ?_
    refine wa1 12 rfl ?_
    refine wl_append (news := [.int .i64 v142, .string s148, .string s149]) 2 0 ap29 rfl rfl rfl rfl rfl rfl rfl (by omega) (by unfold maxLen; omega) rfl rfl fun v2 hv2 => ?_
    refine wl_look (R := ∃ A cc, v2 = .slice A (pn + 1) cc) (fun wx hm => own_slice (hm.ownI 2 rfl)) ?_
    rintro ⟨A2, c2, rfl⟩
    have hxs : pl.flatMap plEnc ++ ([.int .i64 v142, .string s148, .string s149] : List Value) = (pl ++ [(⟨v142, s148, s149⟩ : Pl)]).flatMap plEnc := by simp [plEnc]
    rw [hxs]
    refine wl_nil ?_
    refine nw 15 8191 (fun _ hm => ⟨hm.bl 4, hm.fa 0, trivial⟩) fun z => ?_
    refine wt 13 15 16383 rfl z (ov_field fo31_3 rfl rfl) ?_
    refine wa1 14 rfl ?_
    refine wl_store 3 sc29 rfl rfl rfl rfl rfl rfl ?_
    refine wl_nil ?_
    refine nw 15 32767 (fun _ hm => ⟨hm.bl 4, hm.fa 0, trivial⟩) fun z => ?_
    refine wa_done (by kernel_rfl) ?_
    refine nx_blk_nrm (nx_then (sr_ ?_))
    refine wl_ov (ov_loads rz31 rfl (fun _ hm => hm.blkI 3 rfl) rfl rfl) rfl ?_
    refine wl_stores (cs' := [.slice sA sn sc, .slice cA 4 cc, .slice vA vn vc, .slice A2 (pn + 1) c2]) 4 rz31 rfl rfl rfl rfl rfl rfl rfl rfl ?_
    refine nn_ ?_
    refine gw_ret ?_
    refine nx_retc 4 rfl rz31 rfl rfl rfl fun wx hm => ?_
    exact ⟨sA, cA, vA, A2, sn, sc, cc, vn, vc, pn + 1, c2, sl, cl, vl, pl ++ [(⟨v142, s148, s149⟩ : Pl)], rfl, ⟨⟨stB_all hsB, by omega⟩, hcok, ⟨hvB, by omega⟩, all_snoc hpB ⟨⟨by dsimp only; omega, by dsimp only; omega⟩, by dsimp only; omega, by dsimp only; omega⟩, by omega⟩, hm.k.more (by omega), hm.g, SlT.ofOwnL stEnc_lenL (stB_all hsB) (hm.ownI 0 rfl) hsl, (hm.fact 0 rfl), SlT.ofOwn vh_len (hm.ownI 1 rfl) hvl, SlT.ofOwn pl_len (hm.ownI 2 rfl) (by simp [hpl]), own_shape (hm.ownI 2 rfl), own_cap (hm.ownI 2 rfl)⟩
   ·refine wl_got (γ := ByteArray) (val := fun v => .string v) (φ := fun v => v ∈ ([⟨#[118, 49]⟩, ⟨#[110, 111, 110, 101]⟩] : List ByteArray)) rfl cb43 rfl rfl rfl rfl (fun wx hm => (some_any [⟨#[118, 49]⟩, ⟨#[110, 111, 110, 101]⟩] _ _ _ wx B sb _ hm.k (by omega) (by simp) (by simp) (hm.blkI 0 rfl) (hm.neRow 0 rfl rfl))) fun s151 hs151 => ?_
    have zs151 : s151.size ≤ 100 := mem_sz hs151 (by decide)
    refine wl_nil ?_
    refine nw 15 253 (fun _ hm => ⟨hm.bl 2, hm.fa 0, trivial⟩) fun z => ?_
    refine wa_all [1, 8] (by kernel_rfl) rfl ⟨⟨_, rfl, ?_⟩, ⟨_, rfl, ?_⟩, trivial⟩
    ·refine lk_ sc29 1 rfl rfl rfl (wl_nil ?_)
     refine nw 15 255 (fun _ hm => ⟨hm.bl 2, hm.fa 0, trivial⟩) fun z => ?_
     refine wa1 8 rfl ?_
     refine wl_buildSlice (e := 9) (cs := [.string ⟨#[65, 66, 49]⟩, .string ⟨#[97, 49]⟩, .string ⟨#[65]⟩, .string ⟨#[65, 66, 67, 68, 69, 70, 71, 72, 73, 74, 49]⟩, .string ⟨#[65, 66, 49]⟩]) rfl (by kernel_rfl) rfl fun g152 => ?_
     refine wl_nil ?_
     refine nw 15 511 (fun _ hm => ⟨hm.bl 3, hm.fa 0, trivial⟩) fun z => ?_
     refine wa1 9 rfl ?_
     refine wl_got (γ := ByteArray) (val := fun v => .string v) (φ := fun v => v ∈ ([⟨#[65, 66, 49]⟩, ⟨#[97, 49]⟩, ⟨#[65]⟩, ⟨#[65, 66, 67, 68, 69, 70, 71, 72, 73, 74, 49]⟩, ⟨#[65, 66, 49]⟩] : List ByteArray)) rfl cb43 rfl rfl rfl rfl (fun wx hm => (some_any [⟨#[65, 66, 49]⟩, ⟨#[97, 49]⟩, ⟨#[65]⟩, ⟨#[65, 66, 67, 68, 69, 70, 71, 72, 73, 74, 49]⟩, ⟨#[65, 66, 49]⟩] _ _ _ wx B sb _ hm.k (by omega) (by simp) (by simp) (hm.blkI 0 rfl) (hm.neRow 0 rfl rfl))) fun s153 hs153 => ?_
     have zs153 : s153.size ≤ 100 := mem_sz hs153 (by decide)
     refine wl_nil ?_
     refine nw 15 1023 (fun _ hm => ⟨hm.bl 3, hm.fa 0, trivial⟩) fun z => ?_
     refine wt 10 15 2047 rfl z (ov_build (cs := [.int .i64 v142, .string s151, .string s153]) rfl (by kernel_rfl)) ?_
     refine wa1 11 rfl ?_
     refine wl_buildSlice (e := 143) (cs := [.int .i64 v142, .string s151, .string s153]) rfl (by kernel_rfl) rfl fun g154 => ?_
     refine wl_nil ?_
     refine nw 15 4095 (fun _ hm => ⟨hm.bl 4, hm.fa 0, trivial⟩) fun z => ?_
     refine wa1 12 rfl ?_
     refine wl_append (news := [.int .i64 v142, .string s151, .string s153]) 2 0 ap29 rfl rfl rfl rfl rfl rfl rfl (by omega) (by unfold maxLen; omega) rfl rfl fun v2 hv2 => ?_
     refine wl_look (R := ∃ A cc, v2 = .slice A (pn + 1) cc) (fun wx hm => own_slice (hm.ownI 2 rfl)) ?_
     rintro ⟨A2, c2, rfl⟩
     have hxs : pl.flatMap plEnc ++ ([.int .i64 v142, .string s151, .string s153] : List Value) = (pl ++ [(⟨v142, s151, s153⟩ : Pl)]).flatMap plEnc := by simp [plEnc]
     rw [hxs]
     refine wl_nil ?_
     refine nw 15 8191 (fun _ hm => ⟨hm.bl 4, hm.fa 0, trivial⟩) fun z => ?_
     refine wt 13 15 16383 rfl z (ov_field fo31_3 rfl rfl) ?_
     refine wa1 14 rfl ?_
     refine wl_store 3 sc29 rfl rfl rfl rfl rfl rfl ?_
     refine wl_nil ?_
     refine nw 15 32767 (fun _ hm => ⟨hm.bl 4, hm.fa 0, trivial⟩) fun z => ?_
     refine wa_done (by kernel_rfl) ?_
     refine nx_blk_nrm (nx_then (sr_ ?_))
     refine wl_ov (ov_loads rz31 rfl (fun _ hm => hm.blkI 3 rfl) rfl rfl) rfl ?_
     refine wl_stores (cs' := [.slice sA sn sc, .slice cA 4 cc, .slice vA vn vc, .slice A2 (pn + 1) c2]) 4 rz31 rfl rfl rfl rfl rfl rfl rfl rfl ?_
     refine nn_ ?_
     refine gw_ret ?_
     refine nx_retc 4 rfl rz31 rfl rfl rfl fun wx hm => ?_
     exact ⟨sA, cA, vA, A2, sn, sc, cc, vn, vc, pn + 1, c2, sl, cl, vl, pl ++ [(⟨v142, s151, s153⟩ : Pl)], rfl, ⟨⟨stB_all hsB, by omega⟩, hcok, ⟨hvB, by omega⟩, all_snoc hpB ⟨⟨by dsimp only; omega, by dsimp only; omega⟩, by dsimp only; omega, by dsimp only; omega⟩, by omega⟩, hm.k.more (by omega), hm.g, SlT.ofOwnL stEnc_lenL (stB_all hsB) (hm.ownI 0 rfl) hsl, (hm.fact 0 rfl), SlT.ofOwn vh_len (hm.ownI 1 rfl) hvl, SlT.ofOwn pl_len (hm.ownI 2 rfl) (by simp [hpl]), own_shape (hm.ownI 2 rfl), own_cap (hm.ownI 2 rfl)⟩
    refine wl_buildSlice (e := 9) (cs := [.string ⟨#[65, 66, 49]⟩, .string ⟨#[97, 49]⟩, .string ⟨#[65]⟩, .string ⟨#[65, 66, 67, 68, 69, 70, 71, 72, 73, 74, 49]⟩, .string ⟨#[65, 66, 49]⟩]) rfl (by kernel_rfl) rfl fun g155 => ?_
    refine wl_nil ?_
    refine nw 15 509 (fun _ hm => ⟨hm.bl 3, hm.fa 0, trivial⟩) fun z => ?_
    refine wa_all [1, 9] (by kernel_rfl) rfl ⟨⟨_, rfl, ?_⟩, ⟨_, rfl, ?_⟩, trivial⟩
    ·refine lk_ sc29 2 rfl rfl rfl (wl_nil ?_)
     refine nw 15 511 (fun _ hm => ⟨hm.bl 3, hm.fa 0, trivial⟩) fun z => ?_
     refine wa1 9 rfl ?_
     refine wl_got (γ := ByteArray) (val := fun v => .string v) (φ := fun v => v ∈ ([⟨#[65, 66, 49]⟩, ⟨#[97, 49]⟩, ⟨#[65]⟩, ⟨#[65, 66, 67, 68, 69, 70, 71, 72, 73, 74, 49]⟩, ⟨#[65, 66, 49]⟩] : List ByteArray)) rfl cb43 rfl rfl rfl rfl (fun wx hm => (some_any [⟨#[65, 66, 49]⟩, ⟨#[97, 49]⟩, ⟨#[65]⟩, ⟨#[65, 66, 67, 68, 69, 70, 71, 72, 73, 74, 49]⟩, ⟨#[65, 66, 49]⟩] _ _ _ wx B sb _ hm.k (by omega) (by simp) (by simp) (hm.blkI 0 rfl) (hm.neRow 0 rfl rfl))) fun s156 hs156 => ?_
     have zs156 : s156.size ≤ 100 := mem_sz hs156 (by decide)
     refine wl_nil ?_
     refine nw 15 1023 (fun _ hm => ⟨hm.bl 3, hm.fa 0, trivial⟩) fun z => ?_
     refine wt 10 15 2047 rfl z (ov_build (cs := [.int .i64 v142, .string s151, .string s156]) rfl (by kernel_rfl)) ?_
     refine wa1 11 rfl ?_
     refine wl_buildSlice (e := 143) (cs := [.int .i64 v142, .string s151, .string s156]) rfl (by kernel_rfl) rfl fun g157 => ?_
     refine wl_nil ?_
     refine nw 15 4095 (fun _ hm => ⟨hm.bl 4, hm.fa 0, trivial⟩) fun z => ?_
     refine wa1 12 rfl ?_
     refine wl_append (news := [.int .i64 v142, .string s151, .string s156]) 2 0 ap29 rfl rfl rfl rfl rfl rfl rfl (by omega) (by unfold maxLen; omega) rfl rfl fun v2 hv2 => ?_
     refine wl_look (R := ∃ A cc, v2 = .slice A (pn + 1) cc) (fun wx hm => own_slice (hm.ownI 2 rfl)) ?_
     rintro ⟨A2, c2, rfl⟩
     have hxs : pl.flatMap plEnc ++ ([.int .i64 v142, .string s151, .string s156] : List Value) = (pl ++ [(⟨v142, s151, s156⟩ : Pl)]).flatMap plEnc := by simp [plEnc]
     rw [hxs]
     refine wl_nil ?_
     refine nw 15 8191 (fun _ hm => ⟨hm.bl 4, hm.fa 0, trivial⟩) fun z => ?_
     refine wt 13 15 16383 rfl z (ov_field fo31_3 rfl rfl) ?_
     refine wa1 14 rfl ?_
     refine wl_store 3 sc29 rfl rfl rfl rfl rfl rfl ?_
     refine wl_nil ?_
     refine nw 15 32767 (fun _ hm => ⟨hm.bl 4, hm.fa 0, trivial⟩) fun z => ?_
     refine wa_done (by kernel_rfl) ?_
     refine nx_blk_nrm (nx_then (sr_ ?_))
     refine wl_ov (ov_loads rz31 rfl (fun _ hm => hm.blkI 3 rfl) rfl rfl) rfl ?_
     refine wl_stores (cs' := [.slice sA sn sc, .slice cA 4 cc, .slice vA vn vc, .slice A2 (pn + 1) c2]) 4 rz31 rfl rfl rfl rfl rfl rfl rfl rfl ?_
     refine nn_ ?_
     refine gw_ret ?_
     refine nx_retc 4 rfl rz31 rfl rfl rfl fun wx hm => ?_
     exact ⟨sA, cA, vA, A2, sn, sc, cc, vn, vc, pn + 1, c2, sl, cl, vl, pl ++ [(⟨v142, s151, s156⟩ : Pl)], rfl, ⟨⟨stB_all hsB, by omega⟩, hcok, ⟨hvB, by omega⟩, all_snoc hpB ⟨⟨by dsimp only; omega, by dsimp only; omega⟩, by dsimp only; omega, by dsimp only; omega⟩, by omega⟩, hm.k.more (by omega), hm.g, SlT.ofOwnL stEnc_lenL (stB_all hsB) (hm.ownI 0 rfl) hsl, (hm.fact 0 rfl), SlT.ofOwn vh_len (hm.ownI 1 rfl) hvl, SlT.ofOwn pl_len (hm.ownI 2 rfl) (by simp [hpl]), own_shape (hm.ownI 2 rfl), own_cap (hm.ownI 2 rfl)⟩
    refine wl_got (γ := ByteArray) (val := fun v => .string v) (φ := fun v => v ∈ ([⟨#[65, 66, 49]⟩, ⟨#[97, 49]⟩, ⟨#[65]⟩, ⟨#[65, 66, 67, 68, 69, 70, 71, 72, 73, 74, 49]⟩, ⟨#[65, 66, 49]⟩] : List ByteArray)) rfl cb43 rfl rfl rfl rfl (fun wx hm => (some_any [⟨#[65, 66, 49]⟩, ⟨#[97, 49]⟩, ⟨#[65]⟩, ⟨#[65, 66, 67, 68, 69, 70, 71, 72, 73, 74, 49]⟩, ⟨#[65, 66, 49]⟩] _ _ _ wx B sb _ hm.k (by omega) (by simp) (by simp) (hm.blkI 0 rfl) (hm.neRow 0 rfl rfl))) fun s158 hs158 => ?_
    have zs158 : s158.size ≤ 100 := mem_sz hs158 (by decide)
    refine wl_nil ?_
    refine nw 15 1021 (fun _ hm => ⟨hm.bl 3, hm.fa 0, trivial⟩) fun z => ?_
    refine wt 10 15 2045 rfl z (ov_build (cs := [.int .i64 v142, .string s151, .string s158]) rfl (by kernel_rfl)) ?_
    refine wa_all [1, 11] (by kernel_rfl) rfl ⟨⟨_, rfl, ?_⟩, ⟨_, rfl, ?_⟩, trivial⟩
    ·refine lk_ sc29 2 rfl rfl rfl (wl_nil ?_)
     refine nw 15 2047 (fun _ hm => ⟨hm.bl 3, hm.fa 0, trivial⟩) fun z => ?_
     refine wa1 11 rfl ?_
     refine wl_buildSlice (e := 143) (cs := [.int .i64 v142, .string s151, .string s158]) rfl (by kernel_rfl) rfl fun g159 => ?_
     refine wl_nil ?_
     refine nw 15 4095 (fun _ hm => ⟨hm.bl 4, hm.fa 0, trivial⟩) fun z => ?_
     refine wa1 12 rfl ?_
     refine wl_append (news := [.int .i64 v142, .string s151, .string s158]) 2 0 ap29 rfl rfl rfl rfl rfl rfl rfl (by omega) (by unfold maxLen; omega) rfl rfl fun v2 hv2 => ?_
     refine wl_look (R := ∃ A cc, v2 = .slice A (pn + 1) cc) (fun wx hm => own_slice (hm.ownI 2 rfl)) ?_
     rintro ⟨A2, c2, rfl⟩
     have hxs : pl.flatMap plEnc ++ ([.int .i64 v142, .string s151, .string s158] : List Value) = (pl ++ [(⟨v142, s151, s158⟩ : Pl)]).flatMap plEnc := by simp [plEnc]
     rw [hxs]
     refine wl_nil ?_
     refine nw 15 8191 (fun _ hm => ⟨hm.bl 4, hm.fa 0, trivial⟩) fun z => ?_
     refine wt 13 15 16383 rfl z (ov_field fo31_3 rfl rfl) ?_
     refine wa1 14 rfl ?_
     refine wl_store 3 sc29 rfl rfl rfl rfl rfl rfl ?_
     refine wl_nil ?_
     refine nw 15 32767 (fun _ hm => ⟨hm.bl 4, hm.fa 0, trivial⟩) fun z => ?_
     refine wa_done (by kernel_rfl) ?_
     refine nx_blk_nrm (nx_then (sr_ ?_))
     refine wl_ov (ov_loads rz31 rfl (fun _ hm => hm.blkI 3 rfl) rfl rfl) rfl ?_
     refine wl_stores (cs' := [.slice sA sn sc, .slice cA 4 cc, .slice vA vn vc, .slice A2 (pn + 1) c2]) 4 rz31 rfl rfl rfl rfl rfl rfl rfl rfl ?_
     refine nn_ ?_
     refine gw_ret ?_
     refine nx_retc 4 rfl rz31 rfl rfl rfl fun wx hm => ?_
     exact ⟨sA, cA, vA, A2, sn, sc, cc, vn, vc, pn + 1, c2, sl, cl, vl, pl ++ [(⟨v142, s151, s158⟩ : Pl)], rfl, ⟨⟨stB_all hsB, by omega⟩, hcok, ⟨hvB, by omega⟩, all_snoc hpB ⟨⟨by dsimp only; omega, by dsimp only; omega⟩, by dsimp only; omega, by dsimp only; omega⟩, by omega⟩, hm.k.more (by omega), hm.g, SlT.ofOwnL stEnc_lenL (stB_all hsB) (hm.ownI 0 rfl) hsl, (hm.fact 0 rfl), SlT.ofOwn vh_len (hm.ownI 1 rfl) hvl, SlT.ofOwn pl_len (hm.ownI 2 rfl) (by simp [hpl]), own_shape (hm.ownI 2 rfl), own_cap (hm.ownI 2 rfl)⟩
    refine wl_buildSlice (e := 143) (cs := [.int .i64 v142, .string s151, .string s158]) rfl (by kernel_rfl) rfl fun g160 => ?_
    refine wl_nil ?_
    refine nw 15 4093 (fun _ hm => ⟨hm.bl 4, hm.fa 0, trivial⟩) fun z => ?_
    refine wa1 1 rfl ?_
    refine lk_ sc29 3 rfl rfl rfl (wl_nil ?_)
    refine nw 15 4095 (fun _ hm => ⟨hm.bl 4, hm.fa 0, trivial⟩) fun z => ?_
    refine wa1 12 rfl ?_
    refine wl_append (news := [.int .i64 v142, .string s151, .string s158]) 2 0 ap29 rfl rfl rfl rfl rfl rfl rfl (by omega) (by unfold maxLen; omega) rfl rfl fun v2 hv2 => ?_
    refine wl_look (R := ∃ A cc, v2 = .slice A (pn + 1) cc) (fun wx hm => own_slice (hm.ownI 2 rfl)) ?_
    rintro ⟨A2, c2, rfl⟩
    have hxs : pl.flatMap plEnc ++ ([.int .i64 v142, .string s151, .string s158] : List Value) = (pl ++ [(⟨v142, s151, s158⟩ : Pl)]).flatMap plEnc := by simp [plEnc]
    rw [hxs]
    refine wl_nil ?_
    refine nw 15 8191 (fun _ hm => ⟨hm.bl 4, hm.fa 0, trivial⟩) fun z => ?_
    refine wt 13 15 16383 rfl z (ov_field fo31_3 rfl rfl) ?_
    refine wa1 14 rfl ?_
    refine wl_store 3 sc29 rfl rfl rfl rfl rfl rfl ?_
    refine wl_nil ?_
    refine nw 15 32767 (fun _ hm => ⟨hm.bl 4, hm.fa 0, trivial⟩) fun z => ?_
    refine wa_done (by kernel_rfl) ?_
    refine nx_blk_nrm (nx_then (sr_ ?_))
    refine wl_ov (ov_loads rz31 rfl (fun _ hm => hm.blkI 3 rfl) rfl rfl) rfl ?_
    refine wl_stores (cs' := [.slice sA sn sc, .slice cA 4 cc, .slice vA vn vc, .slice A2 (pn + 1) c2]) 4 rz31 rfl rfl rfl rfl rfl rfl rfl rfl ?_
    refine nn_ ?_
    refine gw_ret ?_
    refine nx_retc 4 rfl rz31 rfl rfl rfl fun wx hm => ?_
    exact ⟨sA, cA, vA, A2, sn, sc, cc, vn, vc, pn + 1, c2, sl, cl, vl, pl ++ [(⟨v142, s151, s158⟩ : Pl)], rfl, ⟨⟨stB_all hsB, by omega⟩, hcok, ⟨hvB, by omega⟩, all_snoc hpB ⟨⟨by dsimp only; omega, by dsimp only; omega⟩, by dsimp only; omega, by dsimp only; omega⟩, by omega⟩, hm.k.more (by omega), hm.g, SlT.ofOwnL stEnc_lenL (stB_all hsB) (hm.ownI 0 rfl) hsl, (hm.fact 0 rfl), SlT.ofOwn vh_len (hm.ownI 1 rfl) hvl, SlT.ofOwn pl_len (hm.ownI 2 rfl) (by simp [hpl]), own_shape (hm.ownI 2 rfl), own_cap (hm.ownI 2 rfl)⟩
   refine wl_buildSlice (e := 9) (cs := [.string ⟨#[65, 66, 49]⟩, .string ⟨#[97, 49]⟩, .string ⟨#[65]⟩, .string ⟨#[65, 66, 67, 68, 69, 70, 71, 72, 73, 74, 49]⟩, .string ⟨#[65, 66, 49]⟩]) rfl (by kernel_rfl) rfl fun g161 => ?_
   refine wl_nil ?_
   refine nw 15 445 (fun _ hm => ⟨hm.bl 3, hm.fa 0, trivial⟩) fun z => ?_
   refine wa_all [1, 6] (by kernel_rfl) rfl ⟨⟨_, rfl, ?_⟩, ⟨_, rfl, ?_⟩, trivial⟩
   ·refine lk_ sc29 2 rfl rfl rfl (wl_nil ?_)
    refine nw 15 447 (fun _ hm => ⟨hm.bl 3, hm.fa 0, trivial⟩) fun z => ?_
    refine wa1 6 rfl ?_
    refine wl_got (γ := ByteArray) (val := fun v => .string v) (φ := fun v => v ∈ ([⟨#[118, 49]⟩, ⟨#[110, 111, 110, 101]⟩] : List ByteArray)) rfl cb43 rfl rfl rfl rfl (fun wx hm => (some_any [⟨#[118, 49]⟩, ⟨#[110, 111, 110, 101]⟩] _ _ _ wx B sb _ hm.k (by omega) (by simp) (by simp) (hm.blkI 1 rfl) (hm.neRow 1 rfl rfl))) fun s162 hs162 => ?_
    have zs162 : s162.size ≤ 100 := mem_sz hs162 (by decide)
    refine wl_nil ?_
    refine nw 15 511 (fun _ hm => ⟨hm.bl 3, hm.fa 0, trivial⟩) fun z => ?_
    refine wa1 9 rfl ?_
    refine wl_got (γ := ByteArray) (val := fun v => .string v) (φ := fun v => v ∈ ([⟨#[65, 66, 49]⟩, ⟨#[97, 49]⟩, ⟨#[65]⟩, ⟨#[65, 66, 67, 68, 69, 70, 71, 72, 73, 74, 49]⟩, ⟨#[65, 66, 49]⟩] : List ByteArray)) rfl cb43 rfl rfl rfl rfl (fun wx hm => (some_any [⟨#[65, 66, 49]⟩, ⟨#[97, 49]⟩, ⟨#[65]⟩, ⟨#[65, 66, 67, 68, 69, 70, 71, 72, 73, 74, 49]⟩, ⟨#[65, 66, 49]⟩] _ _ _ wx B sb _ hm.k (by omega) (by simp) (by simp) (hm.blkI 0 rfl) (hm.neRow 0 rfl rfl))) fun s163 hs163 => ?_
    have zs163 : s163.size ≤ 100 := mem_sz hs163 (by decide)
    refine wl_nil ?_
    refine nw 15 1023 (fun _ hm => ⟨hm.bl 3, hm.fa 0, trivial⟩) fun z => ?_
    refine wt 10 15 2047 rfl z (ov_build (cs := [.int .i64 v142, .string s162, .string s163]) rfl (by kernel_rfl)) ?_
    refine wa1 11 rfl ?_
    refine wl_buildSlice (e := 143) (cs := [.int .i64 v142, .string s162, .string s163]) rfl (by kernel_rfl) rfl fun g164 => ?_
    refine wl_nil ?_
    refine nw 15 4095 (fun _ hm => ⟨hm.bl 4, hm.fa 0, trivial⟩) fun z => ?_
    refine wa1 12 rfl ?_
    refine wl_append (news := [.int .i64 v142, .string s162, .string s163]) 2 0 ap29 rfl rfl rfl rfl rfl rfl rfl (by omega) (by unfold maxLen; omega) rfl rfl fun v2 hv2 => ?_
    refine wl_look (R := ∃ A cc, v2 = .slice A (pn + 1) cc) (fun wx hm => own_slice (hm.ownI 2 rfl)) ?_
    rintro ⟨A2, c2, rfl⟩
    have hxs : pl.flatMap plEnc ++ ([.int .i64 v142, .string s162, .string s163] : List Value) = (pl ++ [(⟨v142, s162, s163⟩ : Pl)]).flatMap plEnc := by simp [plEnc]
    rw [hxs]
    refine wl_nil ?_
    refine nw 15 8191 (fun _ hm => ⟨hm.bl 4, hm.fa 0, trivial⟩) fun z => ?_
    refine wt 13 15 16383 rfl z (ov_field fo31_3 rfl rfl) ?_
    refine wa1 14 rfl ?_
    refine wl_store 3 sc29 rfl rfl rfl rfl rfl rfl ?_
    refine wl_nil ?_
    refine nw 15 32767 (fun _ hm => ⟨hm.bl 4, hm.fa 0, trivial⟩) fun z => ?_
    refine wa_done (by kernel_rfl) ?_
    refine nx_blk_nrm (nx_then (sr_ ?_))
    refine wl_ov (ov_loads rz31 rfl (fun _ hm => hm.blkI 3 rfl) rfl rfl) rfl ?_
    refine wl_stores (cs' := [.slice sA sn sc, .slice cA 4 cc, .slice vA vn vc, .slice A2 (pn + 1) c2]) 4 rz31 rfl rfl rfl rfl rfl rfl rfl rfl ?_
    refine nn_ ?_
    refine gw_ret ?_
    refine nx_retc 4 rfl rz31 rfl rfl rfl fun wx hm => ?_
    exact ⟨sA, cA, vA, A2, sn, sc, cc, vn, vc, pn + 1, c2, sl, cl, vl, pl ++ [(⟨v142, s162, s163⟩ : Pl)], rfl, ⟨⟨stB_all hsB, by omega⟩, hcok, ⟨hvB, by omega⟩, all_snoc hpB ⟨⟨by dsimp only; omega, by dsimp only; omega⟩, by dsimp only; omega, by dsimp only; omega⟩, by omega⟩, hm.k.more (by omega), hm.g, SlT.ofOwnL stEnc_lenL (stB_all hsB) (hm.ownI 0 rfl) hsl, (hm.fact 0 rfl), SlT.ofOwn vh_len (hm.ownI 1 rfl) hvl, SlT.ofOwn pl_len (hm.ownI 2 rfl) (by simp [hpl]), own_shape (hm.ownI 2 rfl), own_cap (hm.ownI 2 rfl)⟩
   refine wl_got (γ := ByteArray) (val := fun v => .string v) (φ := fun v => v ∈ ([⟨#[118, 49]⟩, ⟨#[110, 111, 110, 101]⟩] : List ByteArray)) rfl cb43 rfl rfl rfl rfl (fun wx hm => (some_any [⟨#[118, 49]⟩, ⟨#[110, 111, 110, 101]⟩] _ _ _ wx B sb _ hm.k (by omega) (by simp) (by simp) (hm.blkI 1 rfl) (hm.neRow 1 rfl rfl))) fun s165 hs165 => ?_
   have zs165 : s165.size ≤ 100 := mem_sz hs165 (by decide)
   refine wl_nil ?_
   refine nw 15 509 (fun _ hm => ⟨hm.bl 3, hm.fa 0, trivial⟩) fun z => ?_
   refine wa_all [1, 9] (by kernel_rfl) rfl ⟨⟨_, rfl, ?_⟩, ⟨_, rfl, ?_⟩, trivial⟩
   ·refine lk_ sc29 2 rfl rfl rfl (wl_nil ?_)
    refine nw 15 511 (fun _ hm => ⟨hm.bl 3, hm.fa 0, trivial⟩) fun z => ?_
    refine wa1 9 rfl ?_
    refine wl_got (γ := ByteArray) (val := fun v => .string v) (φ := fun v => v ∈ ([⟨#[65, 66, 49]⟩, ⟨#[97, 49]⟩, ⟨#[65]⟩, ⟨#[65, 66, 67, 68, 69, 70, 71, 72, 73, 74, 49]⟩, ⟨#[65, 66, 49]⟩] : List ByteArray)) rfl cb43 rfl rfl rfl rfl (fun wx hm => (some_any [⟨#[65, 66, 49]⟩, ⟨#[97, 49]⟩, ⟨#[65]⟩, ⟨#[65, 66, 67, 68, 69, 70, 71, 72, 73, 74, 49]⟩, ⟨#[65, 66, 49]⟩] _ _ _ wx B sb _ hm.k (by omega) (by simp) (by simp) (hm.blkI 0 rfl) (hm.neRow 0 rfl rfl))) fun s166 hs166 => ?_
    have zs166 : s166.size ≤ 100 := mem_sz hs166 (by decide)
    refine wl_nil ?_
    refine nw 15 1023 (fun _ hm => ⟨hm.bl 3, hm.fa 0, trivial⟩) fun z => ?_
    refine wt 10 15 2047 rfl z (ov_build (cs := [.int .i64 v142, .string s165, .string s166]) rfl (by kernel_rfl)) ?_
    refine wa1 11 rfl ?_
    refine wl_buildSlice (e := 143) (cs := [.int .i64 v142, .string s165, .string s166]) rfl (by kernel_rfl) rfl fun g167 => ?_
    refine wl_nil ?_
    refine nw 15 4095 (fun _ hm => ⟨hm.bl 4, hm.fa 0, trivial⟩) fun z => ?_
    refine wa1 12 rfl ?_
    refine wl_append (news := [.int .i64 v142, .string s165, .string s166]) 2 0 ap29 rfl rfl rfl rfl rfl rfl rfl (by omega) (by unfold maxLen; omega) rfl rfl fun v2 hv2 => ?_
    refine wl_look (R := ∃ A cc, v2 = .slice A (pn + 1) cc) (fun wx hm => own_slice (hm.ownI 2 rfl)) ?_
    rintro ⟨A2, c2, rfl⟩
    have hxs : pl.flatMap plEnc ++ ([.int .i64 v142, .string s165, .string s166] : List Value) = (pl ++ [(⟨v142, s165, s166⟩ : Pl)]).flatMap plEnc := by simp [plEnc]
    rw [hxs]
    refine wl_nil ?_
    refine nw 15 8191 (fun _ hm => ⟨hm.bl 4, hm.fa 0, trivial⟩) fun z => ?_
    refine wt 13 15 16383 rfl z (ov_field fo31_3 rfl rfl) ?_
    refine wa1 14 rfl ?_
    refine wl_store 3 sc29 rfl rfl rfl rfl rfl rfl ?_
    refine wl_nil ?_
    refine nw 15 32767 (fun _ hm => ⟨hm.bl 4, hm.fa 0, trivial⟩) fun z => ?_
    refine wa_done (by kernel_rfl) ?_
    refine nx_blk_nrm (nx_then (sr_ ?_))
    refine wl_ov (ov_loads rz31 rfl (fun _ hm => hm.blkI 3 rfl) rfl rfl) rfl ?_
    refine wl_stores (cs' := [.slice sA sn sc, .slice cA 4 cc, .slice vA vn vc, .slice A2 (pn + 1) c2]) 4 rz31 rfl rfl rfl rfl rfl rfl rfl rfl ?_
    refine nn_ ?_
    refine gw_ret ?_
    refine nx_retc 4 rfl rz31 rfl rfl rfl fun wx hm => ?_
    exact ⟨sA, cA, vA, A2, sn, sc, cc, vn, vc, pn + 1, c2, sl, cl, vl, pl ++ [(⟨v142, s165, s166⟩ : Pl)], rfl, ⟨⟨stB_all hsB, by omega⟩, hcok, ⟨hvB, by omega⟩, all_snoc hpB ⟨⟨by dsimp only; omega, by dsimp only; omega⟩, by dsimp only; omega, by dsimp only; omega⟩, by omega⟩, hm.k.more (by omega), hm.g, SlT.ofOwnL stEnc_lenL (stB_all hsB) (hm.ownI 0 rfl) hsl, (hm.fact 0 rfl), SlT.ofOwn vh_len (hm.ownI 1 rfl) hvl, SlT.ofOwn pl_len (hm.ownI 2 rfl) (by simp [hpl]), own_shape (hm.ownI 2 rfl), own_cap (hm.ownI 2 rfl)⟩
   refine wl_got (γ := ByteArray) (val := fun v => .string v) (φ := fun v => v ∈ ([⟨#[65, 66, 49]⟩, ⟨#[97, 49]⟩, ⟨#[65]⟩, ⟨#[65, 66, 67, 68, 69, 70, 71, 72, 73, 74, 49]⟩, ⟨#[65, 66, 49]⟩] : List ByteArray)) rfl cb43 rfl rfl rfl rfl (fun wx hm => (some_any [⟨#[65, 66, 49]⟩, ⟨#[97, 49]⟩, ⟨#[65]⟩, ⟨#[65, 66, 67, 68, 69, 70, 71, 72, 73, 74, 49]⟩, ⟨#[65, 66, 49]⟩] _ _ _ wx B sb _ hm.k (by omega) (by simp) (by simp) (hm.blkI 0 rfl) (hm.neRow 0 rfl rfl))) fun s168 hs168 => ?_
   have zs168 : s168.size ≤ 100 := mem_sz hs168 (by decide)
   refine wl_nil ?_
   refine nw 15 1021 (fun _ hm => ⟨hm.bl 3, hm.fa 0, trivial⟩) fun z => ?_
   refine wt 10 15 2045 rfl z (ov_build (cs := [.int .i64 v142, .string s165, .string s168]) rfl (by kernel_rfl)) ?_
   refine wa_all [1, 11] (by kernel_rfl) rfl ⟨⟨_, rfl, ?_⟩, ⟨_, rfl, ?_⟩, trivial⟩
   ·refine lk_ sc29 2 rfl rfl rfl (wl_nil ?_)
    refine nw 15 2047 (fun _ hm => ⟨hm.bl 3, hm.fa 0, trivial⟩) fun z => ?_
    refine wa1 11 rfl ?_
    refine wl_buildSlice (e := 143) (cs := [.int .i64 v142, .string s165, .string s168]) rfl (by kernel_rfl) rfl fun g169 => ?_
    refine wl_nil ?_
    refine nw 15 4095 (fun _ hm => ⟨hm.bl 4, hm.fa 0, trivial⟩) fun z => ?_
    refine wa1 12 rfl ?_
    refine wl_append (news := [.int .i64 v142, .string s165, .string s168]) 2 0 ap29 rfl rfl rfl rfl rfl rfl rfl (by omega) (by unfold maxLen; omega) rfl rfl fun v2 hv2 => ?_
    refine wl_look (R := ∃ A cc, v2 = .slice A (pn + 1) cc) (fun wx hm => own_slice (hm.ownI 2 rfl)) ?_
    rintro ⟨A2, c2, rfl⟩
    have hxs : pl.flatMap plEnc ++ ([.int .i64 v142, .string s165, .string s168] : List Value) = (pl ++ [(⟨v142, s165, s168⟩ : Pl)]).flatMap plEnc := by simp [plEnc]
    rw [hxs]
    refine wl_nil ?_
    refine nw 15 8191 (fun _ hm => ⟨hm.bl 4, hm.fa 0, trivial⟩) fun z => ?_
    refine wt 13 15 16383 rfl z (ov_field fo31_3 rfl rfl) ?_
    refine wa1 14 rfl ?_
    refine wl_store 3 sc29 rfl rfl rfl rfl rfl rfl ?_
    refine wl_nil ?_
    refine nw 15 32767 (fun _ hm => ⟨hm.bl 4, hm.fa 0, trivial⟩) fun z => ?_
    refine wa_done (by kernel_rfl) ?_
    refine nx_blk_nrm (nx_then (sr_ ?_))
    refine wl_ov (ov_loads rz31 rfl (fun _ hm => hm.blkI 3 rfl) rfl rfl) rfl ?_
    refine wl_stores (cs' := [.slice sA sn sc, .slice cA 4 cc, .slice vA vn vc, .slice A2 (pn + 1) c2]) 4 rz31 rfl rfl rfl rfl rfl rfl rfl rfl ?_
    refine nn_ ?_
    refine gw_ret ?_
    refine nx_retc 4 rfl rz31 rfl rfl rfl fun wx hm => ?_
    exact ⟨sA, cA, vA, A2, sn, sc, cc, vn, vc, pn + 1, c2, sl, cl, vl, pl ++ [(⟨v142, s165, s168⟩ : Pl)], rfl, ⟨⟨stB_all hsB, by omega⟩, hcok, ⟨hvB, by omega⟩, all_snoc hpB ⟨⟨by dsimp only; omega, by dsimp only; omega⟩, by dsimp only; omega, by dsimp only; omega⟩, by omega⟩, hm.k.more (by omega), hm.g, SlT.ofOwnL stEnc_lenL (stB_all hsB) (hm.ownI 0 rfl) hsl, (hm.fact 0 rfl), SlT.ofOwn vh_len (hm.ownI 1 rfl) hvl, SlT.ofOwn pl_len (hm.ownI 2 rfl) (by simp [hpl]), own_shape (hm.ownI 2 rfl), own_cap (hm.ownI 2 rfl)⟩
   refine wl_buildSlice (e := 143) (cs := [.int .i64 v142, .string s165, .string s168]) rfl (by kernel_rfl) rfl fun g170 => ?_
   refine wl_nil ?_
   refine nw 15 4093 (fun _ hm => ⟨hm.bl 4, hm.fa 0, trivial⟩) fun z => ?_
   refine wa1 1 rfl ?_
   refine lk_ sc29 3 rfl rfl rfl (wl_nil ?_)
   refine nw 15 4095 (fun _ hm => ⟨hm.bl 4, hm.fa 0, trivial⟩) fun z => ?_
   refine wa1 12 rfl ?_
   refine wl_append (news := [.int .i64 v142, .string s165, .string s168]) 2 0 ap29 rfl rfl rfl rfl rfl rfl rfl (by omega) (by unfold maxLen; omega) rfl rfl fun v2 hv2 => ?_
   refine wl_look (R := ∃ A cc, v2 = .slice A (pn + 1) cc) (fun wx hm => own_slice (hm.ownI 2 rfl)) ?_
   rintro ⟨A2, c2, rfl⟩
   have hxs : pl.flatMap plEnc ++ ([.int .i64 v142, .string s165, .string s168] : List Value) = (pl ++ [(⟨v142, s165, s168⟩ : Pl)]).flatMap plEnc := by simp [plEnc]
   rw [hxs]
   refine wl_nil ?_
   refine nw 15 8191 (fun _ hm => ⟨hm.bl 4, hm.fa 0, trivial⟩) fun z => ?_
   refine wt 13 15 16383 rfl z (ov_field fo31_3 rfl rfl) ?_
   refine wa1 14 rfl ?_
   refine wl_store 3 sc29 rfl rfl rfl rfl rfl rfl ?_
   refine wl_nil ?_
   refine nw 15 32767 (fun _ hm => ⟨hm.bl 4, hm.fa 0, trivial⟩) fun z => ?_
   refine wa_done (by kernel_rfl) ?_
   refine nx_blk_nrm (nx_then (sr_ ?_))
   refine wl_ov (ov_loads rz31 rfl (fun _ hm => hm.blkI 3 rfl) rfl rfl) rfl ?_
   refine wl_stores (cs' := [.slice sA sn sc, .slice cA 4 cc, .slice vA vn vc, .slice A2 (pn + 1) c2]) 4 rz31 rfl rfl rfl rfl rfl rfl rfl rfl ?_
   refine nn_ ?_
   refine gw_ret ?_
   refine nx_retc 4 rfl rz31 rfl rfl rfl fun wx hm => ?_
   exact ⟨sA, cA, vA, A2, sn, sc, cc, vn, vc, pn + 1, c2, sl, cl, vl, pl ++ [(⟨v142, s165, s168⟩ : Pl)], rfl, ⟨⟨stB_all hsB, by omega⟩, hcok, ⟨hvB, by omega⟩, all_snoc hpB ⟨⟨by dsimp only; omega, by dsimp only; omega⟩, by dsimp only; omega, by dsimp only; omega⟩, by omega⟩, hm.k.more (by omega), hm.g, SlT.ofOwnL stEnc_lenL (stB_all hsB) (hm.ownI 0 rfl) hsl, (hm.fact 0 rfl), SlT.ofOwn vh_len (hm.ownI 1 rfl) hvl, SlT.ofOwn pl_len (hm.ownI 2 rfl) (by simp [hpl]), own_shape (hm.ownI 2 rfl), own_cap (hm.ownI 2 rfl)⟩
  refine wl_buildSlice (e := 9) (cs := [.string ⟨#[65, 66, 49]⟩, .string ⟨#[97, 49]⟩, .string ⟨#[65]⟩, .string ⟨#[65, 66, 67, 68, 69, 70, 71, 72, 73, 74, 49]⟩, .string ⟨#[65, 66, 49]⟩]) rfl (by kernel_rfl) rfl fun g171 => ?_
  refine wl_nil ?_
  refine nw 15 437 (fun _ hm => ⟨hm.bl 3, hm.fa 0, trivial⟩) fun z => ?_
  refine wa_all [1, 3] (by kernel_rfl) rfl ⟨⟨_, rfl, ?_⟩, ⟨_, rfl, ?_⟩, trivial⟩
  ·refine lk_ sc29 2 rfl rfl rfl (wl_nil ?_)
   refine nw 15 439 (fun _ hm => ⟨hm.bl 3, hm.fa 0, trivial⟩) fun z => ?_
   refine wa1 3 rfl ?_
   refine wl_got (γ := Int) (val := fun v => .int .i64 v) (φ := fun v => -2000000000000000 ≤ v ∧ v ≤ 2000000000000000) rfl cb77 rfl rfl rfl rfl (fun wx hm => (odd_any _ _ wx B sb _ hm.k (by omega) (by omega) (by omega) (by omega))) fun v172 hv172 => ?_
   refine wl_nil ?_
   refine nw 15 447 (fun _ hm => ⟨hm.bl 3, hm.fa 0, trivial⟩) fun z => ?_
   refine wa1 6 rfl ?_
   refine wl_got (γ := ByteArray) (val := fun v => .string v) (φ := fun v => v ∈ ([⟨#[118, 49]⟩, ⟨#[110, 111, 110, 101]⟩] : List ByteArray)) rfl cb43 rfl rfl rfl rfl (fun wx hm => (some_any [⟨#[118, 49]⟩, ⟨#[110, 111, 110, 101]⟩] _ _ _ wx B sb _ hm.k (by omega) (by simp) (by simp) (hm.blkI 1 rfl) (hm.neRow 1 rfl rfl))) fun s173 hs173 => ?_
   have zs173 : s173.size ≤ 100 := mem_sz hs173 (by decide)
   refine wl_nil ?_
   refine nw 15 511 (fun _ hm => ⟨hm.bl 3, hm.fa 0, trivial⟩) fun z => ?_
   refine wa1 9 rfl ?_
   refine wl_got (γ := ByteArray) (val := fun v => .string v) (φ := fun v => v ∈ ([⟨#[65, 66, 49]⟩, ⟨#[97, 49]⟩, ⟨#[65]⟩, ⟨#[65, 66, 67, 68, 69, 70, 71, 72, 73, 74, 49]⟩, ⟨#[65, 66, 49]⟩] : List ByteArray)) rfl cb43 rfl rfl rfl rfl (fun wx hm => (some_any [⟨#[65, 66, 49]⟩, ⟨#[97, 49]⟩, ⟨#[65]⟩, ⟨#[65, 66, 67, 68, 69, 70, 71, 72, 73, 74, 49]⟩, ⟨#[65, 66, 49]⟩] _ _ _ wx B sb _ hm.k (by omega) (by simp) (by simp) (hm.blkI 0 rfl) (hm.neRow 0 rfl rfl))) fun s174 hs174 => ?_
   have zs174 : s174.size ≤ 100 := mem_sz hs174 (by decide)
   refine wl_nil ?_
   refine nw 15 1023 (fun _ hm => ⟨hm.bl 3, hm.fa 0, trivial⟩) fun z => ?_
   refine wt 10 15 2047 rfl z (ov_build (cs := [.int .i64 v172, .string s173, .string s174]) rfl (by kernel_rfl)) ?_
   refine wa1 11 rfl ?_
   refine wl_buildSlice (e := 143) (cs := [.int .i64 v172, .string s173, .string s174]) rfl (by kernel_rfl) rfl fun g175 => ?_
   refine wl_nil ?_
   refine nw 15 4095 (fun _ hm => ⟨hm.bl 4, hm.fa 0, trivial⟩) fun z => ?_
   refine wa1 12 rfl ?_
   refine wl_append (news := [.int .i64 v172, .string s173, .string s174]) 2 0 ap29 rfl rfl rfl rfl rfl rfl rfl (by omega) (by unfold maxLen; omega) rfl rfl fun v2 hv2 => ?_
   refine wl_look (R := ∃ A cc, v2 = .slice A (pn + 1) cc) (fun wx hm => own_slice (hm.ownI 2 rfl)) ?_
   rintro ⟨A2, c2, rfl⟩
   have hxs : pl.flatMap plEnc ++ ([.int .i64 v172, .string s173, .string s174] : List Value) = (pl ++ [(⟨v172, s173, s174⟩ : Pl)]).flatMap plEnc := by simp [plEnc]
   rw [hxs]
   refine wl_nil ?_
   refine nw 15 8191 (fun _ hm => ⟨hm.bl 4, hm.fa 0, trivial⟩) fun z => ?_
   refine wt 13 15 16383 rfl z (ov_field fo31_3 rfl rfl) ?_
   refine wa1 14 rfl ?_
   refine wl_store 3 sc29 rfl rfl rfl rfl rfl rfl ?_
   refine wl_nil ?_
   refine nw 15 32767 (fun _ hm => ⟨hm.bl 4, hm.fa 0, trivial⟩) fun z => ?_
   refine wa_done (by kernel_rfl) ?_
   refine nx_blk_nrm (nx_then (sr_ ?_))
   refine wl_ov (ov_loads rz31 rfl (fun _ hm => hm.blkI 3 rfl) rfl rfl) rfl ?_
   refine wl_stores (cs' := [.slice sA sn sc, .slice cA 4 cc, .slice vA vn vc, .slice A2 (pn + 1) c2]) 4 rz31 rfl rfl rfl rfl rfl rfl rfl rfl ?_
   refine nn_ ?_
   refine gw_ret ?_
   refine nx_retc 4 rfl rz31 rfl rfl rfl fun wx hm => ?_
   exact ⟨sA, cA, vA, A2, sn, sc, cc, vn, vc, pn + 1, c2, sl, cl, vl, pl ++ [(⟨v172, s173, s174⟩ : Pl)], rfl, ⟨⟨stB_all hsB, by omega⟩, hcok, ⟨hvB, by omega⟩, all_snoc hpB ⟨⟨by dsimp only; omega, by dsimp only; omega⟩, by dsimp only; omega, by dsimp only; omega⟩, by omega⟩, hm.k.more (by omega), hm.g, SlT.ofOwnL stEnc_lenL (stB_all hsB) (hm.ownI 0 rfl) hsl, (hm.fact 0 rfl), SlT.ofOwn vh_len (hm.ownI 1 rfl) hvl, SlT.ofOwn pl_len (hm.ownI 2 rfl) (by simp [hpl]), own_shape (hm.ownI 2 rfl), own_cap (hm.ownI 2 rfl)⟩
  refine wl_got (γ := Int) (val := fun v => .int .i64 v) (φ := fun v => -2000000000000000 ≤ v ∧ v ≤ 2000000000000000) rfl cb77 rfl rfl rfl rfl (fun wx hm => (odd_any _ _ wx B sb _ hm.k (by omega) (by omega) (by omega) (by omega))) fun v176 hv176 => ?_
  refine wl_nil ?_
  refine nw 15 445 (fun _ hm => ⟨hm.bl 3, hm.fa 0, trivial⟩) fun z => ?_
  refine wa_all [1, 6] (by kernel_rfl) rfl ⟨⟨_, rfl, ?_⟩, ⟨_, rfl, ?_⟩, trivial⟩
  ·refine lk_ sc29 2 rfl rfl rfl (wl_nil ?_)
   refine nw 15 447 (fun _ hm => ⟨hm.bl 3, hm.fa 0, trivial⟩) fun z => ?_
   refine wa1 6 rfl ?_
   refine wl_got (γ := ByteArray) (val := fun v => .string v) (φ := fun v => v ∈ ([⟨#[118, 49]⟩, ⟨#[110, 111, 110, 101]⟩] : List ByteArray)) rfl cb43 rfl rfl rfl rfl (fun wx hm => (some_any [⟨#[118, 49]⟩, ⟨#[110, 111, 110, 101]⟩] _ _ _ wx B sb _ hm.k (by omega) (by simp) (by simp) (hm.blkI 1 rfl) (hm.neRow 1 rfl rfl))) fun s177 hs177 => ?_
   have zs177 : s177.size ≤ 100 := mem_sz hs177 (by decide)
   refine wl_nil ?_
   refine nw 15 511 (fun _ hm => ⟨hm.bl 3, hm.fa 0, trivial⟩) fun z => ?_
   refine wa1 9 rfl ?_
   refine wl_got (γ := ByteArray) (val := fun v => .string v) (φ := fun v => v ∈ ([⟨#[65, 66, 49]⟩, ⟨#[97, 49]⟩, ⟨#[65]⟩, ⟨#[65, 66, 67, 68, 69, 70, 71, 72, 73, 74, 49]⟩, ⟨#[65, 66, 49]⟩] : List ByteArray)) rfl cb43 rfl rfl rfl rfl (fun wx hm => (some_any [⟨#[65, 66, 49]⟩, ⟨#[97, 49]⟩, ⟨#[65]⟩, ⟨#[65, 66, 67, 68, 69, 70, 71, 72, 73, 74, 49]⟩, ⟨#[65, 66, 49]⟩] _ _ _ wx B sb _ hm.k (by omega) (by simp) (by simp) (hm.blkI 0 rfl) (hm.neRow 0 rfl rfl))) fun s178 hs178 => ?_
   have zs178 : s178.size ≤ 100 := mem_sz hs178 (by decide)
   refine wl_nil ?_
   refine nw 15 1023 (fun _ hm => ⟨hm.bl 3, hm.fa 0, trivial⟩) fun z => ?_
   refine wt 10 15 2047 rfl z (ov_build (cs := [.int .i64 v176, .string s177, .string s178]) rfl (by kernel_rfl)) ?_
   refine wa1 11 rfl ?_
   refine wl_buildSlice (e := 143) (cs := [.int .i64 v176, .string s177, .string s178]) rfl (by kernel_rfl) rfl fun g179 => ?_
   refine wl_nil ?_
   refine nw 15 4095 (fun _ hm => ⟨hm.bl 4, hm.fa 0, trivial⟩) fun z => ?_
   refine wa1 12 rfl ?_
   refine wl_append (news := [.int .i64 v176, .string s177, .string s178]) 2 0 ap29 rfl rfl rfl rfl rfl rfl rfl (by omega) (by unfold maxLen; omega) rfl rfl fun v2 hv2 => ?_
   refine wl_look (R := ∃ A cc, v2 = .slice A (pn + 1) cc) (fun wx hm => own_slice (hm.ownI 2 rfl)) ?_
   rintro ⟨A2, c2, rfl⟩
   have hxs : pl.flatMap plEnc ++ ([.int .i64 v176, .string s177, .string s178] : List Value) = (pl ++ [(⟨v176, s177, s178⟩ : Pl)]).flatMap plEnc := by simp [plEnc]
   rw [hxs]
   refine wl_nil ?_
   refine nw 15 8191 (fun _ hm => ⟨hm.bl 4, hm.fa 0, trivial⟩) fun z => ?_
   refine wt 13 15 16383 rfl z (ov_field fo31_3 rfl rfl) ?_
   refine wa1 14 rfl ?_
   refine wl_store 3 sc29 rfl rfl rfl rfl rfl rfl ?_
   refine wl_nil ?_
   refine nw 15 32767 (fun _ hm => ⟨hm.bl 4, hm.fa 0, trivial⟩) fun z => ?_
   refine wa_done (by kernel_rfl) ?_
   refine nx_blk_nrm (nx_then (sr_ ?_))
   refine wl_ov (ov_loads rz31 rfl (fun _ hm => hm.blkI 3 rfl) rfl rfl) rfl ?_
   refine wl_stores (cs' := [.slice sA sn sc, .slice cA 4 cc, .slice vA vn vc, .slice A2 (pn + 1) c2]) 4 rz31 rfl rfl rfl rfl rfl rfl rfl rfl ?_
   refine nn_ ?_
   refine gw_ret ?_
   refine nx_retc 4 rfl rz31 rfl rfl rfl fun wx hm => ?_
   exact ⟨sA, cA, vA, A2, sn, sc, cc, vn, vc, pn + 1, c2, sl, cl, vl, pl ++ [(⟨v176, s177, s178⟩ : Pl)], rfl, ⟨⟨stB_all hsB, by omega⟩, hcok, ⟨hvB, by omega⟩, all_snoc hpB ⟨⟨by dsimp only; omega, by dsimp only; omega⟩, by dsimp only; omega, by dsimp only; omega⟩, by omega⟩, hm.k.more (by omega), hm.g, SlT.ofOwnL stEnc_lenL (stB_all hsB) (hm.ownI 0 rfl) hsl, (hm.fact 0 rfl), SlT.ofOwn vh_len (hm.ownI 1 rfl) hvl, SlT.ofOwn pl_len (hm.ownI 2 rfl) (by simp [hpl]), own_shape (hm.ownI 2 rfl), own_cap (hm.ownI 2 rfl)⟩
  refine wl_got (γ := ByteArray) (val := fun v => .string v) (φ := fun v => v ∈ ([⟨#[118, 49]⟩, ⟨#[110, 111, 110, 101]⟩] : List ByteArray)) rfl cb43 rfl rfl rfl rfl (fun wx hm => (some_any [⟨#[118, 49]⟩, ⟨#[110, 111, 110, 101]⟩] _ _ _ wx B sb _ hm.k (by omega) (by simp) (by simp) (hm.blkI 1 rfl) (hm.neRow 1 rfl rfl))) fun s180 hs180 => ?_
  have zs180 : s180.size ≤ 100 := mem_sz hs180 (by decide)
  refine wl_nil ?_
  refine nw 15 509 (fun _ hm => ⟨hm.bl 3, hm.fa 0, trivial⟩) fun z => ?_
  refine wa_all [1, 9] (by kernel_rfl) rfl ⟨⟨_, rfl, ?_⟩, ⟨_, rfl, ?_⟩, trivial⟩
  ·refine lk_ sc29 2 rfl rfl rfl (wl_nil ?_)
   refine nw 15 511 (fun _ hm => ⟨hm.bl 3, hm.fa 0, trivial⟩) fun z => ?_
   refine wa1 9 rfl ?_
   refine wl_got (γ := ByteArray) (val := fun v => .string v) (φ := fun v => v ∈ ([⟨#[65, 66, 49]⟩, ⟨#[97, 49]⟩, ⟨#[65]⟩, ⟨#[65, 66, 67, 68, 69, 70, 71, 72, 73, 74, 49]⟩, ⟨#[65, 66, 49]⟩] : List ByteArray)) rfl cb43 rfl rfl rfl rfl (fun wx hm => (some_any [⟨#[65, 66, 49]⟩, ⟨#[97, 49]⟩, ⟨#[65]⟩, ⟨#[65, 66, 67, 68, 69, 70, 71, 72, 73, 74, 49]⟩, ⟨#[65, 66, 49]⟩] _ _ _ wx B sb _ hm.k (by omega) (by simp) (by simp) (hm.blkI 0 rfl) (hm.neRow 0 rfl rfl))) fun s181 hs181 => ?_
   have zs181 : s181.size ≤ 100 := mem_sz hs181 (by decide)
   refine wl_nil ?_
   refine nw 15 1023 (fun _ hm => ⟨hm.bl 3, hm.fa 0, trivial⟩) fun z => ?_
   refine wt 10 15 2047 rfl z (ov_build (cs := [.int .i64 v176, .string s180, .string s181]) rfl (by kernel_rfl)) ?_
   refine wa1 11 rfl ?_
   refine wl_buildSlice (e := 143) (cs := [.int .i64 v176, .string s180, .string s181]) rfl (by kernel_rfl) rfl fun g182 => ?_
   refine wl_nil ?_
   refine nw 15 4095 (fun _ hm => ⟨hm.bl 4, hm.fa 0, trivial⟩) fun z => ?_
   refine wa1 12 rfl ?_
   refine wl_append (news := [.int .i64 v176, .string s180, .string s181]) 2 0 ap29 rfl rfl rfl rfl rfl rfl rfl (by omega) (by unfold maxLen; omega) rfl rfl fun v2 hv2 => ?_
   refine wl_look (R := ∃ A cc, v2 = .slice A (pn + 1) cc) (fun wx hm => own_slice (hm.ownI 2 rfl)) ?_
   rintro ⟨A2, c2, rfl⟩
   have hxs : pl.flatMap plEnc ++ ([.int .i64 v176, .string s180, .string s181] : List Value) = (pl ++ [(⟨v176, s180, s181⟩ : Pl)]).flatMap plEnc := by simp [plEnc]
   rw [hxs]
   refine wl_nil ?_
   refine nw 15 8191 (fun _ hm => ⟨hm.bl 4, hm.fa 0, trivial⟩) fun z => ?_
   refine wt 13 15 16383 rfl z (ov_field fo31_3 rfl rfl) ?_
   refine wa1 14 rfl ?_
   refine wl_store 3 sc29 rfl rfl rfl rfl rfl rfl ?_
   refine wl_nil ?_
   refine nw 15 32767 (fun _ hm => ⟨hm.bl 4, hm.fa 0, trivial⟩) fun z => ?_
   refine wa_done (by kernel_rfl) ?_
   refine nx_blk_nrm (nx_then (sr_ ?_))
   refine wl_ov (ov_loads rz31 rfl (fun _ hm => hm.blkI 3 rfl) rfl rfl) rfl ?_
   refine wl_stores (cs' := [.slice sA sn sc, .slice cA 4 cc, .slice vA vn vc, .slice A2 (pn + 1) c2]) 4 rz31 rfl rfl rfl rfl rfl rfl rfl rfl ?_
   refine nn_ ?_
   refine gw_ret ?_
   refine nx_retc 4 rfl rz31 rfl rfl rfl fun wx hm => ?_
   exact ⟨sA, cA, vA, A2, sn, sc, cc, vn, vc, pn + 1, c2, sl, cl, vl, pl ++ [(⟨v176, s180, s181⟩ : Pl)], rfl, ⟨⟨stB_all hsB, by omega⟩, hcok, ⟨hvB, by omega⟩, all_snoc hpB ⟨⟨by dsimp only; omega, by dsimp only; omega⟩, by dsimp only; omega, by dsimp only; omega⟩, by omega⟩, hm.k.more (by omega), hm.g, SlT.ofOwnL stEnc_lenL (stB_all hsB) (hm.ownI 0 rfl) hsl, (hm.fact 0 rfl), SlT.ofOwn vh_len (hm.ownI 1 rfl) hvl, SlT.ofOwn pl_len (hm.ownI 2 rfl) (by simp [hpl]), own_shape (hm.ownI 2 rfl), own_cap (hm.ownI 2 rfl)⟩
  refine wl_got (γ := ByteArray) (val := fun v => .string v) (φ := fun v => v ∈ ([⟨#[65, 66, 49]⟩, ⟨#[97, 49]⟩, ⟨#[65]⟩, ⟨#[65, 66, 67, 68, 69, 70, 71, 72, 73, 74, 49]⟩, ⟨#[65, 66, 49]⟩] : List ByteArray)) rfl cb43 rfl rfl rfl rfl (fun wx hm => (some_any [⟨#[65, 66, 49]⟩, ⟨#[97, 49]⟩, ⟨#[65]⟩, ⟨#[65, 66, 67, 68, 69, 70, 71, 72, 73, 74, 49]⟩, ⟨#[65, 66, 49]⟩] _ _ _ wx B sb _ hm.k (by omega) (by simp) (by simp) (hm.blkI 0 rfl) (hm.neRow 0 rfl rfl))) fun s183 hs183 => ?_
  have zs183 : s183.size ≤ 100 := mem_sz hs183 (by decide)
  refine wl_nil ?_
  refine nw 15 1021 (fun _ hm => ⟨hm.bl 3, hm.fa 0, trivial⟩) fun z => ?_
  refine wt 10 15 2045 rfl z (ov_build (cs := [.int .i64 v176, .string s180, .string s183]) rfl (by kernel_rfl)) ?_
  refine wa_all [1, 11] (by kernel_rfl) rfl ⟨⟨_, rfl, ?_⟩, ⟨_, rfl, ?_⟩, trivial⟩
  ·refine lk_ sc29 2 rfl rfl rfl (wl_nil ?_)
   refine nw 15 2047 (fun _ hm => ⟨hm.bl 3, hm.fa 0, trivial⟩) fun z => ?_
   refine wa1 11 rfl ?_
   refine wl_buildSlice (e := 143) (cs := [.int .i64 v176, .string s180, .string s183]) rfl (by kernel_rfl) rfl fun g184 => ?_
   refine wl_nil ?_
   refine nw 15 4095 (fun _ hm => ⟨hm.bl 4, hm.fa 0, trivial⟩) fun z => ?_
   refine wa1 12 rfl ?_
   refine wl_append (news := [.int .i64 v176, .string s180, .string s183]) 2 0 ap29 rfl rfl rfl rfl rfl rfl rfl (by omega) (by unfold maxLen; omega) rfl rfl fun v2 hv2 => ?_
   refine wl_look (R := ∃ A cc, v2 = .slice A (pn + 1) cc) (fun wx hm => own_slice (hm.ownI 2 rfl)) ?_
   rintro ⟨A2, c2, rfl⟩
   have hxs : pl.flatMap plEnc ++ ([.int .i64 v176, .string s180, .string s183] : List Value) = (pl ++ [(⟨v176, s180, s183⟩ : Pl)]).flatMap plEnc := by simp [plEnc]
   rw [hxs]
   refine wl_nil ?_
   refine nw 15 8191 (fun _ hm => ⟨hm.bl 4, hm.fa 0, trivial⟩) fun z => ?_
   refine wt 13 15 16383 rfl z (ov_field fo31_3 rfl rfl) ?_
   refine wa1 14 rfl ?_
   refine wl_store 3 sc29 rfl rfl rfl rfl rfl rfl ?_
   refine wl_nil ?_
   refine nw 15 32767 (fun _ hm => ⟨hm.bl 4, hm.fa 0, trivial⟩) fun z => ?_
   refine wa_done (by kernel_rfl) ?_
   refine nx_blk_nrm (nx_then (sr_ ?_))
   refine wl_ov (ov_loads rz31 rfl (fun _ hm => hm.blkI 3 rfl) rfl rfl) rfl ?_
   refine wl_stores (cs' := [.slice sA sn sc, .slice cA 4 cc, .slice vA vn vc, .slice A2 (pn + 1) c2]) 4 rz31 rfl rfl rfl rfl rfl rfl rfl rfl ?_
   refine nn_ ?_
   refine gw_ret ?_
   refine nx_retc 4 rfl rz31 rfl rfl rfl fun wx hm => ?_
   exact ⟨sA, cA, vA, A2, sn, sc, cc, vn, vc, pn + 1, c2, sl, cl, vl, pl ++ [(⟨v176, s180, s183⟩ : Pl)], rfl, ⟨⟨stB_all hsB, by omega⟩, hcok, ⟨hvB, by omega⟩, all_snoc hpB ⟨⟨by dsimp only; omega, by dsimp only; omega⟩, by dsimp only; omega, by dsimp only; omega⟩, by omega⟩, hm.k.more (by omega), hm.g, SlT.ofOwnL stEnc_lenL (stB_all hsB) (hm.ownI 0 rfl) hsl, (hm.fact 0 rfl), SlT.ofOwn vh_len (hm.ownI 1 rfl) hvl, SlT.ofOwn pl_len (hm.ownI 2 rfl) (by simp [hpl]), own_shape (hm.ownI 2 rfl), own_cap (hm.ownI 2 rfl)⟩
  refine wl_buildSlice (e := 143) (cs := [.int .i64 v176, .string s180, .string s183]) rfl (by kernel_rfl) rfl fun g185 => ?_
  refine wl_nil ?_
  refine nw 15 4093 (fun _ hm => ⟨hm.bl 4, hm.fa 0, trivial⟩) fun z => ?_
  refine wa1 1 rfl ?_
  refine lk_ sc29 3 rfl rfl rfl (wl_nil ?_)
  refine nw 15 4095 (fun _ hm => ⟨hm.bl 4, hm.fa 0, trivial⟩) fun z => ?_
  refine wa1 12 rfl ?_
  refine wl_append (news := [.int .i64 v176, .string s180, .string s183]) 2 0 ap29 rfl rfl rfl rfl rfl rfl rfl (by omega) (by unfold maxLen; omega) rfl rfl fun v2 hv2 => ?_
  refine wl_look (R := ∃ A cc, v2 = .slice A (pn + 1) cc) (fun wx hm => own_slice (hm.ownI 2 rfl)) ?_
  rintro ⟨A2, c2, rfl⟩
  have hxs : pl.flatMap plEnc ++ ([.int .i64 v176, .string s180, .string s183] : List Value) = (pl ++ [(⟨v176, s180, s183⟩ : Pl)]).flatMap plEnc := by simp [plEnc]
  rw [hxs]
  refine wl_nil ?_
  refine nw 15 8191 (fun _ hm => ⟨hm.bl 4, hm.fa 0, trivial⟩) fun z => ?_
  refine wt 13 15 16383 rfl z (ov_field fo31_3 rfl rfl) ?_
  refine wa1 14 rfl ?_
  refine wl_store 3 sc29 rfl rfl rfl rfl rfl rfl ?_
  refine wl_nil ?_
  refine nw 15 32767 (fun _ hm => ⟨hm.bl 4, hm.fa 0, trivial⟩) fun z => ?_
  refine wa_done (by kernel_rfl) ?_
  refine nx_blk_nrm (nx_then (sr_ ?_))
  refine wl_ov (ov_loads rz31 rfl (fun _ hm => hm.blkI 3 rfl) rfl rfl) rfl ?_
  refine wl_stores (cs' := [.slice sA sn sc, .slice cA 4 cc, .slice vA vn vc, .slice A2 (pn + 1) c2]) 4 rz31 rfl rfl rfl rfl rfl rfl rfl rfl ?_
  refine nn_ ?_
  refine gw_ret ?_
  refine nx_retc 4 rfl rz31 rfl rfl rfl fun wx hm => ?_
  exact ⟨sA, cA, vA, A2, sn, sc, cc, vn, vc, pn + 1, c2, sl, cl, vl, pl ++ [(⟨v176, s180, s183⟩ : Pl)], rfl, ⟨⟨stB_all hsB, by omega⟩, hcok, ⟨hvB, by omega⟩, all_snoc hpB ⟨⟨by dsimp only; omega, by dsimp only; omega⟩, by dsimp only; omega, by dsimp only; omega⟩, by omega⟩, hm.k.more (by omega), hm.g, SlT.ofOwnL stEnc_lenL (stB_all hsB) (hm.ownI 0 rfl) hsl, (hm.fact 0 rfl), SlT.ofOwn vh_len (hm.ownI 1 rfl) hvl, SlT.ofOwn pl_len (hm.ownI 2 rfl) (by simp [hpl]), own_shape (hm.ownI 2 rfl), own_cap (hm.ownI 2 rfl)⟩
 refine wl_buildSlice (e := 9) (cs := [.string ⟨#[65, 66, 49]⟩, .string ⟨#[97, 49]⟩, .string ⟨#[65]⟩, .string ⟨#[65, 66, 67, 68, 69, 70, 71, 72, 73, 74, 49]⟩, .string ⟨#[65, 66, 49]⟩]) rfl (by kernel_rfl) rfl fun g186 => ?_
 refine wl_nil ?_
 refine nw 15 405 (fun _ hm => ⟨hm.bl 2, hm.fa 0, trivial⟩) fun z => ?_
 refine wa_all [1, 3, 5] (by kernel_rfl) rfl ⟨⟨_, rfl, ?_⟩, ⟨_, rfl, ?_⟩, ⟨_, rfl, ?_⟩, trivial⟩
 ·refine lk_ sc29 1 rfl rfl rfl (wl_nil ?_)
  refine nw 15 407 (fun _ hm => ⟨hm.bl 2, hm.fa 0, trivial⟩) fun z => ?_
  refine wa_all [3, 5] (by kernel_rfl) rfl ⟨⟨_, rfl, ?_⟩, ⟨_, rfl, ?_⟩, trivial⟩
  ·refine wl_got (γ := Int) (val := fun v => .int .i64 v) (φ := fun v => -2000000000000000 ≤ v ∧ v ≤ 2000000000000000) rfl cb77 rfl rfl rfl rfl (fun wx hm => (odd_any _ _ wx B sb _ hm.k (by omega) (by omega) (by omega) (by omega))) fun v187 hv187 => ?_
   refine wl_nil ?_
   refine nw 15 415 (fun _ hm => ⟨hm.bl 2, hm.fa 0, trivial⟩) fun z => ?_
   refine wa1 5 rfl ?_
   refine wl_buildSlice (e := 9) (cs := [.string ⟨#[118, 49]⟩, .string ⟨#[110, 111, 110, 101]⟩]) rfl (by kernel_rfl) rfl fun g188 => ?_
   refine wl_nil ?_
   refine nw 15 447 (fun _ hm => ⟨hm.bl 3, hm.fa 0, trivial⟩) fun z => ?_
   refine wa1 6 rfl ?_
   refine wl_got (γ := ByteArray) (val := fun v => .string v) (φ := fun v => v ∈ ([⟨#[118, 49]⟩, ⟨#[110, 111, 110, 101]⟩] : List ByteArray)) rfl cb43 rfl rfl rfl rfl (fun wx hm => (some_any [⟨#[118, 49]⟩, ⟨#[110, 111, 110, 101]⟩] _ _ _ wx B sb _ hm.k (by omega) (by simp) (by simp) (hm.blkI 0 rfl) (hm.neRow 0 rfl rfl))) fun s189 hs189 => ?_
   have zs189 : s189.size ≤ 100 := mem_sz hs189 (by decide)
   refine wl_nil ?_
   refine nw 15 511 (fun _ hm => ⟨hm.bl 3, hm.fa 0, trivial⟩) fun z => ?_
   refine wa1 9 rfl ?_
   refine wl_got (γ := ByteArray) (val := fun v => .string v) (φ := fun v => v ∈ ([⟨#[65, 66, 49]⟩, ⟨#[97, 49]⟩, ⟨#[65]⟩, ⟨#[65, 66, 67, 68, 69, 70, 71, 72, 73, 74, 49]⟩, ⟨#[65, 66, 49]⟩] : List ByteArray)) rfl cb43 rfl rfl rfl rfl (fun wx hm => (some_any [⟨#[65, 66, 49]⟩, ⟨#[97, 49]⟩, ⟨#[65]⟩, ⟨#[65, 66, 67, 68, 69, 70, 71, 72, 73, 74, 49]⟩, ⟨#[65, 66, 49]⟩] _ _ _ wx B sb _ hm.k (by omega) (by simp) (by simp) (hm.blkI 1 rfl) (hm.neRow 1 rfl rfl))) fun s190 hs190 => ?_
   have zs190 : s190.size ≤ 100 := mem_sz hs190 (by decide)
   refine wl_nil ?_
   refine nw 15 1023 (fun _ hm => ⟨hm.bl 3, hm.fa 0, trivial⟩) fun z => ?_
   refine wt 10 15 2047 rfl z (ov_build (cs := [.int .i64 v187, .string s189, .string s190]) rfl (by kernel_rfl)) ?_
   refine wa1 11 rfl ?_
   refine wl_buildSlice (e := 143) (cs := [.int .i64 v187, .string s189, .string s190]) rfl (by kernel_rfl) rfl fun g191 => ?_
   refine wl_nil ?_
   refine nw 15 4095 (fun _ hm => ⟨hm.bl 4, hm.fa 0, trivial⟩) fun z => ?_
   refine wa1 12 rfl ?_
   refine wl_append (news := [.int .i64 v187, .string s189, .string s190]) 2 0 ap29 rfl rfl rfl rfl rfl rfl rfl (by omega) (by unfold maxLen; omega) rfl rfl fun v2 hv2 => ?_
   refine wl_look (R := ∃ A cc, v2 = .slice A (pn + 1) cc) (fun wx hm => own_slice (hm.ownI 2 rfl)) ?_
   rintro ⟨A2, c2, rfl⟩
   have hxs : pl.flatMap plEnc ++ ([.int .i64 v187, .string s189, .string s190] : List Value) = (pl ++ [(⟨v187, s189, s190⟩ : Pl)]).flatMap plEnc := by simp [plEnc]
   rw [hxs]
   refine wl_nil ?_
   refine nw 15 8191 (fun _ hm => ⟨hm.bl 4, hm.fa 0, trivial⟩) fun z => ?_
   refine wt 13 15 16383 rfl z (ov_field fo31_3 rfl rfl) ?_
   refine wa1 14 rfl ?_
   refine wl_store 3 sc29 rfl rfl rfl rfl rfl rfl ?_
   refine wl_nil ?_
   refine nw 15 32767 (fun _ hm => ⟨hm.bl 4, hm.fa 0, trivial⟩) fun z => ?_
   refine wa_done (by kernel_rfl) ?_
   refine nx_blk_nrm (nx_then (sr_ ?_))
   refine wl_ov (ov_loads rz31 rfl (fun _ hm => hm.blkI 3 rfl) rfl rfl) rfl ?_
   refine wl_stores (cs' := [.slice sA sn sc, .slice cA 4 cc, .slice vA vn vc, .slice A2 (pn + 1) c2]) 4 rz31 rfl rfl rfl rfl rfl rfl rfl rfl ?_
   refine nn_ ?_
   refine gw_ret ?_
   refine nx_retc 4 rfl rz31 rfl rfl rfl fun wx hm => ?_
   exact ⟨sA, cA, vA, A2, sn, sc, cc, vn, vc, pn + 1, c2, sl, cl, vl, pl ++ [(⟨v187, s189, s190⟩ : Pl)], rfl, ⟨⟨stB_all hsB, by omega⟩, hcok, ⟨hvB, by omega⟩, all_snoc hpB ⟨⟨by dsimp only; omega, by dsimp only; omega⟩, by dsimp only; omega, by dsimp only; omega⟩, by omega⟩, hm.k.more (by omega), hm.g, SlT.ofOwnL stEnc_lenL (stB_all hsB) (hm.ownI 0 rfl) hsl, (hm.fact 0 rfl), SlT.ofOwn vh_len (hm.ownI 1 rfl) hvl, SlT.ofOwn pl_len (hm.ownI 2 rfl) (by simp [hpl]), own_shape (hm.ownI 2 rfl), own_cap (hm.ownI 2 rfl)⟩
  refine wl_buildSlice (e := 9) (cs := [.string ⟨#[118, 49]⟩, .string ⟨#[110, 111, 110, 101]⟩]) rfl (by kernel_rfl) rfl fun g192 => ?_
  refine wl_nil ?_
  refine nw 15 439 (fun _ hm => ⟨hm.bl 3, hm.fa 0, trivial⟩) fun z => ?_
  refine wa1 3 rfl ?_
  refine wl_got (γ := Int) (val := fun v => .int .i64 v) (φ := fun v => -2000000000000000 ≤ v ∧ v ≤ 2000000000000000) rfl cb77 rfl rfl rfl rfl (fun wx hm => (odd_any _ _ wx B sb _ hm.k (by omega) (by omega) (by omega) (by omega))) fun v193 hv193 => ?_
  refine wl_nil ?_
  refine nw 15 447 (fun _ hm => ⟨hm.bl 3, hm.fa 0, trivial⟩) fun z => ?_
  refine wa1 6 rfl ?_
  refine wl_got (γ := ByteArray) (val := fun v => .string v) (φ := fun v => v ∈ ([⟨#[118, 49]⟩, ⟨#[110, 111, 110, 101]⟩] : List ByteArray)) rfl cb43 rfl rfl rfl rfl (fun wx hm => (some_any [⟨#[118, 49]⟩, ⟨#[110, 111, 110, 101]⟩] _ _ _ wx B sb _ hm.k (by omega) (by simp) (by simp) (hm.blkI 0 rfl) (hm.neRow 0 rfl rfl))) fun s194 hs194 => ?_
  have zs194 : s194.size ≤ 100 := mem_sz hs194 (by decide)
  refine wl_nil ?_
  refine nw 15 511 (fun _ hm => ⟨hm.bl 3, hm.fa 0, trivial⟩) fun z => ?_
  refine wa1 9 rfl ?_
  refine wl_got (γ := ByteArray) (val := fun v => .string v) (φ := fun v => v ∈ ([⟨#[65, 66, 49]⟩, ⟨#[97, 49]⟩, ⟨#[65]⟩, ⟨#[65, 66, 67, 68, 69, 70, 71, 72, 73, 74, 49]⟩, ⟨#[65, 66, 49]⟩] : List ByteArray)) rfl cb43 rfl rfl rfl rfl (fun wx hm => (some_any [⟨#[65, 66, 49]⟩, ⟨#[97, 49]⟩, ⟨#[65]⟩, ⟨#[65, 66, 67, 68, 69, 70, 71, 72, 73, 74, 49]⟩, ⟨#[65, 66, 49]⟩] _ _ _ wx B sb _ hm.k (by omega) (by simp) (by simp) (hm.blkI 1 rfl) (hm.neRow 1 rfl rfl))) fun s195 hs195 => ?_
  have zs195 : s195.size ≤ 100 := mem_sz hs195 (by decide)
  refine wl_nil ?_
  refine nw 15 1023 (fun _ hm => ⟨hm.bl 3, hm.fa 0, trivial⟩) fun z => ?_
  refine wt 10 15 2047 rfl z (ov_build (cs := [.int .i64 v193, .string s194, .string s195]) rfl (by kernel_rfl)) ?_
  refine wa1 11 rfl ?_
  refine wl_buildSlice (e := 143) (cs := [.int .i64 v193, .string s194, .string s195]) rfl (by kernel_rfl) rfl fun g196 => ?_
  refine wl_nil ?_
  refine nw 15 4095 (fun _ hm => ⟨hm.bl 4, hm.fa 0, trivial⟩) fun z => ?_
  refine wa1 12 rfl ?_
  refine wl_append (news := [.int .i64 v193, .string s194, .string s195]) 2 0 ap29 rfl rfl rfl rfl rfl rfl rfl (by omega) (by unfold maxLen; omega) rfl rfl fun v2 hv2 => ?_
  refine wl_look (R := ∃ A cc, v2 = .slice A (pn + 1) cc) (fun wx hm => own_slice (hm.ownI 2 rfl)) ?_
  rintro ⟨A2, c2, rfl⟩
  have hxs : pl.flatMap plEnc ++ ([.int .i64 v193, .string s194, .string s195] : List Value) = (pl ++ [(⟨v193, s194, s195⟩ : Pl)]).flatMap plEnc := by simp [plEnc]
  rw [hxs]
  refine wl_nil ?_
  refine nw 15 8191 (fun _ hm => ⟨hm.bl 4, hm.fa 0, trivial⟩) fun z => ?_
  refine wt 13 15 16383 rfl z (ov_field fo31_3 rfl rfl) ?_
  refine wa1 14 rfl ?_
  refine wl_store 3 sc29 rfl rfl rfl rfl rfl rfl ?_
  refine wl_nil ?_
  refine nw 15 32767 (fun _ hm => ⟨hm.bl 4, hm.fa 0, trivial⟩) fun z => ?_
  refine wa_done (by kernel_rfl) ?_
  refine nx_blk_nrm (nx_then (sr_ ?_))
  refine wl_ov (ov_loads rz31 rfl (fun _ hm => hm.blkI 3 rfl) rfl rfl) rfl ?_
  refine wl_stores (cs' := [.slice sA sn sc, .slice cA 4 cc, .slice vA vn vc, .slice A2 (pn + 1) c2]) 4 rz31 rfl rfl rfl rfl rfl rfl rfl rfl ?_
  refine nn_ ?_
  refine gw_ret ?_
  refine nx_retc 4 rfl rz31 rfl rfl rfl fun wx hm => ?_
  exact ⟨sA, cA, vA, A2, sn, sc, cc, vn, vc, pn + 1, c2, sl, cl, vl, pl ++ [(⟨v193, s194, s195⟩ : Pl)], rfl, ⟨⟨stB_all hsB, by omega⟩, hcok, ⟨hvB, by omega⟩, all_snoc hpB ⟨⟨by dsimp only; omega, by dsimp only; omega⟩, by dsimp only; omega, by dsimp only; omega⟩, by omega⟩, hm.k.more (by omega), hm.g, SlT.ofOwnL stEnc_lenL (stB_all hsB) (hm.ownI 0 rfl) hsl, (hm.fact 0 rfl), SlT.ofOwn vh_len (hm.ownI 1 rfl) hvl, SlT.ofOwn pl_len (hm.ownI 2 rfl) (by simp [hpl]), own_shape (hm.ownI 2 rfl), own_cap (hm.ownI 2 rfl)⟩
 ·refine wl_got (γ := Int) (val := fun v => .int .i64 v) (φ := fun v => -2000000000000000 ≤ v ∧ v ≤ 2000000000000000) rfl cb77 rfl rfl rfl rfl (fun wx hm => (odd_any _ _ wx B sb _ hm.k (by omega) (by omega) (by omega) (by omega))) fun v197 hv197 => ?_
  refine wl_nil ?_
  refine nw 15 413 (fun _ hm => ⟨hm.bl 2, hm.fa 0, trivial⟩) fun z => ?_
  refine wa_all [1, 5] (by kernel_rfl) rfl ⟨⟨_, rfl, ?_⟩, ⟨_, rfl, ?_⟩, trivial⟩
  ·refine lk_ sc29 1 rfl rfl rfl (wl_nil ?_)
   refine nw 15 415 (fun _ hm => ⟨hm.bl 2, hm.fa 0, trivial⟩) fun z => ?_
   refine wa1 5 rfl ?_
   refine wl_buildSlice (e := 9) (cs := [.string ⟨#[118, 49]⟩, .string ⟨#[110, 111, 110, 101]⟩]) rfl (by kernel_rfl) rfl fun g198 => ?_
   refine wl_nil ?_
   refine nw 15 447 (fun _ hm => ⟨hm.bl 3, hm.fa 0, trivial⟩) fun z => ?_
   refine wa1 6 rfl ?_
   refine wl_got (γ := ByteArray) (val := fun v => .string v) (φ := fun v => v ∈ ([⟨#[118, 49]⟩, ⟨#[110, 111, 110, 101]⟩] : List ByteArray)) rfl cb43 rfl rfl rfl rfl (fun wx hm => (some_any [⟨#[118, 49]⟩, ⟨#[110, 111, 110, 101]⟩] _ _ _ wx B sb _ hm.k (by omega) (by simp) (by simp) (hm.blkI 0 rfl) (hm.neRow 0 rfl rfl))) fun s199 hs199 => ?_
   have zs199 : s199.size ≤ 100 := mem_sz hs199 (by decide)
   refine wl_nil ?_
   refine nw 15 511 (fun _ hm => ⟨hm.bl 3, hm.fa 0, trivial⟩) fun z => ?_
   refine wa1 9 rfl ?_
   refine wl_got (γ := ByteArray) (val := fun v => .string v) (φ := fun v => v ∈ ([⟨#[65, 66, 49]⟩, ⟨#[97, 49]⟩, ⟨#[65]⟩, ⟨#[65, 66, 67, 68, 69, 70, 71, 72, 73, 74, 49]⟩, ⟨#[65, 66, 49]⟩] : List ByteArray)) rfl cb43 rfl rfl rfl rfl (fun wx hm => (some_any [⟨#[65, 66, 49]⟩, ⟨#[97, 49]⟩, ⟨#[65]⟩, ⟨#[65, 66, 67, 68, 69, 70, 71, 72, 73, 74, 49]⟩, ⟨#[65, 66, 49]⟩] _ _ _ wx B sb _ hm.k (by omega) (by simp) (by simp) (hm.blkI 1 rfl) (hm.neRow 1 rfl rfl))) fun s200 hs200 => ?_
   have zs200 : s200.size ≤ 100 := mem_sz hs200 (by decide)
   refine wl_nil ?_
   refine nw 15 1023 (fun _ hm => ⟨hm.bl 3, hm.fa 0, trivial⟩) fun z => ?_
   refine wt 10 15 2047 rfl z (ov_build (cs := [.int .i64 v197, .string s199, .string s200]) rfl (by kernel_rfl)) ?_
   refine wa1 11 rfl ?_
   refine wl_buildSlice (e := 143) (cs := [.int .i64 v197, .string s199, .string s200]) rfl (by kernel_rfl) rfl fun g201 => ?_
   refine wl_nil ?_
   refine nw 15 4095 (fun _ hm => ⟨hm.bl 4, hm.fa 0, trivial⟩) fun z => ?_
   refine wa1 12 rfl ?_
   refine wl_append (news := [.int .i64 v197, .string s199, .string s200]) 2 0 ap29 rfl rfl rfl rfl rfl rfl rfl (by omega) (by unfold maxLen; omega) rfl rfl fun v2 hv2 => ?_
   refine wl_look (R := ∃ A cc, v2 = .slice A (pn + 1) cc) (fun wx hm => own_slice (hm.ownI 2 rfl)) ?_
   rintro ⟨A2, c2, rfl⟩
   have hxs : pl.flatMap plEnc ++ ([.int .i64 v197, .string s199, .string s200] : List Value) = (pl ++ [(⟨v197, s199, s200⟩ : Pl)]).flatMap plEnc := by simp [plEnc]
   rw [hxs]
   refine wl_nil ?_
   refine nw 15 8191 (fun _ hm => ⟨hm.bl 4, hm.fa 0, trivial⟩) fun z => ?_
   refine wt 13 15 16383 rfl z (ov_field fo31_3 rfl rfl) ?_
   refine wa1 14 rfl ?_
   refine wl_store 3 sc29 rfl rfl rfl rfl rfl rfl ?_
   refine wl_nil ?_
   refine nw 15 32767 (fun _ hm => ⟨hm.bl 4, hm.fa 0, trivial⟩) fun z => ?_
   refine wa_done (by kernel_rfl) ?_
   refine nx_blk_nrm (nx_then (sr_ ?_))
   refine wl_ov (ov_loads rz31 rfl (fun _ hm => hm.blkI 3 rfl) rfl rfl) rfl ?_
   refine wl_stores (cs' := [.slice sA sn sc, .slice cA 4 cc, .slice vA vn vc, .slice A2 (pn + 1) c2]) 4 rz31 rfl rfl rfl rfl rfl rfl rfl rfl ?_
   refine nn_ ?_
   refine gw_ret ?_
   refine nx_retc 4 rfl rz31 rfl rfl rfl fun wx hm => ?_
   exact ⟨sA, cA, vA, A2, sn, sc, cc, vn, vc, pn + 1, c2, sl, cl, vl, pl ++ [(⟨v197, s199, s200⟩ : Pl)], rfl, ⟨⟨stB_all hsB, by omega⟩, hcok, ⟨hvB, by omega⟩, all_snoc hpB ⟨⟨by dsimp only; omega, by dsimp only; omega⟩, by dsimp only; omega, by dsimp only; omega⟩, by omega⟩, hm.k.more (by omega), hm.g, SlT.ofOwnL stEnc_lenL (stB_all hsB) (hm.ownI 0 rfl) hsl, (hm.fact 0 rfl), SlT.ofOwn vh_len (hm.ownI 1 rfl) hvl, SlT.ofOwn pl_len (hm.ownI 2 rfl) (by simp [hpl]), own_shape (hm.ownI 2 rfl), own_cap (hm.ownI 2 rfl)⟩
  refine wl_buildSlice (e := 9) (cs := [.string ⟨#[118, 49]⟩, .string ⟨#[110, 111, 110, 101]⟩]) rfl (by kernel_rfl) rfl fun g202 => ?_
  refine wl_nil ?_
  refine nw 15 445 (fun _ hm => ⟨hm.bl 3, hm.fa 0, trivial⟩) fun z => ?_
  refine wa_all [1, 6] (by kernel_rfl) rfl ⟨⟨_, rfl, ?_⟩, ⟨_, rfl, ?_⟩, trivial⟩
  ·refine lk_ sc29 2 rfl rfl rfl (wl_nil ?_)
   refine nw 15 447 (fun _ hm => ⟨hm.bl 3, hm.fa 0, trivial⟩) fun z => ?_
   refine wa1 6 rfl ?_
   refine wl_got (γ := ByteArray) (val := fun v => .string v) (φ := fun v => v ∈ ([⟨#[118, 49]⟩, ⟨#[110, 111, 110, 101]⟩] : List ByteArray)) rfl cb43 rfl rfl rfl rfl (fun wx hm => (some_any [⟨#[118, 49]⟩, ⟨#[110, 111, 110, 101]⟩] _ _ _ wx B sb _ hm.k (by omega) (by simp) (by simp) (hm.blkI 0 rfl) (hm.neRow 0 rfl rfl))) fun s203 hs203 => ?_
   have zs203 : s203.size ≤ 100 := mem_sz hs203 (by decide)
   refine wl_nil ?_
   refine nw 15 511 (fun _ hm => ⟨hm.bl 3, hm.fa 0, trivial⟩) fun z => ?_
   refine wa1 9 rfl ?_
   refine wl_got (γ := ByteArray) (val := fun v => .string v) (φ := fun v => v ∈ ([⟨#[65, 66, 49]⟩, ⟨#[97, 49]⟩, ⟨#[65]⟩, ⟨#[65, 66, 67, 68, 69, 70, 71, 72, 73, 74, 49]⟩, ⟨#[65, 66, 49]⟩] : List ByteArray)) rfl cb43 rfl rfl rfl rfl (fun wx hm => (some_any [⟨#[65, 66, 49]⟩, ⟨#[97, 49]⟩, ⟨#[65]⟩, ⟨#[65, 66, 67, 68, 69, 70, 71, 72, 73, 74, 49]⟩, ⟨#[65, 66, 49]⟩] _ _ _ wx B sb _ hm.k (by omega) (by simp) (by simp) (hm.blkI 1 rfl) (hm.neRow 1 rfl rfl))) fun s204 hs204 => ?_
   have zs204 : s204.size ≤ 100 := mem_sz hs204 (by decide)
   refine wl_nil ?_
   refine nw 15 1023 (fun _ hm => ⟨hm.bl 3, hm.fa 0, trivial⟩) fun z => ?_
   refine wt 10 15 2047 rfl z (ov_build (cs := [.int .i64 v197, .string s203, .string s204]) rfl (by kernel_rfl)) ?_
   refine wa1 11 rfl ?_
   refine wl_buildSlice (e := 143) (cs := [.int .i64 v197, .string s203, .string s204]) rfl (by kernel_rfl) rfl fun g205 => ?_
   refine wl_nil ?_
   refine nw 15 4095 (fun _ hm => ⟨hm.bl 4, hm.fa 0, trivial⟩) fun z => ?_
   refine wa1 12 rfl ?_
   refine wl_append (news := [.int .i64 v197, .string s203, .string s204]) 2 0 ap29 rfl rfl rfl rfl rfl rfl rfl (by omega) (by unfold maxLen; omega) rfl rfl fun v2 hv2 => ?_
   refine wl_look (R := ∃ A cc, v2 = .slice A (pn + 1) cc) (fun wx hm => own_slice (hm.ownI 2 rfl)) ?_
   rintro ⟨A2, c2, rfl⟩
   have hxs : pl.flatMap plEnc ++ ([.int .i64 v197, .string s203, .string s204] : List Value) = (pl ++ [(⟨v197, s203, s204⟩ : Pl)]).flatMap plEnc := by simp [plEnc]
   rw [hxs]
   refine wl_nil ?_
   refine nw 15 8191 (fun _ hm => ⟨hm.bl 4, hm.fa 0, trivial⟩) fun z => ?_
   refine wt 13 15 16383 rfl z (ov_field fo31_3 rfl rfl) ?_
   refine wa1 14 rfl ?_
   refine wl_store 3 sc29 rfl rfl rfl rfl rfl rfl ?_
   refine wl_nil ?_
   refine nw 15 32767 (fun _ hm => ⟨hm.bl 4, hm.fa 0, trivial⟩) fun z => ?_
   refine wa_done (by kernel_rfl) ?_
   refine nx_blk_nrm (nx_then (sr_ ?_))
   refine wl_ov (ov_loads rz31 rfl (fun _ hm => hm.blkI 3 rfl) rfl rfl) rfl ?_
   refine wl_stores (cs' := [.slice sA sn sc, .slice cA 4 cc, .slice vA vn vc, .slice A2 (pn + 1) c2]) 4 rz31 rfl rfl rfl rfl rfl rfl rfl rfl ?_
   refine nn_ ?_
   refine gw_ret ?_
   refine nx_retc 4 rfl rz31 rfl rfl rfl fun wx hm => ?_
   exact ⟨sA, cA, vA, A2, sn, sc, cc, vn, vc, pn + 1, c2, sl, cl, vl, pl ++ [(⟨v197, s203, s204⟩ : Pl)], rfl, ⟨⟨stB_all hsB, by omega⟩, hcok, ⟨hvB, by omega⟩, all_snoc hpB ⟨⟨by dsimp only; omega, by dsimp only; omega⟩, by dsimp only; omega, by dsimp only; omega⟩, by omega⟩, hm.k.more (by omega), hm.g, SlT.ofOwnL stEnc_lenL (stB_all hsB) (hm.ownI 0 rfl) hsl, (hm.fact 0 rfl), SlT.ofOwn vh_len (hm.ownI 1 rfl) hvl, SlT.ofOwn pl_len (hm.ownI 2 rfl) (by simp [hpl]), own_shape (hm.ownI 2 rfl), own_cap (hm.ownI 2 rfl)⟩
  refine wl_got (γ := ByteArray) (val := fun v => .string v) (φ := fun v => v ∈ ([⟨#[118, 49]⟩, ⟨#[110, 111, 110, 101]⟩] : List ByteArray)) rfl cb43 rfl rfl rfl rfl (fun wx hm => (some_any [⟨#[118, 49]⟩, ⟨#[110, 111, 110, 101]⟩] _ _ _ wx B sb _ hm.k (by omega) (by simp) (by simp) (hm.blkI 0 rfl) (hm.neRow 0 rfl rfl))) fun s206 hs206 => ?_
  have zs206 : s206.size ≤ 100 := mem_sz hs206 (by decide)
  refine wl_nil ?_
  refine nw 15 509 (fun _ hm => ⟨hm.bl 3, hm.fa 0, trivial⟩) fun z => ?_
  refine wa_all [1, 9] (by kernel_rfl) rfl ⟨⟨_, rfl, ?_⟩, ⟨_, rfl, ?_⟩, trivial⟩
  ·refine lk_ sc29 2 rfl rfl rfl (wl_nil ?_)
   refine nw 15 511 (fun _ hm => ⟨hm.bl 3, hm.fa 0, trivial⟩) fun z => ?_
   refine wa1 9 rfl ?_
   refine wl_got (γ := ByteArray) (val := fun v => .string v) (φ := fun v => v ∈ ([⟨#[65, 66, 49]⟩, ⟨#[97, 49]⟩, ⟨#[65]⟩, ⟨#[65, 66, 67, 68, 69, 70, 71, 72, 73, 74, 49]⟩, ⟨#[65, 66, 49]⟩] : List ByteArray)) rfl cb43 rfl rfl rfl rfl (fun wx hm => (some_any [⟨#[65, 66, 49]⟩, ⟨#[97, 49]⟩, ⟨#[65]⟩, ⟨#[65, 66, 67, 68, 69, 70, 71, 72, 73, 74, 49]⟩, ⟨#[65, 66, 49]⟩] _ _ _ wx B sb _ hm.k (by omega) (by simp) (by simp) (hm.blkI 1 rfl) (hm.neRow 1 rfl rfl))) fun s207 hs207 => ?_
   have zs207 : s207.size ≤ 100 := mem_sz hs207 (by decide)
   refine wl_nil ?_
   refine nw 15 1023 (fun _ hm => ⟨hm.bl 3, hm.fa 0, trivial⟩) fun z => ?_
   refine wt 10 15 2047 rfl z (ov_build (cs := [.int .i64 v197, .string s206, .string s207]) rfl (by kernel_rfl)) ?_
   refine wa1 11 rfl ?_
   refine wl_buildSlice (e := 143) (cs := [.int .i64 v197, .string s206, .string s207]) rfl (by kernel_rfl) rfl fun g208 => ?_
   refine wl_nil ?_
   refine nw 15 4095 (fun _ hm => ⟨hm.bl 4, hm.fa 0, trivial⟩) fun z => ?_
   refine wa1 12 rfl ?_
   refine wl_append (news := [.int .i64 v197, .string s206, .string s207]) 2 0 ap29 rfl rfl rfl rfl rfl rfl rfl (by omega) (by unfold maxLen; omega) rfl rfl fun v2 hv2 => ?_
   refine wl_look (R := ∃ A cc, v2 = .slice A (pn + 1) cc) (fun wx hm => own_slice (hm.ownI 2 rfl)) ?_
   rintro ⟨A2, c2, rfl⟩
   have hxs : pl.flatMap plEnc ++ ([.int .i64 v197, .string s206, .string s207] : List Value) = (pl ++ [(⟨v197, s206, s207⟩ : Pl)]).flatMap plEnc := by simp [plEnc]
   rw [hxs]
   refine wl_nil ?_
   refine nw 15 8191 (fun _ hm => ⟨hm.bl 4, hm.fa 0, trivial⟩) fun z => ?_
   refine wt 13 15 16383 rfl z (ov_field fo31_3 rfl rfl) ?_
   refine wa1 14 rfl ?_
   refine wl_store 3 sc29 rfl rfl rfl rfl rfl rfl ?_
   refine wl_nil ?_
   refine nw 15 32767 (fun _ hm => ⟨hm.bl 4, hm.fa 0, trivial⟩) fun z => ?_
   refine wa_done (by kernel_rfl) ?_
   refine nx_blk_nrm (nx_then (sr_ ?_))
   refine wl_ov (ov_loads rz31 rfl (fun _ hm => hm.blkI 3 rfl) rfl rfl) rfl ?_
   refine wl_stores (cs' := [.slice sA sn sc, .slice cA 4 cc, .slice vA vn vc, .slice A2 (pn + 1) c2]) 4 rz31 rfl rfl rfl rfl rfl rfl rfl rfl ?_
   refine nn_ ?_
   refine gw_ret ?_
   refine nx_retc 4 rfl rz31 rfl rfl rfl fun wx hm => ?_
   exact ⟨sA, cA, vA, A2, sn, sc, cc, vn, vc, pn + 1, c2, sl, cl, vl, pl ++ [(⟨v197, s206, s207⟩ : Pl)], rfl, ⟨⟨stB_all hsB, by omega⟩, hcok, ⟨hvB, by omega⟩, all_snoc hpB ⟨⟨by dsimp only; omega, by dsimp only; omega⟩, by dsimp only; omega, by dsimp only; omega⟩, by omega⟩, hm.k.more (by omega), hm.g, SlT.ofOwnL stEnc_lenL (stB_all hsB) (hm.ownI 0 rfl) hsl, (hm.fact 0 rfl), SlT.ofOwn vh_len (hm.ownI 1 rfl) hvl, SlT.ofOwn pl_len (hm.ownI 2 rfl) (by simp [hpl]), own_shape (hm.ownI 2 rfl), own_cap (hm.ownI 2 rfl)⟩
  refine wl_got (γ := ByteArray) (val := fun v => .string v) (φ := fun v => v ∈ ([⟨#[65, 66, 49]⟩, ⟨#[97, 49]⟩, ⟨#[65]⟩, ⟨#[65, 66, 67, 68, 69, 70, 71, 72, 73, 74, 49]⟩, ⟨#[65, 66, 49]⟩] : List ByteArray)) rfl cb43 rfl rfl rfl rfl (fun wx hm => (some_any [⟨#[65, 66, 49]⟩, ⟨#[97, 49]⟩, ⟨#[65]⟩, ⟨#[65, 66, 67, 68, 69, 70, 71, 72, 73, 74, 49]⟩, ⟨#[65, 66, 49]⟩] _ _ _ wx B sb _ hm.k (by omega) (by simp) (by simp) (hm.blkI 1 rfl) (hm.neRow 1 rfl rfl))) fun s209 hs209 => ?_
  have zs209 : s209.size ≤ 100 := mem_sz hs209 (by decide)
  refine wl_nil ?_
  refine nw 15 1021 (fun _ hm => ⟨hm.bl 3, hm.fa 0, trivial⟩) fun z => ?_
  refine wt 10 15 2045 rfl z (ov_build (cs := [.int .i64 v197, .string s206, .string s209]) rfl (by kernel_rfl)) ?_
  refine wa_all [1, 11] (by kernel_rfl) rfl ⟨⟨_, rfl, ?_⟩, ⟨_, rfl, ?_⟩, trivial⟩
  ·refine lk_ sc29 2 rfl rfl rfl (wl_nil ?_)
   refine nw 15 2047 (fun _ hm => ⟨hm.bl 3, hm.fa 0, trivial⟩) fun z => ?_
   refine wa1 11 rfl ?_
   refine wl_buildSlice (e := 143) (cs := [.int .i64 v197, .string s206, .string s209]) rfl (by kernel_rfl) rfl fun g210 => ?_
   refine wl_nil ?_
   refine nw 15 4095 (fun _ hm => ⟨hm.bl 4, hm.fa 0, trivial⟩) fun z => ?_
   refine wa1 12 rfl ?_
   refine wl_append (news := [.int .i64 v197, .string s206, .string s209]) 2 0 ap29 rfl rfl rfl rfl rfl rfl rfl (by omega) (by unfold maxLen; omega) rfl rfl fun v2 hv2 => ?_
   refine wl_look (R := ∃ A cc, v2 = .slice A (pn + 1) cc) (fun wx hm => own_slice (hm.ownI 2 rfl)) ?_
   rintro ⟨A2, c2, rfl⟩
   have hxs : pl.flatMap plEnc ++ ([.int .i64 v197, .string s206, .string s209] : List Value) = (pl ++ [(⟨v197, s206, s209⟩ : Pl)]).flatMap plEnc := by simp [plEnc]
   rw [hxs]
   refine wl_nil ?_
   refine nw 15 8191 (fun _ hm => ⟨hm.bl 4, hm.fa 0, trivial⟩) fun z => ?_
   refine wt 13 15 16383 rfl z (ov_field fo31_3 rfl rfl) ?_
   refine wa1 14 rfl ?_
   refine wl_store 3 sc29 rfl rfl rfl rfl rfl rfl ?_
   refine wl_nil ?_
   refine nw 15 32767 (fun _ hm => ⟨hm.bl 4, hm.fa 0, trivial⟩) fun z => ?_
   refine wa_done (by kernel_rfl) ?_
   refine nx_blk_nrm (nx_then (sr_ ?_))
   refine wl_ov (ov_loads rz31 rfl (fun _ hm => hm.blkI 3 rfl) rfl rfl) rfl ?_
   refine wl_stores (cs' := [.slice sA sn sc, .slice cA 4 cc, .slice vA vn vc, .slice A2 (pn + 1) c2]) 4 rz31 rfl rfl rfl rfl rfl rfl rfl rfl ?_
   refine nn_ ?_
   refine gw_ret ?_
   refine nx_retc 4 rfl rz31 rfl rfl rfl fun wx hm => ?_
   exact ⟨sA, cA, vA, A2, sn, sc, cc, vn, vc, pn + 1, c2, sl, cl, vl, pl ++ [(⟨v197, s206, s209⟩ : Pl)], rfl, ⟨⟨stB_all hsB, by omega⟩, hcok, ⟨hvB, by omega⟩, all_snoc hpB ⟨⟨by dsimp only; omega, by dsimp only; omega⟩, by dsimp only; omega, by dsimp only; omega⟩, by omega⟩, hm.k.more (by omega), hm.g, SlT.ofOwnL stEnc_lenL (stB_all hsB) (hm.ownI 0 rfl) hsl, (hm.fact 0 rfl), SlT.ofOwn vh_len (hm.ownI 1 rfl) hvl, SlT.ofOwn pl_len (hm.ownI 2 rfl) (by simp [hpl]), own_shape (hm.ownI 2 rfl), own_cap (hm.ownI 2 rfl)⟩
  refine wl_buildSlice (e := 143) (cs := [.int .i64 v197, .string s206, .string s209]) rfl (by kernel_rfl) rfl fun g211 => ?_
  refine wl_nil ?_
  refine nw 15 4093 (fun _ hm => ⟨hm.bl 4, hm.fa 0, trivial⟩) fun z => ?_
  refine wa1 1 rfl ?_
  refine lk_ sc29 3 rfl rfl rfl (wl_nil ?_)
  refine nw 15 4095 (fun _ hm => ⟨hm.bl 4, hm.fa 0, trivial⟩) fun z => ?_
  refine wa1 12 rfl ?_
  refine wl_append (news := [.int .i64 v197, .string s206, .string s209]) 2 0 ap29 rfl rfl rfl rfl rfl rfl rfl (by omega) (by unfold maxLen; omega) rfl rfl fun v2 hv2 => ?_
  refine wl_look (R := ∃ A cc, v2 = .slice A (pn + 1) cc) (fun wx hm => own_slice (hm.ownI 2 rfl)) ?_
  rintro ⟨A2, c2, rfl⟩
  have hxs : pl.flatMap plEnc ++ ([.int .i64 v197, .string s206, .string s209] : List Value) = (pl ++ [(⟨v197, s206, s209⟩ : Pl)]).flatMap plEnc := by simp [plEnc]
  rw [hxs]
  refine wl_nil ?_
  refine nw 15 8191 (fun _ hm => ⟨hm.bl 4, hm.fa 0, trivial⟩) fun z => ?_
  refine wt 13 15 16383 rfl z (ov_field fo31_3 rfl rfl) ?_
  refine wa1 14 rfl ?_
  refine wl_store 3 sc29 rfl rfl rfl rfl rfl rfl ?_
  refine wl_nil ?_
  refine nw 15 32767 (fun _ hm => ⟨hm.bl 4, hm.fa 0, trivial⟩) fun z => ?_
  refine wa_done (by kernel_rfl) ?_
  refine nx_blk_nrm (nx_then (sr_ ?_))
  refine wl_ov (ov_loads rz31 rfl (fun _ hm => hm.blkI 3 rfl) rfl rfl) rfl ?_
  refine wl_stores (cs' := [.slice sA sn sc, .slice cA 4 cc, .slice vA vn vc, .slice A2 (pn + 1) c2]) 4 rz31 rfl rfl rfl rfl rfl rfl rfl rfl ?_
  refine nn_ ?_
  refine gw_ret ?_
  refine nx_retc 4 rfl rz31 rfl rfl rfl fun wx hm => ?_
  exact ⟨sA, cA, vA, A2, sn, sc, cc, vn, vc, pn + 1, c2, sl, cl, vl, pl ++ [(⟨v197, s206, s209⟩ : Pl)], rfl, ⟨⟨stB_all hsB, by omega⟩, hcok, ⟨hvB, by omega⟩, all_snoc hpB ⟨⟨by dsimp only; omega, by dsimp only; omega⟩, by dsimp only; omega, by dsimp only; omega⟩, by omega⟩, hm.k.more (by omega), hm.g, SlT.ofOwnL stEnc_lenL (stB_all hsB) (hm.ownI 0 rfl) hsl, (hm.fact 0 rfl), SlT.ofOwn vh_len (hm.ownI 1 rfl) hvl, SlT.ofOwn pl_len (hm.ownI 2 rfl) (by simp [hpl]), own_shape (hm.ownI 2 rfl), own_cap (hm.ownI 2 rfl)⟩
 refine wl_buildSlice (e := 9) (cs := [.string ⟨#[118, 49]⟩, .string ⟨#[110, 111, 110, 101]⟩]) rfl (by kernel_rfl) rfl fun g212 => ?_
 refine wl_nil ?_
 refine nw 15 437 (fun _ hm => ⟨hm.bl 3, hm.fa 0, trivial⟩) fun z => ?_
 refine wa_all [1, 3] (by kernel_rfl) rfl ⟨⟨_, rfl, ?_⟩, ⟨_, rfl, ?_⟩, trivial⟩
 ·refine lk_ sc29 2 rfl rfl rfl (wl_nil ?_)
  refine nw 15 439 (fun _ hm => ⟨hm.bl 3, hm.fa 0, trivial⟩) fun z => ?_
  refine wa1 3 rfl ?_
  refine wl_got (γ := Int) (val := fun v => .int .i64 v) (φ := fun v => -2000000000000000 ≤ v ∧ v ≤ 2000000000000000) rfl cb77 rfl rfl rfl rfl (fun wx hm => (odd_any _ _ wx B sb _ hm.k (by omega) (by omega) (by omega) (by omega))) fun v213 hv213 => ?_
  refine wl_nil ?_
  refine nw 15 447 (fun _ hm => ⟨hm.bl 3, hm.fa 0, trivial⟩) fun z => ?_
  refine wa1 6 rfl ?_
  refine wl_got (γ := ByteArray) (val := fun v => .string v) (φ := fun v => v ∈ ([⟨#[118, 49]⟩, ⟨#[110, 111, 110, 101]⟩] : List ByteArray)) rfl cb43 rfl rfl rfl rfl (fun wx hm => (some_any [⟨#[118, 49]⟩, ⟨#[110, 111, 110, 101]⟩] _ _ _ wx B sb _ hm.k (by omega) (by simp) (by simp) (hm.blkI 0 rfl) (hm.neRow 0 rfl rfl))) fun s214 hs214 => ?_
  have zs214 : s214.size ≤ 100 := mem_sz hs214 (by decide)
  refine wl_nil ?_
  refine nw 15 511 (fun _ hm => ⟨hm.bl 3, hm.fa 0, trivial⟩) fun z => ?_
  refine wa1 9 rfl ?_
  refine wl_got (γ := ByteArray) (val := fun v => .string v) (φ := fun v => v ∈ ([⟨#[65, 66, 49]⟩, ⟨#[97, 49]⟩, ⟨#[65]⟩, ⟨#[65, 66, 67, 68, 69, 70, 71, 72, 73, 74, 49]⟩, ⟨#[65, 66, 49]⟩] : List ByteArray)) rfl cb43 rfl rfl rfl rfl (fun wx hm => (some_any [⟨#[65, 66, 49]⟩, ⟨#[97, 49]⟩, ⟨#[65]⟩, ⟨#[65, 66, 67, 68, 69, 70, 71, 72, 73, 74, 49]⟩, ⟨#[65, 66, 49]⟩] _ _ _ wx B sb _ hm.k (by omega) (by simp) (by simp) (hm.blkI 1 rfl) (hm.neRow 1 rfl rfl))) fun s215 hs215 => ?_
  have zs215 : s215.size ≤ 100 := mem_sz hs215 (by decide)
  refine wl_nil ?_
  refine nw 15 1023 (fun _ hm => ⟨hm.bl 3, hm.fa 0, trivial⟩) fun z => ?_
  refine wt 10 15 2047 rfl z (ov_build (cs := [.int .i64 v213, .string s214, .string s215]) rfl (by kernel_rfl)) ?_
  refine wa1 11 rfl ?_
  refine wl_buildSlice (e := 143) (cs := [.int .i64 v213, .string s214, .string s215]) rfl (by kernel_rfl) rfl fun g216 => ?_
  refine wl_nil ?_
  refine nw 15 4095 (fun _ hm => ⟨hm.bl 4, hm.fa 0, trivial⟩) fun z => ?_
  refine wa1 12 rfl ?_
  refine wl_append (news := [.int .i64 v213, .string s214, .string s215]) 2 0 ap29 rfl rfl rfl rfl rfl rfl rfl (by omega) (by unfold maxLen; omega) rfl rfl fun v2 hv2 => ?_
  refine wl_look (R := ∃ A cc, v2 = .slice A (pn + 1) cc) (fun wx hm => own_slice (hm.ownI 2 rfl)) ?_
  rintro ⟨A2, c2, rfl⟩
  have hxs : pl.flatMap plEnc ++ ([.int .i64 v213, .string s214, .string s215] : List Value) = (pl ++ [(⟨v213, s214, s215⟩ : Pl)]).flatMap plEnc := by simp [plEnc]
  rw [hxs]
  refine wl_nil ?_
  refine nw 15 8191 (fun _ hm => ⟨hm.bl 4, hm.fa 0, trivial⟩) fun z => ?_
  refine wt 13 15 16383 rfl z (ov_field fo31_3 rfl rfl) ?_
  refine wa1 14 rfl ?_
  refine wl_store 3 sc29 rfl rfl rfl rfl rfl rfl ?_
  refine wl_nil ?_
  refine nw 15 32767 (fun _ hm => ⟨hm.bl 4, hm.fa 0, trivial⟩) fun z => ?_
  refine wa_done (by kernel_rfl) ?_
  refine nx_blk_nrm (nx_then (sr_ ?_))
  refine wl_ov (ov_loads rz31 rfl (fun _ hm => hm.blkI 3 rfl) rfl rfl) rfl ?_
  refine wl_stores (cs' := [.slice sA sn sc, .slice cA 4 cc, .slice vA vn vc, .slice A2 (pn + 1) c2]) 4 rz31 rfl rfl rfl rfl rfl rfl rfl rfl ?_
  refine nn_ ?_
  refine gw_ret ?_
  refine nx_retc 4 rfl rz31 rfl rfl rfl fun wx hm => ?_
  exact ⟨sA, cA, vA, A2, sn, sc, cc, vn, vc, pn + 1, c2, sl, cl, vl, pl ++ [(⟨v213, s214, s215⟩ : Pl)], rfl, ⟨⟨stB_all hsB, by omega⟩, hcok, ⟨hvB, by omega⟩, all_snoc hpB ⟨⟨by dsimp only; omega, by dsimp only; omega⟩, by dsimp only; omega, by dsimp only; omega⟩, by omega⟩, hm.k.more (by omega), hm.g, SlT.ofOwnL stEnc_lenL (stB_all hsB) (hm.ownI 0 rfl) hsl, (hm.fact 0 rfl), SlT.ofOwn vh_len (hm.ownI 1 rfl) hvl, SlT.ofOwn pl_len (hm.ownI 2 rfl) (by simp [hpl]), own_shape (hm.ownI 2 rfl), own_cap (hm.ownI 2 rfl)⟩
 refine wl_got (γ := Int) (val := fun v => .int .i64 v) (φ := fun v => -2000000000000000 ≤ v ∧ v ≤ 2000000000000000) rfl cb77 rfl rfl rfl rfl (fun wx hm => (odd_any _ _ wx B sb _ hm.k (by omega) (by omega) (by omega) (by omega))) fun v217 hv217 => ?_
 refine wl_nil ?_
 refine nw 15 445 (fun _ hm => ⟨hm.bl 3, hm.fa 0, trivial⟩) fun z => ?_
 refine wa_all [1, 6] (by kernel_rfl) rfl ⟨⟨_, rfl, ?_⟩, ⟨_, rfl, ?_⟩, trivial⟩
 ·refine lk_ sc29 2 rfl rfl rfl (wl_nil ?_)
  refine nw 15 447 (fun _ hm => ⟨hm.bl 3, hm.fa 0, trivial⟩) fun z => ?_
  refine wa1 6 rfl ?_
  refine wl_got (γ := ByteArray) (val := fun v => .string v) (φ := fun v => v ∈ ([⟨#[118, 49]⟩, ⟨#[110, 111, 110, 101]⟩] : List ByteArray)) rfl cb43 rfl rfl rfl rfl (fun wx hm => (some_any [⟨#[118, 49]⟩, ⟨#[110, 111, 110, 101]⟩] _ _ _ wx B sb _ hm.k (by omega) (by simp) (by simp) (hm.blkI 0 rfl) (hm.neRow 0 rfl rfl))) fun s218 hs218 => ?_
  have zs218 : s218.size ≤ 100 := mem_sz hs218 (by decide)
  refine wl_nil ?_
  refine nw 15 511 (fun _ hm => ⟨hm.bl 3, hm.fa 0, trivial⟩) fun z => ?_
  refine wa1 9 rfl ?_
  refine wl_got (γ := ByteArray) (val := fun v => .string v) (φ := fun v => v ∈ ([⟨#[65, 66, 49]⟩, ⟨#[97, 49]⟩, ⟨#[65]⟩, ⟨#[65, 66, 67, 68, 69, 70, 71, 72, 73, 74, 49]⟩, ⟨#[65, 66, 49]⟩] : List ByteArray)) rfl cb43 rfl rfl rfl rfl (fun wx hm => (some_any [⟨#[65, 66, 49]⟩, ⟨#[97, 49]⟩, ⟨#[65]⟩, ⟨#[65, 66, 67, 68, 69, 70, 71, 72, 73, 74, 49]⟩, ⟨#[65, 66, 49]⟩] _ _ _ wx B sb _ hm.k (by omega) (by simp) (by simp) (hm.blkI 1 rfl) (hm.neRow 1 rfl rfl))) fun s219 hs219 => ?_
  have zs219 : s219.size ≤ 100 := mem_sz hs219 (by decide)
  refine wl_nil ?_
  refine nw 15 1023 (fun _ hm => ⟨hm.bl 3, hm.fa 0, trivial⟩) fun z => ?_
  refine wt 10 15 2047 rfl z (ov_build (cs := [.int .i64 v217, .string s218, .string s219]) rfl (by kernel_rfl)) ?_
  refine wa1 11 rfl ?_
  refine wl_buildSlice (e := 143) (cs := [.int .i64 v217, .string s218, .string s219]) rfl (by kernel_rfl) rfl fun g220 => ?_
  refine wl_nil ?_
  refine nw 15 4095 (fun _ hm => ⟨hm.bl 4, hm.fa 0, trivial⟩) fun z => ?_
  refine wa1 12 rfl ?_
  refine wl_append (news := [.int .i64 v217, .string s218, .string s219]) 2 0 ap29 rfl rfl rfl rfl rfl rfl rfl (by omega) (by unfold maxLen; omega) rfl rfl fun v2 hv2 => ?_
  refine wl_look (R := ∃ A cc, v2 = .slice A (pn + 1) cc) (fun wx hm => own_slice (hm.ownI 2 rfl)) ?_
  rintro ⟨A2, c2, rfl⟩
  have hxs : pl.flatMap plEnc ++ ([.int .i64 v217, .string s218, .string s219] : List Value) = (pl ++ [(⟨v217, s218, s219⟩ : Pl)]).flatMap plEnc := by simp [plEnc]
  rw [hxs]
  refine wl_nil ?_
  refine nw 15 8191 (fun _ hm => ⟨hm.bl 4, hm.fa 0, trivial⟩) fun z => ?_
  refine wt 13 15 16383 rfl z (ov_field fo31_3 rfl rfl) ?_
  refine wa1 14 rfl ?_
  refine wl_store 3 sc29 rfl rfl rfl rfl rfl rfl ?_
  refine wl_nil ?_
  refine nw 15 32767 (fun _ hm => ⟨hm.bl 4, hm.fa 0, trivial⟩) fun z => ?_
  refine wa_done (by kernel_rfl) ?_
  refine nx_blk_nrm (nx_then (sr_ ?_))
  refine wl_ov (ov_loads rz31 rfl (fun _ hm => hm.blkI 3 rfl) rfl rfl) rfl ?_
  refine wl_stores (cs' := [.slice sA sn sc, .slice cA 4 cc, .slice vA vn vc, .slice A2 (pn + 1) c2]) 4 rz31 rfl rfl rfl rfl rfl rfl rfl rfl ?_
  refine nn_ ?_
  refine gw_ret ?_
  refine nx_retc 4 rfl rz31 rfl rfl rfl fun wx hm => ?_
  exact ⟨sA, cA, vA, A2, sn, sc, cc, vn, vc, pn + 1, c2, sl, cl, vl, pl ++ [(⟨v217, s218, s219⟩ : Pl)], rfl, ⟨⟨stB_all hsB, by omega⟩, hcok, ⟨hvB, by omega⟩, all_snoc hpB ⟨⟨by dsimp only; omega, by dsimp only; omega⟩, by dsimp only; omega, by dsimp only; omega⟩, by omega⟩, hm.k.more (by omega), hm.g, SlT.ofOwnL stEnc_lenL (stB_all hsB) (hm.ownI 0 rfl) hsl, (hm.fact 0 rfl), SlT.ofOwn vh_len (hm.ownI 1 rfl) hvl, SlT.ofOwn pl_len (hm.ownI 2 rfl) (by simp [hpl]), own_shape (hm.ownI 2 rfl), own_cap (hm.ownI 2 rfl)⟩
 refine wl_got (γ := ByteArray) (val := fun v => .string v) (φ := fun v => v ∈ ([⟨#[118, 49]⟩, ⟨#[110, 111, 110, 101]⟩] : List ByteArray)) rfl cb43 rfl rfl rfl rfl (fun wx hm => (some_any [⟨#[118, 49]⟩, ⟨#[110, 111, 110, 101]⟩] _ _ _ wx B sb _ hm.k (by omega) (by simp) (by simp) (hm.blkI 0 rfl) (hm.neRow 0 rfl rfl))) fun s221 hs221 => ?_
 have zs221 : s221.size ≤ 100 := mem_sz hs221 (by decide)
 refine wl_nil ?_
 refine nw 15 509 (fun _ hm => ⟨hm.bl 3, hm.fa 0, trivial⟩) fun z => ?_
 refine wa_all [1, 9] (by kernel_rfl) rfl ⟨⟨_, rfl, ?_⟩, ⟨_, rfl, ?_⟩, trivial⟩
 ·refine lk_ sc29 2 rfl rfl rfl (wl_nil ?_)
  refine nw 15 511 (fun _ hm => ⟨hm.bl 3, hm.fa 0, trivial⟩) fun z => ?_
  refine wa1 9 rfl ?_
  refine wl_got (γ := ByteArray) (val := fun v => .string v) (φ := fun v => v ∈ ([⟨#[65, 66, 49]⟩, ⟨#[97, 49]⟩, ⟨#[65]⟩, ⟨#[65, 66, 67, 68, 69, 70, 71, 72, 73, 74, 49]⟩, ⟨#[65, 66, 49]⟩] : List ByteArray)) rfl cb43 rfl rfl rfl rfl (fun wx hm => (some_any [⟨#[65, 66, 49]⟩, ⟨#[97, 49]⟩, ⟨#[65]⟩, ⟨#[65, 66, 67, 68, 69, 70, 71, 72, 73, 74, 49]⟩, ⟨#[65, 66, 49]⟩] _ _ _ wx B sb _ hm.k (by omega) (by simp) (by simp) (hm.blkI 1 rfl) (hm.neRow 1 rfl rfl))) fun s222 hs222 => ?_
  have zs222 : s222.size ≤ 100 := mem_sz hs222 (by decide)
  refine wl_nil ?_
  refine nw 15 1023 (fun _ hm => ⟨hm.bl 3, hm.fa 0, trivial⟩) fun z => ?_
  refine wt 10 15 2047 rfl z (ov_build (cs := [.int .i64 v217, .string s221, .string s222]) rfl (by kernel_rfl)) ?_
  refine wa1 11 rfl ?_
  refine wl_buildSlice (e := 143) (cs := [.int .i64 v217, .string s221, .string s222]) rfl (by kernel_rfl) rfl fun g223 => ?_
  refine wl_nil ?_
  refine nw 15 4095 (fun _ hm => ⟨hm.bl 4, hm.fa 0, trivial⟩) fun z => ?_
  refine wa1 12 rfl ?_
  refine wl_append (news := [.int .i64 v217, .string s221, .string s222]) 2 0 ap29 rfl rfl rfl rfl rfl rfl rfl (by omega) (by unfold maxLen; omega) rfl rfl fun v2 hv2 => ?_
  refine wl_look (R := ∃ A cc, v2 = .slice A (pn + 1) cc) (fun wx hm => own_slice (hm.ownI 2 rfl)) ?_
  rintro ⟨A2, c2, rfl⟩
  have hxs : pl.flatMap plEnc ++ ([.int .i64 v217, .string s221, .string s222] : List Value) = (pl ++ [(⟨v217, s221, s222⟩ : Pl)]).flatMap plEnc := by simp [plEnc]
  rw [hxs]
  refine wl_nil ?_
  refine nw 15 8191 (fun _ hm => ⟨hm.bl 4, hm.fa 0, trivial⟩) fun z => ?_
  refine wt 13 15 16383 rfl z (ov_field fo31_3 rfl rfl) ?_
  refine wa1 14 rfl ?_
  refine wl_store 3 sc29 rfl rfl rfl rfl rfl rfl ?_
  refine wl_nil ?_
  refine nw 15 32767 (fun _ hm => ⟨hm.bl 4, hm.fa 0, trivial⟩) fun z => ?_
  refine wa_done (by kernel_rfl) ?_
  refine nx_blk_nrm (nx_then (sr_ ?_))
  refine wl_ov (ov_loads rz31 rfl (fun _ hm => hm.blkI 3 rfl) rfl rfl) rfl ?_
  refine wl_stores (cs' := [.slice sA sn sc, .slice cA 4 cc, .slice vA vn vc, .slice A2 (pn + 1) c2]) 4 rz31 rfl rfl rfl rfl rfl rfl rfl rfl ?_
  refine nn_ ?_
  refine gw_ret ?_
  refine nx_retc 4 rfl rz31 rfl rfl rfl fun wx hm => ?_
  exact ⟨sA, cA, vA, A2, sn, sc, cc, vn, vc, pn + 1, c2, sl, cl, vl, pl ++ [(⟨v217, s221, s222⟩ : Pl)], rfl, ⟨⟨stB_all hsB, by omega⟩, hcok, ⟨hvB, by omega⟩, all_snoc hpB ⟨⟨by dsimp only; omega, by dsimp only; omega⟩, by dsimp only; omega, by dsimp only; omega⟩, by omega⟩, hm.k.more (by omega), hm.g, SlT.ofOwnL stEnc_lenL (stB_all hsB) (hm.ownI 0 rfl) hsl, (hm.fact 0 rfl), SlT.ofOwn vh_len (hm.ownI 1 rfl) hvl, SlT.ofOwn pl_len (hm.ownI 2 rfl) (by simp [hpl]), own_shape (hm.ownI 2 rfl), own_cap (hm.ownI 2 rfl)⟩
 refine wl_got (γ := ByteArray) (val := fun v => .string v) (φ := fun v => v ∈ ([⟨#[65, 66, 49]⟩, ⟨#[97, 49]⟩, ⟨#[65]⟩, ⟨#[65, 66, 67, 68, 69, 70, 71, 72, 73, 74, 49]⟩, ⟨#[65, 66, 49]⟩] : List ByteArray)) rfl cb43 rfl rfl rfl rfl (fun wx hm => (some_any [⟨#[65, 66, 49]⟩, ⟨#[97, 49]⟩, ⟨#[65]⟩, ⟨#[65, 66, 67, 68, 69, 70, 71, 72, 73, 74, 49]⟩, ⟨#[65, 66, 49]⟩] _ _ _ wx B sb _ hm.k (by omega) (by simp) (by simp) (hm.blkI 1 rfl) (hm.neRow 1 rfl rfl))) fun s224 hs224 => ?_
 have zs224 : s224.size ≤ 100 := mem_sz hs224 (by decide)
 refine wl_nil ?_
 refine nw 15 1021 (fun _ hm => ⟨hm.bl 3, hm.fa 0, trivial⟩) fun z => ?_
 refine wt 10 15 2045 rfl z (ov_build (cs := [.int .i64 v217, .string s221, .string s224]) rfl (by kernel_rfl)) ?_
 refine wa_all [1, 11] (by kernel_rfl) rfl ⟨⟨_, rfl, ?_⟩, ⟨_, rfl, ?_⟩, trivial⟩
 ·refine lk_ sc29 2 rfl rfl rfl (wl_nil ?_)
  refine nw 15 2047 (fun _ hm => ⟨hm.bl 3, hm.fa 0, trivial⟩) fun z => ?_
  refine wa1 11 rfl ?_
  refine wl_buildSlice (e := 143) (cs := [.int .i64 v217, .string s221, .string s224]) rfl (by kernel_rfl) rfl fun g225 => ?_
  refine wl_nil ?_
  refine nw 15 4095 (fun _ hm => ⟨hm.bl 4, hm.fa 0, trivial⟩) fun z => ?_
  refine wa1 12 rfl ?_
  refine wl_append (news := [.int .i64 v217, .string s221, .string s224]) 2 0 ap29 rfl rfl rfl rfl rfl rfl rfl (by omega) (by unfold maxLen; omega) rfl rfl fun v2 hv2 => ?_
  refine wl_look (R := ∃ A cc, v2 = .slice A (pn + 1) cc) (fun wx hm => own_slice (hm.ownI 2 rfl)) ?_
  rintro ⟨A2, c2, rfl⟩
  have hxs : pl.flatMap plEnc ++ ([.int .i64 v217, .string s221, .string s224] : List Value) = (pl ++ [(⟨v217, s221, s224⟩ : Pl)]).flatMap plEnc := by simp [plEnc]
  rw [hxs]
  refine wl_nil ?_
  refine nw 15 8191 (fun _ hm => ⟨hm.bl 4, hm.fa 0, trivial⟩) fun z => ?_
  refine wt 13 15 16383 rfl z (ov_field fo31_3 rfl rfl) ?_
  refine wa1 14 rfl ?_
  refine wl_store 3 sc29 rfl rfl rfl rfl rfl rfl ?_
  refine wl_nil ?_
  refine nw 15 32767 (fun _ hm => ⟨hm.bl 4, hm.fa 0, trivial⟩) fun z => ?_
  refine wa_done (by kernel_rfl) ?_
  refine nx_blk_nrm (nx_then (sr_ ?_))
  refine wl_ov (ov_loads rz31 rfl (fun _ hm => hm.blkI 3 rfl) rfl rfl) rfl ?_
  refine wl_stores (cs' := [.slice sA sn sc, .slice cA 4 cc, .slice vA vn vc, .slice A2 (pn + 1) c2]) 4 rz31 rfl rfl rfl rfl rfl rfl rfl rfl ?_
  refine nn_ ?_
  refine gw_ret ?_
  refine nx_retc 4 rfl rz31 rfl rfl rfl fun wx hm => ?_
  exact ⟨sA, cA, vA, A2, sn, sc, cc, vn, vc, pn + 1, c2, sl, cl, vl, pl ++ [(⟨v217, s221, s224⟩ : Pl)], rfl, ⟨⟨stB_all hsB, by omega⟩, hcok, ⟨hvB, by omega⟩, all_snoc hpB ⟨⟨by dsimp only; omega, by dsimp only; omega⟩, by dsimp only; omega, by dsimp only; omega⟩, by omega⟩, hm.k.more (by omega), hm.g, SlT.ofOwnL stEnc_lenL (stB_all hsB) (hm.ownI 0 rfl) hsl, (hm.fact 0 rfl), SlT.ofOwn vh_len (hm.ownI 1 rfl) hvl, SlT.ofOwn pl_len (hm.ownI 2 rfl) (by simp [hpl]), own_shape (hm.ownI 2 rfl), own_cap (hm.ownI 2 rfl)⟩
 refine wl_buildSlice (e := 143) (cs := [.int .i64 v217, .string s221, .string s224]) rfl (by kernel_rfl) rfl fun g226 => ?_
 refine wl_nil ?_
 refine nw 15 4093 (fun _ hm => ⟨hm.bl 4, hm.fa 0, trivial⟩) fun z => ?_
 refine wa1 1 rfl ?_
 refine lk_ sc29 3 rfl rfl rfl (wl_nil ?_)
 refine nw 15 4095 (fun _ hm => ⟨hm.bl 4, hm.fa 0, trivial⟩) fun z => ?_
 refine wa1 12 rfl ?_
 refine wl_append (news := [.int .i64 v217, .string s221, .string s224]) 2 0 ap29 rfl rfl rfl rfl rfl rfl rfl (by omega) (by unfold maxLen; omega) rfl rfl fun v2 hv2 => ?_
 refine wl_look (R := ∃ A cc, v2 = .slice A (pn + 1) cc) (fun wx hm => own_slice (hm.ownI 2 rfl)) ?_
 rintro ⟨A2, c2, rfl⟩
 have hxs : pl.flatMap plEnc ++ ([.int .i64 v217, .string s221, .string s224] : List Value) = (pl ++ [(⟨v217, s221, s224⟩ : Pl)]).flatMap plEnc := by simp [plEnc]
 rw [hxs]
 refine wl_nil ?_
 refine nw 15 8191 (fun _ hm => ⟨hm.bl 4, hm.fa 0, trivial⟩) fun z => ?_
 refine wt 13 15 16383 rfl z (ov_field fo31_3 rfl rfl) ?_
 refine wa1 14 rfl ?_
 refine wl_store 3 sc29 rfl rfl rfl rfl rfl rfl ?_
 refine wl_nil ?_
 refine nw 15 32767 (fun _ hm => ⟨hm.bl 4, hm.fa 0, trivial⟩) fun z => ?_
 refine wa_done (by kernel_rfl) ?_
 refine nx_blk_nrm (nx_then (sr_ ?_))
 refine wl_ov (ov_loads rz31 rfl (fun _ hm => hm.blkI 3 rfl) rfl rfl) rfl ?_
 refine wl_stores (cs' := [.slice sA sn sc, .slice cA 4 cc, .slice vA vn vc, .slice A2 (pn + 1) c2]) 4 rz31 rfl rfl rfl rfl rfl rfl rfl rfl ?_
 refine nn_ ?_
 refine gw_ret ?_
 refine nx_retc 4 rfl rz31 rfl rfl rfl fun wx hm => ?_
 exact ⟨sA, cA, vA, A2, sn, sc, cc, vn, vc, pn + 1, c2, sl, cl, vl, pl ++ [(⟨v217, s221, s224⟩ : Pl)], rfl, ⟨⟨stB_all hsB, by omega⟩, hcok, ⟨hvB, by omega⟩, all_snoc hpB ⟨⟨by dsimp only; omega, by dsimp only; omega⟩, by dsimp only; omega, by dsimp only; omega⟩, by omega⟩, hm.k.more (by omega), hm.g, SlT.ofOwnL stEnc_lenL (stB_all hsB) (hm.ownI 0 rfl) hsl, (hm.fact 0 rfl), SlT.ofOwn vh_len (hm.ownI 1 rfl) hvl, SlT.ofOwn pl_len (hm.ownI 2 rfl) (by simp [hpl]), own_shape (hm.ownI 2 rfl), own_cap (hm.ownI 2 rfl)⟩
end Go.Proofs.YtjecbkgjabnmoaaGreatDoor
namespace Go.Proofs.YtjecbkgjabnmoaaGreatDoor
open Go.RowKit
theorem fleet_rise {sl : List St} {cl : List Cs} {vl : List Vh} {pl : List Pl} (h : fleetE sl cl vl pl = 0) : Rise vl := by
  unfold fleetE at h
  exact (vehs_rise (fe_all h (vehsE cl vl) (by simp))).2
def plateOfE (sl : List St) (cl : List Cs) (vl : List Vh) (pl : List Pl) (k : ByteArray) (mt : Int) : Int := firstE [fleetE sl cl vl pl, whenE (decide (ixP (vhP k) vl 0 < 0)) 8, momentE mt]
def vehOfE (sl : List St) (cl : List Cs) (vl : List Vh) (pl : List Pl) (k : ByteArray) (mt : Int) : Int := firstE [fleetE sl cl vl pl, whenE (!plateB k) 3, momentE mt]
theorem fe_hd {a : Int} {r : List Int} (h : a ≠ 0) : firstE (a :: r) = a := by simp [firstE, h]
theorem fe_tl {r : List Int} : firstE (0 :: r) = firstE r := by simp [firstE]
theorem plateOf_any (sl : List St) (cl : List Cs) (vl : List Vh) (pl : List Pl) (sA cA vA pA : Option Addr) (sn sc cn cc vn vc pn pc : Nat) (k : ByteArray) (mt : Int) (w : World) (hs : SlT stEnc 15 140 w sA sn sl) (hc : SlT csEnc 2 159 w cA cn cl) (hv : SlT vhEnc 2 77 w vA vn vl) (hp : SlT plEnc 3 143 w pA pn pl) (hsok : ∀ x ∈ sl, StOk x) (hcok : ∀ x ∈ cl, CsOk x) (hvok : ∀ x ∈ vl, VhOk x) (hpok : ∀ x ∈ pl, PlOk x) (hsn : sn ≤ 1000) (hcn : cn ≤ 1000) (hvn : vn ≤ 1000) (hpn : pn ≤ 1000) :
  Calls Tryz.prog 15 #[.agg #[.slice sA sn sc, .slice cA cn cc, .slice vA vn vc, .slice pA pn pc], .string k, .int .i64 mt] w (fun e w' => ∃ (A : ByteArray) (b : Bool), e = .returned (.tuple #[.string A, .bool b, .int .i64 (plateOfE sl cl vl pl k mt)]) ∧ ((plateOfE sl cl vl pl k mt) = 0 → A = ((wornAt pl mt).1 k).getD ⟨#[]⟩ ∧ b = ((wornAt pl mt).1 k).isSome) ∧ ((plateOfE sl cl vl pl k mt) ≠ 0 → A = ⟨#[]⟩ ∧ b = false) ∧ w.grownBy w' none) := by
 refine gw_enter ⟨46, w, none, []⟩ Tryz.func15 rfl Tryz.ntmps15 rfl (mem0 (X := [SlOld stEnc 15 140 w.heap.size none sA sn sl, SlOld csEnc 2 159 w.heap.size none cA cn cl, SlOld vhEnc 2 77 w.heap.size none vA vn vl, SlOld plEnc 3 143 w.heap.size none pA pn pl]) (allF_cons hs.old (allF_cons hc.old (allF_cons hv.old (allF_cons hp.old allF_nil)))) (allL_cons SlOld.lasts (allL_cons SlOld.lasts (allL_cons SlOld.lasts (allL_cons SlOld.lasts allL_nil))))) ?_
 refine sr_ ?_
 obtain ⟨FE, hFE⟩ : ∃ z, z = fleetE sl cl vl pl := ⟨_, rfl⟩
 obtain ⟨TE, hTE⟩ : ∃ z, z = plateOfE sl cl vl pl k mt := ⟨_, rfl⟩
 rw [← hTE]
 have hT0 : TE = firstE [FE, whenE (decide (ixP (vhP k) vl 0 < 0)) 8, momentE mt] := by rw [hTE, hFE]; rfl
 refine wl_box rfl rfl rfl fun g1 => ?_
 refine sg_ rfl (sg_ rfl (sg_ rfl (nn_ (gw_seq (sr_ ?_)))))
 refine wl_ov (ov_loads rz31 rfl (fun _ hm => hm.blkI 0 rfl) rfl rfl) rfl ?_
 refine wl_callv (v := .int .i64 FE) rfl cb23 rfl rfl (fun wx hm => (by rw [hFE]; exact checkFleet_any sl cl vl pl sA cA vA pA sn sc cn cc vn vc pn pc wx (hm.fact 0 rfl).1 (hm.fact 1 rfl).1 (hm.fact 2 rfl).1 (hm.fact 3 rfl).1 hsok hcok hvok hpok hsn hcn hvn hpn)) ?_
 refine sg_ rfl (nn_ (sr_ (mv_ rfl (wl_ov (ov_neq rfl rfl) rfl (nn_ ?_)))))
 refine gw_cond rfl (fun hh => ?_) (fun hh => ?_)
 ·have h1 : ¬ (FE = 0) := by simpa using hh
  clear hh
  refine sr_ ?_
  have h2 : FE ≠ 0 := by simpa using h1
  have h3 : TE = FE := by rw [hT0]; exact fe_hd h2
  refine mv_ rfl (sg_ rfl (sg_ rfl (sg_ rfl (nn_ ?_))))
  refine gw_ret ?_
  refine nx_then_ret ?_
  refine nx_ret3 rfl rfl rfl rfl fun wx hm => ?_
  exact ⟨⟨#[]⟩, false, by rw [h3], fun h => absurd h (by rw [h3]; exact h2), fun _ => ⟨rfl, rfl⟩, hm.g⟩
 have h1 : FE = 0 := by simpa using hh
 clear hh
 refine gw_skip (nx_then (gw_seq (sr_ ?_)))
 have h2 : FE = 0 := by simpa using h1
 have hrise : Rise vl := fleet_rise (hFE.symm.trans h2)
 have hT1 : TE = firstE [whenE (decide (ixP (vhP k) vl 0 < 0)) 8, momentE mt] := by rw [hT0, h2]; exact fe_tl
 refine wl_ov (ov_loads rz31 rfl (fun _ hm => hm.blkI 0 rfl) rfl rfl) rfl ?_
 refine mv_ rfl ?_
 refine wl_callv rfl cb80 rfl rfl (fun wx hm => (vehicleAt_any vl sA cA vA pA sn sc cn cc vn vc pn pc k wx (hm.fact 2 rfl).1 (by omega) hrise)) ?_
 refine wl_ov (ov_lss rfl rfl) rfl ?_
 refine wl_callw rfl cb79 rfl rfl (fun wx hm => (when_any _ _ wx)) ?_
 refine mv_ rfl ?_
 refine wl_callw rfl cb81 rfl rfl (fun wx hm => (moment_any _ wx)) ?_
 refine wl_buildSlice (e := 35) (cs := [.int .i64 (whenE (decide (ixP (vhP k) vl 0 < 0)) 8), .int .i64 (momentE mt)]) rfl (by kernel_rfl) rfl fun g2 => ?_
 refine wl_callw rfl cb78 rfl rfl (fun wx hm => (first_any [whenE (decide (ixP (vhP k) vl 0 < 0)) 8, momentE mt] _ _ _ wx (hm.blkI 0 rfl) (by simp))) ?_
 refine sg_ rfl (nn_ (sr_ (mv_ rfl (wl_ov (ov_neq rfl rfl) rfl (nn_ ?_)))))
 refine gw_cond rfl (fun hh => ?_) (fun hh => ?_)
 ·have h3 : ¬ (firstE [whenE (decide (ixP (vhP k) vl 0 < 0)) 8, momentE mt] = 0) := by simpa using hh
  clear hh
  refine sr_ ?_
  have h4 : TE ≠ 0 := by rw [hT1]; simpa using h3
  refine mv_ rfl (sg_ rfl (sg_ rfl (sg_ rfl (nn_ ?_))))
  refine gw_ret ?_
  refine nx_then_ret ?_
  refine nx_ret3 rfl rfl rfl rfl fun wx hm => ?_
  exact ⟨⟨#[]⟩, false, by rw [hT1], fun h => absurd h h4, fun _ => ⟨rfl, rfl⟩, hm.g⟩
 have h3 : firstE [whenE (decide (ixP (vhP k) vl 0 < 0)) 8, momentE mt] = 0 := by simpa using hh
 clear hh
 refine gw_skip (nx_then (sr_ ?_))
 have h4 : TE = 0 := by rw [hT1]; simpa using h3
 refine wl_ov (ov_loads rz31 rfl (fun _ hm => hm.blkI 1 rfl) rfl rfl) rfl ?_
 refine mv_ rfl ?_
 refine wl_callx (γ := Nat × Nat) (val := (fun g => .tuple #[.map (some g.1), .map (some g.2)])) (φ := (fun g => True)) (Y := (fun g => fun wy => MapF Value.string 0 g.1 (wornAt pl mt).1 wy ∧ MapF Value.string 0 g.2 (wornAt pl mt).2 wy)) rfl cb82 rfl rfl (fun wx hm => (plates_any pl sA cA vA pA sn sc cn cc vn vc pn pc mt wx (hm.fact 3 rfl).1 (by omega)).mono fun _ _ ⟨g1, g2, he, h1, h2, hg⟩ => ⟨(g1, g2), he, trivial, hg, h1, h2⟩) (fun _ => (MapF.lasts2).and_ (MapF.lasts2)) ?_
 rintro ⟨m1, m2⟩ hphi
 dsimp only
 clear hphi
 refine wl_also (Y := MapF Value.string 0 m1 (wornAt pl mt).1) (MapF.lasts2) (fun wx hm => ((hm.fact 0 rfl)).1) ?_
 refine wl_also (Y := MapF Value.string 0 m2 (wornAt pl mt).2) (MapF.lasts2) (fun wx hm => ((hm.fact 1 rfl)).2) ?_
 refine mv_ rfl (wl_ov (ov_extract rfl rfl) rfl (wl_ov (ov_extract rfl rfl) rfl (sg_ rfl (sg_ rfl (nn_ (sr_ (mv_ rfl (mv_ rfl ?_))))))))
 refine wl_ov (ov_lookFok (enc := Value.string) (k := 9) (e := 9) ⟨#[]⟩ (by kernel_rfl) (by kernel_rfl) (by kernel_rfl) rfl rfl (fun _ hm => (hm.fact 1 rfl))) rfl ?_
 refine mv_ rfl (wl_ov (ov_extract rfl rfl) rfl (wl_ov (ov_extract rfl rfl) rfl (sg_ rfl (sg_ rfl (nn_ (sr_ (mv_ rfl (mv_ rfl (sg_ rfl (sg_ rfl (sg_ rfl ?_)))))))))))
 refine nn_ ?_
 refine gw_ret ?_
 refine nx_ret3 rfl rfl rfl rfl fun wx hm => ?_
 exact ⟨_, _, by rw [h4], fun _ => ⟨rfl, rfl⟩, fun h => absurd h4 h, hm.g⟩
theorem vehicleOf_any (sl : List St) (cl : List Cs) (vl : List Vh) (pl : List Pl) (sA cA vA pA : Option Addr) (sn sc cn cc vn vc pn pc : Nat) (k : ByteArray) (mt : Int) (w : World) (hs : SlT stEnc 15 140 w sA sn sl) (hc : SlT csEnc 2 159 w cA cn cl) (hv : SlT vhEnc 2 77 w vA vn vl) (hp : SlT plEnc 3 143 w pA pn pl) (hsok : ∀ x ∈ sl, StOk x) (hcok : ∀ x ∈ cl, CsOk x) (hvok : ∀ x ∈ vl, VhOk x) (hpok : ∀ x ∈ pl, PlOk x) (hsn : sn ≤ 1000) (hcn : cn ≤ 1000) (hvn : vn ≤ 1000) (hpn : pn ≤ 1000) (hk : k.size ≤ 1000000) :
  Calls Tryz.prog 16 #[.agg #[.slice sA sn sc, .slice cA cn cc, .slice vA vn vc, .slice pA pn pc], .string k, .int .i64 mt] w (fun e w' => ∃ (A : ByteArray) (b : Bool), e = .returned (.tuple #[.string A, .bool b, .int .i64 (vehOfE sl cl vl pl k mt)]) ∧ ((vehOfE sl cl vl pl k mt) = 0 → A = ((wornAt pl mt).2 k).getD ⟨#[]⟩ ∧ b = ((wornAt pl mt).2 k).isSome) ∧ ((vehOfE sl cl vl pl k mt) ≠ 0 → A = ⟨#[]⟩ ∧ b = false) ∧ w.grownBy w' none) := by
 refine gw_enter ⟨41, w, none, []⟩ Tryz.func16 rfl Tryz.ntmps16 rfl (mem0 (X := [SlOld stEnc 15 140 w.heap.size none sA sn sl, SlOld csEnc 2 159 w.heap.size none cA cn cl, SlOld vhEnc 2 77 w.heap.size none vA vn vl, SlOld plEnc 3 143 w.heap.size none pA pn pl]) (allF_cons hs.old (allF_cons hc.old (allF_cons hv.old (allF_cons hp.old allF_nil)))) (allL_cons SlOld.lasts (allL_cons SlOld.lasts (allL_cons SlOld.lasts (allL_cons SlOld.lasts allL_nil))))) ?_
 refine sr_ ?_
 obtain ⟨FE, hFE⟩ : ∃ z, z = fleetE sl cl vl pl := ⟨_, rfl⟩
 obtain ⟨TE, hTE⟩ : ∃ z, z = vehOfE sl cl vl pl k mt := ⟨_, rfl⟩
 rw [← hTE]
 have hT0 : TE = firstE [FE, whenE (!plateB k) 3, momentE mt] := by rw [hTE, hFE]; rfl
 refine wl_box rfl rfl rfl fun g1 => ?_
 refine sg_ rfl (sg_ rfl (sg_ rfl (nn_ (gw_seq (sr_ ?_)))))
 refine wl_ov (ov_loads rz31 rfl (fun _ hm => hm.blkI 0 rfl) rfl rfl) rfl ?_
 refine wl_callv (v := .int .i64 FE) rfl cb23 rfl rfl (fun wx hm => (by rw [hFE]; exact checkFleet_any sl cl vl pl sA cA vA pA sn sc cn cc vn vc pn pc wx (hm.fact 0 rfl).1 (hm.fact 1 rfl).1 (hm.fact 2 rfl).1 (hm.fact 3 rfl).1 hsok hcok hvok hpok hsn hcn hvn hpn)) ?_
 refine mv_ rfl ?_
 refine wl_callv rfl cb83 rfl rfl (fun wx hm => ((isPlate_any k wx (by omega)).mono fun _ _ ⟨he, hw⟩ => ⟨he, hw ▸ World.grownBy.refl _ _⟩)) ?_
 refine wl_ov (ov_un_not rfl) rfl ?_
 refine wl_callw rfl cb79 rfl rfl (fun wx hm => (when_any _ _ wx)) ?_
 refine mv_ rfl ?_
 refine wl_callw rfl cb81 rfl rfl (fun wx hm => (moment_any _ wx)) ?_
 refine wl_buildSlice (e := 35) (cs := [.int .i64 FE, .int .i64 (whenE (!(plateB k)) 3), .int .i64 (momentE mt)]) rfl (by kernel_rfl) rfl fun g2 => ?_
 refine wl_callw rfl cb78 rfl rfl (fun wx hm => (first_any [FE, whenE (!(plateB k)) 3, momentE mt] _ _ _ wx (hm.blkI 0 rfl) (by simp))) ?_
 refine sg_ rfl (nn_ (sr_ (mv_ rfl (wl_ov (ov_neq rfl rfl) rfl (nn_ ?_)))))
 refine gw_cond rfl (fun hh => ?_) (fun hh => ?_)
 ·have h3 : ¬ (firstE [FE, whenE (!(plateB k)) 3, momentE mt] = 0) := by simpa using hh
  clear hh
  refine sr_ ?_
  have h4 : TE ≠ 0 := by rw [hT0]; simpa using h3
  refine mv_ rfl (sg_ rfl (sg_ rfl (sg_ rfl (nn_ ?_))))
  refine gw_ret ?_
  refine nx_then_ret ?_
  refine nx_ret3 rfl rfl rfl rfl fun wx hm => ?_
  exact ⟨⟨#[]⟩, false, by rw [hT0], fun h => absurd h h4, fun _ => ⟨rfl, rfl⟩, hm.g⟩
 have h3 : firstE [FE, whenE (!(plateB k)) 3, momentE mt] = 0 := by simpa using hh
 clear hh
 refine gw_skip (nx_then (sr_ ?_))
 have h4 : TE = 0 := by rw [hT0]; simpa using h3
 refine wl_ov (ov_loads rz31 rfl (fun _ hm => hm.blkI 1 rfl) rfl rfl) rfl ?_
 refine mv_ rfl ?_
 refine wl_callx (γ := Nat × Nat) (val := (fun g => .tuple #[.map (some g.1), .map (some g.2)])) (φ := (fun g => True)) (Y := (fun g => fun wy => MapF Value.string 0 g.1 (wornAt pl mt).1 wy ∧ MapF Value.string 0 g.2 (wornAt pl mt).2 wy)) rfl cb82 rfl rfl (fun wx hm => (plates_any pl sA cA vA pA sn sc cn cc vn vc pn pc mt wx (hm.fact 3 rfl).1 (by omega)).mono fun _ _ ⟨g1, g2, he, h1, h2, hg⟩ => ⟨(g1, g2), he, trivial, hg, h1, h2⟩) (fun _ => (MapF.lasts2).and_ (MapF.lasts2)) ?_
 rintro ⟨m1, m2⟩ hphi
 dsimp only
 clear hphi
 refine wl_also (Y := MapF Value.string 0 m1 (wornAt pl mt).1) (MapF.lasts2) (fun wx hm => ((hm.fact 0 rfl)).1) ?_
 refine wl_also (Y := MapF Value.string 0 m2 (wornAt pl mt).2) (MapF.lasts2) (fun wx hm => ((hm.fact 1 rfl)).2) ?_
 refine mv_ rfl (wl_ov (ov_extract rfl rfl) rfl (wl_ov (ov_extract rfl rfl) rfl (sg_ rfl (sg_ rfl (nn_ (sr_ (mv_ rfl (mv_ rfl ?_))))))))
 refine wl_ov (ov_lookFok (enc := Value.string) (k := 9) (e := 9) ⟨#[]⟩ (by kernel_rfl) (by kernel_rfl) (by kernel_rfl) rfl rfl (fun _ hm => (hm.fact 0 rfl))) rfl ?_
 refine mv_ rfl (wl_ov (ov_extract rfl rfl) rfl (wl_ov (ov_extract rfl rfl) rfl (sg_ rfl (sg_ rfl (nn_ (sr_ (mv_ rfl (mv_ rfl (sg_ rfl (sg_ rfl (sg_ rfl ?_)))))))))))
 refine nn_ ?_
 refine gw_ret ?_
 refine nx_ret3 rfl rfl rfl rfl fun wx hm => ?_
 exact ⟨_, _, by rw [h4], fun _ => ⟨rfl, rfl⟩, fun h => absurd h4 h, hm.g⟩
end Go.Proofs.YtjecbkgjabnmoaaGreatDoor
namespace Go.Proofs.YtjecbkgjabnmoaaGreatDoor
open Go.RowKit
theorem gvehicleKey_any (w : World) (B sb m : Nat) (hS : Strm 25 w B sb m) (hm : m ≤ 100000000000) :
  Calls Tryz.prog 12 #[.pointer (some ⟨sb, 0, none⟩)] w (fun e w' => ∃ v : ByteArray, e = .returned (.string v) ∧ v.size ≤ 100 ∧ Strm 25 w' B sb (m + 1) ∧ w.grownBy w' (some sb)) := by
 refine gw_enter ⟨6, w, (some sb), []⟩ Tryz.func12 rfl Tryz.ntmps12 rfl (memS (X := []) hS allF_nil allL_nil) ?_
 refine sr_ (sg_ rfl (nn_ (sr_ (mv_ rfl ?_))))
 refine wl_buildSlice (e := 9) (cs := [.string ⟨#[118, 49]⟩, .string ⟨#[118, 49]⟩, .string ⟨#[118, 50]⟩, .string ⟨#[118, 50]⟩, .string ⟨#[118, 51]⟩, .string ⟨#[118, 52]⟩, .string ⟨#[110, 111, 110, 101]⟩, .string ⟨#[]⟩, .string ⟨#[65]⟩]) rfl (by kernel_rfl) rfl fun g1 => ?_
 refine wl_got (γ := ByteArray) (val := fun v => .string v) (φ := fun v => v ∈ ([⟨#[118, 49]⟩, ⟨#[118, 49]⟩, ⟨#[118, 50]⟩, ⟨#[118, 50]⟩, ⟨#[118, 51]⟩, ⟨#[118, 52]⟩, ⟨#[110, 111, 110, 101]⟩, ⟨#[]⟩, ⟨#[65]⟩] : List ByteArray)) rfl cb43 rfl rfl rfl rfl (fun wx hm => (some_any [⟨#[118, 49]⟩, ⟨#[118, 49]⟩, ⟨#[118, 50]⟩, ⟨#[118, 50]⟩, ⟨#[118, 51]⟩, ⟨#[118, 52]⟩, ⟨#[110, 111, 110, 101]⟩, ⟨#[]⟩, ⟨#[65]⟩] _ _ _ wx B sb _ hm.k (by omega) (by simp) (by simp) (hm.blkI 0 rfl) (hm.neRow 0 rfl rfl))) fun s2 hs2 => ?_
 have zs2 : s2.size ≤ 100 := mem_sz hs2 (by decide)
 refine sg_ rfl (nn_ ?_)
 refine gw_ret ?_
 refine nx_ret1 rfl rfl fun wx hm => ?_
 exact ⟨s2, rfl, by omega, hm.k, hm.g⟩
theorem gplateText_any (w : World) (B sb m : Nat) (hS : Strm 25 w B sb m) (hm : m ≤ 100000000000) :
  Calls Tryz.prog 13 #[.pointer (some ⟨sb, 0, none⟩)] w (fun e w' => ∃ v : ByteArray, e = .returned (.string v) ∧ v.size ≤ 100 ∧ Strm 25 w' B sb (m + 1) ∧ w.grownBy w' (some sb)) := by
 refine gw_enter ⟨6, w, (some sb), []⟩ Tryz.func13 rfl Tryz.ntmps13 rfl (memS (X := []) hS allF_nil allL_nil) ?_
 refine sr_ (sg_ rfl (nn_ (sr_ (mv_ rfl ?_))))
 refine wl_buildSlice (e := 9) (cs := [.string ⟨#[65, 66, 49]⟩, .string ⟨#[65, 66, 49]⟩, .string ⟨#[65, 66, 50]⟩, .string ⟨#[90, 90, 57]⟩, .string ⟨#[81, 81, 55]⟩, .string ⟨#[97, 49]⟩, .string ⟨#[]⟩, .string ⟨#[65]⟩, .string ⟨#[65, 66, 32, 49]⟩]) rfl (by kernel_rfl) rfl fun g1 => ?_
 refine wl_got (γ := ByteArray) (val := fun v => .string v) (φ := fun v => v ∈ ([⟨#[65, 66, 49]⟩, ⟨#[65, 66, 49]⟩, ⟨#[65, 66, 50]⟩, ⟨#[90, 90, 57]⟩, ⟨#[81, 81, 55]⟩, ⟨#[97, 49]⟩, ⟨#[]⟩, ⟨#[65]⟩, ⟨#[65, 66, 32, 49]⟩] : List ByteArray)) rfl cb43 rfl rfl rfl rfl (fun wx hm => (some_any [⟨#[65, 66, 49]⟩, ⟨#[65, 66, 49]⟩, ⟨#[65, 66, 50]⟩, ⟨#[90, 90, 57]⟩, ⟨#[81, 81, 55]⟩, ⟨#[97, 49]⟩, ⟨#[]⟩, ⟨#[65]⟩, ⟨#[65, 66, 32, 49]⟩] _ _ _ wx B sb _ hm.k (by omega) (by simp) (by simp) (hm.blkI 0 rfl) (hm.neRow 0 rfl rfl))) fun s2 hs2 => ?_
 have zs2 : s2.size ≤ 100 := mem_sz hs2 (by decide)
 refine sg_ rfl (nn_ ?_)
 refine gw_ret ?_
 refine nx_ret1 rfl rfl fun wx hm => ?_
 exact ⟨s2, rfl, by omega, hm.k, hm.g⟩
end Go.Proofs.YtjecbkgjabnmoaaGreatDoor
