/- Several texts as one: Rx Gs Eh Gp Ej Ss1 Rt2 Ek Yp Lo El -/
import Derived.Test.YtjecbkgjabnmoaaGreatDoorPe
import Derived.Test.YtjecbkgjabnmoaaGreatDoorPb
import Derived.Test.YtjecbkgjabnmoaaGreatDoorPa
import Derived.Test.YtjecbkgjabnmoaaGreatDoorPc
import Derived.Test.YtjecbkgjabnmoaaGreatDoorProg
import Derived.Ground.NamesProg
import Derived.Shelf.Sort.Plain
import Derived.Test.YtjecbkgjabnmoaaGreatDoorPd
set_option maxRecDepth 100000
set_option maxHeartbeats 4000000
namespace Go.Proofs.YtjecbkgjabnmoaaGreatDoor
open Go.RowKit
/-- What the generators' fleets are. -/
def FlOk (sl : List St) (cl : List Cs) (vl : List Vh) (pl : List Pl) (sn vn pn : Nat) : Prop := ((∀ x ∈ sl, StOk x) ∧ sn ≤ 10) ∧ (∀ x ∈ cl, CsOk x) ∧ ((∀ x ∈ vl, VhB x) ∧ vn ≤ 10) ∧ (∀ x ∈ pl, PlB x) ∧ pn ≤ 10
theorem s0_ok : ∀ h ∈ ([0, 0, 0, 0, 0, 0, 0, 0, 0, 0, 0, 0, 0, 0] : List Int), -9223372036854775808 ≤ h ∧ h ≤ 9223372036854775807 := by decide
theorem stB_all {l : List St} (h : ∀ x ∈ l, StB x) : ∀ x ∈ l, StOk x := fun x hx => stB_ok (h x hx)
theorem gclassKey2_any (w : World) (B sb m : Nat) (hS : Strm 25 w B sb m) (hm : m ≤ 100000000000) :
  Calls Tryz.prog 44 #[.pointer (some ⟨sb, 0, none⟩)] w (fun e w' => ∃ v : ByteArray, e = .returned (.string v) ∧ v.size ≤ 100 ∧ Strm 25 w' B sb (m + 1) ∧ w.grownBy w' (some sb)) := by
 refine gw_enter ⟨6, w, (some sb), []⟩ Tryz.func44 rfl Tryz.ntmps44 rfl (memS (X := []) hS allF_nil allL_nil) ?_
 refine sr_ (sg_ rfl (nn_ (sr_ (mv_ rfl ?_))))
 refine wl_buildSlice (e := 9) (cs := [.string ⟨#[109, 105, 110, 105]⟩, .string ⟨#[109, 105, 110, 105]⟩, .string ⟨#[109, 105, 100, 105]⟩, .string ⟨#[109, 97, 120, 105]⟩, .string ⟨#[98, 105, 103]⟩, .string ⟨#[109, 105, 110, 105]⟩, .string ⟨#[110, 111, 110, 101]⟩, .string ⟨#[]⟩, .string ⟨#[65]⟩]) rfl (by kernel_rfl) rfl fun g1 => ?_
 refine wl_got (γ := ByteArray) (val := fun v => .string v) (φ := fun v => v ∈ ([⟨#[109, 105, 110, 105]⟩, ⟨#[109, 105, 110, 105]⟩, ⟨#[109, 105, 100, 105]⟩, ⟨#[109, 97, 120, 105]⟩, ⟨#[98, 105, 103]⟩, ⟨#[109, 105, 110, 105]⟩, ⟨#[110, 111, 110, 101]⟩, ⟨#[]⟩, ⟨#[65]⟩] : List ByteArray)) rfl cb43 rfl rfl rfl rfl (fun wx hm => (some_any [⟨#[109, 105, 110, 105]⟩, ⟨#[109, 105, 110, 105]⟩, ⟨#[109, 105, 100, 105]⟩, ⟨#[109, 97, 120, 105]⟩, ⟨#[98, 105, 103]⟩, ⟨#[109, 105, 110, 105]⟩, ⟨#[110, 111, 110, 101]⟩, ⟨#[]⟩, ⟨#[65]⟩] _ _ _ wx B sb _ hm.k (by omega) (by simp) (by simp) (hm.blkI 0 rfl) (hm.neRow 0 rfl rfl))) fun s2 hs2 => ?_
 have zs2 : s2.size ≤ 100 := mem_sz hs2 (by decide)
 refine sg_ rfl (nn_ ?_)
 refine gw_ret ?_
 refine nx_ret1 rfl rfl fun wx hm => ?_
 exact ⟨s2, rfl, by omega, hm.k, hm.g⟩
theorem fleet_any (w : World) (B sb m : Nat) (hS : Strm 25 w B sb m) (hm : m ≤ 10000000) :
  Calls Tryz.prog 11 #[.pointer (some ⟨sb, 0, none⟩)] w (fun e w' => ∃ (sA cA vA pA : Option Addr) (sn sc cc vn vc pn pc : Nat) (sl : List St) (cl : List Cs) (vl : List Vh) (pl : List Pl), e = .returned (.agg #[.slice sA sn sc, .slice cA 4 cc, .slice vA vn vc, .slice pA pn pc]) ∧ FlOk sl cl vl pl sn vn pn ∧ Strm 25 w' B sb (m + 400) ∧ w.grownBy w' (some sb) ∧ SlT stEnc 15 140 w' sA sn sl ∧ SlT csEnc 2 159 w' cA 4 cl ∧ SlT vhEnc 2 77 w' vA vn vl ∧ SlT plEnc 3 143 w' pA pn pl ∧ ShapeA pA pn pc ∧ pn ≤ pc) := by
 refine gw_enter ⟨56, w, (some sb), [159]⟩ Tryz.func11 rfl Tryz.ntmps11 rfl (memS (X := []) hS allF_nil allL_nil) ?_
 refine sr_ ?_
 refine wl_alloc zc31 rfl fun g1 => ?_
 refine nn_ (sr_ (mv_ rfl ?_))
 refine wl_calls3 (γ := Option Addr × Option Addr × Option Addr × Option Addr × Nat × Nat × Nat × Nat × Nat × Nat × Nat × List St × List Cs × List Vh × List Pl) (val := (fun g => .agg #[.slice g.1 g.2.2.2.2.1 g.2.2.2.2.2.1, .slice g.2.1 4 g.2.2.2.2.2.2.1, .slice g.2.2.1 g.2.2.2.2.2.2.2.1 g.2.2.2.2.2.2.2.2.1, .slice g.2.2.2.1 g.2.2.2.2.2.2.2.2.2.1 g.2.2.2.2.2.2.2.2.2.2.1])) (φ := (fun g => RfOk g.2.2.2.2.2.2.2.2.2.2.2.1 g.2.2.2.2.2.2.2.2.2.2.2.2.1 g.2.2.2.2.2.2.2.2.2.2.2.2.2.1 g.2.2.2.2.2.2.2.2.2.2.2.2.2.2 g.2.2.2.2.1 g.2.2.2.2.2.2.2.1 g.2.2.2.2.2.2.2.2.2.1)) (Y := (fun g => fun wy => SlT csEnc 2 159 wy g.2.1 4 g.2.2.2.2.2.2.2.2.2.2.2.2.1)) (m' := m + 300) (fun g => ⟨.slice g.1 g.2.2.2.2.1 g.2.2.2.2.2.1, 140, 15, g.2.2.2.2.1, g.2.2.2.2.2.2.2.2.2.2.2.1.flatMap stEnc⟩) (fun g => ⟨.slice g.2.2.1 g.2.2.2.2.2.2.2.1 g.2.2.2.2.2.2.2.2.1, 77, 2, g.2.2.2.2.2.2.2.1, g.2.2.2.2.2.2.2.2.2.2.2.2.2.1.flatMap vhEnc⟩) (fun g => ⟨.slice g.2.2.2.1 g.2.2.2.2.2.2.2.2.2.1 g.2.2.2.2.2.2.2.2.2.2.1, 143, 3, g.2.2.2.2.2.2.2.2.2.1, g.2.2.2.2.2.2.2.2.2.2.2.2.2.2.flatMap plEnc⟩) rfl cb38 rfl rfl rfl rfl (fun _ => rfl) (fun _ => rfl) (fun _ => rfl) (fun wx hm => (rightFleet_any wx B sb _ hm.k (by omega)).mono fun _ _ ⟨sA, cA, vA, pA, sn, sc, cc, vn, vc, pn, pc, sl, cl, vl, pl, he, hok, hS, hg, h1, h2, h3, h4⟩ => ⟨(sA, cA, vA, pA, sn, sc, cc, vn, vc, pn, pc, sl, cl, vl, pl), he, hok, hS, hg, h1, h2, h3, h4⟩) (fun _ => SlT.lasts2 rfl) ?_
 rintro ⟨sA, cA, vA, pA, sn, sc, cc, vn, vc, pn, pc, sl, cl, vl, pl⟩ hrf
 dsimp only at hrf ⊢
 obtain ⟨⟨hsl, hsB, hs1, hs3⟩, ⟨hcl4, hcok⟩, ⟨hvl, hvB, hv4⟩, hpl, hpB, hp5⟩ := hrf
 refine wl_alloc zc31 rfl fun g2 => ?_
 refine wl_stores (cs' := [.slice sA sn sc, .slice cA 4 cc, .slice vA vn vc, .slice pA pn pc]) 0 rz31 rfl rfl rfl rfl rfl rfl rfl rfl ?_
 refine nn_ (gw_seq (sr_ (mv_ rfl ?_)))
 refine wl_got (γ := Bool) (val := fun v => .bool v) (φ := fun v => True) rfl cb53 rfl rfl rfl rfl (fun wx hm => ((flip_any _ wx B sb _ hm.k (by omega) (by omega) (by omega)).mono fun _ _ ⟨v, he, hS, hg⟩ => ⟨v, trivial, he, hS, hg⟩)) fun f3 _ => ?_
 refine wl_ov (ov_un_not rfl) rfl (nn_ ?_)
 refine gw_cond rfl (fun hh => ?_) (fun hh => ?_)
 ·have hf : f3 = false := by simpa using hh
  clear hh
  refine sr_ ?_
  refine wl_ov (ov_loads rz31 rfl (fun _ hm => hm.blkI 0 rfl) rfl rfl) rfl ?_
  refine wl_stores (cs' := [.slice sA sn sc, .slice cA 4 cc, .slice vA vn vc, .slice pA pn pc]) 1 rz31 rfl rfl rfl rfl rfl rfl rfl rfl ?_
  refine nn_ ?_
  refine gw_ret ?_
  refine nx_then_ret ?_
  refine nx_retc 1 rfl rz31 rfl rfl rfl fun wx hm => ?_
  exact ⟨sA, cA, vA, pA, sn, sc, cc, vn, vc, pn, pc, sl, cl, vl, pl, rfl, ⟨⟨stB_all hsB, by omega⟩, hcok, ⟨hvB, by omega⟩, hpB, by omega⟩, hm.k.more (by omega), hm.g, SlT.ofOwnL stEnc_lenL (stB_all hsB) (hm.ownI 0 rfl) hsl, (hm.fact 0 rfl), SlT.ofOwn vh_len (hm.ownI 1 rfl) hvl, SlT.ofOwn pl_len (hm.ownI 2 rfl) hpl, own_shape (hm.ownI 2 rfl), own_cap (hm.ownI 2 rfl)⟩
 have hf : f3 = true := by simpa using hh
 clear hh
 refine gw_skip (nx_then (gw_seq (sr_ (mv_ rfl ?_))))
 refine wl_got (γ := Int) (val := fun v => .int .i64 v) (φ := fun v => IsBelow 4 v) rfl cb42 rfl rfl rfl rfl (fun wx hm => (next_any _ wx B sb _ hm.k (by omega) (by omega) (by omega))) fun vj hvj => ?_
 refine nn_ (gw_block (sr_ (wl_ov (ov_eql rfl rfl) rfl (sg_ rfl (nn_ ?_)))))
 refine gw_cond rfl (fun hh => ?_) (fun hh => ?_)
 ·have h0 : vj = 0 := by simpa using hh
  clear hh
  refine gd (fun wz => Blk wz g1 31 [.slice none 0 0, .slice none 0 0, .slice none 0 0, .slice none 0 0] ∧ (fun wy => SlT csEnc 2 159 wy cA 4 cl) wz ∧ True) mixed (fun _ hm => ⟨hm.bl 1, hm.fa 0, trivial⟩) fun z => ?_
  refine wt 0 10 1 rfl z (ov_field fo31_0 rfl rfl) ?_
  refine wt 2 10 5 rfl z (ov_move rfl) ?_
  refine wa_all [1, 3] (by kernel_rfl) rfl ⟨⟨_, rfl, ?_⟩, ⟨_, rfl, ?_⟩, trivial⟩
  ·refine lk_ sc26 0 rfl rfl rfl (wl_nil ?_)
   refine nw 10 7 (fun _ hm => ⟨hm.bl 1, hm.fa 0, trivial⟩) fun z => ?_
   refine wa1 3 rfl ?_
   refine wl_buildSlice (e := 9) (cs := [.string ⟨#[]⟩, .string ⟨#[65]⟩, .string ⟨#[115, 49]⟩, .string ⟨#[115, 57]⟩]) rfl (by kernel_rfl) rfl fun g4 => ?_
   refine wl_nil ?_
   refine nw 10 15 (fun _ hm => ⟨hm.bl 2, hm.fa 0, trivial⟩) fun z => ?_
   refine wa1 4 rfl ?_
   refine wl_got (γ := ByteArray) (val := fun v => .string v) (φ := fun v => v ∈ ([⟨#[]⟩, ⟨#[65]⟩, ⟨#[115, 49]⟩, ⟨#[115, 57]⟩] : List ByteArray)) rfl cb43 rfl rfl rfl rfl (fun wx hm => (some_any [⟨#[]⟩, ⟨#[65]⟩, ⟨#[115, 49]⟩, ⟨#[115, 57]⟩] _ _ _ wx B sb _ hm.k (by omega) (by simp) (by simp) (hm.blkI 0 rfl) (hm.neRow 0 rfl rfl))) fun s5 hs5 => ?_
   have zs5 : s5.size ≤ 100 := mem_sz hs5 (by decide)
   refine wl_nil ?_
   refine nw 10 31 (fun _ hm => ⟨hm.bl 2, hm.fa 0, trivial⟩) fun z => ?_
   refine wt 5 10 63 rfl z (ov_build (cs := [.string s5, .int .i64 0, .int .i64 0, .int .i64 0, .int .i64 0, .int .i64 0, .int .i64 0, .int .i64 0, .int .i64 0, .int .i64 0, .int .i64 0, .int .i64 0, .int .i64 0, .int .i64 0, .int .i64 0]) rfl (by kernel_rfl)) ?_
   refine wa1 6 rfl ?_
   refine wl_buildSlice (e := 140) (cs := [.string s5, .int .i64 0, .int .i64 0, .int .i64 0, .int .i64 0, .int .i64 0, .int .i64 0, .int .i64 0, .int .i64 0, .int .i64 0, .int .i64 0, .int .i64 0, .int .i64 0, .int .i64 0, .int .i64 0]) rfl (by kernel_rfl) rfl fun g6 => ?_
   refine wl_nil ?_
   refine nw 10 127 (fun _ hm => ⟨hm.bl 3, hm.fa 0, trivial⟩) fun z => ?_
   refine wa1 7 rfl ?_
   refine wl_append (news := [.string s5, .int .i64 0, .int .i64 0, .int .i64 0, .int .i64 0, .int .i64 0, .int .i64 0, .int .i64 0, .int .i64 0, .int .i64 0, .int .i64 0, .int .i64 0, .int .i64 0, .int .i64 0, .int .i64 0]) 0 0 ap26 rfl rfl rfl rfl rfl rfl rfl (by omega) (by unfold maxLen; omega) rfl rfl fun v2 hv2 => ?_
   refine wl_look (R := ∃ A cc, v2 = .slice A (sn + 1) cc) (fun wx hm => own_slice (hm.ownI 0 rfl)) ?_
   rintro ⟨A2, c2, rfl⟩
   have hxs : sl.flatMap stEnc ++ ([.string s5, .int .i64 0, .int .i64 0, .int .i64 0, .int .i64 0, .int .i64 0, .int .i64 0, .int .i64 0, .int .i64 0, .int .i64 0, .int .i64 0, .int .i64 0, .int .i64 0, .int .i64 0, .int .i64 0] : List Value) = (sl ++ [(⟨s5, [0, 0, 0, 0, 0, 0, 0, 0, 0, 0, 0, 0, 0, 0]⟩ : St)]).flatMap stEnc := by simp [stEnc, stCells]
   rw [hxs]
   refine wl_nil ?_
   refine nw 10 255 (fun _ hm => ⟨hm.bl 3, hm.fa 0, trivial⟩) fun z => ?_
   refine wt 8 10 511 rfl z (ov_field fo31_0 rfl rfl) ?_
   refine wa1 9 rfl ?_
   refine wl_store 2 sc26 rfl rfl rfl rfl rfl rfl ?_
   refine wl_nil ?_
   refine nw 10 1023 (fun _ hm => ⟨hm.bl 3, hm.fa 0, trivial⟩) fun z => ?_
   refine wa_done (by kernel_rfl) ?_
   refine nx_blk_nrm (nx_then (sr_ ?_))
   refine wl_ov (ov_loads rz31 rfl (fun _ hm => hm.blkI 2 rfl) rfl rfl) rfl ?_
   refine wl_stores (cs' := [.slice A2 (sn + 1) c2, .slice cA 4 cc, .slice vA vn vc, .slice pA pn pc]) 3 rz31 rfl rfl rfl rfl rfl rfl rfl rfl ?_
   refine nn_ ?_
   refine gw_ret ?_
   refine nx_retc 3 rfl rz31 rfl rfl rfl fun wx hm => ?_
   exact ⟨A2, cA, vA, pA, sn + 1, c2, cc, vn, vc, pn, pc, sl ++ [(⟨s5, [0, 0, 0, 0, 0, 0, 0, 0, 0, 0, 0, 0, 0, 0]⟩ : St)], cl, vl, pl, rfl, ⟨⟨all_snoc (stB_all hsB) ⟨rfl, by dsimp only; omega, s0_ok⟩, by omega⟩, hcok, ⟨hvB, by omega⟩, hpB, by omega⟩, hm.k.more (by omega), hm.g, SlT.ofOwnL stEnc_lenL (all_snoc (stB_all hsB) ⟨rfl, by dsimp only; omega, s0_ok⟩) (hm.ownI 0 rfl) (by simp [hsl]), (hm.fact 0 rfl), SlT.ofOwn vh_len (hm.ownI 1 rfl) hvl, SlT.ofOwn pl_len (hm.ownI 2 rfl) hpl, own_shape (hm.ownI 2 rfl), own_cap (hm.ownI 2 rfl)⟩
  refine wl_buildSlice (e := 9) (cs := [.string ⟨#[]⟩, .string ⟨#[65]⟩, .string ⟨#[115, 49]⟩, .string ⟨#[115, 57]⟩]) rfl (by kernel_rfl) rfl fun g7 => ?_
  refine wl_nil ?_
  refine nw 10 13 (fun _ hm => ⟨hm.bl 2, hm.fa 0, trivial⟩) fun z => ?_
  refine wa_all [1, 4] (by kernel_rfl) rfl ⟨⟨_, rfl, ?_⟩, ⟨_, rfl, ?_⟩, trivial⟩
  ·refine lk_ sc26 1 rfl rfl rfl (wl_nil ?_)
   refine nw 10 15 (fun _ hm => ⟨hm.bl 2, hm.fa 0, trivial⟩) fun z => ?_
   refine wa1 4 rfl ?_
   refine wl_got (γ := ByteArray) (val := fun v => .string v) (φ := fun v => v ∈ ([⟨#[]⟩, ⟨#[65]⟩, ⟨#[115, 49]⟩, ⟨#[115, 57]⟩] : List ByteArray)) rfl cb43 rfl rfl rfl rfl (fun wx hm => (some_any [⟨#[]⟩, ⟨#[65]⟩, ⟨#[115, 49]⟩, ⟨#[115, 57]⟩] _ _ _ wx B sb _ hm.k (by omega) (by simp) (by simp) (hm.blkI 0 rfl) (hm.neRow 0 rfl rfl))) fun s8 hs8 => ?_
   have zs8 : s8.size ≤ 100 := mem_sz hs8 (by decide)
   refine wl_nil ?_
   refine nw 10 31 (fun _ hm => ⟨hm.bl 2, hm.fa 0, trivial⟩) fun z => ?_
   refine wt 5 10 63 rfl z (ov_build (cs := [.string s8, .int .i64 0, .int .i64 0, .int .i64 0, .int .i64 0, .int .i64 0, .int .i64 0, .int .i64 0, .int .i64 0, .int .i64 0, .int .i64 0, .int .i64 0, .int .i64 0, .int .i64 0, .int .i64 0]) rfl (by kernel_rfl)) ?_
   refine wa1 6 rfl ?_
   refine wl_buildSlice (e := 140) (cs := [.string s8, .int .i64 0, .int .i64 0, .int .i64 0, .int .i64 0, .int .i64 0, .int .i64 0, .int .i64 0, .int .i64 0, .int .i64 0, .int .i64 0, .int .i64 0, .int .i64 0, .int .i64 0, .int .i64 0]) rfl (by kernel_rfl) rfl fun g9 => ?_
   refine wl_nil ?_
   refine nw 10 127 (fun _ hm => ⟨hm.bl 3, hm.fa 0, trivial⟩) fun z => ?_
   refine wa1 7 rfl ?_
   refine wl_append (news := [.string s8, .int .i64 0, .int .i64 0, .int .i64 0, .int .i64 0, .int .i64 0, .int .i64 0, .int .i64 0, .int .i64 0, .int .i64 0, .int .i64 0, .int .i64 0, .int .i64 0, .int .i64 0, .int .i64 0]) 0 0 ap26 rfl rfl rfl rfl rfl rfl rfl (by omega) (by unfold maxLen; omega) rfl rfl fun v2 hv2 => ?_
   refine wl_look (R := ∃ A cc, v2 = .slice A (sn + 1) cc) (fun wx hm => own_slice (hm.ownI 0 rfl)) ?_
   rintro ⟨A2, c2, rfl⟩
   have hxs : sl.flatMap stEnc ++ ([.string s8, .int .i64 0, .int .i64 0, .int .i64 0, .int .i64 0, .int .i64 0, .int .i64 0, .int .i64 0, .int .i64 0, .int .i64 0, .int .i64 0, .int .i64 0, .int .i64 0, .int .i64 0, .int .i64 0] : List Value) = (sl ++ [(⟨s8, [0, 0, 0, 0, 0, 0, 0, 0, 0, 0, 0, 0, 0, 0]⟩ : St)]).flatMap stEnc := by simp [stEnc, stCells]
   rw [hxs]
   refine wl_nil ?_
   refine nw 10 255 (fun _ hm => ⟨hm.bl 3, hm.fa 0, trivial⟩) fun z => ?_
   refine wt 8 10 511 rfl z (ov_field fo31_0 rfl rfl) ?_
   refine wa1 9 rfl ?_
   refine wl_store 2 sc26 rfl rfl rfl rfl rfl rfl ?_
   refine wl_nil ?_
   refine nw 10 1023 (fun _ hm => ⟨hm.bl 3, hm.fa 0, trivial⟩) fun z => ?_
   refine wa_done (by kernel_rfl) ?_
   refine nx_blk_nrm (nx_then (sr_ ?_))
   refine wl_ov (ov_loads rz31 rfl (fun _ hm => hm.blkI 2 rfl) rfl rfl) rfl ?_
   refine wl_stores (cs' := [.slice A2 (sn + 1) c2, .slice cA 4 cc, .slice vA vn vc, .slice pA pn pc]) 3 rz31 rfl rfl rfl rfl rfl rfl rfl rfl ?_
   refine nn_ ?_
   refine gw_ret ?_
   refine nx_retc 3 rfl rz31 rfl rfl rfl fun wx hm => ?_
   exact ⟨A2, cA, vA, pA, sn + 1, c2, cc, vn, vc, pn, pc, sl ++ [(⟨s8, [0, 0, 0, 0, 0, 0, 0, 0, 0, 0, 0, 0, 0, 0]⟩ : St)], cl, vl, pl, rfl, ⟨⟨all_snoc (stB_all hsB) ⟨rfl, by dsimp only; omega, s0_ok⟩, by omega⟩, hcok, ⟨hvB, by omega⟩, hpB, by omega⟩, hm.k.more (by omega), hm.g, SlT.ofOwnL stEnc_lenL (all_snoc (stB_all hsB) ⟨rfl, by dsimp only; omega, s0_ok⟩) (hm.ownI 0 rfl) (by simp [hsl]), (hm.fact 0 rfl), SlT.ofOwn vh_len (hm.ownI 1 rfl) hvl, SlT.ofOwn pl_len (hm.ownI 2 rfl) hpl, own_shape (hm.ownI 2 rfl), own_cap (hm.ownI 2 rfl)⟩
  refine wl_got (γ := ByteArray) (val := fun v => .string v) (φ := fun v => v ∈ ([⟨#[]⟩, ⟨#[65]⟩, ⟨#[115, 49]⟩, ⟨#[115, 57]⟩] : List ByteArray)) rfl cb43 rfl rfl rfl rfl (fun wx hm => (some_any [⟨#[]⟩, ⟨#[65]⟩, ⟨#[115, 49]⟩, ⟨#[115, 57]⟩] _ _ _ wx B sb _ hm.k (by omega) (by simp) (by simp) (hm.blkI 0 rfl) (hm.neRow 0 rfl rfl))) fun s10 hs10 => ?_
  have zs10 : s10.size ≤ 100 := mem_sz hs10 (by decide)
  refine wl_nil ?_
  refine nw 10 29 (fun _ hm => ⟨hm.bl 2, hm.fa 0, trivial⟩) fun z => ?_
  refine wt 5 10 61 rfl z (ov_build (cs := [.string s10, .int .i64 0, .int .i64 0, .int .i64 0, .int .i64 0, .int .i64 0, .int .i64 0, .int .i64 0, .int .i64 0, .int .i64 0, .int .i64 0, .int .i64 0, .int .i64 0, .int .i64 0, .int .i64 0]) rfl (by kernel_rfl)) ?_
  refine wa_all [1, 6] (by kernel_rfl) rfl ⟨⟨_, rfl, ?_⟩, ⟨_, rfl, ?_⟩, trivial⟩
  ·refine lk_ sc26 1 rfl rfl rfl (wl_nil ?_)
   refine nw 10 63 (fun _ hm => ⟨hm.bl 2, hm.fa 0, trivial⟩) fun z => ?_
   refine wa1 6 rfl ?_
   refine wl_buildSlice (e := 140) (cs := [.string s10, .int .i64 0, .int .i64 0, .int .i64 0, .int .i64 0, .int .i64 0, .int .i64 0, .int .i64 0, .int .i64 0, .int .i64 0, .int .i64 0, .int .i64 0, .int .i64 0, .int .i64 0, .int .i64 0]) rfl (by kernel_rfl) rfl fun g11 => ?_
   refine wl_nil ?_
   refine nw 10 127 (fun _ hm => ⟨hm.bl 3, hm.fa 0, trivial⟩) fun z => ?_
   refine wa1 7 rfl ?_
   refine wl_append (news := [.string s10, .int .i64 0, .int .i64 0, .int .i64 0, .int .i64 0, .int .i64 0, .int .i64 0, .int .i64 0, .int .i64 0, .int .i64 0, .int .i64 0, .int .i64 0, .int .i64 0, .int .i64 0, .int .i64 0]) 0 0 ap26 rfl rfl rfl rfl rfl rfl rfl (by omega) (by unfold maxLen; omega) rfl rfl fun v2 hv2 => ?_
   refine wl_look (R := ∃ A cc, v2 = .slice A (sn + 1) cc) (fun wx hm => own_slice (hm.ownI 0 rfl)) ?_
   rintro ⟨A2, c2, rfl⟩
   have hxs : sl.flatMap stEnc ++ ([.string s10, .int .i64 0, .int .i64 0, .int .i64 0, .int .i64 0, .int .i64 0, .int .i64 0, .int .i64 0, .int .i64 0, .int .i64 0, .int .i64 0, .int .i64 0, .int .i64 0, .int .i64 0, .int .i64 0] : List Value) = (sl ++ [(⟨s10, [0, 0, 0, 0, 0, 0, 0, 0, 0, 0, 0, 0, 0, 0]⟩ : St)]).flatMap stEnc := by simp [stEnc, stCells]
   rw [hxs]
   refine wl_nil ?_
   refine nw 10 255 (fun _ hm => ⟨hm.bl 3, hm.fa 0, trivial⟩) fun z => ?_
   refine wt 8 10 511 rfl z (ov_field fo31_0 rfl rfl) ?_
   refine wa1 9 rfl ?_
   refine wl_store 2 sc26 rfl rfl rfl rfl rfl rfl ?_
   refine wl_nil ?_
   refine nw 10 1023 (fun _ hm => ⟨hm.bl 3, hm.fa 0, trivial⟩) fun z => ?_
   refine wa_done (by kernel_rfl) ?_
   refine nx_blk_nrm (nx_then (sr_ ?_))
   refine wl_ov (ov_loads rz31 rfl (fun _ hm => hm.blkI 2 rfl) rfl rfl) rfl ?_
   refine wl_stores (cs' := [.slice A2 (sn + 1) c2, .slice cA 4 cc, .slice vA vn vc, .slice pA pn pc]) 3 rz31 rfl rfl rfl rfl rfl rfl rfl rfl ?_
   refine nn_ ?_
   refine gw_ret ?_
   refine nx_retc 3 rfl rz31 rfl rfl rfl fun wx hm => ?_
   exact ⟨A2, cA, vA, pA, sn + 1, c2, cc, vn, vc, pn, pc, sl ++ [(⟨s10, [0, 0, 0, 0, 0, 0, 0, 0, 0, 0, 0, 0, 0, 0]⟩ : St)], cl, vl, pl, rfl, ⟨⟨all_snoc (stB_all hsB) ⟨rfl, by dsimp only; omega, s0_ok⟩, by omega⟩, hcok, ⟨hvB, by omega⟩, hpB, by omega⟩, hm.k.more (by omega), hm.g, SlT.ofOwnL stEnc_lenL (all_snoc (stB_all hsB) ⟨rfl, by dsimp only; omega, s0_ok⟩) (hm.ownI 0 rfl) (by simp [hsl]), (hm.fact 0 rfl), SlT.ofOwn vh_len (hm.ownI 1 rfl) hvl, SlT.ofOwn pl_len (hm.ownI 2 rfl) hpl, own_shape (hm.ownI 2 rfl), own_cap (hm.ownI 2 rfl)⟩
  refine wl_buildSlice (e := 140) (cs := [.string s10, .int .i64 0, .int .i64 0, .int .i64 0, .int .i64 0, .int .i64 0, .int .i64 0, .int .i64 0, .int .i64 0, .int .i64 0, .int .i64 0, .int .i64 0, .int .i64 0, .int .i64 0, .int .i64 0]) rfl (by kernel_rfl) rfl fun g12 => ?_
  refine wl_nil ?_
  refine nw 10 125 (fun _ hm => ⟨hm.bl 3, hm.fa 0, trivial⟩) fun z => ?_
  refine wa1 1 rfl ?_
  refine lk_ sc26 2 rfl rfl rfl (wl_nil ?_)
  refine nw 10 127 (fun _ hm => ⟨hm.bl 3, hm.fa 0, trivial⟩) fun z => ?_
  refine wa1 7 rfl ?_
  refine wl_append (news := [.string s10, .int .i64 0, .int .i64 0, .int .i64 0, .int .i64 0, .int .i64 0, .int .i64 0, .int .i64 0, .int .i64 0, .int .i64 0, .int .i64 0, .int .i64 0, .int .i64 0, .int .i64 0, .int .i64 0]) 0 0 ap26 rfl rfl rfl rfl rfl rfl rfl (by omega) (by unfold maxLen; omega) rfl rfl fun v2 hv2 => ?_
  refine wl_look (R := ∃ A cc, v2 = .slice A (sn + 1) cc) (fun wx hm => own_slice (hm.ownI 0 rfl)) ?_
  rintro ⟨A2, c2, rfl⟩
  have hxs : sl.flatMap stEnc ++ ([.string s10, .int .i64 0, .int .i64 0, .int .i64 0, .int .i64 0, .int .i64 0, .int .i64 0, .int .i64 0, .int .i64 0, .int .i64 0, .int .i64 0, .int .i64 0, .int .i64 0, .int .i64 0, .int .i64 0] : List Value) = (sl ++ [(⟨s10, [0, 0, 0, 0, 0, 0, 0, 0, 0, 0, 0, 0, 0, 0]⟩ : St)]).flatMap stEnc := by simp [stEnc, stCells]
  rw [hxs]
  refine wl_nil ?_
  refine nw 10 255 (fun _ hm => ⟨hm.bl 3, hm.fa 0, trivial⟩) fun z => ?_
  refine wt 8 10 511 rfl z (ov_field fo31_0 rfl rfl) ?_
  refine wa1 9 rfl ?_
  refine wl_store 2 sc26 rfl rfl rfl rfl rfl rfl ?_
  refine wl_nil ?_
  refine nw 10 1023 (fun _ hm => ⟨hm.bl 3, hm.fa 0, trivial⟩) fun z => ?_
  refine wa_done (by kernel_rfl) ?_
  refine nx_blk_nrm (nx_then (sr_ ?_))
  refine wl_ov (ov_loads rz31 rfl (fun _ hm => hm.blkI 2 rfl) rfl rfl) rfl ?_
  refine wl_stores (cs' := [.slice A2 (sn + 1) c2, .slice cA 4 cc, .slice vA vn vc, .slice pA pn pc]) 3 rz31 rfl rfl rfl rfl rfl rfl rfl rfl ?_
  refine nn_ ?_
  refine gw_ret ?_
  refine nx_retc 3 rfl rz31 rfl rfl rfl fun wx hm => ?_
  exact ⟨A2, cA, vA, pA, sn + 1, c2, cc, vn, vc, pn, pc, sl ++ [(⟨s10, [0, 0, 0, 0, 0, 0, 0, 0, 0, 0, 0, 0, 0, 0]⟩ : St)], cl, vl, pl, rfl, ⟨⟨all_snoc (stB_all hsB) ⟨rfl, by dsimp only; omega, s0_ok⟩, by omega⟩, hcok, ⟨hvB, by omega⟩, hpB, by omega⟩, hm.k.more (by omega), hm.g, SlT.ofOwnL stEnc_lenL (all_snoc (stB_all hsB) ⟨rfl, by dsimp only; omega, s0_ok⟩) (hm.ownI 0 rfl) (by simp [hsl]), (hm.fact 0 rfl), SlT.ofOwn vh_len (hm.ownI 1 rfl) hvl, SlT.ofOwn pl_len (hm.ownI 2 rfl) hpl, own_shape (hm.ownI 2 rfl), own_cap (hm.ownI 2 rfl)⟩
 have h0 : ¬ (vj = 0) := by simpa using hh
 clear hh
 refine sr_ (wl_ov (ov_eql rfl rfl) rfl (sg_ rfl (nn_ ?_)))
 refine gw_cond rfl (fun hh => ?_) (fun hh => ?_)
 ·have h1 : vj = 1 := by simpa using hh
  clear hh
  refine gw_region (mv_ rfl ?_)
  refine wl_calls (γ := Option Addr × Nat × List Cs) (val := (fun g => .slice g.1 4 g.2.1)) (φ := (fun g => g.2.2.length = 4 ∧ (∀ x ∈ g.2.2, CsOk x))) (Y := (fun g => fun wy => SlT csEnc 2 159 wy g.1 4 g.2.2)) (m' := m + 300 + 1 + 1 + 40) rfl cb76 rfl rfl rfl rfl (fun wx hm => (ganyClasses_any wx B sb _ hm.k (by omega)).mono fun _ _ ⟨A, c, l, he, ho, hl, hok, hS, hg⟩ => ⟨(A, c, l), he, ⟨hl, hok⟩, hS, hg, SlT.ofOwn cs_len ho hl⟩) (fun _ => SlT.lasts2 rfl) ?_
  rintro ⟨cA2, cc2, cl2⟩ hphi
  dsimp only at hphi ⊢
  obtain ⟨hcl42, hcok2⟩ := hphi
  refine fd_ fo31_1 rfl rfl ?_
  refine wl_store 0 sc27 rfl rfl rfl rfl rfl rfl ?_
  refine wl_nil (nx_blk_nrm (nx_then (sr_ ?_)))
  refine wl_ov (ov_loads rz31 rfl (fun _ hm => hm.blkI 0 rfl) rfl rfl) rfl ?_
  refine wl_stores (cs' := [.slice sA sn sc, .slice cA2 4 cc2, .slice vA vn vc, .slice pA pn pc]) 1 rz31 rfl rfl rfl rfl rfl rfl rfl rfl ?_
  refine nn_ ?_
  refine gw_ret ?_
  refine nx_retc 1 rfl rz31 rfl rfl rfl fun wx hm => ?_
  exact ⟨sA, cA2, vA, pA, sn, sc, cc2, vn, vc, pn, pc, sl, cl2, vl, pl, rfl, ⟨⟨stB_all hsB, by omega⟩, hcok2, ⟨hvB, by omega⟩, hpB, by omega⟩, hm.k.more (by omega), hm.g, SlT.ofOwnL stEnc_lenL (stB_all hsB) (hm.ownI 0 rfl) hsl, (hm.fact 0 rfl), SlT.ofOwn vh_len (hm.ownI 1 rfl) hvl, SlT.ofOwn pl_len (hm.ownI 2 rfl) hpl, own_shape (hm.ownI 2 rfl), own_cap (hm.ownI 2 rfl)⟩
 have h1 : ¬ (vj = 1) := by simpa using hh
 clear hh
 refine sr_ (wl_ov (ov_eql rfl rfl) rfl (sg_ rfl (nn_ ?_)))
 refine gw_cond rfl (fun hh => ?_) (fun hh => ?_)
 ·have h2 : vj = 2 := by simpa using hh
  clear hh
  refine gd (fun wz => Blk wz g1 31 [.slice none 0 0, .slice none 0 0, .slice none 0 0, .slice none 0 0] ∧ (fun wy => SlT csEnc 2 159 wy cA 4 cl) wz ∧ True) mixed (fun _ hm => ⟨hm.bl 1, hm.fa 0, trivial⟩) fun z => ?_
  refine wt 0 12 1 rfl z (ov_field fo31_2 rfl rfl) ?_
  refine wt 2 12 5 rfl z (ov_move rfl) ?_
  refine wt 5 12 37 rfl z (ov_move rfl) ?_
  refine wa_all [1, 3] (by kernel_rfl) rfl ⟨⟨_, rfl, ?_⟩, ⟨_, rfl, ?_⟩, trivial⟩
  ·refine lk_ sc28 0 rfl rfl rfl (wl_nil ?_)
   refine nw 12 39 (fun _ hm => ⟨hm.bl 1, hm.fa 0, trivial⟩) fun z => ?_
   refine wa1 3 rfl ?_
   refine wl_buildSlice (e := 9) (cs := [.string ⟨#[]⟩, .string ⟨#[118, 49]⟩, .string ⟨#[118, 57]⟩]) rfl (by kernel_rfl) rfl fun g13 => ?_
   refine wl_nil ?_
   refine nw 12 47 (fun _ hm => ⟨hm.bl 2, hm.fa 0, trivial⟩) fun z => ?_
   refine wa1 4 rfl ?_
   refine wl_got (γ := ByteArray) (val := fun v => .string v) (φ := fun v => v ∈ ([⟨#[]⟩, ⟨#[118, 49]⟩, ⟨#[118, 57]⟩] : List ByteArray)) rfl cb43 rfl rfl rfl rfl (fun wx hm => (some_any [⟨#[]⟩, ⟨#[118, 49]⟩, ⟨#[118, 57]⟩] _ _ _ wx B sb _ hm.k (by omega) (by simp) (by simp) (hm.blkI 0 rfl) (hm.neRow 0 rfl rfl))) fun s14 hs14 => ?_
   have zs14 : s14.size ≤ 100 := mem_sz hs14 (by decide)
   refine wl_nil ?_
   refine nw 12 63 (fun _ hm => ⟨hm.bl 2, hm.fa 0, trivial⟩) fun z => ?_
   refine wa1 6 rfl ?_
   refine wl_calls (γ := ByteArray) (val := (fun g => .string g)) (φ := (fun g => g.size ≤ 100)) (Y := (fun g => fun _ => True)) (m' := m + 300 + 1 + 1 + 1 + 1) rfl cb44 rfl rfl rfl rfl (fun wx hm => (gclassKey2_any wx B sb _ hm.k (by omega)).mono fun _ _ ⟨v, he, hz, hS, hg⟩ => ⟨v, he, hz, hS, hg, trivial⟩) (fun _ => Lasts2.true_) ?_
   rintro ck hck
   refine wl_nil ?_
   refine nw 12 127 (fun _ hm => ⟨hm.bl 2, hm.fa 1, trivial⟩) fun z => ?_
   refine wt 7 12 255 rfl z (ov_build (cs := [.string s14, .string ck]) rfl (by kernel_rfl)) ?_
   refine wa1 8 rfl ?_
   refine wl_buildSlice (e := 77) (cs := [.string s14, .string ck]) rfl (by kernel_rfl) rfl fun g16 => ?_
   refine wl_nil ?_
   refine nw 12 511 (fun _ hm => ⟨hm.bl 3, hm.fa 1, trivial⟩) fun z => ?_
   refine wa1 9 rfl ?_
   refine wl_append (news := [.string s14, .string ck]) 1 0 ap28 rfl rfl rfl rfl rfl rfl rfl (by omega) (by unfold maxLen; omega) rfl rfl fun v2 hv2 => ?_
   refine wl_look (R := ∃ A cc, v2 = .slice A (vn + 1) cc) (fun wx hm => own_slice (hm.ownI 1 rfl)) ?_
   rintro ⟨A2, c2, rfl⟩
   have hxs : vl.flatMap vhEnc ++ ([.string s14, .string ck] : List Value) = (vl ++ [(⟨s14, ck⟩ : Vh)]).flatMap vhEnc := by simp [vhEnc]
   rw [hxs]
   refine wl_nil ?_
   refine nw 12 1023 (fun _ hm => ⟨hm.bl 3, hm.fa 1, trivial⟩) fun z => ?_
   refine wt 10 12 2047 rfl z (ov_field fo31_2 rfl rfl) ?_
   refine wa1 11 rfl ?_
   refine wl_store 2 sc28 rfl rfl rfl rfl rfl rfl ?_
   refine wl_nil ?_
   refine nw 12 4095 (fun _ hm => ⟨hm.bl 3, hm.fa 1, trivial⟩) fun z => ?_
   refine wa_done (by kernel_rfl) ?_
   refine nx_blk_nrm (nx_then (sr_ ?_))
   refine wl_ov (ov_loads rz31 rfl (fun _ hm => hm.blkI 2 rfl) rfl rfl) rfl ?_
   refine wl_stores (cs' := [.slice sA sn sc, .slice cA 4 cc, .slice A2 (vn + 1) c2, .slice pA pn pc]) 3 rz31 rfl rfl rfl rfl rfl rfl rfl rfl ?_
   refine nn_ ?_
   refine gw_ret ?_
   refine nx_retc 3 rfl rz31 rfl rfl rfl fun wx hm => ?_
   exact ⟨sA, cA, A2, pA, sn, sc, cc, vn + 1, c2, pn, pc, sl, cl, vl ++ [(⟨s14, ck⟩ : Vh)], pl, rfl, ⟨⟨stB_all hsB, by omega⟩, hcok, ⟨all_snoc hvB ⟨by dsimp only; omega, by dsimp only; omega⟩, by omega⟩, hpB, by omega⟩, hm.k.more (by omega), hm.g, SlT.ofOwnL stEnc_lenL (stB_all hsB) (hm.ownI 0 rfl) hsl, (hm.fact 1 rfl), SlT.ofOwn vh_len (hm.ownI 1 rfl) (by simp [hvl]), SlT.ofOwn pl_len (hm.ownI 2 rfl) hpl, own_shape (hm.ownI 2 rfl), own_cap (hm.ownI 2 rfl)⟩
  refine wl_buildSlice (e := 9) (cs := [.string ⟨#[]⟩, .string ⟨#[118, 49]⟩, .string ⟨#[118, 57]⟩]) rfl (by kernel_rfl) rfl fun g17 => ?_
  refine wl_nil ?_
  refine nw 12 45 (fun _ hm => ⟨hm.bl 2, hm.fa 0, trivial⟩) fun z => ?_
  refine wa_all [1, 4] (by kernel_rfl) rfl ⟨⟨_, rfl, ?_⟩, ⟨_, rfl, ?_⟩, trivial⟩
  ·refine lk_ sc28 1 rfl rfl rfl (wl_nil ?_)
   refine nw 12 47 (fun _ hm => ⟨hm.bl 2, hm.fa 0, trivial⟩) fun z => ?_
   refine wa1 4 rfl ?_
   refine wl_got (γ := ByteArray) (val := fun v => .string v) (φ := fun v => v ∈ ([⟨#[]⟩, ⟨#[118, 49]⟩, ⟨#[118, 57]⟩] : List ByteArray)) rfl cb43 rfl rfl rfl rfl (fun wx hm => (some_any [⟨#[]⟩, ⟨#[118, 49]⟩, ⟨#[118, 57]⟩] _ _ _ wx B sb _ hm.k (by omega) (by simp) (by simp) (hm.blkI 0 rfl) (hm.neRow 0 rfl rfl))) fun s18 hs18 => ?_
   have zs18 : s18.size ≤ 100 := mem_sz hs18 (by decide)
   refine wl_nil ?_
   refine nw 12 63 (fun _ hm => ⟨hm.bl 2, hm.fa 0, trivial⟩) fun z => ?_
   refine wa1 6 rfl ?_
   refine wl_calls (γ := ByteArray) (val := (fun g => .string g)) (φ := (fun g => g.size ≤ 100)) (Y := (fun g => fun _ => True)) (m' := m + 300 + 1 + 1 + 1 + 1) rfl cb44 rfl rfl rfl rfl (fun wx hm => (gclassKey2_any wx B sb _ hm.k (by omega)).mono fun _ _ ⟨v, he, hz, hS, hg⟩ => ⟨v, he, hz, hS, hg, trivial⟩) (fun _ => Lasts2.true_) ?_
   rintro ck hck
   refine wl_nil ?_
   refine nw 12 127 (fun _ hm => ⟨hm.bl 2, hm.fa 1, trivial⟩) fun z => ?_
   refine wt 7 12 255 rfl z (ov_build (cs := [.string s18, .string ck]) rfl (by kernel_rfl)) ?_
   refine wa1 8 rfl ?_
   refine wl_buildSlice (e := 77) (cs := [.string s18, .string ck]) rfl (by kernel_rfl) rfl fun g20 => ?_
   refine wl_nil ?_
   refine nw 12 511 (fun _ hm => ⟨hm.bl 3, hm.fa 1, trivial⟩) fun z => ?_
   refine wa1 9 rfl ?_
   refine wl_append (news := [.string s18, .string ck]) 1 0 ap28 rfl rfl rfl rfl rfl rfl rfl (by omega) (by unfold maxLen; omega) rfl rfl fun v2 hv2 => ?_
   refine wl_look (R := ∃ A cc, v2 = .slice A (vn + 1) cc) (fun wx hm => own_slice (hm.ownI 1 rfl)) ?_
   rintro ⟨A2, c2, rfl⟩
   have hxs : vl.flatMap vhEnc ++ ([.string s18, .string ck] : List Value) = (vl ++ [(⟨s18, ck⟩ : Vh)]).flatMap vhEnc := by simp [vhEnc]
   rw [hxs]
   refine wl_nil ?_
   refine nw 12 1023 (fun _ hm => ⟨hm.bl 3, hm.fa 1, trivial⟩) fun z => ?_
   refine wt 10 12 2047 rfl z (ov_field fo31_2 rfl rfl) ?_
   refine wa1 11 rfl ?_
   refine wl_store 2 sc28 rfl rfl rfl rfl rfl rfl ?_
   refine wl_nil ?_
   refine nw 12 4095 (fun _ hm => ⟨hm.bl 3, hm.fa 1, trivial⟩) fun z => ?_
   refine wa_done (by kernel_rfl) ?_
   refine nx_blk_nrm (nx_then (sr_ ?_))
   refine wl_ov (ov_loads rz31 rfl (fun _ hm => hm.blkI 2 rfl) rfl rfl) rfl ?_
   refine wl_stores (cs' := [.slice sA sn sc, .slice cA 4 cc, .slice A2 (vn + 1) c2, .slice pA pn pc]) 3 rz31 rfl rfl rfl rfl rfl rfl rfl rfl ?_
   refine nn_ ?_
   refine gw_ret ?_
   refine nx_retc 3 rfl rz31 rfl rfl rfl fun wx hm => ?_
   exact ⟨sA, cA, A2, pA, sn, sc, cc, vn + 1, c2, pn, pc, sl, cl, vl ++ [(⟨s18, ck⟩ : Vh)], pl, rfl, ⟨⟨stB_all hsB, by omega⟩, hcok, ⟨all_snoc hvB ⟨by dsimp only; omega, by dsimp only; omega⟩, by omega⟩, hpB, by omega⟩, hm.k.more (by omega), hm.g, SlT.ofOwnL stEnc_lenL (stB_all hsB) (hm.ownI 0 rfl) hsl, (hm.fact 1 rfl), SlT.ofOwn vh_len (hm.ownI 1 rfl) (by simp [hvl]), SlT.ofOwn pl_len (hm.ownI 2 rfl) hpl, own_shape (hm.ownI 2 rfl), own_cap (hm.ownI 2 rfl)⟩
  refine wl_got (γ := ByteArray) (val := fun v => .string v) (φ := fun v => v ∈ ([⟨#[]⟩, ⟨#[118, 49]⟩, ⟨#[118, 57]⟩] : List ByteArray)) rfl cb43 rfl rfl rfl rfl (fun wx hm => (some_any [⟨#[]⟩, ⟨#[118, 49]⟩, ⟨#[118, 57]⟩] _ _ _ wx B sb _ hm.k (by omega) (by simp) (by simp) (hm.blkI 0 rfl) (hm.neRow 0 rfl rfl))) fun s21 hs21 => ?_
  have zs21 : s21.size ≤ 100 := mem_sz hs21 (by decide)
  refine wl_nil ?_
  refine nw 12 61 (fun _ hm => ⟨hm.bl 2, hm.fa 0, trivial⟩) fun z => ?_
  refine wa_all [1, 6] (by kernel_rfl) rfl ⟨⟨_, rfl, ?_⟩, ⟨_, rfl, ?_⟩, trivial⟩
  ·refine lk_ sc28 1 rfl rfl rfl (wl_nil ?_)
   refine nw 12 63 (fun _ hm => ⟨hm.bl 2, hm.fa 0, trivial⟩) fun z => ?_
   refine wa1 6 rfl ?_
   refine wl_calls (γ := ByteArray) (val := (fun g => .string g)) (φ := (fun g => g.size ≤ 100)) (Y := (fun g => fun _ => True)) (m' := m + 300 + 1 + 1 + 1 + 1) rfl cb44 rfl rfl rfl rfl (fun wx hm => (gclassKey2_any wx B sb _ hm.k (by omega)).mono fun _ _ ⟨v, he, hz, hS, hg⟩ => ⟨v, he, hz, hS, hg, trivial⟩) (fun _ => Lasts2.true_) ?_
   rintro ck hck
   refine wl_nil ?_
   refine nw 12 127 (fun _ hm => ⟨hm.bl 2, hm.fa 1, trivial⟩) fun z => ?_
   refine wt 7 12 255 rfl z (ov_build (cs := [.string s21, .string ck]) rfl (by kernel_rfl)) ?_
   refine wa1 8 rfl ?_
   refine wl_buildSlice (e := 77) (cs := [.string s21, .string ck]) rfl (by kernel_rfl) rfl fun g23 => ?_
   refine wl_nil ?_
   refine nw 12 511 (fun _ hm => ⟨hm.bl 3, hm.fa 1, trivial⟩) fun z => ?_
   refine wa1 9 rfl ?_
   refine wl_append (news := [.string s21, .string ck]) 1 0 ap28 rfl rfl rfl rfl rfl rfl rfl (by omega) (by unfold maxLen; omega) rfl rfl fun v2 hv2 => ?_
   refine wl_look (R := ∃ A cc, v2 = .slice A (vn + 1) cc) (fun wx hm => own_slice (hm.ownI 1 rfl)) ?_
   rintro ⟨A2, c2, rfl⟩
   have hxs : vl.flatMap vhEnc ++ ([.string s21, .string ck] : List Value) = (vl ++ [(⟨s21, ck⟩ : Vh)]).flatMap vhEnc := by simp [vhEnc]
   rw [hxs]
   refine wl_nil ?_
   refine nw 12 1023 (fun _ hm => ⟨hm.bl 3, hm.fa 1, trivial⟩) fun z => ?_
   refine wt 10 12 2047 rfl z (ov_field fo31_2 rfl rfl) ?_
   refine wa1 11 rfl ?_
   refine wl_store 2 sc28 rfl rfl rfl rfl rfl rfl ?_
   refine wl_nil ?_
   refine nw 12 4095 (fun _ hm => ⟨hm.bl 3, hm.fa 1, trivial⟩) fun z => ?_
   refine wa_done (by kernel_rfl) ?_
   refine nx_blk_nrm (nx_then (sr_ ?_))
   refine wl_ov (ov_loads rz31 rfl (fun _ hm => hm.blkI 2 rfl) rfl rfl) rfl ?_
   refine wl_stores (cs' := [.slice sA sn sc, .slice cA 4 cc, .slice A2 (vn + 1) c2, .slice pA pn pc]) 3 rz31 rfl rfl rfl rfl rfl rfl rfl rfl ?_
   refine nn_ ?_
   refine gw_ret ?_
   refine nx_retc 3 rfl rz31 rfl rfl rfl fun wx hm => ?_
   exact ⟨sA, cA, A2, pA, sn, sc, cc, vn + 1, c2, pn, pc, sl, cl, vl ++ [(⟨s21, ck⟩ : Vh)], pl, rfl, ⟨⟨stB_all hsB, by omega⟩, hcok, ⟨all_snoc hvB ⟨by dsimp only; omega, by dsimp only; omega⟩, by omega⟩, hpB, by omega⟩, hm.k.more (by omega), hm.g, SlT.ofOwnL stEnc_lenL (stB_all hsB) (hm.ownI 0 rfl) hsl, (hm.fact 1 rfl), SlT.ofOwn vh_len (hm.ownI 1 rfl) (by simp [hvl]), SlT.ofOwn pl_len (hm.ownI 2 rfl) hpl, own_shape (hm.ownI 2 rfl), own_cap (hm.ownI 2 rfl)⟩
  refine wl_calls (γ := ByteArray) (val := (fun g => .string g)) (φ := (fun g => g.size ≤ 100)) (Y := (fun g => fun _ => True)) (m' := m + 300 + 1 + 1 + 1 + 1) rfl cb44 rfl rfl rfl rfl (fun wx hm => (gclassKey2_any wx B sb _ hm.k (by omega)).mono fun _ _ ⟨v, he, hz, hS, hg⟩ => ⟨v, he, hz, hS, hg, trivial⟩) (fun _ => Lasts2.true_) ?_
  rintro ck hck
  refine wl_nil ?_
  refine nw 12 125 (fun _ hm => ⟨hm.bl 2, hm.fa 1, trivial⟩) fun z => ?_
  refine wt 7 12 253 rfl z (ov_build (cs := [.string s21, .string ck]) rfl (by kernel_rfl)) ?_
  refine wa_all [1, 8] (by kernel_rfl) rfl ⟨⟨_, rfl, ?_⟩, ⟨_, rfl, ?_⟩, trivial⟩
  ·refine lk_ sc28 1 rfl rfl rfl (wl_nil ?_)
   refine nw 12 255 (fun _ hm => ⟨hm.bl 2, hm.fa 1, trivial⟩) fun z => ?_
   refine wa1 8 rfl ?_
   refine wl_buildSlice (e := 77) (cs := [.string s21, .string ck]) rfl (by kernel_rfl) rfl fun g25 => ?_
   refine wl_nil ?_
   refine nw 12 511 (fun _ hm => ⟨hm.bl 3, hm.fa 1, trivial⟩) fun z => ?_
   refine wa1 9 rfl ?_
   refine wl_append (news := [.string s21, .string ck]) 1 0 ap28 rfl rfl rfl rfl rfl rfl rfl (by omega) (by unfold maxLen; omega) rfl rfl fun v2 hv2 => ?_
   refine wl_look (R := ∃ A cc, v2 = .slice A (vn + 1) cc) (fun wx hm => own_slice (hm.ownI 1 rfl)) ?_
   rintro ⟨A2, c2, rfl⟩
   have hxs : vl.flatMap vhEnc ++ ([.string s21, .string ck] : List Value) = (vl ++ [(⟨s21, ck⟩ : Vh)]).flatMap vhEnc := by simp [vhEnc]
   rw [hxs]
   refine wl_nil ?_
   refine nw 12 1023 (fun _ hm => ⟨hm.bl 3, hm.fa 1, trivial⟩) fun z => ?_
   refine wt 10 12 2047 rfl z (ov_field fo31_2 rfl rfl) ?_
   refine wa1 11 rfl ?_
   refine wl_store 2 sc28 rfl rfl rfl rfl rfl rfl ?_
   refine wl_nil ?_
   refine nw 12 4095 (fun _ hm => ⟨hm.bl 3, hm.fa 1, trivial⟩) fun z => ?_
   refine wa_done (by kernel_rfl) ?_
   refine nx_blk_nrm (nx_then (sr_ ?_))
   refine wl_ov (ov_loads rz31 rfl (fun _ hm => hm.blkI 2 rfl) rfl rfl) rfl ?_
   refine wl_stores (cs' := [.slice sA sn sc, .slice cA 4 cc, .slice A2 (vn + 1) c2, .slice pA pn pc]) 3 rz31 rfl rfl rfl rfl rfl rfl rfl rfl ?_
   refine nn_ ?_
   refine gw_ret ?_
   refine nx_retc 3 rfl rz31 rfl rfl rfl fun wx hm => ?_
   exact ⟨sA, cA, A2, pA, sn, sc, cc, vn + 1, c2, pn, pc, sl, cl, vl ++ [(⟨s21, ck⟩ : Vh)], pl, rfl, ⟨⟨stB_all hsB, by omega⟩, hcok, ⟨all_snoc hvB ⟨by dsimp only; omega, by dsimp only; omega⟩, by omega⟩, hpB, by omega⟩, hm.k.more (by omega), hm.g, SlT.ofOwnL stEnc_lenL (stB_all hsB) (hm.ownI 0 rfl) hsl, (hm.fact 1 rfl), SlT.ofOwn vh_len (hm.ownI 1 rfl) (by simp [hvl]), SlT.ofOwn pl_len (hm.ownI 2 rfl) hpl, own_shape (hm.ownI 2 rfl), own_cap (hm.ownI 2 rfl)⟩
  refine wl_buildSlice (e := 77) (cs := [.string s21, .string ck]) rfl (by kernel_rfl) rfl fun g26 => ?_
  refine wl_nil ?_
  refine nw 12 509 (fun _ hm => ⟨hm.bl 3, hm.fa 1, trivial⟩) fun z => ?_
  refine wa1 1 rfl ?_
  refine lk_ sc28 2 rfl rfl rfl (wl_nil ?_)
  refine nw 12 511 (fun _ hm => ⟨hm.bl 3, hm.fa 1, trivial⟩) fun z => ?_
  refine wa1 9 rfl ?_
  refine wl_append (news := [.string s21, .string ck]) 1 0 ap28 rfl rfl rfl rfl rfl rfl rfl (by omega) (by unfold maxLen; omega) rfl rfl fun v2 hv2 => ?_
  refine wl_look (R := ∃ A cc, v2 = .slice A (vn + 1) cc) (fun wx hm => own_slice (hm.ownI 1 rfl)) ?_
  rintro ⟨A2, c2, rfl⟩
  have hxs : vl.flatMap vhEnc ++ ([.string s21, .string ck] : List Value) = (vl ++ [(⟨s21, ck⟩ : Vh)]).flatMap vhEnc := by simp [vhEnc]
  rw [hxs]
  refine wl_nil ?_
  refine nw 12 1023 (fun _ hm => ⟨hm.bl 3, hm.fa 1, trivial⟩) fun z => ?_
  refine wt 10 12 2047 rfl z (ov_field fo31_2 rfl rfl) ?_
  refine wa1 11 rfl ?_
  refine wl_store 2 sc28 rfl rfl rfl rfl rfl rfl ?_
  refine wl_nil ?_
  refine nw 12 4095 (fun _ hm => ⟨hm.bl 3, hm.fa 1, trivial⟩) fun z => ?_
  refine wa_done (by kernel_rfl) ?_
  refine nx_blk_nrm (nx_then (sr_ ?_))
  refine wl_ov (ov_loads rz31 rfl (fun _ hm => hm.blkI 2 rfl) rfl rfl) rfl ?_
  refine wl_stores (cs' := [.slice sA sn sc, .slice cA 4 cc, .slice A2 (vn + 1) c2, .slice pA pn pc]) 3 rz31 rfl rfl rfl rfl rfl rfl rfl rfl ?_
  refine nn_ ?_
  refine gw_ret ?_
  refine nx_retc 3 rfl rz31 rfl rfl rfl fun wx hm => ?_
  exact ⟨sA, cA, A2, pA, sn, sc, cc, vn + 1, c2, pn, pc, sl, cl, vl ++ [(⟨s21, ck⟩ : Vh)], pl, rfl, ⟨⟨stB_all hsB, by omega⟩, hcok, ⟨all_snoc hvB ⟨by dsimp only; omega, by dsimp only; omega⟩, by omega⟩, hpB, by omega⟩, hm.k.more (by omega), hm.g, SlT.ofOwnL stEnc_lenL (stB_all hsB) (hm.ownI 0 rfl) hsl, (hm.fact 1 rfl), SlT.ofOwn vh_len (hm.ownI 1 rfl) (by simp [hvl]), SlT.ofOwn pl_len (hm.ownI 2 rfl) hpl, own_shape (hm.ownI 2 rfl), own_cap (hm.ownI 2 rfl)⟩
 have h2 : ¬ (vj = 2) := by simpa using hh
 clear hh
 refine gd (fun wz => Blk wz g1 31 [.slice none 0 0, .slice none 0 0, .slice none 0 0, .slice none 0 0] ∧ (fun wy => SlT csEnc 2 159 wy cA 4 cl) wz ∧ True) mixed (fun _ hm => ⟨hm.bl 1, hm.fa 0, trivial⟩) fun z => ?_
 refine wt 0 15 1 rfl z (ov_field fo31_3 rfl rfl) ?_
 refine wt 2 15 5 rfl z (ov_move rfl) ?_
 refine wt 4 15 21 rfl z (ov_move rfl) ?_
 refine wt 7 15 149 rfl z (ov_move rfl) ?_
 refine wa_open fun W hW => ?_
 have T255 : ∀ (k3 : Int) (hk3 : -2000000000000000 ≤ k3 ∧ k3 ≤ 2000000000000000) (q5 : Nat) (k6 : ByteArray) (zk6 : k6.size ≤ 100), W 7 (lb 15 255) [(0, .pointer (some ⟨sb, 0, none⟩)), (2, .pointer (some ⟨g1, 0, none⟩)), (3, .pointer (some ⟨g2, 0, none⟩)), (4, .pointer (some ⟨sb, 0, none⟩)), (5, .agg #[.slice sA sn sc, .slice cA 4 cc, .slice vA vn vc, .slice pA pn pc]), (6, .pointer (some ⟨sb, 0, none⟩)), (7, .bool f3), (8, .bool (!f3)), (10, .pointer (some ⟨sb, 0, none⟩)), (11, .int .i64 vj), (12, .pointer (some ⟨g2, 3, none⟩)), (13, .slice pA pn pc), (14, .pointer (some ⟨sb, 0, none⟩)), (15, .int .i64 k3), (16, .pointer (some ⟨sb, 0, none⟩)), (17, .slice (some ⟨q5, 0, none⟩) 2 2), (18, .string k6), (19, .pointer (some ⟨sb, 0, none⟩)), (26, .bool (decide (vj = 0))), (27, .bool (decide (vj = 0))), (37, .bool (decide (vj = 1))), (38, .bool (decide (vj = 1))), (42, .bool (decide (vj = 2))), (43, .bool (decide (vj = 2)))] (fun w => Strm 25 w B sb (m + 300 + 1 + 1 + 2 + 1)) [(g1, 31, [.slice none 0 0, .slice none 0 0, .slice none 0 0, .slice none 0 0]), (g2, 31, [.slice sA sn sc, .slice cA 4 cc, .slice vA vn vc, .slice pA pn pc]), (q5, 9, [.string ⟨#[118, 49]⟩, .string ⟨#[110, 111, 110, 101]⟩])] [⟨.slice sA sn sc, 140, 15, sn, sl.flatMap stEnc⟩, ⟨.slice vA vn vc, 77, 2, vn, vl.flatMap vhEnc⟩, ⟨.slice pA pn pc, 143, 3, pn, pl.flatMap plEnc⟩] [fun wy => SlT csEnc 2 159 wy cA 4 cl] := by
  intro k3 hk3 q5 k6 zk6
  rw [hW]
  refine wa1 8 rfl ?_
  refine wl_buildSlice (e := 9) (cs := [.string ⟨#[65, 66, 49]⟩, .string ⟨#[97, 49]⟩, .string ⟨#[65]⟩, .string ⟨#[65, 66, 67, 68, 69, 70, 71, 72, 73, 74, 49]⟩, .string ⟨#[65, 66, 49]⟩]) rfl (by kernel_rfl) rfl fun g27 => ?_
  refine wl_nil ?_
  refine nw 15 511 (fun _ hm => ⟨hm.bl 1, hm.fa 0, trivial⟩) fun z => ?_
  refine wa1 9 rfl ?_
  refine wl_got (γ := ByteArray) (val := fun v => .string v) (φ := fun v => v ∈ ([⟨#[65, 66, 49]⟩, ⟨#[97, 49]⟩, ⟨#[65]⟩, ⟨#[65, 66, 67, 68, 69, 70, 71, 72, 73, 74, 49]⟩, ⟨#[65, 66, 49]⟩] : List ByteArray)) rfl cb43 rfl rfl rfl rfl (fun wx hm => (some_any [⟨#[65, 66, 49]⟩, ⟨#[97, 49]⟩, ⟨#[65]⟩, ⟨#[65, 66, 67, 68, 69, 70, 71, 72, 73, 74, 49]⟩, ⟨#[65, 66, 49]⟩] _ _ _ wx B sb _ hm.k (by omega) (by simp) (by simp) (hm.blkI 0 rfl) (hm.neRow 0 rfl rfl))) fun k9 hk9 => ?_
  have zk9 : k9.size ≤ 100 := mem_sz hk9 (by decide)
  refine wl_nil ?_
  refine nw 15 1023 (fun _ hm => ⟨hm.bl 1, hm.fa 0, trivial⟩) fun z => ?_
  refine wt 10 15 2047 rfl z (ov_build (cs := [.int .i64 k3, .string k6, .string k9]) rfl (by kernel_rfl)) ?_
  refine wa1 11 rfl ?_
  refine wl_buildSlice (e := 143) (cs := [.int .i64 k3, .string k6, .string k9]) rfl (by kernel_rfl) rfl fun g28 => ?_
  refine wl_nil ?_
  refine nw 15 4095 (fun _ hm => ⟨hm.bl 2, hm.fa 0, trivial⟩) fun z => ?_
  refine wa1 12 rfl ?_
  refine wl_append (news := [.int .i64 k3, .string k6, .string k9]) 2 0 ap29 rfl rfl rfl rfl rfl rfl rfl (by omega) (by unfold maxLen; omega) rfl rfl fun v2 hv2 => ?_
  refine wl_look (R := ∃ A cc, v2 = .slice A (pn + 1) cc) (fun wx hm => own_slice (hm.ownI 2 rfl)) ?_
  rintro ⟨A2, c2, rfl⟩
  have hxs : pl.flatMap plEnc ++ ([.int .i64 k3, .string k6, .string k9] : List Value) = (pl ++ [(⟨k3, k6, k9⟩ : Pl)]).flatMap plEnc := by simp [plEnc]
  rw [hxs]
  refine wl_nil ?_
  refine nw 15 8191 (fun _ hm => ⟨hm.bl 2, hm.fa 0, trivial⟩) fun z => ?_
  refine wt 13 15 16383 rfl z (ov_field fo31_3 rfl rfl) ?_
  refine wa1 14 rfl ?_
  refine wl_store 3 sc29 rfl rfl rfl rfl rfl rfl ?_
  refine wl_nil ?_
  refine nw 15 32767 (fun _ hm => ⟨hm.bl 2, hm.fa 0, trivial⟩) fun z => ?_
  refine wa_done (by kernel_rfl) ?_
  refine nx_blk_nrm (nx_then (sr_ ?_))
  refine wl_ov (ov_loads rz31 rfl (fun _ hm => hm.blkI 3 rfl) rfl rfl) rfl ?_
  refine wl_stores (cs' := [.slice sA sn sc, .slice cA 4 cc, .slice vA vn vc, .slice A2 (pn + 1) c2]) 2 rz31 rfl rfl rfl rfl rfl rfl rfl rfl ?_
  refine nn_ ?_
  refine gw_ret ?_
  refine nx_retc 2 rfl rz31 rfl rfl rfl fun wx hm => ?_
  exact ⟨sA, cA, vA, A2, sn, sc, cc, vn, vc, pn + 1, c2, sl, cl, vl, pl ++ [(⟨k3, k6, k9⟩ : Pl)], rfl, ⟨⟨stB_all hsB, by omega⟩, hcok, ⟨hvB, by omega⟩, all_snoc hpB ⟨⟨by dsimp only; omega, by dsimp only; omega⟩, by dsimp only; omega, by dsimp only; omega⟩, by omega⟩, hm.k.more (by omega), hm.g, SlT.ofOwnL stEnc_lenL (stB_all hsB) (hm.ownI 0 rfl) hsl, (hm.fact 0 rfl), SlT.ofOwn vh_len (hm.ownI 1 rfl) hvl, SlT.ofOwn pl_len (hm.ownI 2 rfl) (by simp [hpl]), own_shape (hm.ownI 2 rfl), own_cap (hm.ownI 2 rfl)⟩
 have T447 : ∀ (k3 : Int) (hk3 : -2000000000000000 ≤ k3 ∧ k3 ≤ 2000000000000000) (q5 : Nat) (q8 : Nat), W 7 (lb 15 447) [(0, .pointer (some ⟨sb, 0, none⟩)), (2, .pointer (some ⟨g1, 0, none⟩)), (3, .pointer (some ⟨g2, 0, none⟩)), (4, .pointer (some ⟨sb, 0, none⟩)), (5, .agg #[.slice sA sn sc, .slice cA 4 cc, .slice vA vn vc, .slice pA pn pc]), (6, .pointer (some ⟨sb, 0, none⟩)), (7, .bool f3), (8, .bool (!f3)), (10, .pointer (some ⟨sb, 0, none⟩)), (11, .int .i64 vj), (12, .pointer (some ⟨g2, 3, none⟩)), (13, .slice pA pn pc), (14, .pointer (some ⟨sb, 0, none⟩)), (15, .int .i64 k3), (16, .pointer (some ⟨sb, 0, none⟩)), (17, .slice (some ⟨q5, 0, none⟩) 2 2), (19, .pointer (some ⟨sb, 0, none⟩)), (20, .slice (some ⟨q8, 0, none⟩) 5 5), (26, .bool (decide (vj = 0))), (27, .bool (decide (vj = 0))), (37, .bool (decide (vj = 1))), (38, .bool (decide (vj = 1))), (42, .bool (decide (vj = 2))), (43, .bool (decide (vj = 2)))] (fun w => Strm 25 w B sb (m + 300 + 1 + 1 + 2)) [(g1, 31, [.slice none 0 0, .slice none 0 0, .slice none 0 0, .slice none 0 0]), (g2, 31, [.slice sA sn sc, .slice cA 4 cc, .slice vA vn vc, .slice pA pn pc]), (q5, 9, [.string ⟨#[118, 49]⟩, .string ⟨#[110, 111, 110, 101]⟩]), (q8, 9, [.string ⟨#[65, 66, 49]⟩, .string ⟨#[97, 49]⟩, .string ⟨#[65]⟩, .string ⟨#[65, 66, 67, 68, 69, 70, 71, 72, 73, 74, 49]⟩, .string ⟨#[65, 66, 49]⟩])] [⟨.slice sA sn sc, 140, 15, sn, sl.flatMap stEnc⟩, ⟨.slice vA vn vc, 77, 2, vn, vl.flatMap vhEnc⟩, ⟨.slice pA pn pc, 143, 3, pn, pl.flatMap plEnc⟩] [fun wy => SlT csEnc 2 159 wy cA 4 cl] := by
  intro k3 hk3 q5 q8
  rw [hW]
  refine wa1 6 rfl ?_
  refine wl_got (γ := ByteArray) (val := fun v => .string v) (φ := fun v => v ∈ ([⟨#[118, 49]⟩, ⟨#[110, 111, 110, 101]⟩] : List ByteArray)) rfl cb43 rfl rfl rfl rfl (fun wx hm => (some_any [⟨#[118, 49]⟩, ⟨#[110, 111, 110, 101]⟩] _ _ _ wx B sb _ hm.k (by omega) (by simp) (by simp) (hm.blkI 2 rfl) (hm.neRow 2 rfl rfl))) fun k6 hk6 => ?_
  have zk6 : k6.size ≤ 100 := mem_sz hk6 (by decide)
  refine wl_nil ?_
  refine nw 15 511 (fun _ hm => ⟨hm.bl 0, hm.fa 0, trivial⟩) fun z => ?_
  refine wa1 9 rfl ?_
  refine wl_got (γ := ByteArray) (val := fun v => .string v) (φ := fun v => v ∈ ([⟨#[65, 66, 49]⟩, ⟨#[97, 49]⟩, ⟨#[65]⟩, ⟨#[65, 66, 67, 68, 69, 70, 71, 72, 73, 74, 49]⟩, ⟨#[65, 66, 49]⟩] : List ByteArray)) rfl cb43 rfl rfl rfl rfl (fun wx hm => (some_any [⟨#[65, 66, 49]⟩, ⟨#[97, 49]⟩, ⟨#[65]⟩, ⟨#[65, 66, 67, 68, 69, 70, 71, 72, 73, 74, 49]⟩, ⟨#[65, 66, 49]⟩] _ _ _ wx B sb _ hm.k (by omega) (by simp) (by simp) (hm.blkI 3 rfl) (hm.neRow 3 rfl rfl))) fun k9 hk9 => ?_
  have zk9 : k9.size ≤ 100 := mem_sz hk9 (by decide)
  refine wl_nil ?_
  refine nw 15 1023 (fun _ hm => ⟨hm.bl 0, hm.fa 0, trivial⟩) fun z => ?_
  refine wt 10 15 2047 rfl z (ov_build (cs := [.int .i64 k3, .string k6, .string k9]) rfl (by kernel_rfl)) ?_
  refine wa1 11 rfl ?_
  refine wl_buildSlice (e := 143) (cs := [.int .i64 k3, .string k6, .string k9]) rfl (by kernel_rfl) rfl fun g29 => ?_
  refine wl_nil ?_
  refine nw 15 4095 (fun _ hm => ⟨hm.bl 1, hm.fa 0, trivial⟩) fun z => ?_
  refine wa1 12 rfl ?_
  refine wl_append (news := [.int .i64 k3, .string k6, .string k9]) 2 0 ap29 rfl rfl rfl rfl rfl rfl rfl (by omega) (by unfold maxLen; omega) rfl rfl fun v2 hv2 => ?_
  refine wl_look (R := ∃ A cc, v2 = .slice A (pn + 1) cc) (fun wx hm => own_slice (hm.ownI 2 rfl)) ?_
  rintro ⟨A2, c2, rfl⟩
  have hxs : pl.flatMap plEnc ++ ([.int .i64 k3, .string k6, .string k9] : List Value) = (pl ++ [(⟨k3, k6, k9⟩ : Pl)]).flatMap plEnc := by simp [plEnc]
  rw [hxs]
  refine wl_nil ?_
  refine nw 15 8191 (fun _ hm => ⟨hm.bl 1, hm.fa 0, trivial⟩) fun z => ?_
  refine wt 13 15 16383 rfl z (ov_field fo31_3 rfl rfl) ?_
  refine wa1 14 rfl ?_
  refine wl_store 2 sc29 rfl rfl rfl rfl rfl rfl ?_
  refine wl_nil ?_
  refine nw 15 32767 (fun _ hm => ⟨hm.bl 1, hm.fa 0, trivial⟩) fun z => ?_
  refine wa_done (by kernel_rfl) ?_
  refine nx_blk_nrm (nx_then (sr_ ?_))
  refine wl_ov (ov_loads rz31 rfl (fun _ hm => hm.blkI 2 rfl) rfl rfl) rfl ?_
  refine wl_stores (cs' := [.slice sA sn sc, .slice cA 4 cc, .slice vA vn vc, .slice A2 (pn + 1) c2]) 1 rz31 rfl rfl rfl rfl rfl rfl rfl rfl ?_
  refine nn_ ?_
  refine gw_ret ?_
  refine nx_retc 1 rfl rz31 rfl rfl rfl fun wx hm => ?_
  exact ⟨sA, cA, vA, A2, sn, sc, cc, vn, vc, pn + 1, c2, sl, cl, vl, pl ++ [(⟨k3, k6, k9⟩ : Pl)], rfl, ⟨⟨stB_all hsB, by omega⟩, hcok, ⟨hvB, by omega⟩, all_snoc hpB ⟨⟨by dsimp only; omega, by dsimp only; omega⟩, by dsimp only; omega, by dsimp only; omega⟩, by omega⟩, hm.k.more (by omega), hm.g, SlT.ofOwnL stEnc_lenL (stB_all hsB) (hm.ownI 0 rfl) hsl, (hm.fact 0 rfl), SlT.ofOwn vh_len (hm.ownI 1 rfl) hvl, SlT.ofOwn pl_len (hm.ownI 2 rfl) (by simp [hpl]), own_shape (hm.ownI 2 rfl), own_cap (hm.ownI 2 rfl)⟩
 have J191 : ∀ (k3 : Int) (hk3 : -2000000000000000 ≤ k3 ∧ k3 ≤ 2000000000000000) (q5 : Nat), W 8 (lb 15 191) [(0, .pointer (some ⟨sb, 0, none⟩)), (2, .pointer (some ⟨g1, 0, none⟩)), (3, .pointer (some ⟨g2, 0, none⟩)), (4, .pointer (some ⟨sb, 0, none⟩)), (5, .agg #[.slice sA sn sc, .slice cA 4 cc, .slice vA vn vc, .slice pA pn pc]), (6, .pointer (some ⟨sb, 0, none⟩)), (7, .bool f3), (8, .bool (!f3)), (10, .pointer (some ⟨sb, 0, none⟩)), (11, .int .i64 vj), (12, .pointer (some ⟨g2, 3, none⟩)), (13, .slice pA pn pc), (14, .pointer (some ⟨sb, 0, none⟩)), (15, .int .i64 k3), (16, .pointer (some ⟨sb, 0, none⟩)), (17, .slice (some ⟨q5, 0, none⟩) 2 2), (19, .pointer (some ⟨sb, 0, none⟩)), (26, .bool (decide (vj = 0))), (27, .bool (decide (vj = 0))), (37, .bool (decide (vj = 1))), (38, .bool (decide (vj = 1))), (42, .bool (decide (vj = 2))), (43, .bool (decide (vj = 2)))] (fun w => Strm 25 w B sb (m + 300 + 1 + 1 + 2)) [(g1, 31, [.slice none 0 0, .slice none 0 0, .slice none 0 0, .slice none 0 0]), (g2, 31, [.slice sA sn sc, .slice cA 4 cc, .slice vA vn vc, .slice pA pn pc]), (q5, 9, [.string ⟨#[118, 49]⟩, .string ⟨#[110, 111, 110, 101]⟩])] [⟨.slice sA sn sc, 140, 15, sn, sl.flatMap stEnc⟩, ⟨.slice vA vn vc, 77, 2, vn, vl.flatMap vhEnc⟩, ⟨.slice pA pn pc, 143, 3, pn, pl.flatMap plEnc⟩] [fun wy => SlT csEnc 2 159 wy cA 4 cl] := by
  intro k3 hk3 q5
  rw [hW]
  refine wa_all [6, 8] (by kernel_rfl) rfl ⟨⟨_, rfl, ?_⟩, ⟨_, rfl, ?_⟩, trivial⟩
  ·refine wl_got (γ := ByteArray) (val := fun v => .string v) (φ := fun v => v ∈ ([⟨#[118, 49]⟩, ⟨#[110, 111, 110, 101]⟩] : List ByteArray)) rfl cb43 rfl rfl rfl rfl (fun wx hm => (some_any [⟨#[118, 49]⟩, ⟨#[110, 111, 110, 101]⟩] _ _ _ wx B sb _ hm.k (by omega) (by simp) (by simp) (hm.blkI 2 rfl) (hm.neRow 2 rfl rfl))) fun k6 hk6 => ?_
   have zk6 : k6.size ≤ 100 := mem_sz hk6 (by decide)
   refine wl_nil ?_
   refine nw 15 255 (fun _ hm => ⟨hm.bl 0, hm.fa 0, trivial⟩) fun z => ?_
   have h := T255 k3 hk3 q5 k6 zk6
   rw [hW] at h
   refine wa_weak ?_ ?_ h
   ·exact ⟨rfl, rfl, rfl, rfl, rfl, rfl, rfl, rfl, rfl, rfl, rfl, rfl, rfl, rfl, rfl, rfl, rfl, rfl, rfl, rfl, rfl, rfl, rfl, rfl, trivial⟩
   exact fun _ hm => hm.pick [0, 1, 2] [0, 1, 2] [0] rfl rfl
  refine wl_buildSlice (e := 9) (cs := [.string ⟨#[65, 66, 49]⟩, .string ⟨#[97, 49]⟩, .string ⟨#[65]⟩, .string ⟨#[65, 66, 67, 68, 69, 70, 71, 72, 73, 74, 49]⟩, .string ⟨#[65, 66, 49]⟩]) rfl (by kernel_rfl) rfl fun q8 => ?_
  refine wl_nil ?_
  refine nw 15 447 (fun _ hm => ⟨hm.bl 1, hm.fa 0, trivial⟩) fun z => ?_
  have h := T447 k3 hk3 q5 q8
  rw [hW] at h
  refine wa_weak ?_ ?_ h
  ·exact ⟨rfl, rfl, rfl, rfl, rfl, rfl, rfl, rfl, rfl, rfl, rfl, rfl, rfl, rfl, rfl, rfl, rfl, rfl, rfl, rfl, rfl, rfl, rfl, rfl, trivial⟩
  exact fun _ hm => hm.pick [1, 2, 3, 0] [0, 1, 2] [0] rfl rfl
 have T415 : ∀ (k3 : Int) (hk3 : -2000000000000000 ≤ k3 ∧ k3 ≤ 2000000000000000) (q8 : Nat), W 8 (lb 15 415) [(0, .pointer (some ⟨sb, 0, none⟩)), (2, .pointer (some ⟨g1, 0, none⟩)), (3, .pointer (some ⟨g2, 0, none⟩)), (4, .pointer (some ⟨sb, 0, none⟩)), (5, .agg #[.slice sA sn sc, .slice cA 4 cc, .slice vA vn vc, .slice pA pn pc]), (6, .pointer (some ⟨sb, 0, none⟩)), (7, .bool f3), (8, .bool (!f3)), (10, .pointer (some ⟨sb, 0, none⟩)), (11, .int .i64 vj), (12, .pointer (some ⟨g2, 3, none⟩)), (13, .slice pA pn pc), (14, .pointer (some ⟨sb, 0, none⟩)), (15, .int .i64 k3), (16, .pointer (some ⟨sb, 0, none⟩)), (19, .pointer (some ⟨sb, 0, none⟩)), (20, .slice (some ⟨q8, 0, none⟩) 5 5), (26, .bool (decide (vj = 0))), (27, .bool (decide (vj = 0))), (37, .bool (decide (vj = 1))), (38, .bool (decide (vj = 1))), (42, .bool (decide (vj = 2))), (43, .bool (decide (vj = 2)))] (fun w => Strm 25 w B sb (m + 300 + 1 + 1 + 2)) [(g1, 31, [.slice none 0 0, .slice none 0 0, .slice none 0 0, .slice none 0 0]), (g2, 31, [.slice sA sn sc, .slice cA 4 cc, .slice vA vn vc, .slice pA pn pc]), (q8, 9, [.string ⟨#[65, 66, 49]⟩, .string ⟨#[97, 49]⟩, .string ⟨#[65]⟩, .string ⟨#[65, 66, 67, 68, 69, 70, 71, 72, 73, 74, 49]⟩, .string ⟨#[65, 66, 49]⟩])] [⟨.slice sA sn sc, 140, 15, sn, sl.flatMap stEnc⟩, ⟨.slice vA vn vc, 77, 2, vn, vl.flatMap vhEnc⟩, ⟨.slice pA pn pc, 143, 3, pn, pl.flatMap plEnc⟩] [fun wy => SlT csEnc 2 159 wy cA 4 cl] := by
  intro k3 hk3 q8
  rw [hW]
  refine wa1 5 rfl ?_
  refine wl_buildSlice (e := 9) (cs := [.string ⟨#[118, 49]⟩, .string ⟨#[110, 111, 110, 101]⟩]) rfl (by kernel_rfl) rfl fun g30 => ?_
  refine wl_nil ?_
  refine nw 15 447 (fun _ hm => ⟨hm.bl 1, hm.fa 0, trivial⟩) fun z => ?_
  refine wa1 6 rfl ?_
  refine wl_got (γ := ByteArray) (val := fun v => .string v) (φ := fun v => v ∈ ([⟨#[118, 49]⟩, ⟨#[110, 111, 110, 101]⟩] : List ByteArray)) rfl cb43 rfl rfl rfl rfl (fun wx hm => (some_any [⟨#[118, 49]⟩, ⟨#[110, 111, 110, 101]⟩] _ _ _ wx B sb _ hm.k (by omega) (by simp) (by simp) (hm.blkI 0 rfl) (hm.neRow 0 rfl rfl))) fun k6 hk6 => ?_
  have zk6 : k6.size ≤ 100 := mem_sz hk6 (by decide)
  refine wl_nil ?_
  refine nw 15 511 (fun _ hm => ⟨hm.bl 1, hm.fa 0, trivial⟩) fun z => ?_
  refine wa1 9 rfl ?_
  refine wl_got (γ := ByteArray) (val := fun v => .string v) (φ := fun v => v ∈ ([⟨#[65, 66, 49]⟩, ⟨#[97, 49]⟩, ⟨#[65]⟩, ⟨#[65, 66, 67, 68, 69, 70, 71, 72, 73, 74, 49]⟩, ⟨#[65, 66, 49]⟩] : List ByteArray)) rfl cb43 rfl rfl rfl rfl (fun wx hm => (some_any [⟨#[65, 66, 49]⟩, ⟨#[97, 49]⟩, ⟨#[65]⟩, ⟨#[65, 66, 67, 68, 69, 70, 71, 72, 73, 74, 49]⟩, ⟨#[65, 66, 49]⟩] _ _ _ wx B sb _ hm.k (by omega) (by simp) (by simp) (hm.blkI 3 rfl) (hm.neRow 3 rfl rfl))) fun k9 hk9 => ?_
  have zk9 : k9.size ≤ 100 := mem_sz hk9 (by decide)
  refine wl_nil ?_
  refine nw 15 1023 (fun _ hm => ⟨hm.bl 1, hm.fa 0, trivial⟩) fun z => ?_
  refine wt 10 15 2047 rfl z (ov_build (cs := [.int .i64 k3, .string k6, .string k9]) rfl (by kernel_rfl)) ?_
  refine wa1 11 rfl ?_
  refine wl_buildSlice (e := 143) (cs := [.int .i64 k3, .string k6, .string k9]) rfl (by kernel_rfl) rfl fun g31 => ?_
  refine wl_nil ?_
  refine nw 15 4095 (fun _ hm => ⟨hm.bl 2, hm.fa 0, trivial⟩) fun z => ?_
  refine wa1 12 rfl ?_
  refine wl_append (news := [.int .i64 k3, .string k6, .string k9]) 2 0 ap29 rfl rfl rfl rfl rfl rfl rfl (by omega) (by unfold maxLen; omega) rfl rfl fun v2 hv2 => ?_
  refine wl_look (R := ∃ A cc, v2 = .slice A (pn + 1) cc) (fun wx hm => own_slice (hm.ownI 2 rfl)) ?_
  rintro ⟨A2, c2, rfl⟩
  have hxs : pl.flatMap plEnc ++ ([.int .i64 k3, .string k6, .string k9] : List Value) = (pl ++ [(⟨k3, k6, k9⟩ : Pl)]).flatMap plEnc := by simp [plEnc]
  rw [hxs]
  refine wl_nil ?_
  refine nw 15 8191 (fun _ hm => ⟨hm.bl 2, hm.fa 0, trivial⟩) fun z => ?_
  refine wt 13 15 16383 rfl z (ov_field fo31_3 rfl rfl) ?_
  refine wa1 14 rfl ?_
  refine wl_store 3 sc29 rfl rfl rfl rfl rfl rfl ?_
  refine wl_nil ?_
  refine nw 15 32767 (fun _ hm => ⟨hm.bl 2, hm.fa 0, trivial⟩) fun z => ?_
  refine wa_done (by kernel_rfl) ?_
  refine nx_blk_nrm (nx_then (sr_ ?_))
  refine wl_ov (ov_loads rz31 rfl (fun _ hm => hm.blkI 3 rfl) rfl rfl) rfl ?_
  refine wl_stores (cs' := [.slice sA sn sc, .slice cA 4 cc, .slice vA vn vc, .slice A2 (pn + 1) c2]) 2 rz31 rfl rfl rfl rfl rfl rfl rfl rfl ?_
  refine nn_ ?_
  refine gw_ret ?_
  refine nx_retc 2 rfl rz31 rfl rfl rfl fun wx hm => ?_
  exact ⟨sA, cA, vA, A2, sn, sc, cc, vn, vc, pn + 1, c2, sl, cl, vl, pl ++ [(⟨k3, k6, k9⟩ : Pl)], rfl, ⟨⟨stB_all hsB, by omega⟩, hcok, ⟨hvB, by omega⟩, all_snoc hpB ⟨⟨by dsimp only; omega, by dsimp only; omega⟩, by dsimp only; omega, by dsimp only; omega⟩, by omega⟩, hm.k.more (by omega), hm.g, SlT.ofOwnL stEnc_lenL (stB_all hsB) (hm.ownI 0 rfl) hsl, (hm.fact 0 rfl), SlT.ofOwn vh_len (hm.ownI 1 rfl) hvl, SlT.ofOwn pl_len (hm.ownI 2 rfl) (by simp [hpl]), own_shape (hm.ownI 2 rfl), own_cap (hm.ownI 2 rfl)⟩
 have J159 : ∀ (k3 : Int) (hk3 : -2000000000000000 ≤ k3 ∧ k3 ≤ 2000000000000000), W 9 (lb 15 159) [(0, .pointer (some ⟨sb, 0, none⟩)), (2, .pointer (some ⟨g1, 0, none⟩)), (3, .pointer (some ⟨g2, 0, none⟩)), (4, .pointer (some ⟨sb, 0, none⟩)), (5, .agg #[.slice sA sn sc, .slice cA 4 cc, .slice vA vn vc, .slice pA pn pc]), (6, .pointer (some ⟨sb, 0, none⟩)), (7, .bool f3), (8, .bool (!f3)), (10, .pointer (some ⟨sb, 0, none⟩)), (11, .int .i64 vj), (12, .pointer (some ⟨g2, 3, none⟩)), (13, .slice pA pn pc), (14, .pointer (some ⟨sb, 0, none⟩)), (15, .int .i64 k3), (16, .pointer (some ⟨sb, 0, none⟩)), (19, .pointer (some ⟨sb, 0, none⟩)), (26, .bool (decide (vj = 0))), (27, .bool (decide (vj = 0))), (37, .bool (decide (vj = 1))), (38, .bool (decide (vj = 1))), (42, .bool (decide (vj = 2))), (43, .bool (decide (vj = 2)))] (fun w => Strm 25 w B sb (m + 300 + 1 + 1 + 2)) [(g1, 31, [.slice none 0 0, .slice none 0 0, .slice none 0 0, .slice none 0 0]), (g2, 31, [.slice sA sn sc, .slice cA 4 cc, .slice vA vn vc, .slice pA pn pc])] [⟨.slice sA sn sc, 140, 15, sn, sl.flatMap stEnc⟩, ⟨.slice vA vn vc, 77, 2, vn, vl.flatMap vhEnc⟩, ⟨.slice pA pn pc, 143, 3, pn, pl.flatMap plEnc⟩] [fun wy => SlT csEnc 2 159 wy cA 4 cl] := by
  intro k3 hk3
  rw [hW]
  refine wa_all [5, 8] (by kernel_rfl) rfl ⟨⟨_, rfl, ?_⟩, ⟨_, rfl, ?_⟩, trivial⟩
  ·refine wl_buildSlice (e := 9) (cs := [.string ⟨#[118, 49]⟩, .string ⟨#[110, 111, 110, 101]⟩]) rfl (by kernel_rfl) rfl fun q5 => ?_
   refine wl_nil ?_
   refine nw 15 191 (fun _ hm => ⟨hm.bl 1, hm.fa 0, trivial⟩) fun z => ?_
   have h := J191 k3 hk3 q5
   rw [hW] at h
   refine wa_weak ?_ ?_ h
   ·exact ⟨rfl, rfl, rfl, rfl, rfl, rfl, rfl, rfl, rfl, rfl, rfl, rfl, rfl, rfl, rfl, rfl, rfl, rfl, rfl, rfl, rfl, rfl, rfl, trivial⟩
   exact fun _ hm => hm.pick [1, 2, 0] [0, 1, 2] [0] rfl rfl
  refine wl_buildSlice (e := 9) (cs := [.string ⟨#[65, 66, 49]⟩, .string ⟨#[97, 49]⟩, .string ⟨#[65]⟩, .string ⟨#[65, 66, 67, 68, 69, 70, 71, 72, 73, 74, 49]⟩, .string ⟨#[65, 66, 49]⟩]) rfl (by kernel_rfl) rfl fun q8 => ?_
  refine wl_nil ?_
  refine nw 15 415 (fun _ hm => ⟨hm.bl 1, hm.fa 0, trivial⟩) fun z => ?_
  have h := T415 k3 hk3 q8
  rw [hW] at h
  refine wa_weak ?_ ?_ h
  ·exact ⟨rfl, rfl, rfl, rfl, rfl, rfl, rfl, rfl, rfl, rfl, rfl, rfl, rfl, rfl, rfl, rfl, rfl, rfl, rfl, rfl, rfl, rfl, rfl, trivial⟩
  exact fun _ hm => hm.pick [1, 2, 0] [0, 1, 2] [0] rfl rfl
 have T439 : ∀ (q5 : Nat) (q8 : Nat), W 8 (lb 15 439) [(0, .pointer (some ⟨sb, 0, none⟩)), (2, .pointer (some ⟨g1, 0, none⟩)), (3, .pointer (some ⟨g2, 0, none⟩)), (4, .pointer (some ⟨sb, 0, none⟩)), (5, .agg #[.slice sA sn sc, .slice cA 4 cc, .slice vA vn vc, .slice pA pn pc]), (6, .pointer (some ⟨sb, 0, none⟩)), (7, .bool f3), (8, .bool (!f3)), (10, .pointer (some ⟨sb, 0, none⟩)), (11, .int .i64 vj), (12, .pointer (some ⟨g2, 3, none⟩)), (13, .slice pA pn pc), (14, .pointer (some ⟨sb, 0, none⟩)), (16, .pointer (some ⟨sb, 0, none⟩)), (17, .slice (some ⟨q5, 0, none⟩) 2 2), (19, .pointer (some ⟨sb, 0, none⟩)), (20, .slice (some ⟨q8, 0, none⟩) 5 5), (26, .bool (decide (vj = 0))), (27, .bool (decide (vj = 0))), (37, .bool (decide (vj = 1))), (38, .bool (decide (vj = 1))), (42, .bool (decide (vj = 2))), (43, .bool (decide (vj = 2)))] (fun w => Strm 25 w B sb (m + 300 + 1 + 1)) [(g1, 31, [.slice none 0 0, .slice none 0 0, .slice none 0 0, .slice none 0 0]), (g2, 31, [.slice sA sn sc, .slice cA 4 cc, .slice vA vn vc, .slice pA pn pc]), (q5, 9, [.string ⟨#[118, 49]⟩, .string ⟨#[110, 111, 110, 101]⟩]), (q8, 9, [.string ⟨#[65, 66, 49]⟩, .string ⟨#[97, 49]⟩, .string ⟨#[65]⟩, .string ⟨#[65, 66, 67, 68, 69, 70, 71, 72, 73, 74, 49]⟩, .string ⟨#[65, 66, 49]⟩])] [⟨.slice sA sn sc, 140, 15, sn, sl.flatMap stEnc⟩, ⟨.slice vA vn vc, 77, 2, vn, vl.flatMap vhEnc⟩, ⟨.slice pA pn pc, 143, 3, pn, pl.flatMap plEnc⟩] [fun wy => SlT csEnc 2 159 wy cA 4 cl] := by
  intro q5 q8
  rw [hW]
  refine wa1 3 rfl ?_
  refine wl_got (γ := Int) (val := fun v => .int .i64 v) (φ := fun v => -2000000000000000 ≤ v ∧ v ≤ 2000000000000000) rfl cb77 rfl rfl rfl rfl (fun wx hm => (odd_any _ _ wx B sb _ hm.k (by omega) (by omega) (by omega) (by omega))) fun k3 hk3 => ?_
  refine wl_nil ?_
  refine nw 15 447 (fun _ hm => ⟨hm.bl 0, hm.fa 0, trivial⟩) fun z => ?_
  refine wa1 6 rfl ?_
  refine wl_got (γ := ByteArray) (val := fun v => .string v) (φ := fun v => v ∈ ([⟨#[118, 49]⟩, ⟨#[110, 111, 110, 101]⟩] : List ByteArray)) rfl cb43 rfl rfl rfl rfl (fun wx hm => (some_any [⟨#[118, 49]⟩, ⟨#[110, 111, 110, 101]⟩] _ _ _ wx B sb _ hm.k (by omega) (by simp) (by simp) (hm.blkI 2 rfl) (hm.neRow 2 rfl rfl))) fun k6 hk6 => ?_
  have zk6 : k6.size ≤ 100 := mem_sz hk6 (by decide)
  refine wl_nil ?_
  refine nw 15 511 (fun _ hm => ⟨hm.bl 0, hm.fa 0, trivial⟩) fun z => ?_
  refine wa1 9 rfl ?_
  refine wl_got (γ := ByteArray) (val := fun v => .string v) (φ := fun v => v ∈ ([⟨#[65, 66, 49]⟩, ⟨#[97, 49]⟩, ⟨#[65]⟩, ⟨#[65, 66, 67, 68, 69, 70, 71, 72, 73, 74, 49]⟩, ⟨#[65, 66, 49]⟩] : List ByteArray)) rfl cb43 rfl rfl rfl rfl (fun wx hm => (some_any [⟨#[65, 66, 49]⟩, ⟨#[97, 49]⟩, ⟨#[65]⟩, ⟨#[65, 66, 67, 68, 69, 70, 71, 72, 73, 74, 49]⟩, ⟨#[65, 66, 49]⟩] _ _ _ wx B sb _ hm.k (by omega) (by simp) (by simp) (hm.blkI 3 rfl) (hm.neRow 3 rfl rfl))) fun k9 hk9 => ?_
  have zk9 : k9.size ≤ 100 := mem_sz hk9 (by decide)
  refine wl_nil ?_
  refine nw 15 1023 (fun _ hm => ⟨hm.bl 0, hm.fa 0, trivial⟩) fun z => ?_
  refine wt 10 15 2047 rfl z (ov_build (cs := [.int .i64 k3, .string k6, .string k9]) rfl (by kernel_rfl)) ?_
  refine wa1 11 rfl ?_
  refine wl_buildSlice (e := 143) (cs := [.int .i64 k3, .string k6, .string k9]) rfl (by kernel_rfl) rfl fun g32 => ?_
  refine wl_nil ?_
  refine nw 15 4095 (fun _ hm => ⟨hm.bl 1, hm.fa 0, trivial⟩) fun z => ?_
  refine wa1 12 rfl ?_
  refine wl_append (news := [.int .i64 k3, .string k6, .string k9]) 2 0 ap29 rfl rfl rfl rfl rfl rfl rfl (by omega) (by unfold maxLen; omega) rfl rfl fun v2 hv2 => ?_
  refine wl_look (R := ∃ A cc, v2 = .slice A (pn + 1) cc) (fun wx hm => own_slice (hm.ownI 2 rfl)) ?_
  rintro ⟨A2, c2, rfl⟩
  have hxs : pl.flatMap plEnc ++ ([.int .i64 k3, .string k6, .string k9] : List Value) = (pl ++ [(⟨k3, k6, k9⟩ : Pl)]).flatMap plEnc := by simp [plEnc]
  rw [hxs]
  refine wl_nil ?_
  refine nw 15 8191 (fun _ hm => ⟨hm.bl 1, hm.fa 0, trivial⟩) fun z => ?_
  refine wt 13 15 16383 rfl z (ov_field fo31_3 rfl rfl) ?_
  refine wa1 14 rfl ?_
  refine wl_store 2 sc29 rfl rfl rfl rfl rfl rfl ?_
  refine wl_nil ?_
  refine nw 15 32767 (fun _ hm => ⟨hm.bl 1, hm.fa 0, trivial⟩) fun z => ?_
  refine wa_done (by kernel_rfl) ?_
  refine nx_blk_nrm (nx_then (sr_ ?_))
  refine wl_ov (ov_loads rz31 rfl (fun _ hm => hm.blkI 2 rfl) rfl rfl) rfl ?_
  refine wl_stores (cs' := [.slice sA sn sc, .slice cA 4 cc, .slice vA vn vc, .slice A2 (pn + 1) c2]) 1 rz31 rfl rfl rfl rfl rfl rfl rfl rfl ?_
  refine nn_ ?_
  refine gw_ret ?_
  refine nx_retc 1 rfl rz31 rfl rfl rfl fun wx hm => ?_
  exact ⟨sA, cA, vA, A2, sn, sc, cc, vn, vc, pn + 1, c2, sl, cl, vl, pl ++ [(⟨k3, k6, k9⟩ : Pl)], rfl, ⟨⟨stB_all hsB, by omega⟩, hcok, ⟨hvB, by omega⟩, all_snoc hpB ⟨⟨by dsimp only; omega, by dsimp only; omega⟩, by dsimp only; omega, by dsimp only; omega⟩, by omega⟩, hm.k.more (by omega), hm.g, SlT.ofOwnL stEnc_lenL (stB_all hsB) (hm.ownI 0 rfl) hsl, (hm.fact 0 rfl), SlT.ofOwn vh_len (hm.ownI 1 rfl) hvl, SlT.ofOwn pl_len (hm.ownI 2 rfl) (by simp [hpl]), own_shape (hm.ownI 2 rfl), own_cap (hm.ownI 2 rfl)⟩
 have J183 : ∀ (q5 : Nat), W 9 (lb 15 183) [(0, .pointer (some ⟨sb, 0, none⟩)), (2, .pointer (some ⟨g1, 0, none⟩)), (3, .pointer (some ⟨g2, 0, none⟩)), (4, .pointer (some ⟨sb, 0, none⟩)), (5, .agg #[.slice sA sn sc, .slice cA 4 cc, .slice vA vn vc, .slice pA pn pc]), (6, .pointer (some ⟨sb, 0, none⟩)), (7, .bool f3), (8, .bool (!f3)), (10, .pointer (some ⟨sb, 0, none⟩)), (11, .int .i64 vj), (12, .pointer (some ⟨g2, 3, none⟩)), (13, .slice pA pn pc), (14, .pointer (some ⟨sb, 0, none⟩)), (16, .pointer (some ⟨sb, 0, none⟩)), (17, .slice (some ⟨q5, 0, none⟩) 2 2), (19, .pointer (some ⟨sb, 0, none⟩)), (26, .bool (decide (vj = 0))), (27, .bool (decide (vj = 0))), (37, .bool (decide (vj = 1))), (38, .bool (decide (vj = 1))), (42, .bool (decide (vj = 2))), (43, .bool (decide (vj = 2)))] (fun w => Strm 25 w B sb (m + 300 + 1 + 1)) [(g1, 31, [.slice none 0 0, .slice none 0 0, .slice none 0 0, .slice none 0 0]), (g2, 31, [.slice sA sn sc, .slice cA 4 cc, .slice vA vn vc, .slice pA pn pc]), (q5, 9, [.string ⟨#[118, 49]⟩, .string ⟨#[110, 111, 110, 101]⟩])] [⟨.slice sA sn sc, 140, 15, sn, sl.flatMap stEnc⟩, ⟨.slice vA vn vc, 77, 2, vn, vl.flatMap vhEnc⟩, ⟨.slice pA pn pc, 143, 3, pn, pl.flatMap plEnc⟩] [fun wy => SlT csEnc 2 159 wy cA 4 cl] := by
  intro q5
  rw [hW]
  refine wa_all [3, 8] (by kernel_rfl) rfl ⟨⟨_, rfl, ?_⟩, ⟨_, rfl, ?_⟩, trivial⟩
  ·refine wl_got (γ := Int) (val := fun v => .int .i64 v) (φ := fun v => -2000000000000000 ≤ v ∧ v ≤ 2000000000000000) rfl cb77 rfl rfl rfl rfl (fun wx hm => (odd_any _ _ wx B sb _ hm.k (by omega) (by omega) (by omega) (by omega))) fun k3 hk3 => ?_
   refine wl_nil ?_
   refine nw 15 191 (fun _ hm => ⟨hm.bl 0, hm.fa 0, trivial⟩) fun z => ?_
   have h := J191 k3 hk3 q5
   rw [hW] at h
   refine wa_weak ?_ ?_ h
   ·exact ⟨rfl, rfl, rfl, rfl, rfl, rfl, rfl, rfl, rfl, rfl, rfl, rfl, rfl, rfl, rfl, rfl, rfl, rfl, rfl, rfl, rfl, rfl, rfl, trivial⟩
   exact fun _ hm => hm.pick [0, 1, 2] [0, 1, 2] [0] rfl rfl
  refine wl_buildSlice (e := 9) (cs := [.string ⟨#[65, 66, 49]⟩, .string ⟨#[97, 49]⟩, .string ⟨#[65]⟩, .string ⟨#[65, 66, 67, 68, 69, 70, 71, 72, 73, 74, 49]⟩, .string ⟨#[65, 66, 49]⟩]) rfl (by kernel_rfl) rfl fun q8 => ?_
  refine wl_nil ?_
  refine nw 15 439 (fun _ hm => ⟨hm.bl 1, hm.fa 0, trivial⟩) fun z => ?_
  have h := T439 q5 q8
  rw [hW] at h
  refine wa_weak ?_ ?_ h
  ·exact ⟨rfl, rfl, rfl, rfl, rfl, rfl, rfl, rfl, rfl, rfl, rfl, rfl, rfl, rfl, rfl, rfl, rfl, rfl, rfl, rfl, rfl, rfl, rfl, trivial⟩
  exact fun _ hm => hm.pick [1, 2, 3, 0] [0, 1, 2] [0] rfl rfl
 have J407 : ∀ (q8 : Nat), W 9 (lb 15 407) [(0, .pointer (some ⟨sb, 0, none⟩)), (2, .pointer (some ⟨g1, 0, none⟩)), (3, .pointer (some ⟨g2, 0, none⟩)), (4, .pointer (some ⟨sb, 0, none⟩)), (5, .agg #[.slice sA sn sc, .slice cA 4 cc, .slice vA vn vc, .slice pA pn pc]), (6, .pointer (some ⟨sb, 0, none⟩)), (7, .bool f3), (8, .bool (!f3)), (10, .pointer (some ⟨sb, 0, none⟩)), (11, .int .i64 vj), (12, .pointer (some ⟨g2, 3, none⟩)), (13, .slice pA pn pc), (14, .pointer (some ⟨sb, 0, none⟩)), (16, .pointer (some ⟨sb, 0, none⟩)), (19, .pointer (some ⟨sb, 0, none⟩)), (20, .slice (some ⟨q8, 0, none⟩) 5 5), (26, .bool (decide (vj = 0))), (27, .bool (decide (vj = 0))), (37, .bool (decide (vj = 1))), (38, .bool (decide (vj = 1))), (42, .bool (decide (vj = 2))), (43, .bool (decide (vj = 2)))] (fun w => Strm 25 w B sb (m + 300 + 1 + 1)) [(g1, 31, [.slice none 0 0, .slice none 0 0, .slice none 0 0, .slice none 0 0]), (g2, 31, [.slice sA sn sc, .slice cA 4 cc, .slice vA vn vc, .slice pA pn pc]), (q8, 9, [.string ⟨#[65, 66, 49]⟩, .string ⟨#[97, 49]⟩, .string ⟨#[65]⟩, .string ⟨#[65, 66, 67, 68, 69, 70, 71, 72, 73, 74, 49]⟩, .string ⟨#[65, 66, 49]⟩])] [⟨.slice sA sn sc, 140, 15, sn, sl.flatMap stEnc⟩, ⟨.slice vA vn vc, 77, 2, vn, vl.flatMap vhEnc⟩, ⟨.slice pA pn pc, 143, 3, pn, pl.flatMap plEnc⟩] [fun wy => SlT csEnc 2 159 wy cA 4 cl] := by
  intro q8
  rw [hW]
  refine wa_all [3, 5] (by kernel_rfl) rfl ⟨⟨_, rfl, ?_⟩, ⟨_, rfl, ?_⟩, trivial⟩
  ·refine wl_got (γ := Int) (val := fun v => .int .i64 v) (φ := fun v => -2000000000000000 ≤ v ∧ v ≤ 2000000000000000) rfl cb77 rfl rfl rfl rfl (fun wx hm => (odd_any _ _ wx B sb _ hm.k (by omega) (by omega) (by omega) (by omega))) fun k3 hk3 => ?_
   refine wl_nil ?_
   refine nw 15 415 (fun _ hm => ⟨hm.bl 0, hm.fa 0, trivial⟩) fun z => ?_
   have h := T415 k3 hk3 q8
   rw [hW] at h
   refine wa_weak ?_ ?_ h
   ·exact ⟨rfl, rfl, rfl, rfl, rfl, rfl, rfl, rfl, rfl, rfl, rfl, rfl, rfl, rfl, rfl, rfl, rfl, rfl, rfl, rfl, rfl, rfl, rfl, trivial⟩
   exact fun _ hm => hm.pick [0, 1, 2] [0, 1, 2] [0] rfl rfl
  refine wl_buildSlice (e := 9) (cs := [.string ⟨#[118, 49]⟩, .string ⟨#[110, 111, 110, 101]⟩]) rfl (by kernel_rfl) rfl fun q5 => ?_
  refine wl_nil ?_
  refine nw 15 439 (fun _ hm => ⟨hm.bl 1, hm.fa 0, trivial⟩) fun z => ?_
  have h := T439 q5 q8
  rw [hW] at h
  refine wa_weak ?_ ?_ h
  ·exact ⟨rfl, rfl, rfl, rfl, rfl, rfl, rfl, rfl, rfl, rfl, rfl, rfl, rfl, rfl, rfl, rfl, rfl, rfl, rfl, rfl, rfl, rfl, rfl, trivial⟩
  exact fun _ hm => hm.pick [1, 2, 0, 3] [0, 1, 2] [0] rfl rfl
 have J151 : W 10 (lb 15 151) [(0, .pointer (some ⟨sb, 0, none⟩)), (2, .pointer (some ⟨g1, 0, none⟩)), (3, .pointer (some ⟨g2, 0, none⟩)), (4, .pointer (some ⟨sb, 0, none⟩)), (5, .agg #[.slice sA sn sc, .slice cA 4 cc, .slice vA vn vc, .slice pA pn pc]), (6, .pointer (some ⟨sb, 0, none⟩)), (7, .bool f3), (8, .bool (!f3)), (10, .pointer (some ⟨sb, 0, none⟩)), (11, .int .i64 vj), (12, .pointer (some ⟨g2, 3, none⟩)), (13, .slice pA pn pc), (14, .pointer (some ⟨sb, 0, none⟩)), (16, .pointer (some ⟨sb, 0, none⟩)), (19, .pointer (some ⟨sb, 0, none⟩)), (26, .bool (decide (vj = 0))), (27, .bool (decide (vj = 0))), (37, .bool (decide (vj = 1))), (38, .bool (decide (vj = 1))), (42, .bool (decide (vj = 2))), (43, .bool (decide (vj = 2)))] (fun w => Strm 25 w B sb (m + 300 + 1 + 1)) [(g1, 31, [.slice none 0 0, .slice none 0 0, .slice none 0 0, .slice none 0 0]), (g2, 31, [.slice sA sn sc, .slice cA 4 cc, .slice vA vn vc, .slice pA pn pc])] [⟨.slice sA sn sc, 140, 15, sn, sl.flatMap stEnc⟩, ⟨.slice vA vn vc, 77, 2, vn, vl.flatMap vhEnc⟩, ⟨.slice pA pn pc, 143, 3, pn, pl.flatMap plEnc⟩] [fun wy => SlT csEnc 2 159 wy cA 4 cl] := by
  skip
  rw [hW]
  refine wa_all [3, 5, 8] (by kernel_rfl) rfl ⟨⟨_, rfl, ?_⟩, ⟨_, rfl, ?_⟩, ⟨_, rfl, ?_⟩, trivial⟩
  ·refine wl_got (γ := Int) (val := fun v => .int .i64 v) (φ := fun v => -2000000000000000 ≤ v ∧ v ≤ 2000000000000000) rfl cb77 rfl rfl rfl rfl (fun wx hm => (odd_any _ _ wx B sb _ hm.k (by omega) (by omega) (by omega) (by omega))) fun k3 hk3 => ?_
   refine wl_nil ?_
   refine nw 15 159 (fun _ hm => ⟨hm.bl 0, hm.fa 0, trivial⟩) fun z => ?_
   have h := J159 k3 hk3
   rw [hW] at h
   refine wa_weak ?_ ?_ h
   ·exact ⟨rfl, rfl, rfl, rfl, rfl, rfl, rfl, rfl, rfl, rfl, rfl, rfl, rfl, rfl, rfl, rfl, rfl, rfl, rfl, rfl, rfl, rfl, trivial⟩
   exact fun _ hm => hm.pick [0, 1] [0, 1, 2] [0] rfl rfl
  ·refine wl_buildSlice (e := 9) (cs := [.string ⟨#[118, 49]⟩, .string ⟨#[110, 111, 110, 101]⟩]) rfl (by kernel_rfl) rfl fun q5 => ?_
   refine wl_nil ?_
   refine nw 15 183 (fun _ hm => ⟨hm.bl 1, hm.fa 0, trivial⟩) fun z => ?_
   have h := J183 q5
   rw [hW] at h
   refine wa_weak ?_ ?_ h
   ·exact ⟨rfl, rfl, rfl, rfl, rfl, rfl, rfl, rfl, rfl, rfl, rfl, rfl, rfl, rfl, rfl, rfl, rfl, rfl, rfl, rfl, rfl, rfl, trivial⟩
   exact fun _ hm => hm.pick [1, 2, 0] [0, 1, 2] [0] rfl rfl
  refine wl_buildSlice (e := 9) (cs := [.string ⟨#[65, 66, 49]⟩, .string ⟨#[97, 49]⟩, .string ⟨#[65]⟩, .string ⟨#[65, 66, 67, 68, 69, 70, 71, 72, 73, 74, 49]⟩, .string ⟨#[65, 66, 49]⟩]) rfl (by kernel_rfl) rfl fun q8 => ?_
  refine wl_nil ?_
  refine nw 15 407 (fun _ hm => ⟨hm.bl 1, hm.fa 0, trivial⟩) fun z => ?_
  have h := J407 q8
  rw [hW] at h
  refine wa_weak ?_ ?_ h
  ·exact ⟨rfl, rfl, rfl, rfl, rfl, rfl, rfl, rfl, rfl, rfl, rfl, rfl, rfl, rfl, rfl, rfl, rfl, rfl, rfl, rfl, rfl, rfl, trivial⟩
  exact fun _ hm => hm.pick [1, 2, 0] [0, 1, 2] [0] rfl rfl
 have T511 : ∀ (k3 : Int) (hk3 : -2000000000000000 ≤ k3 ∧ k3 ≤ 2000000000000000) (q5 : Nat) (k6 : ByteArray) (zk6 : k6.size ≤ 100) (q8 : Nat), W 6 (lb 15 511) [(0, .pointer (some ⟨sb, 0, none⟩)), (2, .pointer (some ⟨g1, 0, none⟩)), (3, .pointer (some ⟨g2, 0, none⟩)), (4, .pointer (some ⟨sb, 0, none⟩)), (5, .agg #[.slice sA sn sc, .slice cA 4 cc, .slice vA vn vc, .slice pA pn pc]), (6, .pointer (some ⟨sb, 0, none⟩)), (7, .bool f3), (8, .bool (!f3)), (10, .pointer (some ⟨sb, 0, none⟩)), (11, .int .i64 vj), (12, .pointer (some ⟨g2, 3, none⟩)), (13, .slice pA pn pc), (14, .pointer (some ⟨sb, 0, none⟩)), (15, .int .i64 k3), (16, .pointer (some ⟨sb, 0, none⟩)), (17, .slice (some ⟨q5, 0, none⟩) 2 2), (18, .string k6), (19, .pointer (some ⟨sb, 0, none⟩)), (20, .slice (some ⟨q8, 0, none⟩) 5 5), (26, .bool (decide (vj = 0))), (27, .bool (decide (vj = 0))), (37, .bool (decide (vj = 1))), (38, .bool (decide (vj = 1))), (42, .bool (decide (vj = 2))), (43, .bool (decide (vj = 2)))] (fun w => Strm 25 w B sb (m + 300 + 1 + 1 + 2 + 1)) [(g1, 31, [.slice none 0 0, .slice none 0 0, .slice none 0 0, .slice none 0 0]), (g2, 31, [.slice sA sn sc, .slice cA 4 cc, .slice vA vn vc, .slice pA pn pc]), (q5, 9, [.string ⟨#[118, 49]⟩, .string ⟨#[110, 111, 110, 101]⟩]), (q8, 9, [.string ⟨#[65, 66, 49]⟩, .string ⟨#[97, 49]⟩, .string ⟨#[65]⟩, .string ⟨#[65, 66, 67, 68, 69, 70, 71, 72, 73, 74, 49]⟩, .string ⟨#[65, 66, 49]⟩])] [⟨.slice sA sn sc, 140, 15, sn, sl.flatMap stEnc⟩, ⟨.slice vA vn vc, 77, 2, vn, vl.flatMap vhEnc⟩, ⟨.slice pA pn pc, 143, 3, pn, pl.flatMap plEnc⟩] [fun wy => SlT csEnc 2 159 wy cA 4 cl] := by
  intro k3 hk3 q5 k6 zk6 q8
  rw [hW]
  refine wa1 9 rfl ?_
  refine wl_got (γ := ByteArray) (val := fun v => .string v) (φ := fun v => v ∈ ([⟨#[65, 66, 49]⟩, ⟨#[97, 49]⟩, ⟨#[65]⟩, ⟨#[65, 66, 67, 68, 69, 70, 71, 72, 73, 74, 49]⟩, ⟨#[65, 66, 49]⟩] : List ByteArray)) rfl cb43 rfl rfl rfl rfl (fun wx hm => (some_any [⟨#[65, 66, 49]⟩, ⟨#[97, 49]⟩, ⟨#[65]⟩, ⟨#[65, 66, 67, 68, 69, 70, 71, 72, 73, 74, 49]⟩, ⟨#[65, 66, 49]⟩] _ _ _ wx B sb _ hm.k (by omega) (by simp) (by simp) (hm.blkI 3 rfl) (hm.neRow 3 rfl rfl))) fun k9 hk9 => ?_
  have zk9 : k9.size ≤ 100 := mem_sz hk9 (by decide)
  refine wl_nil ?_
  refine nw 15 1023 (fun _ hm => ⟨hm.bl 0, hm.fa 0, trivial⟩) fun z => ?_
  refine wt 10 15 2047 rfl z (ov_build (cs := [.int .i64 k3, .string k6, .string k9]) rfl (by kernel_rfl)) ?_
  refine wa1 11 rfl ?_
  refine wl_buildSlice (e := 143) (cs := [.int .i64 k3, .string k6, .string k9]) rfl (by kernel_rfl) rfl fun g33 => ?_
  refine wl_nil ?_
  refine nw 15 4095 (fun _ hm => ⟨hm.bl 1, hm.fa 0, trivial⟩) fun z => ?_
  refine wa1 12 rfl ?_
  refine wl_append (news := [.int .i64 k3, .string k6, .string k9]) 2 0 ap29 rfl rfl rfl rfl rfl rfl rfl (by omega) (by unfold maxLen; omega) rfl rfl fun v2 hv2 => ?_
  refine wl_look (R := ∃ A cc, v2 = .slice A (pn + 1) cc) (fun wx hm => own_slice (hm.ownI 2 rfl)) ?_
  rintro ⟨A2, c2, rfl⟩
  have hxs : pl.flatMap plEnc ++ ([.int .i64 k3, .string k6, .string k9] : List Value) = (pl ++ [(⟨k3, k6, k9⟩ : Pl)]).flatMap plEnc := by simp [plEnc]
  rw [hxs]
  refine wl_nil ?_
  refine nw 15 8191 (fun _ hm => ⟨hm.bl 1, hm.fa 0, trivial⟩) fun z => ?_
  refine wt 13 15 16383 rfl z (ov_field fo31_3 rfl rfl) ?_
  refine wa1 14 rfl ?_
  refine wl_store 2 sc29 rfl rfl rfl rfl rfl rfl ?_
  refine wl_nil ?_
  refine nw 15 32767 (fun _ hm => ⟨hm.bl 1, hm.fa 0, trivial⟩) fun z => ?_
  refine wa_done (by kernel_rfl) ?_
  refine nx_blk_nrm (nx_then (sr_ ?_))
  refine wl_ov (ov_loads rz31 rfl (fun _ hm => hm.blkI 2 rfl) rfl rfl) rfl ?_
  refine wl_stores (cs' := [.slice sA sn sc, .slice cA 4 cc, .slice vA vn vc, .slice A2 (pn + 1) c2]) 1 rz31 rfl rfl rfl rfl rfl rfl rfl rfl ?_
  refine nn_ ?_
  refine gw_ret ?_
  refine nx_retc 1 rfl rz31 rfl rfl rfl fun wx hm => ?_
  exact ⟨sA, cA, vA, A2, sn, sc, cc, vn, vc, pn + 1, c2, sl, cl, vl, pl ++ [(⟨k3, k6, k9⟩ : Pl)], rfl, ⟨⟨stB_all hsB, by omega⟩, hcok, ⟨hvB, by omega⟩, all_snoc hpB ⟨⟨by dsimp only; omega, by dsimp only; omega⟩, by dsimp only; omega, by dsimp only; omega⟩, by omega⟩, hm.k.more (by omega), hm.g, SlT.ofOwnL stEnc_lenL (stB_all hsB) (hm.ownI 0 rfl) hsl, (hm.fact 0 rfl), SlT.ofOwn vh_len (hm.ownI 1 rfl) hvl, SlT.ofOwn pl_len (hm.ownI 2 rfl) (by simp [hpl]), own_shape (hm.ownI 2 rfl), own_cap (hm.ownI 2 rfl)⟩
 have T2047 : ∀ (k3 : Int) (hk3 : -2000000000000000 ≤ k3 ∧ k3 ≤ 2000000000000000) (q5 : Nat) (k6 : ByteArray) (zk6 : k6.size ≤ 100) (q8 : Nat) (k9 : ByteArray) (zk9 : k9.size ≤ 100), W 4 (lb 15 2047) [(0, .pointer (some ⟨sb, 0, none⟩)), (2, .pointer (some ⟨g1, 0, none⟩)), (3, .pointer (some ⟨g2, 0, none⟩)), (4, .pointer (some ⟨sb, 0, none⟩)), (5, .agg #[.slice sA sn sc, .slice cA 4 cc, .slice vA vn vc, .slice pA pn pc]), (6, .pointer (some ⟨sb, 0, none⟩)), (7, .bool f3), (8, .bool (!f3)), (10, .pointer (some ⟨sb, 0, none⟩)), (11, .int .i64 vj), (12, .pointer (some ⟨g2, 3, none⟩)), (13, .slice pA pn pc), (14, .pointer (some ⟨sb, 0, none⟩)), (15, .int .i64 k3), (16, .pointer (some ⟨sb, 0, none⟩)), (17, .slice (some ⟨q5, 0, none⟩) 2 2), (18, .string k6), (19, .pointer (some ⟨sb, 0, none⟩)), (20, .slice (some ⟨q8, 0, none⟩) 5 5), (21, .string k9), (22, .agg #[.int .i64 k3, .string k6, .string k9]), (26, .bool (decide (vj = 0))), (27, .bool (decide (vj = 0))), (37, .bool (decide (vj = 1))), (38, .bool (decide (vj = 1))), (42, .bool (decide (vj = 2))), (43, .bool (decide (vj = 2)))] (fun w => Strm 25 w B sb (m + 300 + 1 + 1 + 2 + 1 + 1)) [(g1, 31, [.slice none 0 0, .slice none 0 0, .slice none 0 0, .slice none 0 0]), (g2, 31, [.slice sA sn sc, .slice cA 4 cc, .slice vA vn vc, .slice pA pn pc]), (q5, 9, [.string ⟨#[118, 49]⟩, .string ⟨#[110, 111, 110, 101]⟩]), (q8, 9, [.string ⟨#[65, 66, 49]⟩, .string ⟨#[97, 49]⟩, .string ⟨#[65]⟩, .string ⟨#[65, 66, 67, 68, 69, 70, 71, 72, 73, 74, 49]⟩, .string ⟨#[65, 66, 49]⟩])] [⟨.slice sA sn sc, 140, 15, sn, sl.flatMap stEnc⟩, ⟨.slice vA vn vc, 77, 2, vn, vl.flatMap vhEnc⟩, ⟨.slice pA pn pc, 143, 3, pn, pl.flatMap plEnc⟩] [fun wy => SlT csEnc 2 159 wy cA 4 cl] := by
  intro k3 hk3 q5 k6 zk6 q8 k9 zk9
  rw [hW]
  refine wa1 11 rfl ?_
  refine wl_buildSlice (e := 143) (cs := [.int .i64 k3, .string k6, .string k9]) rfl (by kernel_rfl) rfl fun g34 => ?_
  refine wl_nil ?_
  refine nw 15 4095 (fun _ hm => ⟨hm.bl 1, hm.fa 0, trivial⟩) fun z => ?_
  refine wa1 12 rfl ?_
  refine wl_append (news := [.int .i64 k3, .string k6, .string k9]) 2 0 ap29 rfl rfl rfl rfl rfl rfl rfl (by omega) (by unfold maxLen; omega) rfl rfl fun v2 hv2 => ?_
  refine wl_look (R := ∃ A cc, v2 = .slice A (pn + 1) cc) (fun wx hm => own_slice (hm.ownI 2 rfl)) ?_
  rintro ⟨A2, c2, rfl⟩
  have hxs : pl.flatMap plEnc ++ ([.int .i64 k3, .string k6, .string k9] : List Value) = (pl ++ [(⟨k3, k6, k9⟩ : Pl)]).flatMap plEnc := by simp [plEnc]
  rw [hxs]
  refine wl_nil ?_
  refine nw 15 8191 (fun _ hm => ⟨hm.bl 1, hm.fa 0, trivial⟩) fun z => ?_
  refine wt 13 15 16383 rfl z (ov_field fo31_3 rfl rfl) ?_
  refine wa1 14 rfl ?_
  refine wl_store 2 sc29 rfl rfl rfl rfl rfl rfl ?_
  refine wl_nil ?_
  refine nw 15 32767 (fun _ hm => ⟨hm.bl 1, hm.fa 0, trivial⟩) fun z => ?_
  refine wa_done (by kernel_rfl) ?_
  refine nx_blk_nrm (nx_then (sr_ ?_))
  refine wl_ov (ov_loads rz31 rfl (fun _ hm => hm.blkI 2 rfl) rfl rfl) rfl ?_
  refine wl_stores (cs' := [.slice sA sn sc, .slice cA 4 cc, .slice vA vn vc, .slice A2 (pn + 1) c2]) 1 rz31 rfl rfl rfl rfl rfl rfl rfl rfl ?_
  refine nn_ ?_
  refine gw_ret ?_
  refine nx_retc 1 rfl rz31 rfl rfl rfl fun wx hm => ?_
  exact ⟨sA, cA, vA, A2, sn, sc, cc, vn, vc, pn + 1, c2, sl, cl, vl, pl ++ [(⟨k3, k6, k9⟩ : Pl)], rfl, ⟨⟨stB_all hsB, by omega⟩, hcok, ⟨hvB, by omega⟩, all_snoc hpB ⟨⟨by dsimp only; omega, by dsimp only; omega⟩, by dsimp only; omega, by dsimp only; omega⟩, by omega⟩, hm.k.more (by omega), hm.g, SlT.ofOwnL stEnc_lenL (stB_all hsB) (hm.ownI 0 rfl) hsl, (hm.fact 0 rfl), SlT.ofOwn vh_len (hm.ownI 1 rfl) hvl, SlT.ofOwn pl_len (hm.ownI 2 rfl) (by simp [hpl]), own_shape (hm.ownI 2 rfl), own_cap (hm.ownI 2 rfl)⟩
 have T4093 : ∀ (k3 : Int) (hk3 : -2000000000000000 ≤ k3 ∧ k3 ≤ 2000000000000000) (q5 : Nat) (k6 : ByteArray) (zk6 : k6.size ≤ 100) (q8 : Nat) (k9 : ByteArray) (zk9 : k9.size ≤ 100) (q11 : Nat), W 4 (lb 15 4093) [(0, .pointer (some ⟨sb, 0, none⟩)), (2, .pointer (some ⟨g1, 0, none⟩)), (3, .pointer (some ⟨g2, 0, none⟩)), (4, .pointer (some ⟨sb, 0, none⟩)), (5, .agg #[.slice sA sn sc, .slice cA 4 cc, .slice vA vn vc, .slice pA pn pc]), (6, .pointer (some ⟨sb, 0, none⟩)), (7, .bool f3), (8, .bool (!f3)), (10, .pointer (some ⟨sb, 0, none⟩)), (11, .int .i64 vj), (12, .pointer (some ⟨g2, 3, none⟩)), (14, .pointer (some ⟨sb, 0, none⟩)), (15, .int .i64 k3), (16, .pointer (some ⟨sb, 0, none⟩)), (17, .slice (some ⟨q5, 0, none⟩) 2 2), (18, .string k6), (19, .pointer (some ⟨sb, 0, none⟩)), (20, .slice (some ⟨q8, 0, none⟩) 5 5), (21, .string k9), (22, .agg #[.int .i64 k3, .string k6, .string k9]), (23, .slice (some ⟨q11, 0, none⟩) 1 1), (26, .bool (decide (vj = 0))), (27, .bool (decide (vj = 0))), (37, .bool (decide (vj = 1))), (38, .bool (decide (vj = 1))), (42, .bool (decide (vj = 2))), (43, .bool (decide (vj = 2)))] (fun w => Strm 25 w B sb (m + 300 + 1 + 1 + 2 + 1 + 1)) [(g1, 31, [.slice none 0 0, .slice none 0 0, .slice none 0 0, .slice none 0 0]), (g2, 31, [.slice sA sn sc, .slice cA 4 cc, .slice vA vn vc, .slice pA pn pc]), (q11, 143, [.int .i64 k3, .string k6, .string k9]), (q5, 9, [.string ⟨#[118, 49]⟩, .string ⟨#[110, 111, 110, 101]⟩]), (q8, 9, [.string ⟨#[65, 66, 49]⟩, .string ⟨#[97, 49]⟩, .string ⟨#[65]⟩, .string ⟨#[65, 66, 67, 68, 69, 70, 71, 72, 73, 74, 49]⟩, .string ⟨#[65, 66, 49]⟩])] [⟨.slice sA sn sc, 140, 15, sn, sl.flatMap stEnc⟩, ⟨.slice vA vn vc, 77, 2, vn, vl.flatMap vhEnc⟩, ⟨.slice pA pn pc, 143, 3, pn, pl.flatMap plEnc⟩] [fun wy => SlT csEnc 2 159 wy cA 4 cl] := by
  intro k3 hk3 q5 k6 zk6 q8 k9 zk9 q11
  rw [hW]
  refine wa1 1 rfl ?_
  refine lk_ sc29 1 rfl rfl rfl (wl_nil ?_)
  refine nw 15 4095 (fun _ hm => ⟨hm.bl 0, hm.fa 0, trivial⟩) fun z => ?_
  refine wa1 12 rfl ?_
  refine wl_append (news := [.int .i64 k3, .string k6, .string k9]) 2 2 ap29 rfl rfl rfl rfl rfl rfl rfl (by omega) (by unfold maxLen; omega) rfl rfl fun v2 hv2 => ?_
  refine wl_look (R := ∃ A cc, v2 = .slice A (pn + 1) cc) (fun wx hm => own_slice (hm.ownI 2 rfl)) ?_
  rintro ⟨A2, c2, rfl⟩
  have hxs : pl.flatMap plEnc ++ ([.int .i64 k3, .string k6, .string k9] : List Value) = (pl ++ [(⟨k3, k6, k9⟩ : Pl)]).flatMap plEnc := by simp [plEnc]
  rw [hxs]
  refine wl_nil ?_
  refine nw 15 8191 (fun _ hm => ⟨hm.bl 0, hm.fa 0, trivial⟩) fun z => ?_
  refine wt 13 15 16383 rfl z (ov_field fo31_3 rfl rfl) ?_
  refine wa1 14 rfl ?_
  refine wl_store 1 sc29 rfl rfl rfl rfl rfl rfl ?_
  refine wl_nil ?_
  refine nw 15 32767 (fun _ hm => ⟨hm.bl 0, hm.fa 0, trivial⟩) fun z => ?_
  refine wa_done (by kernel_rfl) ?_
  refine nx_blk_nrm (nx_then (sr_ ?_))
  refine wl_ov (ov_loads rz31 rfl (fun _ hm => hm.blkI 1 rfl) rfl rfl) rfl ?_
  refine wl_stores (cs' := [.slice sA sn sc, .slice cA 4 cc, .slice vA vn vc, .slice A2 (pn + 1) c2]) 0 rz31 rfl rfl rfl rfl rfl rfl rfl rfl ?_
  refine nn_ ?_
  refine gw_ret ?_
  refine nx_retc 0 rfl rz31 rfl rfl rfl fun wx hm => ?_
  exact ⟨sA, cA, vA, A2, sn, sc, cc, vn, vc, pn + 1, c2, sl, cl, vl, pl ++ [(⟨k3, k6, k9⟩ : Pl)], rfl, ⟨⟨stB_all hsB, by omega⟩, hcok, ⟨hvB, by omega⟩, all_snoc hpB ⟨⟨by dsimp only; omega, by dsimp only; omega⟩, by dsimp only; omega, by dsimp only; omega⟩, by omega⟩, hm.k.more (by omega), hm.g, SlT.ofOwnL stEnc_lenL (stB_all hsB) (hm.ownI 0 rfl) hsl, (hm.fact 0 rfl), SlT.ofOwn vh_len (hm.ownI 1 rfl) hvl, SlT.ofOwn pl_len (hm.ownI 2 rfl) (by simp [hpl]), own_shape (hm.ownI 2 rfl), own_cap (hm.ownI 2 rfl)⟩
 have J2045 : ∀ (k3 : Int) (hk3 : -2000000000000000 ≤ k3 ∧ k3 ≤ 2000000000000000) (q5 : Nat) (k6 : ByteArray) (zk6 : k6.size ≤ 100) (q8 : Nat) (k9 : ByteArray) (zk9 : k9.size ≤ 100), W 5 (lb 15 2045) [(0, .pointer (some ⟨sb, 0, none⟩)), (2, .pointer (some ⟨g1, 0, none⟩)), (3, .pointer (some ⟨g2, 0, none⟩)), (4, .pointer (some ⟨sb, 0, none⟩)), (5, .agg #[.slice sA sn sc, .slice cA 4 cc, .slice vA vn vc, .slice pA pn pc]), (6, .pointer (some ⟨sb, 0, none⟩)), (7, .bool f3), (8, .bool (!f3)), (10, .pointer (some ⟨sb, 0, none⟩)), (11, .int .i64 vj), (12, .pointer (some ⟨g2, 3, none⟩)), (14, .pointer (some ⟨sb, 0, none⟩)), (15, .int .i64 k3), (16, .pointer (some ⟨sb, 0, none⟩)), (17, .slice (some ⟨q5, 0, none⟩) 2 2), (18, .string k6), (19, .pointer (some ⟨sb, 0, none⟩)), (20, .slice (some ⟨q8, 0, none⟩) 5 5), (21, .string k9), (22, .agg #[.int .i64 k3, .string k6, .string k9]), (26, .bool (decide (vj = 0))), (27, .bool (decide (vj = 0))), (37, .bool (decide (vj = 1))), (38, .bool (decide (vj = 1))), (42, .bool (decide (vj = 2))), (43, .bool (decide (vj = 2)))] (fun w => Strm 25 w B sb (m + 300 + 1 + 1 + 2 + 1 + 1)) [(g1, 31, [.slice none 0 0, .slice none 0 0, .slice none 0 0, .slice none 0 0]), (g2, 31, [.slice sA sn sc, .slice cA 4 cc, .slice vA vn vc, .slice pA pn pc]), (q5, 9, [.string ⟨#[118, 49]⟩, .string ⟨#[110, 111, 110, 101]⟩]), (q8, 9, [.string ⟨#[65, 66, 49]⟩, .string ⟨#[97, 49]⟩, .string ⟨#[65]⟩, .string ⟨#[65, 66, 67, 68, 69, 70, 71, 72, 73, 74, 49]⟩, .string ⟨#[65, 66, 49]⟩])] [⟨.slice sA sn sc, 140, 15, sn, sl.flatMap stEnc⟩, ⟨.slice vA vn vc, 77, 2, vn, vl.flatMap vhEnc⟩, ⟨.slice pA pn pc, 143, 3, pn, pl.flatMap plEnc⟩] [fun wy => SlT csEnc 2 159 wy cA 4 cl] := by
  intro k3 hk3 q5 k6 zk6 q8 k9 zk9
  rw [hW]
  refine wa_all [1, 11] (by kernel_rfl) rfl ⟨⟨_, rfl, ?_⟩, ⟨_, rfl, ?_⟩, trivial⟩
  ·refine lk_ sc29 1 rfl rfl rfl (wl_nil ?_)
   refine nw 15 2047 (fun _ hm => ⟨hm.bl 0, hm.fa 0, trivial⟩) fun z => ?_
   have h := T2047 k3 hk3 q5 k6 zk6 q8 k9 zk9
   rw [hW] at h
   refine wa_weak ?_ ?_ h
   ·exact ⟨rfl, rfl, rfl, rfl, rfl, rfl, rfl, rfl, rfl, rfl, rfl, rfl, rfl, rfl, rfl, rfl, rfl, rfl, rfl, rfl, rfl, rfl, rfl, rfl, rfl, rfl, rfl, trivial⟩
   exact fun _ hm => hm.pick [0, 1, 2, 3] [0, 1, 2] [0] rfl rfl
  refine wl_buildSlice (e := 143) (cs := [.int .i64 k3, .string k6, .string k9]) rfl (by kernel_rfl) rfl fun q11 => ?_
  refine wl_nil ?_
  refine nw 15 4093 (fun _ hm => ⟨hm.bl 1, hm.fa 0, trivial⟩) fun z => ?_
  have h := T4093 k3 hk3 q5 k6 zk6 q8 k9 zk9 q11
  rw [hW] at h
  refine wa_weak ?_ ?_ h
  ·exact ⟨rfl, rfl, rfl, rfl, rfl, rfl, rfl, rfl, rfl, rfl, rfl, rfl, rfl, rfl, rfl, rfl, rfl, rfl, rfl, rfl, rfl, rfl, rfl, rfl, rfl, rfl, rfl, trivial⟩
  exact fun _ hm => hm.pick [1, 2, 0, 3, 4] [0, 1, 2] [0] rfl rfl
 have J509 : ∀ (k3 : Int) (hk3 : -2000000000000000 ≤ k3 ∧ k3 ≤ 2000000000000000) (q5 : Nat) (k6 : ByteArray) (zk6 : k6.size ≤ 100) (q8 : Nat), W 7 (lb 15 509) [(0, .pointer (some ⟨sb, 0, none⟩)), (2, .pointer (some ⟨g1, 0, none⟩)), (3, .pointer (some ⟨g2, 0, none⟩)), (4, .pointer (some ⟨sb, 0, none⟩)), (5, .agg #[.slice sA sn sc, .slice cA 4 cc, .slice vA vn vc, .slice pA pn pc]), (6, .pointer (some ⟨sb, 0, none⟩)), (7, .bool f3), (8, .bool (!f3)), (10, .pointer (some ⟨sb, 0, none⟩)), (11, .int .i64 vj), (12, .pointer (some ⟨g2, 3, none⟩)), (14, .pointer (some ⟨sb, 0, none⟩)), (15, .int .i64 k3), (16, .pointer (some ⟨sb, 0, none⟩)), (17, .slice (some ⟨q5, 0, none⟩) 2 2), (18, .string k6), (19, .pointer (some ⟨sb, 0, none⟩)), (20, .slice (some ⟨q8, 0, none⟩) 5 5), (26, .bool (decide (vj = 0))), (27, .bool (decide (vj = 0))), (37, .bool (decide (vj = 1))), (38, .bool (decide (vj = 1))), (42, .bool (decide (vj = 2))), (43, .bool (decide (vj = 2)))] (fun w => Strm 25 w B sb (m + 300 + 1 + 1 + 2 + 1)) [(g1, 31, [.slice none 0 0, .slice none 0 0, .slice none 0 0, .slice none 0 0]), (g2, 31, [.slice sA sn sc, .slice cA 4 cc, .slice vA vn vc, .slice pA pn pc]), (q5, 9, [.string ⟨#[118, 49]⟩, .string ⟨#[110, 111, 110, 101]⟩]), (q8, 9, [.string ⟨#[65, 66, 49]⟩, .string ⟨#[97, 49]⟩, .string ⟨#[65]⟩, .string ⟨#[65, 66, 67, 68, 69, 70, 71, 72, 73, 74, 49]⟩, .string ⟨#[65, 66, 49]⟩])] [⟨.slice sA sn sc, 140, 15, sn, sl.flatMap stEnc⟩, ⟨.slice vA vn vc, 77, 2, vn, vl.flatMap vhEnc⟩, ⟨.slice pA pn pc, 143, 3, pn, pl.flatMap plEnc⟩] [fun wy => SlT csEnc 2 159 wy cA 4 cl] := by
  intro k3 hk3 q5 k6 zk6 q8
  rw [hW]
  refine wa_all [1, 9] (by kernel_rfl) rfl ⟨⟨_, rfl, ?_⟩, ⟨_, rfl, ?_⟩, trivial⟩
  ·refine lk_ sc29 1 rfl rfl rfl (wl_nil ?_)
   refine nw 15 511 (fun _ hm => ⟨hm.bl 0, hm.fa 0, trivial⟩) fun z => ?_
   have h := T511 k3 hk3 q5 k6 zk6 q8
   rw [hW] at h
   refine wa_weak ?_ ?_ h
   ·exact ⟨rfl, rfl, rfl, rfl, rfl, rfl, rfl, rfl, rfl, rfl, rfl, rfl, rfl, rfl, rfl, rfl, rfl, rfl, rfl, rfl, rfl, rfl, rfl, rfl, rfl, trivial⟩
   exact fun _ hm => hm.pick [0, 1, 2, 3] [0, 1, 2] [0] rfl rfl
  refine wl_got (γ := ByteArray) (val := fun v => .string v) (φ := fun v => v ∈ ([⟨#[65, 66, 49]⟩, ⟨#[97, 49]⟩, ⟨#[65]⟩, ⟨#[65, 66, 67, 68, 69, 70, 71, 72, 73, 74, 49]⟩, ⟨#[65, 66, 49]⟩] : List ByteArray)) rfl cb43 rfl rfl rfl rfl (fun wx hm => (some_any [⟨#[65, 66, 49]⟩, ⟨#[97, 49]⟩, ⟨#[65]⟩, ⟨#[65, 66, 67, 68, 69, 70, 71, 72, 73, 74, 49]⟩, ⟨#[65, 66, 49]⟩] _ _ _ wx B sb _ hm.k (by omega) (by simp) (by simp) (hm.blkI 3 rfl) (hm.neRow 3 rfl rfl))) fun k9 hk9 => ?_
  have zk9 : k9.size ≤ 100 := mem_sz hk9 (by decide)
  refine wl_nil ?_
  refine nw 15 1021 (fun _ hm => ⟨hm.bl 0, hm.fa 0, trivial⟩) fun z => ?_
  refine wt 10 15 2045 rfl z (ov_build (cs := [.int .i64 k3, .string k6, .string k9]) rfl (by kernel_rfl)) ?_
  have h := J2045 k3 hk3 q5 k6 zk6 q8 k9 zk9
  rw [hW] at h
  refine wa_weak ?_ ?_ h
  ·exact ⟨rfl, rfl, rfl, rfl, rfl, rfl, rfl, rfl, rfl, rfl, rfl, rfl, rfl, rfl, rfl, rfl, rfl, rfl, rfl, rfl, rfl, rfl, rfl, rfl, rfl, rfl, trivial⟩
  exact fun _ hm => hm.pick [0, 1, 2, 3] [0, 1, 2] [0] rfl rfl
 have J253 : ∀ (k3 : Int) (hk3 : -2000000000000000 ≤ k3 ∧ k3 ≤ 2000000000000000) (q5 : Nat) (k6 : ByteArray) (zk6 : k6.size ≤ 100), W 8 (lb 15 253) [(0, .pointer (some ⟨sb, 0, none⟩)), (2, .pointer (some ⟨g1, 0, none⟩)), (3, .pointer (some ⟨g2, 0, none⟩)), (4, .pointer (some ⟨sb, 0, none⟩)), (5, .agg #[.slice sA sn sc, .slice cA 4 cc, .slice vA vn vc, .slice pA pn pc]), (6, .pointer (some ⟨sb, 0, none⟩)), (7, .bool f3), (8, .bool (!f3)), (10, .pointer (some ⟨sb, 0, none⟩)), (11, .int .i64 vj), (12, .pointer (some ⟨g2, 3, none⟩)), (14, .pointer (some ⟨sb, 0, none⟩)), (15, .int .i64 k3), (16, .pointer (some ⟨sb, 0, none⟩)), (17, .slice (some ⟨q5, 0, none⟩) 2 2), (18, .string k6), (19, .pointer (some ⟨sb, 0, none⟩)), (26, .bool (decide (vj = 0))), (27, .bool (decide (vj = 0))), (37, .bool (decide (vj = 1))), (38, .bool (decide (vj = 1))), (42, .bool (decide (vj = 2))), (43, .bool (decide (vj = 2)))] (fun w => Strm 25 w B sb (m + 300 + 1 + 1 + 2 + 1)) [(g1, 31, [.slice none 0 0, .slice none 0 0, .slice none 0 0, .slice none 0 0]), (g2, 31, [.slice sA sn sc, .slice cA 4 cc, .slice vA vn vc, .slice pA pn pc]), (q5, 9, [.string ⟨#[118, 49]⟩, .string ⟨#[110, 111, 110, 101]⟩])] [⟨.slice sA sn sc, 140, 15, sn, sl.flatMap stEnc⟩, ⟨.slice vA vn vc, 77, 2, vn, vl.flatMap vhEnc⟩, ⟨.slice pA pn pc, 143, 3, pn, pl.flatMap plEnc⟩] [fun wy => SlT csEnc 2 159 wy cA 4 cl] := by
  intro k3 hk3 q5 k6 zk6
  rw [hW]
  refine wa_all [1, 8] (by kernel_rfl) rfl ⟨⟨_, rfl, ?_⟩, ⟨_, rfl, ?_⟩, trivial⟩
  ·refine lk_ sc29 1 rfl rfl rfl (wl_nil ?_)
   refine nw 15 255 (fun _ hm => ⟨hm.bl 0, hm.fa 0, trivial⟩) fun z => ?_
   have h := T255 k3 hk3 q5 k6 zk6
   rw [hW] at h
   refine wa_weak ?_ ?_ h
   ·exact ⟨rfl, rfl, rfl, rfl, rfl, rfl, rfl, rfl, rfl, rfl, rfl, rfl, rfl, rfl, rfl, rfl, rfl, rfl, rfl, rfl, rfl, rfl, rfl, rfl, trivial⟩
   exact fun _ hm => hm.pick [0, 1, 2] [0, 1, 2] [0] rfl rfl
  refine wl_buildSlice (e := 9) (cs := [.string ⟨#[65, 66, 49]⟩, .string ⟨#[97, 49]⟩, .string ⟨#[65]⟩, .string ⟨#[65, 66, 67, 68, 69, 70, 71, 72, 73, 74, 49]⟩, .string ⟨#[65, 66, 49]⟩]) rfl (by kernel_rfl) rfl fun q8 => ?_
  refine wl_nil ?_
  refine nw 15 509 (fun _ hm => ⟨hm.bl 1, hm.fa 0, trivial⟩) fun z => ?_
  have h := J509 k3 hk3 q5 k6 zk6 q8
  rw [hW] at h
  refine wa_weak ?_ ?_ h
  ·exact ⟨rfl, rfl, rfl, rfl, rfl, rfl, rfl, rfl, rfl, rfl, rfl, rfl, rfl, rfl, rfl, rfl, rfl, rfl, rfl, rfl, rfl, rfl, rfl, rfl, trivial⟩
  exact fun _ hm => hm.pick [1, 2, 3, 0] [0, 1, 2] [0] rfl rfl
 have J445 : ∀ (k3 : Int) (hk3 : -2000000000000000 ≤ k3 ∧ k3 ≤ 2000000000000000) (q5 : Nat) (q8 : Nat), W 8 (lb 15 445) [(0, .pointer (some ⟨sb, 0, none⟩)), (2, .pointer (some ⟨g1, 0, none⟩)), (3, .pointer (some ⟨g2, 0, none⟩)), (4, .pointer (some ⟨sb, 0, none⟩)), (5, .agg #[.slice sA sn sc, .slice cA 4 cc, .slice vA vn vc, .slice pA pn pc]), (6, .pointer (some ⟨sb, 0, none⟩)), (7, .bool f3), (8, .bool (!f3)), (10, .pointer (some ⟨sb, 0, none⟩)), (11, .int .i64 vj), (12, .pointer (some ⟨g2, 3, none⟩)), (14, .pointer (some ⟨sb, 0, none⟩)), (15, .int .i64 k3), (16, .pointer (some ⟨sb, 0, none⟩)), (17, .slice (some ⟨q5, 0, none⟩) 2 2), (19, .pointer (some ⟨sb, 0, none⟩)), (20, .slice (some ⟨q8, 0, none⟩) 5 5), (26, .bool (decide (vj = 0))), (27, .bool (decide (vj = 0))), (37, .bool (decide (vj = 1))), (38, .bool (decide (vj = 1))), (42, .bool (decide (vj = 2))), (43, .bool (decide (vj = 2)))] (fun w => Strm 25 w B sb (m + 300 + 1 + 1 + 2)) [(g1, 31, [.slice none 0 0, .slice none 0 0, .slice none 0 0, .slice none 0 0]), (g2, 31, [.slice sA sn sc, .slice cA 4 cc, .slice vA vn vc, .slice pA pn pc]), (q5, 9, [.string ⟨#[118, 49]⟩, .string ⟨#[110, 111, 110, 101]⟩]), (q8, 9, [.string ⟨#[65, 66, 49]⟩, .string ⟨#[97, 49]⟩, .string ⟨#[65]⟩, .string ⟨#[65, 66, 67, 68, 69, 70, 71, 72, 73, 74, 49]⟩, .string ⟨#[65, 66, 49]⟩])] [⟨.slice sA sn sc, 140, 15, sn, sl.flatMap stEnc⟩, ⟨.slice vA vn vc, 77, 2, vn, vl.flatMap vhEnc⟩, ⟨.slice pA pn pc, 143, 3, pn, pl.flatMap plEnc⟩] [fun wy => SlT csEnc 2 159 wy cA 4 cl] := by
  intro k3 hk3 q5 q8
  rw [hW]
  refine wa_all [1, 6] (by kernel_rfl) rfl ⟨⟨_, rfl, ?_⟩, ⟨_, rfl, ?_⟩, trivial⟩
  ·refine lk_ sc29 1 rfl rfl rfl (wl_nil ?_)
   refine nw 15 447 (fun _ hm => ⟨hm.bl 0, hm.fa 0, trivial⟩) fun z => ?_
   have h := T447 k3 hk3 q5 q8
   rw [hW] at h
   refine wa_weak ?_ ?_ h
   ·exact ⟨rfl, rfl, rfl, rfl, rfl, rfl, rfl, rfl, rfl, rfl, rfl, rfl, rfl, rfl, rfl, rfl, rfl, rfl, rfl, rfl, rfl, rfl, rfl, rfl, trivial⟩
   exact fun _ hm => hm.pick [0, 1, 2, 3] [0, 1, 2] [0] rfl rfl
  refine wl_got (γ := ByteArray) (val := fun v => .string v) (φ := fun v => v ∈ ([⟨#[118, 49]⟩, ⟨#[110, 111, 110, 101]⟩] : List ByteArray)) rfl cb43 rfl rfl rfl rfl (fun wx hm => (some_any [⟨#[118, 49]⟩, ⟨#[110, 111, 110, 101]⟩] _ _ _ wx B sb _ hm.k (by omega) (by simp) (by simp) (hm.blkI 2 rfl) (hm.neRow 2 rfl rfl))) fun k6 hk6 => ?_
  have zk6 : k6.size ≤ 100 := mem_sz hk6 (by decide)
  refine wl_nil ?_
  refine nw 15 509 (fun _ hm => ⟨hm.bl 0, hm.fa 0, trivial⟩) fun z => ?_
  have h := J509 k3 hk3 q5 k6 zk6 q8
  rw [hW] at h
  refine wa_weak ?_ ?_ h
  ·exact ⟨rfl, rfl, rfl, rfl, rfl, rfl, rfl, rfl, rfl, rfl, rfl, rfl, rfl, rfl, rfl, rfl, rfl, rfl, rfl, rfl, rfl, rfl, rfl, rfl, trivial⟩
  exact fun _ hm => hm.pick [0, 1, 2, 3] [0, 1, 2] [0] rfl rfl
 have J189 : ∀ (k3 : Int) (hk3 : -2000000000000000 ≤ k3 ∧ k3 ≤ 2000000000000000) (q5 : Nat), W 9 (lb 15 189) [(0, .pointer (some ⟨sb, 0, none⟩)), (2, .pointer (some ⟨g1, 0, none⟩)), (3, .pointer (some ⟨g2, 0, none⟩)), (4, .pointer (some ⟨sb, 0, none⟩)), (5, .agg #[.slice sA sn sc, .slice cA 4 cc, .slice vA vn vc, .slice pA pn pc]), (6, .pointer (some ⟨sb, 0, none⟩)), (7, .bool f3), (8, .bool (!f3)), (10, .pointer (some ⟨sb, 0, none⟩)), (11, .int .i64 vj), (12, .pointer (some ⟨g2, 3, none⟩)), (14, .pointer (some ⟨sb, 0, none⟩)), (15, .int .i64 k3), (16, .pointer (some ⟨sb, 0, none⟩)), (17, .slice (some ⟨q5, 0, none⟩) 2 2), (19, .pointer (some ⟨sb, 0, none⟩)), (26, .bool (decide (vj = 0))), (27, .bool (decide (vj = 0))), (37, .bool (decide (vj = 1))), (38, .bool (decide (vj = 1))), (42, .bool (decide (vj = 2))), (43, .bool (decide (vj = 2)))] (fun w => Strm 25 w B sb (m + 300 + 1 + 1 + 2)) [(g1, 31, [.slice none 0 0, .slice none 0 0, .slice none 0 0, .slice none 0 0]), (g2, 31, [.slice sA sn sc, .slice cA 4 cc, .slice vA vn vc, .slice pA pn pc]), (q5, 9, [.string ⟨#[118, 49]⟩, .string ⟨#[110, 111, 110, 101]⟩])] [⟨.slice sA sn sc, 140, 15, sn, sl.flatMap stEnc⟩, ⟨.slice vA vn vc, 77, 2, vn, vl.flatMap vhEnc⟩, ⟨.slice pA pn pc, 143, 3, pn, pl.flatMap plEnc⟩] [fun wy => SlT csEnc 2 159 wy cA 4 cl] := by
  intro k3 hk3 q5
  rw [hW]
  refine wa_all [1, 6, 8] (by kernel_rfl) rfl ⟨⟨_, rfl, ?_⟩, ⟨_, rfl, ?_⟩, ⟨_, rfl, ?_⟩, trivial⟩
  ·refine lk_ sc29 1 rfl rfl rfl (wl_nil ?_)
   refine nw 15 191 (fun _ hm => ⟨hm.bl 0, hm.fa 0, trivial⟩) fun z => ?_
   have h := J191 k3 hk3 q5
   rw [hW] at h
   refine wa_weak ?_ ?_ h
   ·exact ⟨rfl, rfl, rfl, rfl, rfl, rfl, rfl, rfl, rfl, rfl, rfl, rfl, rfl, rfl, rfl, rfl, rfl, rfl, rfl, rfl, rfl, rfl, rfl, trivial⟩
   exact fun _ hm => hm.pick [0, 1, 2] [0, 1, 2] [0] rfl rfl
  ·refine wl_got (γ := ByteArray) (val := fun v => .string v) (φ := fun v => v ∈ ([⟨#[118, 49]⟩, ⟨#[110, 111, 110, 101]⟩] : List ByteArray)) rfl cb43 rfl rfl rfl rfl (fun wx hm => (some_any [⟨#[118, 49]⟩, ⟨#[110, 111, 110, 101]⟩] _ _ _ wx B sb _ hm.k (by omega) (by simp) (by simp) (hm.blkI 2 rfl) (hm.neRow 2 rfl rfl))) fun k6 hk6 => ?_
   have zk6 : k6.size ≤ 100 := mem_sz hk6 (by decide)
   refine wl_nil ?_
   refine nw 15 253 (fun _ hm => ⟨hm.bl 0, hm.fa 0, trivial⟩) fun z => ?_
   have h := J253 k3 hk3 q5 k6 zk6
   rw [hW] at h
   refine wa_weak ?_ ?_ h
   ·exact ⟨rfl, rfl, rfl, rfl, rfl, rfl, rfl, rfl, rfl, rfl, rfl, rfl, rfl, rfl, rfl, rfl, rfl, rfl, rfl, rfl, rfl, rfl, rfl, trivial⟩
   exact fun _ hm => hm.pick [0, 1, 2] [0, 1, 2] [0] rfl rfl
  refine wl_buildSlice (e := 9) (cs := [.string ⟨#[65, 66, 49]⟩, .string ⟨#[97, 49]⟩, .string ⟨#[65]⟩, .string ⟨#[65, 66, 67, 68, 69, 70, 71, 72, 73, 74, 49]⟩, .string ⟨#[65, 66, 49]⟩]) rfl (by kernel_rfl) rfl fun q8 => ?_
  refine wl_nil ?_
  refine nw 15 445 (fun _ hm => ⟨hm.bl 1, hm.fa 0, trivial⟩) fun z => ?_
  have h := J445 k3 hk3 q5 q8
  rw [hW] at h
  refine wa_weak ?_ ?_ h
  ·exact ⟨rfl, rfl, rfl, rfl, rfl, rfl, rfl, rfl, rfl, rfl, rfl, rfl, rfl, rfl, rfl, rfl, rfl, rfl, rfl, rfl, rfl, rfl, rfl, trivial⟩
  exact fun _ hm => hm.pick [1, 2, 3, 0] [0, 1, 2] [0] rfl rfl
 have J413 : ∀ (k3 : Int) (hk3 : -2000000000000000 ≤ k3 ∧ k3 ≤ 2000000000000000) (q8 : Nat), W 9 (lb 15 413) [(0, .pointer (some ⟨sb, 0, none⟩)), (2, .pointer (some ⟨g1, 0, none⟩)), (3, .pointer (some ⟨g2, 0, none⟩)), (4, .pointer (some ⟨sb, 0, none⟩)), (5, .agg #[.slice sA sn sc, .slice cA 4 cc, .slice vA vn vc, .slice pA pn pc]), (6, .pointer (some ⟨sb, 0, none⟩)), (7, .bool f3), (8, .bool (!f3)), (10, .pointer (some ⟨sb, 0, none⟩)), (11, .int .i64 vj), (12, .pointer (some ⟨g2, 3, none⟩)), (14, .pointer (some ⟨sb, 0, none⟩)), (15, .int .i64 k3), (16, .pointer (some ⟨sb, 0, none⟩)), (19, .pointer (some ⟨sb, 0, none⟩)), (20, .slice (some ⟨q8, 0, none⟩) 5 5), (26, .bool (decide (vj = 0))), (27, .bool (decide (vj = 0))), (37, .bool (decide (vj = 1))), (38, .bool (decide (vj = 1))), (42, .bool (decide (vj = 2))), (43, .bool (decide (vj = 2)))] (fun w => Strm 25 w B sb (m + 300 + 1 + 1 + 2)) [(g1, 31, [.slice none 0 0, .slice none 0 0, .slice none 0 0, .slice none 0 0]), (g2, 31, [.slice sA sn sc, .slice cA 4 cc, .slice vA vn vc, .slice pA pn pc]), (q8, 9, [.string ⟨#[65, 66, 49]⟩, .string ⟨#[97, 49]⟩, .string ⟨#[65]⟩, .string ⟨#[65, 66, 67, 68, 69, 70, 71, 72, 73, 74, 49]⟩, .string ⟨#[65, 66, 49]⟩])] [⟨.slice sA sn sc, 140, 15, sn, sl.flatMap stEnc⟩, ⟨.slice vA vn vc, 77, 2, vn, vl.flatMap vhEnc⟩, ⟨.slice pA pn pc, 143, 3, pn, pl.flatMap plEnc⟩] [fun wy => SlT csEnc 2 159 wy cA 4 cl] := by
  intro k3 hk3 q8
  rw [hW]
  refine wa_all [1, 5] (by kernel_rfl) rfl ⟨⟨_, rfl, ?_⟩, ⟨_, rfl, ?_⟩, trivial⟩
  ·refine lk_ sc29 1 rfl rfl rfl (wl_nil ?_)
   refine nw 15 415 (fun _ hm => ⟨hm.bl 0, hm.fa 0, trivial⟩) fun z => ?_
   have h := T415 k3 hk3 q8
   rw [hW] at h
   refine wa_weak ?_ ?_ h
   ·exact ⟨rfl, rfl, rfl, rfl, rfl, rfl, rfl, rfl, rfl, rfl, rfl, rfl, rfl, rfl, rfl, rfl, rfl, rfl, rfl, rfl, rfl, rfl, rfl, trivial⟩
   exact fun _ hm => hm.pick [0, 1, 2] [0, 1, 2] [0] rfl rfl
  refine wl_buildSlice (e := 9) (cs := [.string ⟨#[118, 49]⟩, .string ⟨#[110, 111, 110, 101]⟩]) rfl (by kernel_rfl) rfl fun q5 => ?_
  refine wl_nil ?_
  refine nw 15 445 (fun _ hm => ⟨hm.bl 1, hm.fa 0, trivial⟩) fun z => ?_
  have h := J445 k3 hk3 q5 q8
  rw [hW] at h
  refine wa_weak ?_ ?_ h
  ·exact ⟨rfl, rfl, rfl, rfl, rfl, rfl, rfl, rfl, rfl, rfl, rfl, rfl, rfl, rfl, rfl, rfl, rfl, rfl, rfl, rfl, rfl, rfl, rfl, trivial⟩
  exact fun _ hm => hm.pick [1, 2, 0, 3] [0, 1, 2] [0] rfl rfl
 have J157 : ∀ (k3 : Int) (hk3 : -2000000000000000 ≤ k3 ∧ k3 ≤ 2000000000000000), W 10 (lb 15 157) [(0, .pointer (some ⟨sb, 0, none⟩)), (2, .pointer (some ⟨g1, 0, none⟩)), (3, .pointer (some ⟨g2, 0, none⟩)), (4, .pointer (some ⟨sb, 0, none⟩)), (5, .agg #[.slice sA sn sc, .slice cA 4 cc, .slice vA vn vc, .slice pA pn pc]), (6, .pointer (some ⟨sb, 0, none⟩)), (7, .bool f3), (8, .bool (!f3)), (10, .pointer (some ⟨sb, 0, none⟩)), (11, .int .i64 vj), (12, .pointer (some ⟨g2, 3, none⟩)), (14, .pointer (some ⟨sb, 0, none⟩)), (15, .int .i64 k3), (16, .pointer (some ⟨sb, 0, none⟩)), (19, .pointer (some ⟨sb, 0, none⟩)), (26, .bool (decide (vj = 0))), (27, .bool (decide (vj = 0))), (37, .bool (decide (vj = 1))), (38, .bool (decide (vj = 1))), (42, .bool (decide (vj = 2))), (43, .bool (decide (vj = 2)))] (fun w => Strm 25 w B sb (m + 300 + 1 + 1 + 2)) [(g1, 31, [.slice none 0 0, .slice none 0 0, .slice none 0 0, .slice none 0 0]), (g2, 31, [.slice sA sn sc, .slice cA 4 cc, .slice vA vn vc, .slice pA pn pc])] [⟨.slice sA sn sc, 140, 15, sn, sl.flatMap stEnc⟩, ⟨.slice vA vn vc, 77, 2, vn, vl.flatMap vhEnc⟩, ⟨.slice pA pn pc, 143, 3, pn, pl.flatMap plEnc⟩] [fun wy => SlT csEnc 2 159 wy cA 4 cl] := by
  intro k3 hk3
  rw [hW]
  refine wa_all [1, 5, 8] (by kernel_rfl) rfl ⟨⟨_, rfl, ?_⟩, ⟨_, rfl, ?_⟩, ⟨_, rfl, ?_⟩, trivial⟩
  ·refine lk_ sc29 1 rfl rfl rfl (wl_nil ?_)
   refine nw 15 159 (fun _ hm => ⟨hm.bl 0, hm.fa 0, trivial⟩) fun z => ?_
   have h := J159 k3 hk3
   rw [hW] at h
   refine wa_weak ?_ ?_ h
   ·exact ⟨rfl, rfl, rfl, rfl, rfl, rfl, rfl, rfl, rfl, rfl, rfl, rfl, rfl, rfl, rfl, rfl, rfl, rfl, rfl, rfl, rfl, rfl, trivial⟩
   exact fun _ hm => hm.pick [0, 1] [0, 1, 2] [0] rfl rfl
  ·refine wl_buildSlice (e := 9) (cs := [.string ⟨#[118, 49]⟩, .string ⟨#[110, 111, 110, 101]⟩]) rfl (by kernel_rfl) rfl fun q5 => ?_
   refine wl_nil ?_
   refine nw 15 189 (fun _ hm => ⟨hm.bl 1, hm.fa 0, trivial⟩) fun z => ?_
   have h := J189 k3 hk3 q5
   rw [hW] at h
   refine wa_weak ?_ ?_ h
   ·exact ⟨rfl, rfl, rfl, rfl, rfl, rfl, rfl, rfl, rfl, rfl, rfl, rfl, rfl, rfl, rfl, rfl, rfl, rfl, rfl, rfl, rfl, rfl, trivial⟩
   exact fun _ hm => hm.pick [1, 2, 0] [0, 1, 2] [0] rfl rfl
  refine wl_buildSlice (e := 9) (cs := [.string ⟨#[65, 66, 49]⟩, .string ⟨#[97, 49]⟩, .string ⟨#[65]⟩, .string ⟨#[65, 66, 67, 68, 69, 70, 71, 72, 73, 74, 49]⟩, .string ⟨#[65, 66, 49]⟩]) rfl (by kernel_rfl) rfl fun q8 => ?_
  refine wl_nil ?_
  refine nw 15 413 (fun _ hm => ⟨hm.bl 1, hm.fa 0, trivial⟩) fun z => ?_
  have h := J413 k3 hk3 q8
  rw [hW] at h
  refine wa_weak ?_ ?_ h
  ·exact ⟨rfl, rfl, rfl, rfl, rfl, rfl, rfl, rfl, rfl, rfl, rfl, rfl, rfl, rfl, rfl, rfl, rfl, rfl, rfl, rfl, rfl, rfl, trivial⟩
  exact fun _ hm => hm.pick [1, 2, 0] [0, 1, 2] [0] rfl rfl
 have J437 : ∀ (q5 : Nat) (q8 : Nat), W 9 (lb 15 437) [(0, .pointer (some ⟨sb, 0, none⟩)), (2, .pointer (some ⟨g1, 0, none⟩)), (3, .pointer (some ⟨g2, 0, none⟩)), (4, .pointer (some ⟨sb, 0, none⟩)), (5, .agg #[.slice sA sn sc, .slice cA 4 cc, .slice vA vn vc, .slice pA pn pc]), (6, .pointer (some ⟨sb, 0, none⟩)), (7, .bool f3), (8, .bool (!f3)), (10, .pointer (some ⟨sb, 0, none⟩)), (11, .int .i64 vj), (12, .pointer (some ⟨g2, 3, none⟩)), (14, .pointer (some ⟨sb, 0, none⟩)), (16, .pointer (some ⟨sb, 0, none⟩)), (17, .slice (some ⟨q5, 0, none⟩) 2 2), (19, .pointer (some ⟨sb, 0, none⟩)), (20, .slice (some ⟨q8, 0, none⟩) 5 5), (26, .bool (decide (vj = 0))), (27, .bool (decide (vj = 0))), (37, .bool (decide (vj = 1))), (38, .bool (decide (vj = 1))), (42, .bool (decide (vj = 2))), (43, .bool (decide (vj = 2)))] (fun w => Strm 25 w B sb (m + 300 + 1 + 1)) [(g1, 31, [.slice none 0 0, .slice none 0 0, .slice none 0 0, .slice none 0 0]), (g2, 31, [.slice sA sn sc, .slice cA 4 cc, .slice vA vn vc, .slice pA pn pc]), (q5, 9, [.string ⟨#[118, 49]⟩, .string ⟨#[110, 111, 110, 101]⟩]), (q8, 9, [.string ⟨#[65, 66, 49]⟩, .string ⟨#[97, 49]⟩, .string ⟨#[65]⟩, .string ⟨#[65, 66, 67, 68, 69, 70, 71, 72, 73, 74, 49]⟩, .string ⟨#[65, 66, 49]⟩])] [⟨.slice sA sn sc, 140, 15, sn, sl.flatMap stEnc⟩, ⟨.slice vA vn vc, 77, 2, vn, vl.flatMap vhEnc⟩, ⟨.slice pA pn pc, 143, 3, pn, pl.flatMap plEnc⟩] [fun wy => SlT csEnc 2 159 wy cA 4 cl] := by
  intro q5 q8
  rw [hW]
  refine wa_all [1, 3] (by kernel_rfl) rfl ⟨⟨_, rfl, ?_⟩, ⟨_, rfl, ?_⟩, trivial⟩
  ·refine lk_ sc29 1 rfl rfl rfl (wl_nil ?_)
   refine nw 15 439 (fun _ hm => ⟨hm.bl 0, hm.fa 0, trivial⟩) fun z => ?_
   have h := T439 q5 q8
   rw [hW] at h
   refine wa_weak ?_ ?_ h
   ·exact ⟨rfl, rfl, rfl, rfl, rfl, rfl, rfl, rfl, rfl, rfl, rfl, rfl, rfl, rfl, rfl, rfl, rfl, rfl, rfl, rfl, rfl, rfl, rfl, trivial⟩
   exact fun _ hm => hm.pick [0, 1, 2, 3] [0, 1, 2] [0] rfl rfl
  refine wl_got (γ := Int) (val := fun v => .int .i64 v) (φ := fun v => -2000000000000000 ≤ v ∧ v ≤ 2000000000000000) rfl cb77 rfl rfl rfl rfl (fun wx hm => (odd_any _ _ wx B sb _ hm.k (by omega) (by omega) (by omega) (by omega))) fun k3 hk3 => ?_
  refine wl_nil ?_
  refine nw 15 445 (fun _ hm => ⟨hm.bl 0, hm.fa 0, trivial⟩) fun z => ?_
  have h := J445 k3 hk3 q5 q8
  rw [hW] at h
  refine wa_weak ?_ ?_ h
  ·exact ⟨rfl, rfl, rfl, rfl, rfl, rfl, rfl, rfl, rfl, rfl, rfl, rfl, rfl, rfl, rfl, rfl, rfl, rfl, rfl, rfl, rfl, rfl, rfl, trivial⟩
  exact fun _ hm => hm.pick [0, 1, 2, 3] [0, 1, 2] [0] rfl rfl
 have J181 : ∀ (q5 : Nat), W 10 (lb 15 181) [(0, .pointer (some ⟨sb, 0, none⟩)), (2, .pointer (some ⟨g1, 0, none⟩)), (3, .pointer (some ⟨g2, 0, none⟩)), (4, .pointer (some ⟨sb, 0, none⟩)), (5, .agg #[.slice sA sn sc, .slice cA 4 cc, .slice vA vn vc, .slice pA pn pc]), (6, .pointer (some ⟨sb, 0, none⟩)), (7, .bool f3), (8, .bool (!f3)), (10, .pointer (some ⟨sb, 0, none⟩)), (11, .int .i64 vj), (12, .pointer (some ⟨g2, 3, none⟩)), (14, .pointer (some ⟨sb, 0, none⟩)), (16, .pointer (some ⟨sb, 0, none⟩)), (17, .slice (some ⟨q5, 0, none⟩) 2 2), (19, .pointer (some ⟨sb, 0, none⟩)), (26, .bool (decide (vj = 0))), (27, .bool (decide (vj = 0))), (37, .bool (decide (vj = 1))), (38, .bool (decide (vj = 1))), (42, .bool (decide (vj = 2))), (43, .bool (decide (vj = 2)))] (fun w => Strm 25 w B sb (m + 300 + 1 + 1)) [(g1, 31, [.slice none 0 0, .slice none 0 0, .slice none 0 0, .slice none 0 0]), (g2, 31, [.slice sA sn sc, .slice cA 4 cc, .slice vA vn vc, .slice pA pn pc]), (q5, 9, [.string ⟨#[118, 49]⟩, .string ⟨#[110, 111, 110, 101]⟩])] [⟨.slice sA sn sc, 140, 15, sn, sl.flatMap stEnc⟩, ⟨.slice vA vn vc, 77, 2, vn, vl.flatMap vhEnc⟩, ⟨.slice pA pn pc, 143, 3, pn, pl.flatMap plEnc⟩] [fun wy => SlT csEnc 2 159 wy cA 4 cl] := by
  intro q5
  rw [hW]
  refine wa_all [1, 3, 8] (by kernel_rfl) rfl ⟨⟨_, rfl, ?_⟩, ⟨_, rfl, ?_⟩, ⟨_, rfl, ?_⟩, trivial⟩
  ·refine lk_ sc29 1 rfl rfl rfl (wl_nil ?_)
   refine nw 15 183 (fun _ hm => ⟨hm.bl 0, hm.fa 0, trivial⟩) fun z => ?_
   have h := J183 q5
   rw [hW] at h
   refine wa_weak ?_ ?_ h
   ·exact ⟨rfl, rfl, rfl, rfl, rfl, rfl, rfl, rfl, rfl, rfl, rfl, rfl, rfl, rfl, rfl, rfl, rfl, rfl, rfl, rfl, rfl, rfl, trivial⟩
   exact fun _ hm => hm.pick [0, 1, 2] [0, 1, 2] [0] rfl rfl
  ·refine wl_got (γ := Int) (val := fun v => .int .i64 v) (φ := fun v => -2000000000000000 ≤ v ∧ v ≤ 2000000000000000) rfl cb77 rfl rfl rfl rfl (fun wx hm => (odd_any _ _ wx B sb _ hm.k (by omega) (by omega) (by omega) (by omega))) fun k3 hk3 => ?_
   refine wl_nil ?_
   refine nw 15 189 (fun _ hm => ⟨hm.bl 0, hm.fa 0, trivial⟩) fun z => ?_
   have h := J189 k3 hk3 q5
   rw [hW] at h
   refine wa_weak ?_ ?_ h
   ·exact ⟨rfl, rfl, rfl, rfl, rfl, rfl, rfl, rfl, rfl, rfl, rfl, rfl, rfl, rfl, rfl, rfl, rfl, rfl, rfl, rfl, rfl, rfl, trivial⟩
   exact fun _ hm => hm.pick [0, 1, 2] [0, 1, 2] [0] rfl rfl
  refine wl_buildSlice (e := 9) (cs := [.string ⟨#[65, 66, 49]⟩, .string ⟨#[97, 49]⟩, .string ⟨#[65]⟩, .string ⟨#[65, 66, 67, 68, 69, 70, 71, 72, 73, 74, 49]⟩, .string ⟨#[65, 66, 49]⟩]) rfl (by kernel_rfl) rfl fun q8 => ?_
  refine wl_nil ?_
  refine nw 15 437 (fun _ hm => ⟨hm.bl 1, hm.fa 0, trivial⟩) fun z => ?_
  have h := J437 q5 q8
  rw [hW] at h
  refine wa_weak ?_ ?_ h
  ·exact ⟨rfl, rfl, rfl, rfl, rfl, rfl, rfl, rfl, rfl, rfl, rfl, rfl, rfl, rfl, rfl, rfl, rfl, rfl, rfl, rfl, rfl, rfl, trivial⟩
  exact fun _ hm => hm.pick [1, 2, 3, 0] [0, 1, 2] [0] rfl rfl
 have J405 : ∀ (q8 : Nat), W 10 (lb 15 405) [(0, .pointer (some ⟨sb, 0, none⟩)), (2, .pointer (some ⟨g1, 0, none⟩)), (3, .pointer (some ⟨g2, 0, none⟩)), (4, .pointer (some ⟨sb, 0, none⟩)), (5, .agg #[.slice sA sn sc, .slice cA 4 cc, .slice vA vn vc, .slice pA pn pc]), (6, .pointer (some ⟨sb, 0, none⟩)), (7, .bool f3), (8, .bool (!f3)), (10, .pointer (some ⟨sb, 0, none⟩)), (11, .int .i64 vj), (12, .pointer (some ⟨g2, 3, none⟩)), (14, .pointer (some ⟨sb, 0, none⟩)), (16, .pointer (some ⟨sb, 0, none⟩)), (19, .pointer (some ⟨sb, 0, none⟩)), (20, .slice (some ⟨q8, 0, none⟩) 5 5), (26, .bool (decide (vj = 0))), (27, .bool (decide (vj = 0))), (37, .bool (decide (vj = 1))), (38, .bool (decide (vj = 1))), (42, .bool (decide (vj = 2))), (43, .bool (decide (vj = 2)))] (fun w => Strm 25 w B sb (m + 300 + 1 + 1)) [(g1, 31, [.slice none 0 0, .slice none 0 0, .slice none 0 0, .slice none 0 0]), (g2, 31, [.slice sA sn sc, .slice cA 4 cc, .slice vA vn vc, .slice pA pn pc]), (q8, 9, [.string ⟨#[65, 66, 49]⟩, .string ⟨#[97, 49]⟩, .string ⟨#[65]⟩, .string ⟨#[65, 66, 67, 68, 69, 70, 71, 72, 73, 74, 49]⟩, .string ⟨#[65, 66, 49]⟩])] [⟨.slice sA sn sc, 140, 15, sn, sl.flatMap stEnc⟩, ⟨.slice vA vn vc, 77, 2, vn, vl.flatMap vhEnc⟩, ⟨.slice pA pn pc, 143, 3, pn, pl.flatMap plEnc⟩] [fun wy => SlT csEnc 2 159 wy cA 4 cl] := by
  intro q8
  rw [hW]
  refine wa_all [1, 3, 5] (by kernel_rfl) rfl ⟨⟨_, rfl, ?_⟩, ⟨_, rfl, ?_⟩, ⟨_, rfl, ?_⟩, trivial⟩
  ·refine lk_ sc29 1 rfl rfl rfl (wl_nil ?_)
   refine nw 15 407 (fun _ hm => ⟨hm.bl 0, hm.fa 0, trivial⟩) fun z => ?_
   have h := J407 q8
   rw [hW] at h
   refine wa_weak ?_ ?_ h
   ·exact ⟨rfl, rfl, rfl, rfl, rfl, rfl, rfl, rfl, rfl, rfl, rfl, rfl, rfl, rfl, rfl, rfl, rfl, rfl, rfl, rfl, rfl, rfl, trivial⟩
   exact fun _ hm => hm.pick [0, 1, 2] [0, 1, 2] [0] rfl rfl
  ·refine wl_got (γ := Int) (val := fun v => .int .i64 v) (φ := fun v => -2000000000000000 ≤ v ∧ v ≤ 2000000000000000) rfl cb77 rfl rfl rfl rfl (fun wx hm => (odd_any _ _ wx B sb _ hm.k (by omega) (by omega) (by omega) (by omega))) fun k3 hk3 => ?_
   refine wl_nil ?_
   refine nw 15 413 (fun _ hm => ⟨hm.bl 0, hm.fa 0, trivial⟩) fun z => ?_
   have h := J413 k3 hk3 q8
   rw [hW] at h
   refine wa_weak ?_ ?_ h
   ·exact ⟨rfl, rfl, rfl, rfl, rfl, rfl, rfl, rfl, rfl, rfl, rfl, rfl, rfl, rfl, rfl, rfl, rfl, rfl, rfl, rfl, rfl, rfl, trivial⟩
   exact fun _ hm => hm.pick [0, 1, 2] [0, 1, 2] [0] rfl rfl
  refine wl_buildSlice (e := 9) (cs := [.string ⟨#[118, 49]⟩, .string ⟨#[110, 111, 110, 101]⟩]) rfl (by kernel_rfl) rfl fun q5 => ?_
  refine wl_nil ?_
  refine nw 15 437 (fun _ hm => ⟨hm.bl 1, hm.fa 0, trivial⟩) fun z => ?_
  have h := J437 q5 q8
  rw [hW] at h
  refine wa_weak ?_ ?_ h
  ·exact ⟨rfl, rfl, rfl, rfl, rfl, rfl, rfl, rfl, rfl, rfl, rfl, rfl, rfl, rfl, rfl, rfl, rfl, rfl, rfl, rfl, rfl, rfl, trivial⟩
  exact fun _ hm => hm.pick [1, 2, 0, 3] [0, 1, 2] [0] rfl rfl
 have J149 : W 11 (lb 15 149) [(0, .pointer (some ⟨sb, 0, none⟩)), (2, .pointer (some ⟨g1, 0, none⟩)), (3, .pointer (some ⟨g2, 0, none⟩)), (4, .pointer (some ⟨sb, 0, none⟩)), (5, .agg #[.slice sA sn sc, .slice cA 4 cc, .slice vA vn vc, .slice pA pn pc]), (6, .pointer (some ⟨sb, 0, none⟩)), (7, .bool f3), (8, .bool (!f3)), (10, .pointer (some ⟨sb, 0, none⟩)), (11, .int .i64 vj), (12, .pointer (some ⟨g2, 3, none⟩)), (14, .pointer (some ⟨sb, 0, none⟩)), (16, .pointer (some ⟨sb, 0, none⟩)), (19, .pointer (some ⟨sb, 0, none⟩)), (26, .bool (decide (vj = 0))), (27, .bool (decide (vj = 0))), (37, .bool (decide (vj = 1))), (38, .bool (decide (vj = 1))), (42, .bool (decide (vj = 2))), (43, .bool (decide (vj = 2)))] (fun w => Strm 25 w B sb (m + 300 + 1 + 1)) [(g1, 31, [.slice none 0 0, .slice none 0 0, .slice none 0 0, .slice none 0 0]), (g2, 31, [.slice sA sn sc, .slice cA 4 cc, .slice vA vn vc, .slice pA pn pc])] [⟨.slice sA sn sc, 140, 15, sn, sl.flatMap stEnc⟩, ⟨.slice vA vn vc, 77, 2, vn, vl.flatMap vhEnc⟩, ⟨.slice pA pn pc, 143, 3, pn, pl.flatMap plEnc⟩] [fun wy => SlT csEnc 2 159 wy cA 4 cl] := by
  skip
  rw [hW]
  refine wa_all [1, 3, 5, 8] (by kernel_rfl) rfl ⟨⟨_, rfl, ?_⟩, ⟨_, rfl, ?_⟩, ⟨_, rfl, ?_⟩, ⟨_, rfl, ?_⟩, trivial⟩
  ·refine lk_ sc29 1 rfl rfl rfl (wl_nil ?_)
   refine nw 15 151 (fun _ hm => ⟨hm.bl 0, hm.fa 0, trivial⟩) fun z => ?_
   have h := J151 
   rw [hW] at h
   refine wa_weak ?_ ?_ h
   ·exact ⟨rfl, rfl, rfl, rfl, rfl, rfl, rfl, rfl, rfl, rfl, rfl, rfl, rfl, rfl, rfl, rfl, rfl, rfl, rfl, rfl, rfl, trivial⟩
   exact fun _ hm => hm.pick [0, 1] [0, 1, 2] [0] rfl rfl
  ·refine wl_got (γ := Int) (val := fun v => .int .i64 v) (φ := fun v => -2000000000000000 ≤ v ∧ v ≤ 2000000000000000) rfl cb77 rfl rfl rfl rfl (fun wx hm => (odd_any _ _ wx B sb _ hm.k (by omega) (by omega) (by omega) (by omega))) fun k3 hk3 => ?_
   refine wl_nil ?_
   refine nw 15 157 (fun _ hm => ⟨hm.bl 0, hm.fa 0, trivial⟩) fun z => ?_
   have h := J157 k3 hk3
   rw [hW] at h
   refine wa_weak ?_ ?_ h
   ·exact ⟨rfl, rfl, rfl, rfl, rfl, rfl, rfl, rfl, rfl, rfl, rfl, rfl, rfl, rfl, rfl, rfl, rfl, rfl, rfl, rfl, rfl, trivial⟩
   exact fun _ hm => hm.pick [0, 1] [0, 1, 2] [0] rfl rfl
  ·refine wl_buildSlice (e := 9) (cs := [.string ⟨#[118, 49]⟩, .string ⟨#[110, 111, 110, 101]⟩]) rfl (by kernel_rfl) rfl fun q5 => ?_
   refine wl_nil ?_
   refine nw 15 181 (fun _ hm => ⟨hm.bl 1, hm.fa 0, trivial⟩) fun z => ?_
   have h := J181 q5
   rw [hW] at h
   refine wa_weak ?_ ?_ h
   ·exact ⟨rfl, rfl, rfl, rfl, rfl, rfl, rfl, rfl, rfl, rfl, rfl, rfl, rfl, rfl, rfl, rfl, rfl, rfl, rfl, rfl, rfl, trivial⟩
   exact fun _ hm => hm.pick [1, 2, 0] [0, 1, 2] [0] rfl rfl
  refine wl_buildSlice (e := 9) (cs := [.string ⟨#[65, 66, 49]⟩, .string ⟨#[97, 49]⟩, .string ⟨#[65]⟩, .string ⟨#[65, 66, 67, 68, 69, 70, 71, 72, 73, 74, 49]⟩, .string ⟨#[65, 66, 49]⟩]) rfl (by kernel_rfl) rfl fun q8 => ?_
  refine wl_nil ?_
  refine nw 15 405 (fun _ hm => ⟨hm.bl 1, hm.fa 0, trivial⟩) fun z => ?_
  have h := J405 q8
  rw [hW] at h
  refine wa_weak ?_ ?_ h
  ·exact ⟨rfl, rfl, rfl, rfl, rfl, rfl, rfl, rfl, rfl, rfl, rfl, rfl, rfl, rfl, rfl, rfl, rfl, rfl, rfl, rfl, rfl, trivial⟩
  exact fun _ hm => hm.pick [1, 2, 0] [0, 1, 2] [0] rfl rfl
 rw [hW]
 have h := J149 
 rw [hW] at h
 refine wa_weak ?_ ?_ h
 ·exact ⟨rfl, rfl, rfl, rfl, rfl, rfl, rfl, rfl, rfl, rfl, rfl, rfl, rfl, rfl, rfl, rfl, rfl, rfl, rfl, rfl, trivial⟩
 exact fun _ hm => hm.pick [1, 0] [0, 1, 2] [0] rfl rfl
end Go.Proofs.YtjecbkgjabnmoaaGreatDoor
namespace Go.Proofs.YtjecbkgjabnmoaaGreatDoor
open Go.RowKit
theorem gvehicleKey_any (w : World) (B sb m : Nat) (hS : Strm 25 w B sb m) (hm : m ≤ 100000000000) :
  Calls Tryz.prog 12 #[.pointer (some ⟨sb, 0, none⟩)] w (fun e w' => ∃ v : ByteArray, e = .returned (.string v) ∧ v.size ≤ 100 ∧ Strm 25 w' B sb (m + 1) ∧ w.grownBy w' (some sb)) := by
 refine gw_enter ⟨6, w, (some sb), []⟩ Tryz.func12 rfl Tryz.ntmps12 rfl (memS (X := []) hS allF_nil allL_nil) ?_
 refine sr_ (sg_ rfl (nn_ (sr_ (mv_ rfl ?_))))
 refine wl_buildSlice (e := 9) (cs := [.string ⟨#[118, 49]⟩, .string ⟨#[118, 49]⟩, .string ⟨#[118, 50]⟩, .string ⟨#[118, 50]⟩, .string ⟨#[118, 51]⟩, .string ⟨#[118, 52]⟩, .string ⟨#[110, 111, 110, 101]⟩, .string ⟨#[]⟩, .string ⟨#[65]⟩]) rfl (by kernel_rfl) rfl fun g1 => ?_
 refine wl_got (γ := ByteArray) (val := fun v => .string v) (φ := fun v => v ∈ ([⟨#[118, 49]⟩, ⟨#[118, 49]⟩, ⟨#[118, 50]⟩, ⟨#[118, 50]⟩, ⟨#[118, 51]⟩, ⟨#[118, 52]⟩, ⟨#[110, 111, 110, 101]⟩, ⟨#[]⟩, ⟨#[65]⟩] : List ByteArray)) rfl cb43 rfl rfl rfl rfl (fun wx hm => (some_any [⟨#[118, 49]⟩, ⟨#[118, 49]⟩, ⟨#[118, 50]⟩, ⟨#[118, 50]⟩, ⟨#[118, 51]⟩, ⟨#[118, 52]⟩, ⟨#[110, 111, 110, 101]⟩, ⟨#[]⟩, ⟨#[65]⟩] _ _ _ wx B sb _ hm.k (by omega) (by simp) (by simp) (hm.blkI 0 rfl) (hm.neRow 0 rfl rfl))) fun s2 hs2 => ?_
 have zs2 : s2.size ≤ 100 := mem_sz hs2 (by decide)
 refine sg_ rfl (nn_ ?_)
 refine gw_ret ?_
 refine nx_ret1 rfl rfl fun wx hm => ?_
 exact ⟨s2, rfl, by omega, hm.k, hm.g⟩
end Go.Proofs.YtjecbkgjabnmoaaGreatDoor
namespace Go.Proofs.YtjecbkgjabnmoaaGreatDoor
open Go.RowKit
theorem cloneEvents_all (l : List Ev) (A : Option Addr) (n c : Nat) (w : World) (hl : SlT evEnc 5 92 w A n l) (hs : ShapeA A n c) (hn : n ≤ 1000000) :
    Calls Tryz.prog 54 #[.slice A n c] w (fun e w' => ∃ A' c', e = .returned (.slice A' n c') ∧ w'.ownsRow w.heap.size 92 5 (.slice A' n c') n (l.flatMap evEnc) ∧ w.grownBy w' none) := by
  rcases hs with ⟨rfl, rfl, rfl⟩ | ⟨b, off, rfl⟩
  · exact cloneEvents_any l none 0 0 w hl (fun _ => ⟨rfl, rfl⟩) hn
  · rcases Nat.eq_zero_or_pos n with rfl | h0
    · have hl0 : l = [] := List.length_eq_zero_iff.1 hl.len
      subst hl0
      exact cloneEvents_empty b off c w
    · exact cloneEvents_pos l _ n c w hl h0 hn
theorem glog_any (sl : List St) (vl : List Vh) (sA cA vA pA : Option Addr) (sn sc cn cc vn vc pn pc q : Nat) (w : World) (B sb m : Nat) (hS : Strm 25 w B sb m) (hm : m ≤ 100000000) (hs : SlT stEnc 15 140 w sA sn sl) (hv : SlT vhEnc 2 77 w vA vn vl) (hsok : ∀ x ∈ sl, StOk x) (hvok : ∀ x ∈ vl, VhOk x) (hsn : sn ≤ 1000) (hvn : vn ≤ 1000) (hq : q ≤ 1000) :
  Calls Tryz.prog 39 #[.pointer (some ⟨sb, 0, none⟩), .agg #[.slice sA sn sc, .slice cA cn cc, .slice vA vn vc, .slice pA pn pc], .int .i64 ((q : Nat) : Int)] w (fun e w' => ∃ (A : Option Addr) (n c : Nat) (l : List Ev), e = .returned (.slice A n c) ∧ w'.ownsRow w.heap.size 92 5 (.slice A n c) n (l.flatMap evEnc) ∧ l.length = n ∧ (∀ x ∈ l, EvOk x) ∧ n ≤ q ∧ Strm 25 w' B sb (m + 20 * q + 20) ∧ w.grownBy w' (some sb)) := by
 obtain ⟨_, _, _, _, hh, _⟩ := hS.pos
 have hso := hs.oldRow hh (by decide)
 have hvo := hv.oldRow hh (by decide)
 refine gw_enter ⟨137, w, (some sb), []⟩ Tryz.func39 rfl Tryz.ntmps39 rfl (memS (X := [SlOld stEnc 15 140 w.heap.size (some sb) sA sn sl, SlOld vhEnc 2 77 w.heap.size (some sb) vA vn vl]) hS (allF_cons hso (allF_cons hvo allF_nil)) (allL_cons SlOld.lasts (allL_cons SlOld.lasts allL_nil))) ?_
 refine sr_ ?_
 have hvl := hv.len
 have hsl := hs.len
 refine wl_nilOwn 92 5 ?_
 refine wl_box rfl rfl rfl fun g1 => ?_
 refine sg_ rfl (nn_ (sr_ (sg_ rfl (nn_ (gw_seq (sr_ (fd_ fo31_2 rfl rfl (lk_ sc28 0 rfl rfl rfl (wl_ov (ov_len es28 rfl) rfl ?_)))))))))
 refine wl_ov (ov_eql rfl rfl) rfl (mv_ rfl ?_)
 rcases Bool.eq_false_or_eq_true (decide (((vn : Nat) : Int) = 0)) with h0 | h0
 ·refine wl_set 16 rfl (congrArg Value.bool h0) ?_
  refine goff rfl rfl rfl (goff rfl rfl rfl (goff rfl rfl rfl (goff rfl rfl rfl (pt_ rfl rfl (nn_ (ct_ rfl (sr_ (mv_ rfl (sg_ rfl (nn_ ?_))))))))))
  refine gw_ret ?_
  refine nx_then_ret ?_
  refine nx_ret1 rfl rfl fun wx hm => ?_
  exact ⟨none, 0, 0, [], rfl, (hm.ownI 0 rfl), rfl, (fun _ h => by cases h), by omega, hm.k.more (by omega), hm.g⟩
 refine wl_set 16 rfl (congrArg Value.bool h0) ?_
 have h0 := of_decide_eq_false h0
 refine wl_guard_on rfl rfl rfl (fd_ fo31_0 rfl rfl (wl_guard_on rfl rfl rfl (lk_ sc26 0 rfl rfl rfl (wl_guard_on rfl rfl rfl (wl_ov (ov_len es26 rfl) rfl (wl_guard_on rfl rfl rfl (wl_ov (ov_eql rfl rfl) rfl (pf_ rfl rfl (nn_ ?_)))))))))
 refine gw_cond rfl (fun hh => ?_) (fun hh => ?_)
 ·have h1 : ((sn : Nat) : Int) = 0 := by simpa using hh
  clear hh
  refine sr_ (mv_ rfl (sg_ rfl (nn_ ?_)))
  refine gw_ret ?_
  refine nx_then_ret ?_
  refine nx_ret1 rfl rfl fun wx hm => ?_
  exact ⟨none, 0, 0, [], rfl, (hm.ownI 0 rfl), rfl, (fun _ h => by cases h), by omega, hm.k.more (by omega), hm.g⟩
 have h1 : ¬ (((sn : Nat) : Int) = 0) := by simpa using hh
 clear hh
 refine gw_skip (nx_then (sr_ ?_))
 have hvn0 : 0 < vn := by omega
 have hsn0 : 0 < sn := by omega
 obtain ⟨bv, ov, hA, _, _⟩ := hv.get (by omega)
 subst hA
 obtain ⟨bs, os, hA, _, _⟩ := hs.get (by omega)
 subst hA
 refine sg_ rfl (nn_ (gw_seq (sr_ (mv_ rfl (mv_ rfl (nn_ (gw_block ?_)))))))
 refine gw_loop (γ := Nat × Nat × Int × Option Addr × Nat × List Ev) (fun g => g.1 ≤ q ∧ g.2.1 ≤ g.1 ∧ (0 ≤ g.2.2.1 ∧ g.2.2.1 ≤ 500 * ((g.1 : Nat) : Int)) ∧ g.2.2.2.2.2.length = g.2.1 ∧ (∀ x ∈ g.2.2.2.2.2, EvOk x)) (fun g => [(0, .pointer (some ⟨sb, 0, none⟩)), (4, .pointer (some ⟨g1, 0, none⟩)), (6, .slice none 0 0), (7, .slice g.2.2.2.1 g.2.1 g.2.2.2.2.1), (8, .int .i64 g.2.2.1), (23, .int .i64 ((q : Nat) : Int)), (24, .int .i64 ((g.1 : Nat) : Int))]) (fun g => fun w => Strm 25 w B sb (m + 20 * g.1)) (fun g => [(g1, 31, [.slice (some ⟨bs, os, none⟩) sn sc, .slice cA cn cc, .slice (some ⟨bv, ov, none⟩) vn vc, .slice pA pn pc])]) (fun g => [⟨.slice g.2.2.2.1 g.2.1 g.2.2.2.2.1, 92, 5, g.2.1, g.2.2.2.2.2.flatMap evEnc⟩]) (fun g => [SlOld stEnc 15 140 w.heap.size (some sb) (some ⟨bs, os, none⟩) sn sl, SlOld vhEnc 2 77 w.heap.size (some sb) (some ⟨bv, ov, none⟩) vn vl]) (fun g => q - g.1) (0, 0, 0, none, 0, []) ⟨Nat.zero_le _, Nat.le_refl _, ⟨Int.le_refl _, by decide⟩, rfl, (fun _ h => by cases h)⟩ ⟨rfl, rfl, rfl, rfl, rfl, rfl, rfl, trivial⟩ (fun _ hm => (hm.more rfl (by first | omega | (dsimp only; omega))).pick [0] [0] [0, 1] rfl rfl) ?_
 rintro ⟨i, k, at_, oA, oc, xl⟩ hinv
 replace hinv : i ≤ q ∧ k ≤ i ∧ (0 ≤ at_ ∧ at_ ≤ 500 * ((i : Nat) : Int)) ∧ xl.length = k ∧ (∀ x ∈ xl, EvOk x) := hinv
 dsimp only
 refine sr_ ?_
 obtain ⟨hi0, hki, ⟨ha0, ha1⟩, hxl, hxok⟩ := hinv
 refine wl_ov (ov_lss rfl rfl) rfl (nn_ (gw_seq ?_))
 refine gw_cond rfl (fun hh => ?_) (fun hh => ?_)
 ·have hi : ((i : Nat) : Int) < ((q : Nat) : Int) := by simpa using hh
  clear hh
  refine gw_skip (nx_then (gw_seq (gw_block (sr_ (mv_ rfl (mv_ rfl ?_))))))
  refine wl_buildSlice (e := 3) (cs := [.int .i64 0, .int .i64 1, .int .i64 10, .int .i64 50, .int .i64 100, .int .i64 500]) rfl (by kernel_rfl) rfl fun g2 => ?_
  refine wl_got (γ := Int) (val := fun v => .int .i64 v) (φ := fun v => v ∈ ([0, 1, 10, 50, 100, 500] : List Int)) rfl cb14 rfl rfl rfl rfl (fun wx hm => (pick_any [0, 1, 10, 50, 100, 500] _ _ _ wx B sb _ hm.k (by omega) (by simp) (by simp) (hm.blkI 0 rfl) (hm.neRow 0 rfl rfl))) fun v3 hv3 => ?_
  have bv3 : 0 ≤ v3 ∧ v3 ≤ 500 := mem_rng hv3 (by decide)
  have bv30 := bv3.1
  have bv31 := bv3.2
  clear bv3
  refine ad_ rfl rfl (sg_ rfl (nn_ (gw_seq ?_)))
  refine gd (fun wz => Blk wz g2 3 [.int .i64 0, .int .i64 1, .int .i64 10, .int .i64 50, .int .i64 100, .int .i64 500] ∧ Blk wz g1 31 [.slice (some ⟨bs, os, none⟩) sn sc, .slice cA cn cc, .slice (some ⟨bv, ov, none⟩) vn vc, .slice pA pn pc] ∧ (SlOld stEnc 15 140 w.heap.size (some sb) (some ⟨bs, os, none⟩) sn sl) wz ∧ (SlOld vhEnc 2 77 w.heap.size (some sb) (some ⟨bv, ov, none⟩) vn vl) wz ∧ True) mixed (fun _ hm => ⟨hm.bl 0, hm.bl 1, hm.fa 0, hm.fa 1, trivial⟩) fun z => ?_
  refine wt 0 11 1 rfl z (ov_field fo31_2 rfl rfl) ?_
  refine wt 1 11 3 rfl z (ov_load sc28 rfl (fun _ hm => hm.2.1) rfl) ?_
  refine wt 2 11 7 rfl z (ov_move rfl) ?_
  refine wt 3 11 15 rfl z (ov_field fo31_2 rfl rfl) ?_
  refine wt 4 11 31 rfl z (ov_load sc28 rfl (fun _ hm => hm.2.1) rfl) ?_
  refine wt 5 11 63 rfl z (ov_len es28 rfl) ?_
  refine wa1 6 rfl ?_
  refine wl_got (γ := Int) (val := fun v => .int .i64 v) (φ := fun v => IsBelow ((vn : Nat) : Int) v) rfl cb42 rfl rfl rfl rfl (fun wx hm => (next_any _ wx B sb _ hm.k (by omega) (by omega) (by omega))) fun vj hvj => ?_
  have hj := isBelow_lt hvj (by omega)
  obtain ⟨j, rfl⟩ := Int.eq_ofNat_of_zero_le hj.1
  have hji : j < vn := by omega
  obtain ⟨y, hy⟩ : ∃ y, vl[j]? = some y := ⟨_, List.getElem?_eq_getElem (by omega)⟩
  obtain ⟨y0, y1⟩ := y
  have hyB := hvok _ (List.mem_of_getElem? hy)
  have hy0 : y0.size ≤ 1000000 := hyB.1
  refine wl_nil ?_
  refine nw 11 127 (fun _ hm => ⟨hm.bl 0, hm.bl 1, hm.fa 0, hm.fa 1, trivial⟩) fun z => ?_
  refine wt 7 11 255 rfl z (ov_index (j := j) es28 rfl rfl (by omega)) ?_
  refine wt 8 11 511 rfl z (ov_field fo77_0 rfl rfl) ?_
  refine wt 9 11 1023 rfl z (ov_elem1 (k := 0) (v := .string y0) sc9 rfl (fun _ hm => (hm.2.2.2.1).1) hy rfl rfl) ?_
  refine wt 10 11 2047 rfl z (ov_assign rfl) ?_
  refine wa_done (by kernel_rfl) ?_
  refine nx_then ?_
  obtain ⟨t8, ht8⟩ : ∃ z, z = at_ + v3 := ⟨_, rfl⟩
  rw [← ht8]
  have ht0 : 0 ≤ t8 := by omega
  have ht1 : t8 ≤ 500 * ((i : Nat) : Int) + 500 := by omega
  refine gw_cut (γ := Nat × ByteArray × Int) (I := (fun g => g.2.1.size ≤ 1000000 ∧ (-4000000000000000000 ≤ g.2.2 ∧ g.2.2 ≤ 4000000000000000000))) (S' := (fun g => [(0, .pointer (some ⟨sb, 0, none⟩)), (4, .pointer (some ⟨g1, 0, none⟩)), (6, .slice none 0 0), (7, .slice oA k oc), (8, .int .i64 t8), (9, .string y0), (10, .pointer (some ⟨g.1, 0, none⟩)), (23, .int .i64 ((q : Nat) : Int)), (24, .int .i64 ((i : Nat) : Int))])) (K' := (fun g => fun w => Strm 25 w B sb (m + 20 * i + 4))) (L' := (fun g => [(g.1, 92, [.int .i64 t8, .string y0, .string g.2.1, .int .i64 g.2.2, .string ⟨#[]⟩]), (g2, 3, [.int .i64 0, .int .i64 1, .int .i64 10, .int .i64 50, .int .i64 100, .int .i64 500]), (g1, 31, [.slice (some ⟨bs, os, none⟩) sn sc, .slice cA cn cc, .slice (some ⟨bv, ov, none⟩) vn vc, .slice pA pn pc])])) (O' := (fun g => [⟨.slice oA k oc, 92, 5, k, xl.flatMap evEnc⟩])) (X' := (fun g => [SlOld stEnc 15 140 w.heap.size (some sb) (some ⟨bs, os, none⟩) sn sl, SlOld vhEnc 2 77 w.heap.size (some sb) (some ⟨bv, ov, none⟩) vn vl])) ?_ ?_
  ·refine gd (fun wz => Blk wz g2 3 [.int .i64 0, .int .i64 1, .int .i64 10, .int .i64 50, .int .i64 100, .int .i64 500] ∧ Blk wz g1 31 [.slice (some ⟨bs, os, none⟩) sn sc, .slice cA cn cc, .slice (some ⟨bv, ov, none⟩) vn vc, .slice pA pn pc] ∧ (SlOld stEnc 15 140 w.heap.size (some sb) (some ⟨bs, os, none⟩) sn sl) wz ∧ (SlOld vhEnc 2 77 w.heap.size (some sb) (some ⟨bv, ov, none⟩) vn vl) wz ∧ True) mixed (fun _ hm => ⟨hm.bl 0, hm.bl 1, hm.fa 0, hm.fa 1, trivial⟩) fun z => ?_
   refine wt 0 17 1 rfl z (ov_move rfl) ?_
   refine wt 1 17 3 rfl z (ov_move rfl) ?_
   refine wt 2 17 7 rfl z (ov_field fo31_0 rfl rfl) ?_
   refine wt 3 17 15 rfl z (ov_load sc26 rfl (fun _ hm => hm.2.1) rfl) ?_
   refine wt 4 17 31 rfl z (ov_move rfl) ?_
   refine wt 5 17 63 rfl z (ov_field fo31_0 rfl rfl) ?_
   refine wt 6 17 127 rfl z (ov_load sc26 rfl (fun _ hm => hm.2.1) rfl) ?_
   refine wt 7 17 255 rfl z (ov_len es26 rfl) ?_
   refine wt 12 17 4351 rfl z (ov_move rfl) ?_
   refine wa_all [8, 15] (by kernel_rfl) rfl ⟨⟨_, rfl, ?_⟩, ⟨_, rfl, ?_⟩, trivial⟩
   ·refine wl_got (γ := Int) (val := fun v => .int .i64 v) (φ := fun v => IsBelow ((sn : Nat) : Int) v) rfl cb42 rfl rfl rfl rfl (fun wx hm => (next_any _ wx B sb _ hm.k (by omega) (by omega) (by omega))) fun vu4 hvu4 => ?_
    have hju4 := isBelow_lt hvu4 (by omega)
    obtain ⟨ju4, rfl⟩ := Int.eq_ofNat_of_zero_le hju4.1
    have hjiu4 : ju4 < sn := by omega
    obtain ⟨zu4, hzu4⟩ : ∃ y, sl[ju4]? = some y := ⟨_, List.getElem?_eq_getElem (by omega)⟩
    obtain ⟨ku4, ru4⟩ := zu4
    have hku4 : ku4.size ≤ 1000000 := (hsok _ (List.mem_of_getElem? hzu4)).2.1
    refine wl_nil ?_
    refine nw 17 4607 (fun _ hm => ⟨hm.bl 0, hm.bl 1, hm.fa 0, hm.fa 1, trivial⟩) fun z => ?_
    refine wt 9 17 5119 rfl z (ov_index (j := ju4) es26 rfl rfl (by omega)) ?_
    refine wt 10 17 6143 rfl z (ov_field fo140_0 rfl rfl) ?_
    refine wt 11 17 8191 rfl z (ov_elem1 (k := 0) (v := .string ku4) sc9 rfl (fun _ hm => (hm.2.2.1).1) hzu4 rfl rfl) ?_
    refine wa_all [13, 15] (by kernel_rfl) rfl ⟨⟨_, rfl, ?_⟩, ⟨_, rfl, ?_⟩, trivial⟩
    ·refine wl_got (γ := Int) (val := fun v => .int .i64 v) (φ := fun v => 1 ≤ v ∧ (v ≤ 8 ∨ v = 1)) rfl cb28 rfl rfl rfl rfl (fun wx hm => (range_any _ _ wx B sb _ hm.k (by omega) (by omega) (by omega) (by omega) (by omega))) fun v5 hv5 => ?_
     refine wl_nil ?_
     refine nw 17 16383 (fun _ hm => ⟨hm.bl 0, hm.bl 1, hm.fa 0, hm.fa 1, trivial⟩) fun z => ?_
     refine wt 14 17 32767 rfl z (ov_build (cs := [.int .i64 t8, .string y0, .string ku4, .int .i64 v5, .string ⟨#[]⟩]) rfl (by kernel_rfl)) ?_
     refine wa1 15 rfl ?_
     refine wl_alloc zc92 rfl fun g6 => ?_
     refine wl_nil ?_
     refine nw 17 65535 (fun _ hm => ⟨hm.bl 1, hm.bl 2, hm.fa 0, hm.fa 1, trivial⟩) fun z => ?_
     refine wa1 16 rfl ?_
     refine wl_stores (cs' := [.int .i64 t8, .string y0, .string ku4, .int .i64 v5, .string ⟨#[]⟩]) 0 rz92 rfl rfl rfl rfl rfl rfl rfl rfl ?_
     refine wl_nil ?_
     refine nw 17 131071 (fun _ hm => ⟨hm.bl 1, hm.bl 2, hm.fa 0, hm.fa 1, trivial⟩) fun z => ?_
     refine wa_done (by kernel_rfl) ?_
     exact nx_meet (g6, ku4, v5) ⟨by dsimp only; omega, by dsimp only; omega, by dsimp only; omega⟩ ⟨rfl, rfl, rfl, rfl, rfl, rfl, rfl, rfl, rfl, trivial⟩ (fun _ hm => (hm.more rfl (by first | omega | (dsimp only; omega))).pick [0, 1, 2] [0] [0, 1] rfl rfl)
    refine wl_alloc zc92 rfl fun g7 => ?_
    refine wl_nil ?_
    refine nw 17 40959 (fun _ hm => ⟨hm.bl 1, hm.bl 2, hm.fa 0, hm.fa 1, trivial⟩) fun z => ?_
    refine wa1 13 rfl ?_
    refine wl_got (γ := Int) (val := fun v => .int .i64 v) (φ := fun v => 1 ≤ v ∧ (v ≤ 8 ∨ v = 1)) rfl cb28 rfl rfl rfl rfl (fun wx hm => (range_any _ _ wx B sb _ hm.k (by omega) (by omega) (by omega) (by omega) (by omega))) fun v8 hv8 => ?_
    refine wl_nil ?_
    refine nw 17 49151 (fun _ hm => ⟨hm.bl 1, hm.bl 2, hm.fa 0, hm.fa 1, trivial⟩) fun z => ?_
    refine wt 14 17 65535 rfl z (ov_build (cs := [.int .i64 t8, .string y0, .string ku4, .int .i64 v8, .string ⟨#[]⟩]) rfl (by kernel_rfl)) ?_
    refine wa1 16 rfl ?_
    refine wl_stores (cs' := [.int .i64 t8, .string y0, .string ku4, .int .i64 v8, .string ⟨#[]⟩]) 0 rz92 rfl rfl rfl rfl rfl rfl rfl rfl ?_
    refine wl_nil ?_
    refine nw 17 131071 (fun _ hm => ⟨hm.bl 1, hm.bl 2, hm.fa 0, hm.fa 1, trivial⟩) fun z => ?_
    refine wa_done (by kernel_rfl) ?_
    exact nx_meet (g7, ku4, v8) ⟨by dsimp only; omega, by dsimp only; omega, by dsimp only; omega⟩ ⟨rfl, rfl, rfl, rfl, rfl, rfl, rfl, rfl, rfl, trivial⟩ (fun _ hm => (hm.more rfl (by first | omega | (dsimp only; omega))).pick [0, 1, 2] [0] [0, 1] rfl rfl)
   refine wl_alloc zc92 rfl fun g9 => ?_
   refine wl_nil ?_
   refine nw 17 37119 (fun _ hm => ⟨hm.bl 1, hm.bl 2, hm.fa 0, hm.fa 1, trivial⟩) fun z => ?_
   refine wa1 8 rfl ?_
   refine wl_got (γ := Int) (val := fun v => .int .i64 v) (φ := fun v => IsBelow ((sn : Nat) : Int) v) rfl cb42 rfl rfl rfl rfl (fun wx hm => (next_any _ wx B sb _ hm.k (by omega) (by omega) (by omega))) fun vu10 hvu10 => ?_
   have hju10 := isBelow_lt hvu10 (by omega)
   obtain ⟨ju10, rfl⟩ := Int.eq_ofNat_of_zero_le hju10.1
   have hjiu10 : ju10 < sn := by omega
   obtain ⟨zu10, hzu10⟩ : ∃ y, sl[ju10]? = some y := ⟨_, List.getElem?_eq_getElem (by omega)⟩
   obtain ⟨ku10, ru10⟩ := zu10
   have hku10 : ku10.size ≤ 1000000 := (hsok _ (List.mem_of_getElem? hzu10)).2.1
   refine wl_nil ?_
   refine nw 17 37375 (fun _ hm => ⟨hm.bl 1, hm.bl 2, hm.fa 0, hm.fa 1, trivial⟩) fun z => ?_
   refine wt 9 17 37887 rfl z (ov_index (j := ju10) es26 rfl rfl (by omega)) ?_
   refine wt 10 17 38911 rfl z (ov_field fo140_0 rfl rfl) ?_
   refine wt 11 17 40959 rfl z (ov_elem1 (k := 0) (v := .string ku10) sc9 rfl (fun _ hm => (hm.2.2.1).1) hzu10 rfl rfl) ?_
   refine wa1 13 rfl ?_
   refine wl_got (γ := Int) (val := fun v => .int .i64 v) (φ := fun v => 1 ≤ v ∧ (v ≤ 8 ∨ v = 1)) rfl cb28 rfl rfl rfl rfl (fun wx hm => (range_any _ _ wx B sb _ hm.k (by omega) (by omega) (by omega) (by omega) (by omega))) fun v11 hv11 => ?_
   refine wl_nil ?_
   refine nw 17 49151 (fun _ hm => ⟨hm.bl 1, hm.bl 2, hm.fa 0, hm.fa 1, trivial⟩) fun z => ?_
   refine wt 14 17 65535 rfl z (ov_build (cs := [.int .i64 t8, .string y0, .string ku10, .int .i64 v11, .string ⟨#[]⟩]) rfl (by kernel_rfl)) ?_
   refine wa1 16 rfl ?_
   refine wl_stores (cs' := [.int .i64 t8, .string y0, .string ku10, .int .i64 v11, .string ⟨#[]⟩]) 0 rz92 rfl rfl rfl rfl rfl rfl rfl rfl ?_
   refine wl_nil ?_
   refine nw 17 131071 (fun _ hm => ⟨hm.bl 1, hm.bl 2, hm.fa 0, hm.fa 1, trivial⟩) fun z => ?_
   refine wa_done (by kernel_rfl) ?_
   exact nx_meet (g9, ku10, v11) ⟨by dsimp only; omega, by dsimp only; omega, by dsimp only; omega⟩ ⟨rfl, rfl, rfl, rfl, rfl, rfl, rfl, rfl, rfl, trivial⟩ (fun _ hm => (hm.more rfl (by first | omega | (dsimp only; omega))).pick [0, 1, 2] [0] [0, 1] rfl rfl)
  rintro ⟨g10, st1, kd1⟩ hinv
  replace hinv : st1.size ≤ 1000000 ∧ (-4000000000000000000 ≤ kd1 ∧ kd1 ≤ 4000000000000000000) := hinv
  dsimp only
  obtain ⟨hst1, hkd1a, hkd1b⟩ := hinv
  refine gw_cut (γ := ByteArray × Int) (I := (fun g => g.1.size ≤ 1000000 ∧ (-4000000000000000000 ≤ g.2 ∧ g.2 ≤ 4000000000000000000))) (S' := (fun g => [(0, .pointer (some ⟨sb, 0, none⟩)), (4, .pointer (some ⟨g1, 0, none⟩)), (6, .slice none 0 0), (7, .slice oA k oc), (8, .int .i64 t8), (10, .pointer (some ⟨g10, 0, none⟩)), (23, .int .i64 ((q : Nat) : Int)), (24, .int .i64 ((i : Nat) : Int))])) (K' := (fun g => fun w => Strm 25 w B sb (m + 20 * i + 6))) (L' := (fun g => [(g10, 92, [.int .i64 t8, .string y0, .string g.1, .int .i64 g.2, .string ⟨#[]⟩]), (g2, 3, [.int .i64 0, .int .i64 1, .int .i64 10, .int .i64 50, .int .i64 100, .int .i64 500]), (g1, 31, [.slice (some ⟨bs, os, none⟩) sn sc, .slice cA cn cc, .slice (some ⟨bv, ov, none⟩) vn vc, .slice pA pn pc])])) (O' := (fun g => [⟨.slice oA k oc, 92, 5, k, xl.flatMap evEnc⟩])) (X' := (fun g => [SlOld stEnc 15 140 w.heap.size (some sb) (some ⟨bs, os, none⟩) sn sl, SlOld vhEnc 2 77 w.heap.size (some sb) (some ⟨bv, ov, none⟩) vn vl])) ?_ ?_
  ·refine sr_ (mv_ rfl ?_)
   refine wl_got (γ := Bool) (val := fun v => .bool v) (φ := fun v => True) rfl cb53 rfl rfl rfl rfl (fun wx hm => ((flip_any _ wx B sb _ hm.k (by omega) (by omega) (by omega)).mono fun _ _ ⟨v, he, hS, hg⟩ => ⟨v, trivial, he, hS, hg⟩)) fun f12 _ => ?_
   refine wl_ov (ov_un_not rfl) rfl (nn_ ?_)
   refine gw_cond rfl (fun hh => ?_) (fun hh => ?_)
   ·have hc13 : f12 = false := by simpa using hh
    clear hh
    refine sr_ (mv_ rfl (mv_ rfl (mv_ rfl ?_)))
    obtain ⟨SS, hSS⟩ : ∃ z, z = stateR xl y0 t8 := ⟨_, rfl⟩
    have hfine : SaFine SS := by rw [hSS]; exact stateR_fine hxok
    obtain ⟨s0, s1, s2⟩ := SS
    obtain ⟨hs00, hs05, hs1z⟩ := hfine
    have hs00 : 0 ≤ s0 := hs00
    have hs05 : s0 ≤ 5 := hs05
    have hs1z : s1.size ≤ 1000000 := hs1z
    obtain ⟨sj, rfl⟩ := Int.eq_ofNat_of_zero_le hs00
    obtain ⟨kv, hkv⟩ : ∃ x, ([1, 2, 3, 5, 7, 1] : List Int)[sj]? = some x := ⟨_, List.getElem?_eq_getElem (by simp; omega)⟩
    have hkvb : 1 ≤ kv ∧ kv ≤ 7 := mem_rng (List.mem_of_getElem? hkv) (by decide)
    refine wl_callv (v := .agg #[.int .i64 ((sj : Nat) : Int), .string s1, .int .i64 s2]) rfl cb75 rfl rfl (fun wx hm => (by have h := rStateAt_any xl oA k oc y0 t8 wx (SlT.ofOwn ev_len (hm.ownI 0 rfl) hxl) (by omega); rw [← hSS] at h; exact h)) ?_
    refine wl_alloc zc132 rfl fun g14 => ?_
    refine wl_stores (cs' := [.int .i64 ((sj : Nat) : Int), .string s1, .int .i64 s2]) 0 rz132 rfl rfl rfl rfl rfl rfl rfl rfl ?_
    refine nn_ (gw_seq (sr_ (fd_ fo132_1 rfl rfl (lk_ sc9 0 rfl rfl rfl (wl_ov (ov_sneq rfl rfl) rfl (nn_ ?_))))))
    refine gw_cond rfl (fun hh => ?_) (fun hh => ?_)
    ·have hc15 : (s1.toList == (⟨#[]⟩ : ByteArray).toList) = false := by simpa using hh
     clear hh
     refine gw_region (fd_ fo132_1 rfl rfl (lk_ sc9 0 rfl rfl rfl (fd_ fo92_2 rfl rfl ?_)))
     refine wl_store 1 sc9 rfl rfl rfl rfl rfl rfl ?_
     refine nn_ (sr_ ?_)
     refine wl_buildSlice (e := 3) (cs := [.int .i64 1, .int .i64 2, .int .i64 3, .int .i64 5, .int .i64 7, .int .i64 1]) rfl (by kernel_rfl) rfl fun g16 => ?_
     refine fd_ fo132_0 rfl rfl (lk_ sc3 1 rfl rfl rfl ?_)
     refine wl_ov (ov_index (j := sj) es22 rfl rfl (by omega)) rfl ?_
     refine wl_ov (ov_elem1 (k := 0) (v := .int .i64 kv) sc3 rfl (fun _ hm => (SlT.ofBlk (l := [1, 2, 3, 5, 7, 1]) it_len1 (hm.blkI 0 rfl))) hkv rfl rfl) rfl ?_
     refine fd_ fo92_3 rfl rfl ?_
     refine wl_store 2 sc3 rfl rfl rfl rfl rfl rfl ?_
     refine nn_ (sr_ (fd_ fo132_0 rfl rfl (lk_ sc3 1 rfl rfl rfl (wl_ov (ov_eql rfl rfl) rfl (nn_ ?_)))))
     refine gw_cond rfl (fun hh => ?_) (fun hh => ?_)
     ·have hc17 : ((sj : Nat) : Int) = 1 := by simpa using hh
      clear hh
      refine gw_region (mv_ rfl ?_)
      refine wl_buildSlice (e := 3) (cs := [.int .i64 2, .int .i64 2, .int .i64 2, .int .i64 4, .int .i64 6, .int .i64 8]) rfl (by kernel_rfl) rfl fun g18 => ?_
      refine wl_got (γ := Int) (val := fun v => .int .i64 v) (φ := fun v => v ∈ ([2, 2, 2, 4, 6, 8] : List Int)) rfl cb14 rfl rfl rfl rfl (fun wx hm => (pick_any [2, 2, 2, 4, 6, 8] _ _ _ wx B sb _ hm.k (by omega) (by simp) (by simp) (hm.blkI 0 rfl) (hm.neRow 0 rfl rfl))) fun v19 hv19 => ?_
      have bv19 : 2 ≤ v19 ∧ v19 ≤ 8 := mem_rng hv19 (by decide)
      have bv190 := bv19.1
      have bv191 := bv19.2
      clear bv19
      refine fd_ fo92_3 rfl rfl ?_
      refine wl_store 3 sc3 rfl rfl rfl rfl rfl rfl ?_
      refine wl_nil ?_
      exact nx_meet (s1, v19) ⟨by dsimp only; omega, by dsimp only; omega, by dsimp only; omega⟩ ⟨rfl, rfl, rfl, rfl, rfl, rfl, rfl, rfl, trivial⟩ (fun _ hm => (hm.more rfl (by first | omega | (dsimp only; omega))).pick [3, 4, 5] [0] [0, 1] rfl rfl)
     have hc17 : ¬ (((sj : Nat) : Int) = 1) := by simpa using hh
     clear hh
     refine gw_skip ?_
     exact nx_meet (s1, kv) ⟨by dsimp only; omega, by dsimp only; omega, by dsimp only; omega⟩ ⟨rfl, rfl, rfl, rfl, rfl, rfl, rfl, rfl, trivial⟩ (fun _ hm => (hm.more rfl (by first | omega | (dsimp only; omega))).pick [2, 3, 4] [0] [0, 1] rfl rfl)
    have hc15 : (s1.toList == (⟨#[]⟩ : ByteArray).toList) = true := by simpa using hh
    clear hh
    refine gw_skip (nx_then (sr_ ?_))
    refine wl_buildSlice (e := 3) (cs := [.int .i64 1, .int .i64 2, .int .i64 3, .int .i64 5, .int .i64 7, .int .i64 1]) rfl (by kernel_rfl) rfl fun g20 => ?_
    refine fd_ fo132_0 rfl rfl (lk_ sc3 1 rfl rfl rfl ?_)
    refine wl_ov (ov_index (j := sj) es22 rfl rfl (by omega)) rfl ?_
    refine wl_ov (ov_elem1 (k := 0) (v := .int .i64 kv) sc3 rfl (fun _ hm => (SlT.ofBlk (l := [1, 2, 3, 5, 7, 1]) it_len1 (hm.blkI 0 rfl))) hkv rfl rfl) rfl ?_
    refine fd_ fo92_3 rfl rfl ?_
    refine wl_store 2 sc3 rfl rfl rfl rfl rfl rfl ?_
    refine nn_ (sr_ (fd_ fo132_0 rfl rfl (lk_ sc3 1 rfl rfl rfl (wl_ov (ov_eql rfl rfl) rfl (nn_ ?_)))))
    refine gw_cond rfl (fun hh => ?_) (fun hh => ?_)
    ·have hc21 : ((sj : Nat) : Int) = 1 := by simpa using hh
     clear hh
     refine gw_region (mv_ rfl ?_)
     refine wl_buildSlice (e := 3) (cs := [.int .i64 2, .int .i64 2, .int .i64 2, .int .i64 4, .int .i64 6, .int .i64 8]) rfl (by kernel_rfl) rfl fun g22 => ?_
     refine wl_got (γ := Int) (val := fun v => .int .i64 v) (φ := fun v => v ∈ ([2, 2, 2, 4, 6, 8] : List Int)) rfl cb14 rfl rfl rfl rfl (fun wx hm => (pick_any [2, 2, 2, 4, 6, 8] _ _ _ wx B sb _ hm.k (by omega) (by simp) (by simp) (hm.blkI 0 rfl) (hm.neRow 0 rfl rfl))) fun v23 hv23 => ?_
     have bv23 : 2 ≤ v23 ∧ v23 ≤ 8 := mem_rng hv23 (by decide)
     have bv230 := bv23.1
     have bv231 := bv23.2
     clear bv23
     refine fd_ fo92_3 rfl rfl ?_
     refine wl_store 3 sc3 rfl rfl rfl rfl rfl rfl ?_
     refine wl_nil ?_
     exact nx_meet (st1, v23) ⟨by dsimp only; omega, by dsimp only; omega, by dsimp only; omega⟩ ⟨rfl, rfl, rfl, rfl, rfl, rfl, rfl, rfl, trivial⟩ (fun _ hm => (hm.more rfl (by first | omega | (dsimp only; omega))).pick [3, 4, 5] [0] [0, 1] rfl rfl)
    have hc21 : ¬ (((sj : Nat) : Int) = 1) := by simpa using hh
    clear hh
    refine gw_skip ?_
    exact nx_meet (st1, kv) ⟨by dsimp only; omega, by dsimp only; omega, by dsimp only; omega⟩ ⟨rfl, rfl, rfl, rfl, rfl, rfl, rfl, rfl, trivial⟩ (fun _ hm => (hm.more rfl (by first | omega | (dsimp only; omega))).pick [2, 3, 4] [0] [0, 1] rfl rfl)
   have hc13 : f12 = true := by simpa using hh
   clear hh
   refine gw_skip ?_
   exact nx_meet (st1, kd1) ⟨by dsimp only; omega, by dsimp only; omega, by dsimp only; omega⟩ ⟨rfl, rfl, rfl, rfl, rfl, rfl, rfl, rfl, trivial⟩ (fun _ hm => (hm.more rfl (by first | omega | (dsimp only; omega))).pick [0, 1, 2] [0] [0, 1] rfl rfl)
  rintro ⟨st2, kd2⟩ hinv
  replace hinv : st2.size ≤ 1000000 ∧ (-4000000000000000000 ≤ kd2 ∧ kd2 ≤ 4000000000000000000) := hinv
  dsimp only
  obtain ⟨hst2, hkd2a, hkd2b⟩ := hinv
  refine gw_cut (γ := ByteArray) (I := (fun (to3 : ByteArray) => to3.size ≤ 1000000)) (S' := (fun (to3 : ByteArray) => [(0, .pointer (some ⟨sb, 0, none⟩)), (4, .pointer (some ⟨g1, 0, none⟩)), (6, .slice none 0 0), (7, .slice oA k oc), (8, .int .i64 t8), (10, .pointer (some ⟨g10, 0, none⟩)), (23, .int .i64 ((q : Nat) : Int)), (24, .int .i64 ((i : Nat) : Int))])) (K' := (fun (to3 : ByteArray) => fun w => Strm 25 w B sb (m + 20 * i + 7))) (L' := (fun (to3 : ByteArray) => [(g10, 92, [.int .i64 t8, .string y0, .string st2, .int .i64 kd2, .string to3]), (g2, 3, [.int .i64 0, .int .i64 1, .int .i64 10, .int .i64 50, .int .i64 100, .int .i64 500]), (g1, 31, [.slice (some ⟨bs, os, none⟩) sn sc, .slice cA cn cc, .slice (some ⟨bv, ov, none⟩) vn vc, .slice pA pn pc])])) (O' := (fun (to3 : ByteArray) => [⟨.slice oA k oc, 92, 5, k, xl.flatMap evEnc⟩])) (X' := (fun (to3 : ByteArray) => [SlOld stEnc 15 140 w.heap.size (some sb) (some ⟨bs, os, none⟩) sn sl, SlOld vhEnc 2 77 w.heap.size (some sb) (some ⟨bv, ov, none⟩) vn vl])) ?_ ?_
  ·refine sr_ (fd_ fo92_3 rfl rfl (lk_ sc3 0 rfl rfl rfl (wl_ov (ov_eql rfl rfl) rfl (nn_ ?_))))
   refine gw_cond rfl (fun hh => ?_) (fun hh => ?_)
   ·have hc6 : kd2 = 6 := by simpa using hh
    clear hh
    refine gd (fun wz => Blk wz g2 3 [.int .i64 0, .int .i64 1, .int .i64 10, .int .i64 50, .int .i64 100, .int .i64 500] ∧ Blk wz g1 31 [.slice (some ⟨bs, os, none⟩) sn sc, .slice cA cn cc, .slice (some ⟨bv, ov, none⟩) vn vc, .slice pA pn pc] ∧ (SlOld stEnc 15 140 w.heap.size (some sb) (some ⟨bs, os, none⟩) sn sl) wz ∧ (SlOld vhEnc 2 77 w.heap.size (some sb) (some ⟨bv, ov, none⟩) vn vl) wz ∧ True) mixed (fun _ hm => ⟨hm.bl 1, hm.bl 2, hm.fa 0, hm.fa 1, trivial⟩) fun z => ?_
    refine wt 0 12 1 rfl z (ov_field fo31_0 rfl rfl) ?_
    refine wt 1 12 3 rfl z (ov_load sc26 rfl (fun _ hm => hm.2.1) rfl) ?_
    refine wt 2 12 7 rfl z (ov_move rfl) ?_
    refine wt 3 12 15 rfl z (ov_field fo31_0 rfl rfl) ?_
    refine wt 4 12 31 rfl z (ov_load sc26 rfl (fun _ hm => hm.2.1) rfl) ?_
    refine wt 5 12 63 rfl z (ov_len es26 rfl) ?_
    refine wa1 6 rfl ?_
    refine wl_got (γ := Int) (val := fun v => .int .i64 v) (φ := fun v => IsBelow ((sn : Nat) : Int) v) rfl cb42 rfl rfl rfl rfl (fun wx hm => (next_any _ wx B sb _ hm.k (by omega) (by omega) (by omega))) fun vu24 hvu24 => ?_
    have hju24 := isBelow_lt hvu24 (by omega)
    obtain ⟨ju24, rfl⟩ := Int.eq_ofNat_of_zero_le hju24.1
    have hjiu24 : ju24 < sn := by omega
    obtain ⟨zu24, hzu24⟩ : ∃ y, sl[ju24]? = some y := ⟨_, List.getElem?_eq_getElem (by omega)⟩
    obtain ⟨ku24, ru24⟩ := zu24
    have hku24 : ku24.size ≤ 1000000 := (hsok _ (List.mem_of_getElem? hzu24)).2.1
    refine wl_nil ?_
    refine nw 12 127 (fun _ hm => ⟨hm.bl 1, hm.bl 2, hm.fa 0, hm.fa 1, trivial⟩) fun z => ?_
    refine wt 7 12 255 rfl z (ov_index (j := ju24) es26 rfl rfl (by omega)) ?_
    refine wt 8 12 511 rfl z (ov_field fo140_0 rfl rfl) ?_
    refine wt 9 12 1023 rfl z (ov_elem1 (k := 0) (v := .string ku24) sc9 rfl (fun _ hm => (hm.2.2.1).1) hzu24 rfl rfl) ?_
    refine wt 10 12 2047 rfl z (ov_field fo92_4 rfl rfl) ?_
    refine wa1 11 rfl ?_
    refine wl_store 0 sc9 rfl rfl rfl rfl rfl rfl ?_
    refine wl_nil ?_
    refine nw 12 4095 (fun _ hm => ⟨hm.bl 1, hm.bl 2, hm.fa 0, hm.fa 1, trivial⟩) fun z => ?_
    refine wa_done (by kernel_rfl) ?_
    exact nx_meet ku24 (by (try dsimp only); omega) ⟨rfl, rfl, rfl, rfl, rfl, rfl, rfl, rfl, trivial⟩ (fun _ hm => (hm.more rfl (by first | omega | (dsimp only; omega))).pick [0, 1, 2] [0] [0, 1] rfl rfl)
   have hc6 : ¬ (kd2 = 6) := by simpa using hh
   clear hh
   refine gw_skip ?_
   exact nx_meet ⟨#[]⟩ (show (⟨#[]⟩ : ByteArray).size ≤ 1000000 by decide) ⟨rfl, rfl, rfl, rfl, rfl, rfl, rfl, rfl, trivial⟩ (fun _ hm => (hm.more rfl (by first | omega | (dsimp only; omega))).pick [0, 1, 2] [0] [0, 1] rfl rfl)
  intro to3 hinv
  replace hinv : to3.size ≤ 1000000 := hinv
  have hto3 : to3.size ≤ 1000000 := hinv
  refine gw_cut (γ := Int × ByteArray × ByteArray × Int × ByteArray) (I := (fun g => EvOk (⟨g.1, g.2.1, g.2.2.1, g.2.2.2.1, g.2.2.2.2⟩ : Ev))) (S' := (fun g => [(0, .pointer (some ⟨sb, 0, none⟩)), (4, .pointer (some ⟨g1, 0, none⟩)), (6, .slice none 0 0), (7, .slice oA k oc), (8, .int .i64 t8), (10, .pointer (some ⟨g10, 0, none⟩)), (23, .int .i64 ((q : Nat) : Int)), (24, .int .i64 ((i : Nat) : Int))])) (K' := (fun g => fun w => Strm 25 w B sb (m + 20 * i + 12))) (L' := (fun g => [(g10, 92, [.int .i64 g.1, .string g.2.1, .string g.2.2.1, .int .i64 g.2.2.2.1, .string g.2.2.2.2]), (g2, 3, [.int .i64 0, .int .i64 1, .int .i64 10, .int .i64 50, .int .i64 100, .int .i64 500]), (g1, 31, [.slice (some ⟨bs, os, none⟩) sn sc, .slice cA cn cc, .slice (some ⟨bv, ov, none⟩) vn vc, .slice pA pn pc])])) (O' := (fun g => [⟨.slice oA k oc, 92, 5, k, xl.flatMap evEnc⟩])) (X' := (fun g => [SlOld stEnc 15 140 w.heap.size (some sb) (some ⟨bs, os, none⟩) sn sl, SlOld vhEnc 2 77 w.heap.size (some sb) (some ⟨bv, ov, none⟩) vn vl])) ?_ ?_
  ·refine sr_ (mv_ rfl ?_)
   refine wl_got (γ := Bool) (val := fun v => .bool v) (φ := fun v => True) rfl cb53 rfl rfl rfl rfl (fun wx hm => ((flip_any _ wx B sb _ hm.k (by omega) (by omega) (by omega)).mono fun _ _ ⟨v, he, hS, hg⟩ => ⟨v, trivial, he, hS, hg⟩)) fun f25 _ => ?_
   refine nn_ ?_
   refine gw_cond rfl (fun hh => ?_) (fun hh => ?_)
   ·have hd26 : f25 = true := by simpa using hh
    clear hh
    refine sr_ (mv_ rfl ?_)
    refine wl_got (γ := Int) (val := fun v => .int .i64 v) (φ := fun v => IsBelow 4 v) rfl cb42 rfl rfl rfl rfl (fun wx hm => (next_any _ wx B sb _ hm.k (by omega) (by omega) (by omega))) fun v4 hv4 => ?_
    refine nn_ (gw_block (sr_ (wl_ov (ov_eql rfl rfl) rfl (sg_ rfl (nn_ ?_)))))
    refine gw_cond rfl (fun hh => ?_) (fun hh => ?_)
    ·have hd27 : v4 = 0 := by simpa using hh
     clear hh
     refine gw_region (mv_ rfl ?_)
     refine wl_got (γ := Int) (val := fun v => .int .i64 v) (φ := fun v => -2000000000000000 ≤ v ∧ v ≤ 2000000000000000) rfl cb77 rfl rfl rfl rfl (fun wx hm => (odd_any _ _ wx B sb _ hm.k (by omega) (by omega) (by omega) (by omega))) fun v28 hv28 => ?_
     refine fd_ fo92_3 rfl rfl ?_
     refine wl_store 0 sc3 rfl rfl rfl rfl rfl rfl ?_
     refine wl_nil (nx_blk_nrm ?_)
     exact nx_meet (t8, y0, st2, v28, to3) ⟨⟨by dsimp only; omega, by dsimp only; omega⟩, ⟨by dsimp only; omega, by dsimp only; omega⟩, by dsimp only; omega, by dsimp only; omega, by dsimp only; omega⟩ ⟨rfl, rfl, rfl, rfl, rfl, rfl, rfl, rfl, trivial⟩ (fun _ hm => (hm.more rfl (by first | omega | (dsimp only; omega))).pick [0, 1, 2] [0] [0, 1] rfl rfl)
    have hd27 : ¬ (v4 = 0) := by simpa using hh
    clear hh
    refine sr_ (wl_ov (ov_eql rfl rfl) rfl (sg_ rfl (nn_ ?_)))
    refine gw_cond rfl (fun hh => ?_) (fun hh => ?_)
    ·have hd29 : v4 = 1 := by simpa using hh
     clear hh
     refine gw_region (mv_ rfl ?_)
     refine wl_buildSlice (e := 9) (cs := [.string ⟨#[115, 49]⟩, .string ⟨#[110, 111, 110, 101]⟩, .string ⟨#[]⟩]) rfl (by kernel_rfl) rfl fun g30 => ?_
     refine wl_got (γ := ByteArray) (val := fun v => .string v) (φ := fun v => v ∈ ([⟨#[115, 49]⟩, ⟨#[110, 111, 110, 101]⟩, ⟨#[]⟩] : List ByteArray)) rfl cb43 rfl rfl rfl rfl (fun wx hm => (some_any [⟨#[115, 49]⟩, ⟨#[110, 111, 110, 101]⟩, ⟨#[]⟩] _ _ _ wx B sb _ hm.k (by omega) (by simp) (by simp) (hm.blkI 0 rfl) (hm.neRow 0 rfl rfl))) fun s31 hs31 => ?_
     have zs31 : s31.size ≤ 100 := mem_sz hs31 (by decide)
     refine fd_ fo92_4 rfl rfl ?_
     refine wl_store 1 sc9 rfl rfl rfl rfl rfl rfl ?_
     refine wl_nil (nx_blk_nrm ?_)
     exact nx_meet (t8, y0, st2, kd2, s31) ⟨⟨by dsimp only; omega, by dsimp only; omega⟩, ⟨by dsimp only; omega, by dsimp only; omega⟩, by dsimp only; omega, by dsimp only; omega, by dsimp only; omega⟩ ⟨rfl, rfl, rfl, rfl, rfl, rfl, rfl, rfl, trivial⟩ (fun _ hm => (hm.more rfl (by first | omega | (dsimp only; omega))).pick [1, 2, 3] [0] [0, 1] rfl rfl)
    have hd29 : ¬ (v4 = 1) := by simpa using hh
    clear hh
    refine sr_ (wl_ov (ov_eql rfl rfl) rfl (sg_ rfl (nn_ ?_)))
    refine gw_cond rfl (fun hh => ?_) (fun hh => ?_)
    ·have hd32 : v4 = 2 := by simpa using hh
     clear hh
     refine gw_region (mv_ rfl ?_)
     refine wl_calls (γ := ByteArray) (val := (fun g => .string g)) (φ := (fun g => g.size ≤ 100)) (Y := (fun g => fun _ => True)) (m' := m + 20 * i + 7 + 1 + 1 + 1) rfl cb12 rfl rfl rfl rfl (fun wx hm => (gvehicleKey_any wx B sb _ hm.k (by omega)).mono fun _ _ ⟨v, he, hv, hS, hg⟩ => ⟨v, he, hv, hS, hg, trivial⟩) (fun _ => Lasts2.true_) ?_
     rintro vk hvk
     refine fd_ fo92_1 rfl rfl ?_
     refine wl_store 0 sc9 rfl rfl rfl rfl rfl rfl ?_
     refine wl_nil (nx_blk_nrm ?_)
     exact nx_meet (t8, vk, st2, kd2, to3) ⟨⟨by dsimp only; omega, by dsimp only; omega⟩, ⟨by dsimp only; omega, by dsimp only; omega⟩, by dsimp only; omega, by dsimp only; omega, by dsimp only; omega⟩ ⟨rfl, rfl, rfl, rfl, rfl, rfl, rfl, rfl, trivial⟩ (fun _ hm => (hm.more rfl (by first | omega | (dsimp only; omega))).pick [0, 1, 2] [0] [1, 2] rfl rfl)
    have hd32 : ¬ (v4 = 2) := by simpa using hh
    clear hh
    refine gw_region (mv_ rfl ?_)
    refine wl_got (γ := Int) (val := fun v => .int .i64 v) (φ := fun v => -2000000000000000 ≤ v ∧ v ≤ 2000000000000000) rfl cb77 rfl rfl rfl rfl (fun wx hm => (odd_any _ _ wx B sb _ hm.k (by omega) (by omega) (by omega) (by omega))) fun v34 hv34 => ?_
    refine fd_ fo92_0 rfl rfl ?_
    refine wl_store 0 sc3 rfl rfl rfl rfl rfl rfl ?_
    refine wl_nil (nx_blk_nrm ?_)
    exact nx_meet (v34, y0, st2, kd2, to3) ⟨⟨by dsimp only; omega, by dsimp only; omega⟩, ⟨by dsimp only; omega, by dsimp only; omega⟩, by dsimp only; omega, by dsimp only; omega, by dsimp only; omega⟩ ⟨rfl, rfl, rfl, rfl, rfl, rfl, rfl, rfl, trivial⟩ (fun _ hm => (hm.more rfl (by first | omega | (dsimp only; omega))).pick [0, 1, 2] [0] [0, 1] rfl rfl)
   have hd26 : f25 = false := by simpa using hh
   clear hh
   refine gw_skip ?_
   exact nx_meet (t8, y0, st2, kd2, to3) ⟨⟨by dsimp only; omega, by dsimp only; omega⟩, ⟨by dsimp only; omega, by dsimp only; omega⟩, by dsimp only; omega, by dsimp only; omega, by dsimp only; omega⟩ ⟨rfl, rfl, rfl, rfl, rfl, rfl, rfl, rfl, trivial⟩ (fun _ hm => (hm.more rfl (by first | omega | (dsimp only; omega))).pick [0, 1, 2] [0] [0, 1] rfl rfl)
  rintro ⟨a4, ve4, st4, kd4, to4⟩ hinv
  replace hinv : EvOk (⟨a4, ve4, st4, kd4, to4⟩ : Ev) := hinv
  dsimp only
  have hx4 : EvOk (⟨a4, ve4, st4, kd4, to4⟩ : Ev) := hinv
  have huok : ∀ x ∈ xl ++ [(⟨a4, ve4, st4, kd4, to4⟩ : Ev)], EvOk x := all_snoc hxok hx4
  have hul : (xl ++ [(⟨a4, ve4, st4, kd4, to4⟩ : Ev)]).length = k + 1 := by simp [hxl]
  obtain ⟨us, hus⟩ : ∃ z, z = xl ++ [(⟨a4, ve4, st4, kd4, to4⟩ : Ev)] := ⟨_, rfl⟩
  rw [← hus] at huok hul
  obtain ⟨LE, hLE⟩ : ∃ z, z = logE sl vl us := ⟨_, rfl⟩
  refine gw_cut (γ := Bool) (I := (fun (bb : Bool) => True)) (S' := (fun (bb : Bool) => [(0, .pointer (some ⟨sb, 0, none⟩)), (4, .pointer (some ⟨g1, 0, none⟩)), (6, .slice none 0 0), (7, .slice oA k oc), (8, .int .i64 t8), (10, .pointer (some ⟨g10, 0, none⟩)), (23, .int .i64 ((q : Nat) : Int)), (24, .int .i64 ((i : Nat) : Int)), (130, .bool bb)])) (K' := (fun (bb : Bool) => fun w => Strm 25 w B sb (m + 20 * i + 13))) (L' := (fun (bb : Bool) => [(g10, 92, [.int .i64 a4, .string ve4, .string st4, .int .i64 kd4, .string to4]), (g2, 3, [.int .i64 0, .int .i64 1, .int .i64 10, .int .i64 50, .int .i64 100, .int .i64 500]), (g1, 31, [.slice (some ⟨bs, os, none⟩) sn sc, .slice cA cn cc, .slice (some ⟨bv, ov, none⟩) vn vc, .slice pA pn pc])])) (O' := (fun (bb : Bool) => [⟨.slice oA k oc, 92, 5, k, xl.flatMap evEnc⟩])) (X' := (fun (bb : Bool) => [SlOld stEnc 15 140 w.heap.size (some sb) (some ⟨bs, os, none⟩) sn sl, SlOld vhEnc 2 77 w.heap.size (some sb) (some ⟨bv, ov, none⟩) vn vl])) ?_ ?_
  ·refine gd (fun wz => Blk wz g10 92 [.int .i64 a4, .string ve4, .string st4, .int .i64 kd4, .string to4] ∧ Blk wz g2 3 [.int .i64 0, .int .i64 1, .int .i64 10, .int .i64 50, .int .i64 100, .int .i64 500] ∧ Blk wz g1 31 [.slice (some ⟨bs, os, none⟩) sn sc, .slice cA cn cc, .slice (some ⟨bv, ov, none⟩) vn vc, .slice pA pn pc] ∧ (SlOld stEnc 15 140 w.heap.size (some sb) (some ⟨bs, os, none⟩) sn sl) wz ∧ (SlOld vhEnc 2 77 w.heap.size (some sb) (some ⟨bv, ov, none⟩) vn vl) wz ∧ True) mixed (fun _ hm => ⟨hm.bl 0, hm.bl 1, hm.bl 2, hm.fa 0, hm.fa 1, trivial⟩) fun z => ?_
   refine wt 0 12 1 rfl z (ov_move rfl) ?_
   refine wa1 1 rfl ?_
   refine wl_got (γ := Bool) (val := fun v => .bool v) (φ := fun v => True) rfl cb53 rfl rfl rfl rfl (fun wx hm => ((flip_any _ wx B sb _ hm.k (by omega) (by omega) (by omega)).mono fun _ _ ⟨v, he, hS, hg⟩ => ⟨v, trivial, he, hS, hg⟩)) fun f35 _ => ?_
   refine wl_nil ?_
   refine nw 12 3 (fun _ hm => ⟨hm.bl 0, hm.bl 1, hm.bl 2, hm.fa 0, hm.fa 1, trivial⟩) fun z => ?_
   refine wt 2 12 7 rfl z (ov_move rfl) ?_
   rcases Bool.eq_false_or_eq_true f35 with hg8 | hg8
   ·refine wa_set 121 rfl (congrArg Value.bool hg8) ?_
    refine wtf 3 12 15 rfl rfl rfl z ?_
    refine wtf 4 12 31 rfl rfl rfl z ?_
    refine wtf 5 12 63 rfl rfl rfl z ?_
    refine wtf 6 12 127 rfl rfl rfl z ?_
    refine wtf 7 12 255 rfl rfl rfl z ?_
    refine wtf 8 12 511 rfl rfl rfl z ?_
    refine wtf 9 12 1023 rfl rfl rfl z ?_
    refine wtf 10 12 2047 rfl rfl rfl z ?_
    refine wt 11 12 4095 rfl z (ov_pick_t rfl rfl) ?_
    refine wa_done (by kernel_rfl) ?_
    exact nx_meet true trivial ⟨rfl, rfl, rfl, rfl, rfl, rfl, rfl, rfl, rfl, trivial⟩ (fun _ hm => (hm.more rfl (by first | omega | (dsimp only; omega))).pick [0, 1, 2] [0] [0, 1] rfl rfl)
   refine wa_set 121 rfl (congrArg Value.bool hg8) ?_
   refine wto 3 12 15 rfl rfl rfl z (ov_loads rz31 rfl (fun _ hm => hm.2.2.1) rfl rfl) ?_
   refine wto 4 12 31 rfl rfl rfl z (ov_move rfl) ?_
   refine wto 6 12 95 rfl rfl rfl z (ov_loads rz92 rfl (fun _ hm => hm.1) rfl rfl) ?_
   refine wa_all [5, 7] (by kernel_rfl) rfl ⟨⟨_, rfl, ?_⟩, ⟨_, rfl, ?_⟩, trivial⟩
   ·refine wl_guard_on rfl rfl rfl ?_
    refine wl_callgo (γ := Option Addr × Nat) (val := (fun g => .slice g.1 k g.2)) (φ := (fun g => True)) (fun g => ⟨.slice g.1 k g.2, 92, 5, k, xl.flatMap evEnc⟩) rfl cb54 rfl rfl (fun wx hm => (cloneEvents_all xl oA k oc wx (SlT.ofOwn ev_len (hm.ownI 0 rfl) hxl) (own_shape (hm.ownI 0 rfl)) (by omega)).mono fun _ _ ⟨A, c, he, ho, hg⟩ => ⟨(A, c), he, trivial, ho, hg⟩) ?_
    rintro ⟨A3, c3⟩ hphi
    dsimp only at hphi ⊢
    refine wl_nil ?_
    refine nw 12 127 (fun _ hm => ⟨hm.bl 0, hm.bl 1, hm.bl 2, hm.fa 0, hm.fa 1, trivial⟩) fun z => ?_
    refine wa1 7 rfl ?_
    refine wl_guard_on rfl rfl rfl ?_
    refine wl_buildSlice (e := 92) (cs := [.int .i64 a4, .string ve4, .string st4, .int .i64 kd4, .string to4]) rfl (by kernel_rfl) rfl fun g36 => ?_
    refine wl_nil ?_
    refine nw 12 255 (fun _ hm => ⟨hm.bl 1, hm.bl 2, hm.bl 3, hm.fa 0, hm.fa 1, trivial⟩) fun z => ?_
    refine wa1 8 rfl ?_
    refine wl_guard_on rfl rfl rfl ?_
    refine wl_append (news := [.int .i64 a4, .string ve4, .string st4, .int .i64 kd4, .string to4]) 0 0 ap48 rfl rfl rfl rfl rfl rfl rfl (by omega) (by unfold maxLen; omega) rfl rfl fun v2 hv2 => ?_
    refine wl_look (R := ∃ A cc, v2 = .slice A (k + 1) cc) (fun wx hm => own_slice (hm.ownI 0 rfl)) ?_
    rintro ⟨A4, c4, rfl⟩
    have hxs : xl.flatMap evEnc ++ ([.int .i64 a4, .string ve4, .string st4, .int .i64 kd4, .string to4] : List Value) = us.flatMap evEnc := by rw [hus]; simp [evEnc]
    rw [hxs]
    refine wl_nil ?_
    refine nw 12 511 (fun _ hm => ⟨hm.bl 1, hm.bl 2, hm.bl 3, hm.fa 0, hm.fa 1, trivial⟩) fun z => ?_
    refine wa1 9 rfl ?_
    refine wl_guard_on rfl rfl rfl ?_
    refine wl_callv (v := .int .i64 LE) rfl cb40 rfl rfl (fun wx hm => (by rw [hLE]; exact logFault_any sl vl (some ⟨bs, os, none⟩) cA (some ⟨bv, ov, none⟩) pA sn sc cn cc vn vc pn pc us A4 (k + 1) c4 wx (hm.fact 0 rfl).1 (hm.fact 1 rfl).1 hsok hsn hvn (SlT.ofOwn ev_len (hm.ownI 0 rfl) hul) huok (by omega))) ?_
    refine wl_nil ?_
    refine nw 12 1023 (fun _ hm => ⟨hm.bl 1, hm.bl 2, hm.bl 3, hm.fa 0, hm.fa 1, trivial⟩) fun z => ?_
    refine wto 10 12 2047 rfl rfl rfl z (ov_eql rfl rfl) ?_
    refine wt 11 12 4095 rfl z (ov_pick_f rfl rfl) ?_
    refine wa_done (by kernel_rfl) ?_
    exact nx_meet (decide (LE = 0)) trivial ⟨rfl, rfl, rfl, rfl, rfl, rfl, rfl, rfl, rfl, trivial⟩ (fun _ hm => (hm.more rfl (by first | omega | (dsimp only; omega))).pick [1, 2, 3] [1] [0, 1] rfl rfl)
   refine wl_guard_on rfl rfl rfl ?_
   refine wl_buildSlice (e := 92) (cs := [.int .i64 a4, .string ve4, .string st4, .int .i64 kd4, .string to4]) rfl (by kernel_rfl) rfl fun g37 => ?_
   refine wl_nil ?_
   refine nw 12 223 (fun _ hm => ⟨hm.bl 1, hm.bl 2, hm.bl 3, hm.fa 0, hm.fa 1, trivial⟩) fun z => ?_
   refine wa1 5 rfl ?_
   refine wl_guard_on rfl rfl rfl ?_
   refine wl_callgo (γ := Option Addr × Nat) (val := (fun g => .slice g.1 k g.2)) (φ := (fun g => True)) (fun g => ⟨.slice g.1 k g.2, 92, 5, k, xl.flatMap evEnc⟩) rfl cb54 rfl rfl (fun wx hm => (cloneEvents_all xl oA k oc wx (SlT.ofOwn ev_len (hm.ownI 0 rfl) hxl) (own_shape (hm.ownI 0 rfl)) (by omega)).mono fun _ _ ⟨A, c, he, ho, hg⟩ => ⟨(A, c), he, trivial, ho, hg⟩) ?_
   rintro ⟨A3, c3⟩ hphi
   dsimp only at hphi ⊢
   refine wl_nil ?_
   refine nw 12 255 (fun _ hm => ⟨hm.bl 1, hm.bl 2, hm.bl 3, hm.fa 0, hm.fa 1, trivial⟩) fun z => ?_
   refine wa1 8 rfl ?_
   refine wl_guard_on rfl rfl rfl ?_
   refine wl_append (news := [.int .i64 a4, .string ve4, .string st4, .int .i64 kd4, .string to4]) 0 0 ap48 rfl rfl rfl rfl rfl rfl rfl (by omega) (by unfold maxLen; omega) rfl rfl fun v2 hv2 => ?_
   refine wl_look (R := ∃ A cc, v2 = .slice A (k + 1) cc) (fun wx hm => own_slice (hm.ownI 0 rfl)) ?_
   rintro ⟨A4, c4, rfl⟩
   have hxs : xl.flatMap evEnc ++ ([.int .i64 a4, .string ve4, .string st4, .int .i64 kd4, .string to4] : List Value) = us.flatMap evEnc := by rw [hus]; simp [evEnc]
   rw [hxs]
   refine wl_nil ?_
   refine nw 12 511 (fun _ hm => ⟨hm.bl 1, hm.bl 2, hm.bl 3, hm.fa 0, hm.fa 1, trivial⟩) fun z => ?_
   refine wa1 9 rfl ?_
   refine wl_guard_on rfl rfl rfl ?_
   refine wl_callv (v := .int .i64 LE) rfl cb40 rfl rfl (fun wx hm => (by rw [hLE]; exact logFault_any sl vl (some ⟨bs, os, none⟩) cA (some ⟨bv, ov, none⟩) pA sn sc cn cc vn vc pn pc us A4 (k + 1) c4 wx (hm.fact 0 rfl).1 (hm.fact 1 rfl).1 hsok hsn hvn (SlT.ofOwn ev_len (hm.ownI 0 rfl) hul) huok (by omega))) ?_
   refine wl_nil ?_
   refine nw 12 1023 (fun _ hm => ⟨hm.bl 1, hm.bl 2, hm.bl 3, hm.fa 0, hm.fa 1, trivial⟩) fun z => ?_
   refine wto 10 12 2047 rfl rfl rfl z (ov_eql rfl rfl) ?_
   refine wt 11 12 4095 rfl z (ov_pick_f rfl rfl) ?_
   refine wa_done (by kernel_rfl) ?_
   exact nx_meet (decide (LE = 0)) trivial ⟨rfl, rfl, rfl, rfl, rfl, rfl, rfl, rfl, rfl, trivial⟩ (fun _ hm => (hm.more rfl (by first | omega | (dsimp only; omega))).pick [1, 2, 3] [1] [0, 1] rfl rfl)
  intro bb hinv
  replace hinv : True := hinv
  refine gw_cond rfl (fun hh => ?_) (fun hh => ?_)
  ·have hbb : bb = true := by simpa using hh
   clear hh
   refine gw_region (mv_ rfl ?_)
   refine wl_ov (ov_loads rz92 rfl (fun _ hm => hm.blkI 0 rfl) rfl rfl) rfl ?_
   refine wl_buildSlice (e := 92) (cs := [.int .i64 a4, .string ve4, .string st4, .int .i64 kd4, .string to4]) rfl (by kernel_rfl) rfl fun g38 => ?_
   refine wl_append (news := [.int .i64 a4, .string ve4, .string st4, .int .i64 kd4, .string to4]) 0 0 ap48 rfl rfl rfl rfl rfl rfl rfl (by omega) (by unfold maxLen; omega) rfl rfl fun v2 hv2 => ?_
   refine wl_look (R := ∃ A cc, v2 = .slice A (k + 1) cc) (fun wx hm => own_slice (hm.ownI 0 rfl)) ?_
   rintro ⟨A4, c4, rfl⟩
   have hxs : xl.flatMap evEnc ++ ([.int .i64 a4, .string ve4, .string st4, .int .i64 kd4, .string to4] : List Value) = us.flatMap evEnc := by rw [hus]; simp [evEnc]
   rw [hxs]
   refine sg_ rfl (wl_nil (nx_blk_nrm (nx_then (gw_region (ad_ rfl rfl (mv_ rfl (wl_nil ?_)))))))
   exact nx_round (i + 1, k + 1, t8, A4, c4, us) ⟨by dsimp only; omega, by dsimp only; omega, ⟨by dsimp only; omega, by dsimp only; omega⟩, hul, huok⟩ (by dsimp only; omega) ⟨rfl, rfl, rfl, rfl, rfl, rfl, (some_int (by omega)), trivial⟩ (fun _ hm => (hm.more rfl (by first | omega | (dsimp only; omega))).pick [3] [0] [0, 1] rfl rfl)
  have hbb : bb = false := by simpa using hh
  clear hh
  refine gw_skip (nx_blk_nrm (nx_then (gw_region (ad_ rfl rfl (mv_ rfl (wl_nil ?_))))))
  exact nx_round (i + 1, k, t8, oA, oc, xl) ⟨by dsimp only; omega, by dsimp only; omega, ⟨by dsimp only; omega, by dsimp only; omega⟩, hxl, hxok⟩ (by dsimp only; omega) ⟨rfl, rfl, rfl, rfl, rfl, rfl, (some_int (by omega)), trivial⟩ (fun _ hm => (hm.more rfl (by first | omega | (dsimp only; omega))).pick [2] [0] [0, 1] rfl rfl)
 have hi : ¬ (((i : Nat) : Int) < ((q : Nat) : Int)) := by simpa using hh
 clear hh
 refine gw_exit ?_
 refine nx_then_exit (nx_then_exit ?_)
 refine nx_blk_here ?_
 refine nx_then (sr_ (mv_ rfl (sg_ rfl (nn_ ?_))))
 refine gw_ret ?_
 refine nx_ret1 rfl rfl fun wx hm => ?_
 exact ⟨oA, k, oc, xl, rfl, (hm.ownI 0 rfl), hxl, hxok, by omega, hm.k.more (by omega), hm.g⟩
end Go.Proofs.YtjecbkgjabnmoaaGreatDoor
namespace Go.Proofs.YtjecbkgjabnmoaaGreatDoor
open Go.RowKit
theorem fleet_rise {sl : List St} {cl : List Cs} {vl : List Vh} {pl : List Pl} (h : fleetE sl cl vl pl = 0) : Rise vl := by
  unfold fleetE at h
  exact (vehs_rise (fe_all h (vehsE cl vl) (by simp))).2
theorem fe_hd {a : Int} {r : List Int} (h : a ≠ 0) : firstE (a :: r) = a := by simp [firstE, h]
theorem fe_tl {r : List Int} : firstE (0 :: r) = firstE r := by simp [firstE]
end Go.Proofs.YtjecbkgjabnmoaaGreatDoor
namespace Go.Proofs.YtjecbkgjabnmoaaGreatDoor
open Go.RowKit
def evsE (sl : List St) (cl : List Cs) (vl : List Vh) (pl : List Pl) (el : List Ev) : Int := firstE [fleetE sl cl vl pl, logE sl vl el]
theorem evs_one {sl : List St} {cl : List Cs} {vl : List Vh} {pl : List Pl} {el : List Ev} (h : fleetE sl cl vl pl ≠ 0) : evsE sl cl vl pl el = fleetE sl cl vl pl := fe_hd h
theorem evs_two {sl : List St} {cl : List Cs} {vl : List Vh} {pl : List Pl} {el : List Ev} (h : fleetE sl cl vl pl = 0) : evsE sl cl vl pl el = logE sl vl el := by
  unfold evsE; rw [h, fe_tl]
  by_cases h2 : logE sl vl el = 0
  · rw [h2]; rfl
  · exact fe_hd h2
theorem evs_ok {sl : List St} {cl : List Cs} {vl : List Vh} {pl : List Pl} {el : List Ev} (h : evsE sl cl vl pl el = 0) : fleetE sl cl vl pl = 0 ∧ logE sl vl el = 0 := ⟨fe_all h _ (by simp), fe_all h _ (by simp)⟩
theorem log_ok {sl : List St} {vl : List Vh} {el : List Ev} (h : logE sl vl el = 0) : ESort el ∧ (∀ x ∈ el, EvFine sl vl x) ∧ el.length ≤ 3000 := by
  unfold logE at h
  split at h
  · cases h
  · obtain ⟨h1, _, h3⟩ := log_fine h
    exact ⟨h1, h3, by omega⟩
theorem eventsFault_any (sl : List St) (cl : List Cs) (vl : List Vh) (pl : List Pl) (sA cA vA pA : Option Addr) (sn sc cn cc vn vc pn pc : Nat) (el : List Ev) (eA : Option Addr) (en ec : Nat) (w : World) (hs : SlT stEnc 15 140 w sA sn sl) (hc : SlT csEnc 2 159 w cA cn cl) (hv : SlT vhEnc 2 77 w vA vn vl) (hp : SlT plEnc 3 143 w pA pn pl) (hsok : ∀ x ∈ sl, StOk x) (hcok : ∀ x ∈ cl, CsOk x) (hvok : ∀ x ∈ vl, VhOk x) (hpok : ∀ x ∈ pl, PlOk x) (hsn : sn ≤ 1000) (hcn : cn ≤ 1000) (hvn : vn ≤ 1000) (hpn : pn ≤ 1000) (hl : SlT evEnc 5 92 w eA en el) (heok : ∀ x ∈ el, EvOk x) (hen : en ≤ 100000) (hpc : pn ≤ pc) :
  Calls Tryz.prog 101 #[.agg #[.slice sA sn sc, .slice cA cn cc, .slice vA vn vc, .slice pA pn pc], .slice eA en ec] w (GotE w (evsE sl cl vl pl el)) := by
 refine gw_enter ⟨14, w, none, []⟩ Tryz.func101 rfl Tryz.ntmps101 rfl (mem0 (X := [SlOld stEnc 15 140 w.heap.size none sA sn sl, SlOld csEnc 2 159 w.heap.size none cA cn cl, SlOld vhEnc 2 77 w.heap.size none vA vn vl, SlOld plEnc 3 143 w.heap.size none pA pn pl, SlOld evEnc 5 92 w.heap.size none eA en el]) (allF_cons hs.old (allF_cons hc.old (allF_cons hv.old (allF_cons hp.old (allF_cons hl.old allF_nil))))) (allL_cons SlOld.lasts (allL_cons SlOld.lasts (allL_cons SlOld.lasts (allL_cons SlOld.lasts (allL_cons SlOld.lasts allL_nil)))))) ?_
 refine sr_ ?_
 obtain ⟨FE, hFE⟩ : ∃ z, z = fleetE sl cl vl pl := ⟨_, rfl⟩
 obtain ⟨LE, hLE⟩ : ∃ z, z = logE sl vl el := ⟨_, rfl⟩
 refine wl_box rfl rfl rfl fun g1 => ?_
 refine sg_ rfl (nn_ (gw_seq (sr_ ?_)))
 refine wl_ov (ov_loads rz31 rfl (fun _ hm => hm.blkI 0 rfl) rfl rfl) rfl ?_
 refine wl_callv (v := .int .i64 FE) rfl cb17 rfl rfl (fun wx hm => (by rw [hFE]; exact fleetFault_any sl cl vl pl sA cA vA pA sn sc cn cc vn vc pn pc wx (hm.fact 0 rfl).1 (hm.fact 1 rfl).1 (hm.fact 2 rfl).1 (hm.fact 3 rfl).1 hsok hcok hvok hpok hsn hcn hvn hpn hpc)) ?_
 refine sg_ rfl (nn_ (sr_ (mv_ rfl (wl_ov (ov_neq rfl rfl) rfl (nn_ ?_)))))
 refine gw_cond rfl (fun hh => ?_) (fun hh => ?_)
 ·have h1 : ¬ (FE = 0) := by simpa using hh
  clear hh
  refine sr_ (mv_ rfl (sg_ rfl (nn_ ?_)))
  refine gw_ret ?_
  refine nx_then_ret ?_
  refine nx_ret1 rfl rfl fun wx hm => ?_
  exact ⟨ret_int (by rw [evs_one (by rw [← hFE]; simpa using h1)]; exact hFE), hm.g⟩
 have h1 : FE = 0 := by simpa using hh
 clear hh
 refine gw_skip (nx_then (sr_ ?_))
 have h0 : fleetE sl cl vl pl = 0 := by rw [← hFE]; simpa using h1
 refine wl_ov (ov_loads rz31 rfl (fun _ hm => hm.blkI 0 rfl) rfl rfl) rfl ?_
 refine mv_ rfl ?_
 refine wl_callv (v := .int .i64 LE) rfl cb40 rfl rfl (fun wx hm => (by rw [hLE]; exact logFault_any sl vl sA cA vA pA sn sc cn cc vn vc pn pc el eA en ec wx (hm.fact 0 rfl).1 (hm.fact 2 rfl).1 hsok hsn hvn (hm.fact 4 rfl).1 heok hen)) ?_
 refine sg_ rfl (nn_ ?_)
 refine gw_ret ?_
 refine nx_ret1 rfl rfl fun wx hm => ?_
 exact ⟨ret_int (by rw [evs_two h0]; exact hLE), hm.g⟩
theorem check2_any (sl : List St) (cl : List Cs) (vl : List Vh) (pl : List Pl) (sA cA vA pA : Option Addr) (sn sc cn cc vn vc pn pc : Nat) (el : List Ev) (eA : Option Addr) (en ec : Nat) (w : World) (hs : SlT stEnc 15 140 w sA sn sl) (hc : SlT csEnc 2 159 w cA cn cl) (hv : SlT vhEnc 2 77 w vA vn vl) (hp : SlT plEnc 3 143 w pA pn pl) (hsok : ∀ x ∈ sl, StOk x) (hcok : ∀ x ∈ cl, CsOk x) (hvok : ∀ x ∈ vl, VhOk x) (hpok : ∀ x ∈ pl, PlOk x) (hsn : sn ≤ 1000) (hcn : cn ≤ 1000) (hvn : vn ≤ 1000) (hpn : pn ≤ 1000) (hl : SlT evEnc 5 92 w eA en el) (heok : ∀ x ∈ el, EvOk x) (hen : en ≤ 100000) :
  Calls Tryz.prog 56 #[.agg #[.slice sA sn sc, .slice cA cn cc, .slice vA vn vc, .slice pA pn pc], .slice eA en ec] w (GotE w (evsE sl cl vl pl el)) := by
 refine gw_enter ⟨14, w, none, []⟩ Tryz.func56 rfl Tryz.ntmps56 rfl (mem0 (X := [SlOld stEnc 15 140 w.heap.size none sA sn sl, SlOld csEnc 2 159 w.heap.size none cA cn cl, SlOld vhEnc 2 77 w.heap.size none vA vn vl, SlOld plEnc 3 143 w.heap.size none pA pn pl, SlOld evEnc 5 92 w.heap.size none eA en el]) (allF_cons hs.old (allF_cons hc.old (allF_cons hv.old (allF_cons hp.old (allF_cons hl.old allF_nil))))) (allL_cons SlOld.lasts (allL_cons SlOld.lasts (allL_cons SlOld.lasts (allL_cons SlOld.lasts (allL_cons SlOld.lasts allL_nil)))))) ?_
 refine sr_ ?_
 obtain ⟨FE, hFE⟩ : ∃ z, z = fleetE sl cl vl pl := ⟨_, rfl⟩
 obtain ⟨LE, hLE⟩ : ∃ z, z = logE sl vl el := ⟨_, rfl⟩
 refine wl_box rfl rfl rfl fun g1 => ?_
 refine sg_ rfl (nn_ (gw_seq (sr_ ?_)))
 refine wl_ov (ov_loads rz31 rfl (fun _ hm => hm.blkI 0 rfl) rfl rfl) rfl ?_
 refine wl_callv (v := .int .i64 FE) rfl cb23 rfl rfl (fun wx hm => (by rw [hFE]; exact checkFleet_any sl cl vl pl sA cA vA pA sn sc cn cc vn vc pn pc wx (hm.fact 0 rfl).1 (hm.fact 1 rfl).1 (hm.fact 2 rfl).1 (hm.fact 3 rfl).1 hsok hcok hvok hpok hsn hcn hvn hpn)) ?_
 refine sg_ rfl (nn_ (sr_ (mv_ rfl (wl_ov (ov_neq rfl rfl) rfl (nn_ ?_)))))
 refine gw_cond rfl (fun hh => ?_) (fun hh => ?_)
 ·have h1 : ¬ (FE = 0) := by simpa using hh
  clear hh
  refine sr_ (mv_ rfl (sg_ rfl (nn_ ?_)))
  refine gw_ret ?_
  refine nx_then_ret ?_
  refine nx_ret1 rfl rfl fun wx hm => ?_
  exact ⟨ret_int (by rw [evs_one (by rw [← hFE]; simpa using h1)]; exact hFE), hm.g⟩
 have h1 : FE = 0 := by simpa using hh
 clear hh
 refine gw_skip (nx_then (sr_ ?_))
 have h0 : fleetE sl cl vl pl = 0 := by rw [← hFE]; simpa using h1
 have hrise := fleet_rise h0
 refine wl_ov (ov_loads rz31 rfl (fun _ hm => hm.blkI 0 rfl) rfl rfl) rfl ?_
 refine mv_ rfl ?_
 refine wl_callv (v := .int .i64 LE) rfl cb132 rfl rfl (fun wx hm => (by rw [hLE]; exact check_any sl vl sA cA vA pA sn sc cn cc vn vc pn pc el eA en ec wx (hm.fact 0 rfl).1 (hm.fact 2 rfl).1 hsok hsn hvn (hm.fact 4 rfl).1 heok hen hrise)) ?_
 refine sg_ rfl (nn_ ?_)
 refine gw_ret ?_
 refine nx_ret1 rfl rfl fun wx hm => ?_
 exact ⟨ret_int (by rw [evs_two h0]; exact hLE), hm.g⟩
section
variable {P : Program} {c : Cx} {S : List (Nat × Value)} {K : World → Prop} {L : List (Nat × TypeId × List Value)} {O : List Own} {X : List (World → Prop)} {fn : Func} {R : Ending → World → Prop}
theorem results_ctt {p u r : Tmp} {t : TypeId} (h : fn.results = #[.cell p t, .tmp u, .tmp r]) (tmps : Array Value) (w : World) (g : Nat) (T : TypeId) (cs : Array Value) (fr : Nat × Nat) (d : TypeDesc) (hp : tmps.getD p undef = .pointer (some ⟨g, 0, none⟩)) (hg : w.heap[g]? = some (.cells cs T fr)) (hu : P.underlying t = some d) (hd : (match d with | .struct _ | .array _ _ => true | _ => false) = true) (hi : (P.info? t).map (·.size) = some cs.size) :
    (results fn tmps).run P w = .ok (.tuple #[.agg cs, tmps.getD u undef, tmps.getD r undef]) w := by
  have hp' : tmps[p]?.getD undef = .pointer (some ⟨g, 0, none⟩) := by simpa using hp
  simp [results, h, hp', asAddr, run_loadVar_row w g T t cs fr d hg hu hd hi]
theorem nx_retctt {p u r : Nat} {t T : TypeId} {g n : Nat} {cs : List Value} {v v' : Value} (i : Nat) (hr : fn.results = #[.cell p t, .tmp u, .tmp r]) (hs : rowSz P t = some n) (hp : look S p = some (.pointer (some ⟨g, 0, none⟩))) (hv : look S u = some v) (hv' : look S r = some v') (hL : L[i]? = some (g, T, cs)) (hn : cs.length = n)
    (h : ∀ w, Mem c K L O X w → R (.returned (.tuple #[.agg cs.toArray, v, v'])) w) : Nx c (bodyPost P fn R) .ret S K L O X := fun a w ha hm => by
  obtain ⟨dd, hu, hd, hi⟩ := run_row hs
  have hb : w.heap[g]? = some (.cells cs.toArray T (0, 0)) := hm.blk (List.mem_of_getElem? hL)
  have h1 := results_ctt (P := P) hr a.tmps w g T cs.toArray (0, 0) dd (by simp [Array.getD_eq_getD_getElem?, ha.val p _ hp]) hb hu (by cases dd <;> simp_all [TypeDesc.isRow]) (by simpa [hn] using hi)
  rw [show a.tmps.getD u undef = v by simp [Array.getD_eq_getD_getElem?, ha.val u _ hv], show a.tmps.getD r undef = v' by simp [Array.getD_eq_getD_getElem?, ha.val r _ hv']] at h1
  exact bodyPost_ret h1 ha.df (h w hm)
end
theorem scene_any (q : Nat) (w : World) (B sb m : Nat) (hS : Strm 25 w B sb m) (hm : m ≤ 1000000) (hq : q ≤ 1000) :
  Calls Tryz.prog 27 #[.pointer (some ⟨sb, 0, none⟩), .int .i64 ((q : Nat) : Int)] w (fun e w' => ∃ (sA cA vA pA : Option Addr) (sn sc cc vn vc pn pc : Nat) (sl : List St) (cl : List Cs) (vl : List Vh) (pl : List Pl) (eA : Option Addr) (en ec : Nat) (el : List Ev),  e = .returned (.tuple #[.agg #[.slice sA sn sc, .slice cA 4 cc, .slice vA vn vc, .slice pA pn pc], .slice eA en ec, .int .i64 (evsE sl cl vl pl el)]) ∧ (FlOk sl cl vl pl sn vn pn ∧ ShapeA pA pn pc ∧ pn ≤ pc) ∧ (el.length = en ∧ (∀ x ∈ el, EvOk x) ∧ en ≤ q) ∧ Strm 25 w' B sb (m + 20 * q + 420) ∧ w.grownBy w' (some sb) ∧ w'.ownsRow w.heap.size 92 5 (.slice eA en ec) en (el.flatMap evEnc) ∧ SlT stEnc 15 140 w' sA sn sl ∧ SlT csEnc 2 159 w' cA 4 cl ∧ SlT vhEnc 2 77 w' vA vn vl ∧ SlT plEnc 3 143 w' pA pn pl) := by
 refine gw_enter ⟨20, w, (some sb), [140, 159, 77, 143]⟩ Tryz.func27 rfl Tryz.ntmps27 rfl (memS (X := []) hS allF_nil allL_nil) ?_
 refine sr_ ?_
 refine wl_alloc zc31 rfl fun g1 => ?_
 refine sg_ rfl (sg_ rfl (nn_ (sr_ (mv_ rfl ?_))))
 refine wl_calls (γ := Option Addr × Option Addr × Option Addr × Option Addr × Nat × Nat × Nat × Nat × Nat × Nat × Nat × List St × List Cs × List Vh × List Pl) (val := (fun g => .agg #[.slice g.1 g.2.2.2.2.1 g.2.2.2.2.2.1, .slice g.2.1 4 g.2.2.2.2.2.2.1, .slice g.2.2.1 g.2.2.2.2.2.2.2.1 g.2.2.2.2.2.2.2.2.1, .slice g.2.2.2.1 g.2.2.2.2.2.2.2.2.2.1 g.2.2.2.2.2.2.2.2.2.2.1])) (φ := (fun g => FlOk g.2.2.2.2.2.2.2.2.2.2.2.1 g.2.2.2.2.2.2.2.2.2.2.2.2.1 g.2.2.2.2.2.2.2.2.2.2.2.2.2.1 g.2.2.2.2.2.2.2.2.2.2.2.2.2.2 g.2.2.2.2.1 g.2.2.2.2.2.2.2.1 g.2.2.2.2.2.2.2.2.2.1 ∧ ShapeA g.2.2.2.1 g.2.2.2.2.2.2.2.2.2.1 g.2.2.2.2.2.2.2.2.2.2.1 ∧ g.2.2.2.2.2.2.2.2.2.1 ≤ g.2.2.2.2.2.2.2.2.2.2.1)) (Y := (fun g => fun wy => SlT stEnc 15 140 wy g.1 g.2.2.2.2.1 g.2.2.2.2.2.2.2.2.2.2.2.1 ∧ SlT csEnc 2 159 wy g.2.1 4 g.2.2.2.2.2.2.2.2.2.2.2.2.1 ∧ SlT vhEnc 2 77 wy g.2.2.1 g.2.2.2.2.2.2.2.1 g.2.2.2.2.2.2.2.2.2.2.2.2.2.1 ∧ SlT plEnc 3 143 wy g.2.2.2.1 g.2.2.2.2.2.2.2.2.2.1 g.2.2.2.2.2.2.2.2.2.2.2.2.2.2)) (m' := m + 400) rfl cb11 rfl rfl rfl rfl (fun wx hm => (fleet_any wx B sb _ hm.k (by omega)).mono fun _ _ ⟨sA, cA, vA, pA, sn, sc, cc, vn, vc, pn, pc, sl, cl, vl, pl, he, hok, hS, hg, h1, h2, h3, h4, h5, h6⟩ => ⟨(sA, cA, vA, pA, sn, sc, cc, vn, vc, pn, pc, sl, cl, vl, pl), he, ⟨hok, h5, h6⟩, hS, hg, h1, h2, h3, h4⟩) (fun _ => (SlT.lasts2 rfl).and_ ((SlT.lasts2 rfl).and_ ((SlT.lasts2 rfl).and_ (SlT.lasts2 rfl)))) ?_
 rintro ⟨sA, cA, vA, pA, sn, sc, cc, vn, vc, pn, pc, sl, cl, vl, pl⟩ hfl
 dsimp only at hfl ⊢
 have hfl2 := hfl
 obtain ⟨⟨⟨hsok, hsn10⟩, hcok, ⟨hvB, hvn10⟩, hpB, hpn10⟩, hsh, hpnc⟩ := hfl
 have hvok : ∀ x ∈ vl, VhOk x := fun x hx => vhB_ok (hvB x hx)
 have hpok : ∀ x ∈ pl, PlOk x := fun x hx => plB_ok (hpB x hx)
 refine wl_alloc zc31 rfl fun g2 => ?_
 refine wl_stores (cs' := [.slice sA sn sc, .slice cA 4 cc, .slice vA vn vc, .slice pA pn pc]) 0 rz31 rfl rfl rfl rfl rfl rfl rfl rfl ?_
 refine nn_ (sr_ (mv_ rfl ?_))
 refine wl_ov (ov_loads rz31 rfl (fun _ hm => hm.blkI 0 rfl) rfl rfl) rfl ?_
 refine mv_ rfl ?_
 refine wl_callgs (γ := Option Addr × Nat × Nat × List Ev) (val := (fun g => .slice g.1 g.2.1 g.2.2.1)) (φ := (fun g => g.2.2.2.length = g.2.1 ∧ (∀ x ∈ g.2.2.2, EvOk x) ∧ g.2.1 ≤ q)) (m' := m + 400 + (20 * q + 20)) (fun g => ⟨.slice g.1 g.2.1 g.2.2.1, 92, 5, g.2.1, g.2.2.2.flatMap evEnc⟩) rfl cb39 rfl rfl rfl rfl (fun wx hm => (glog_any sl vl sA cA vA pA sn sc 4 cc vn vc pn pc q wx B sb _ hm.k (by omega) (hm.fact 0 rfl).1 (hm.fact 0 rfl).2.2.1 hsok hvok (by omega) (by omega) (by omega)).mono fun _ _ ⟨A, n, c, l, he, ho, hl, hok, hn, hS, hg⟩ => ⟨(A, n, c, l), he, ⟨hl, hok, hn⟩, hS, hg, ho⟩) ?_
 rintro ⟨eA, en, ec, el⟩ hel
 dsimp only at hel ⊢
 obtain ⟨hell, heok, henq⟩ := hel
 obtain ⟨FE, hFE⟩ : ∃ z, z = evsE sl cl vl pl el := ⟨_, rfl⟩
 refine sg_ rfl (nn_ (gw_seq ?_))
 refine gd (fun wz => Blk wz g2 31 [.slice sA sn sc, .slice cA 4 cc, .slice vA vn vc, .slice pA pn pc] ∧ (fun wy => SlT stEnc 15 140 wy sA sn sl ∧ SlT csEnc 2 159 wy cA 4 cl ∧ SlT vhEnc 2 77 wy vA vn vl ∧ SlT plEnc 3 143 wy pA pn pl) wz ∧ True) mixed (fun _ hm => ⟨hm.bl 0, hm.fa 0, trivial⟩) fun z => ?_
 refine wt 0 8 1 rfl z (ov_loads rz31 rfl (fun _ hm => hm.1) rfl rfl) ?_
 refine wt 1 8 3 rfl z (ov_move rfl) ?_
 refine wt 2 8 7 rfl z (ov_loads rz31 rfl (fun _ hm => hm.1) rfl rfl) ?_
 refine wt 3 8 15 rfl z (ov_move rfl) ?_
 refine wa1 4 rfl ?_
 refine wl_callv (v := .int .i64 FE) rfl cb101 rfl rfl (fun wx hm => (by rw [hFE]; exact eventsFault_any sl cl vl pl sA cA vA pA sn sc 4 cc vn vc pn pc el eA en ec wx (hm.fact 0 rfl).1 (hm.fact 0 rfl).2.1 (hm.fact 0 rfl).2.2.1 (hm.fact 0 rfl).2.2.2 hsok hcok hvok hpok (by omega) (by omega) (by omega) (by omega) (SlT.ofOwn ev_len (hm.ownI 0 rfl) hell) heok (by omega) hpnc)) ?_
 refine wl_nil ?_
 refine nw 8 31 (fun _ hm => ⟨hm.bl 0, hm.fa 0, trivial⟩) fun z => ?_
 refine wa1 5 rfl ?_
 refine wl_stores (cs' := [.slice sA sn sc, .slice cA 4 cc, .slice vA vn vc, .slice pA pn pc]) 1 rz31 rfl rfl rfl rfl rfl rfl rfl rfl ?_
 refine wl_nil ?_
 refine nw 8 63 (fun _ hm => ⟨hm.bl 0, hm.fa 0, trivial⟩) fun z => ?_
 refine wt 6 8 127 rfl z (ov_assign rfl) ?_
 refine wt 7 8 255 rfl z (ov_assign rfl) ?_
 refine wa_done (by kernel_rfl) ?_
 refine nx_then ?_
 refine gw_ret ?_
 refine nx_retctt 1 rfl rz31 rfl rfl rfl rfl rfl fun wx hm => ?_
 exact ⟨sA, cA, vA, pA, sn, sc, cc, vn, vc, pn, pc, sl, cl, vl, pl, eA, en, ec, el, by rw [hFE], hfl2, ⟨hell, heok, henq⟩, hm.k.more (by omega), hm.g, (hm.ownI 0 rfl), (hm.fact 0 rfl)⟩
end Go.Proofs.YtjecbkgjabnmoaaGreatDoor
namespace Go.Proofs.YtjecbkgjabnmoaaGreatDoor
open Go.RowKit
abbrev AMap := ByteArray → Option Sa
def encS (x : Sa) : Value := .agg #[.int .i64 x.st, .string x.sta, .int .i64 x.since]
def stepM (F : AMap) (x : Ev) : AMap := fPut F x.veh (stepS ((F x.veh).getD sa0) x)
def statesM (l : List Ev) (mt : Int) : AMap := (l.takeWhile fun x => decide (x.at_ ≤ mt)).foldl stepM fNil
theorem stepM_get (F : AMap) (x : Ev) (v : ByteArray) : ((stepM F x) v).getD sa0 = if (x.veh.toList == v.toList) = true then stepS ((F v).getD sa0) x else (F v).getD sa0 := by
  unfold stepM
  by_cases h : x.veh = v
  · subst h
    rw [fPut_same, if_pos (beq_self_eq_true _)]; rfl
  · rw [fPut_other _ _ (fun e => h e.symm), if_neg (fun e => h (bytes_eqb.1 e))]
theorem foldM_get (v : ByteArray) : ∀ (l : List Ev) (F : AMap), ((l.foldl stepM F) v).getD sa0 = lastS v l ((F v).getD sa0)
  | [], F => rfl
  | x :: r, F => by
    rw [List.foldl_cons, foldM_get v r, stepM_get]; rfl
theorem statesM_eq {l : List Ev} {v : ByteArray} {mt : Int} (hl : ESort l) (h0 : 0 ≤ mt) : ((statesM l mt) v).getD sa0 = stateR l v mt := by
  rw [stateR_eq hl h0]; exact foldM_get v _ fNil
theorem stM_from {l : List Ev} {mt : Int} {F : AMap} {i : Nat} {x : Ev} (h : l[i]? = some x) (hp : x.at_ ≤ mt) : ((l.drop i).takeWhile fun x => decide (x.at_ ≤ mt)).foldl stepM F = ((l.drop (i + 1)).takeWhile fun x => decide (x.at_ ≤ mt)).foldl stepM (stepM F x) := by
  obtain ⟨hi, rfl⟩ := List.getElem?_eq_some_iff.1 h
  rw [List.drop_eq_getElem_cons hi, List.takeWhile_cons, if_pos (decide_eq_true hp)]; rfl
theorem stM_stop {l : List Ev} {mt : Int} {F : AMap} {i : Nat} {x : Ev} (h : l[i]? = some x) (hp : ¬ x.at_ ≤ mt) : ((l.drop i).takeWhile fun x => decide (x.at_ ≤ mt)).foldl stepM F = F := by
  obtain ⟨hi, rfl⟩ := List.getElem?_eq_some_iff.1 h
  rw [List.drop_eq_getElem_cons hi, List.takeWhile_cons, if_neg (by simpa using hp)]; rfl
theorem stM_end {l : List Ev} {mt : Int} {F : AMap} {i : Nat} (h : l.length ≤ i) : ((l.drop i).takeWhile fun x => decide (x.at_ ≤ mt)).foldl stepM F = F := by
  rw [List.drop_eq_nil_of_le h]; rfl
theorem states_any (el : List Ev) (eA : Option Addr) (en ec : Nat) (mt : Int) (w : World) (hl : SlT evEnc 5 92 w eA en el) (hen : en ≤ 100000) :
  Calls Tryz.prog 121 #[.slice eA en ec, .int .i64 mt] w (fun e w' => ∃ g : Nat, e = .returned (.map (some g)) ∧ MapF encS 0 g (statesM el mt) w' ∧ w.grownBy w' none) := by
 refine gw_enter ⟨33, w, none, []⟩ Tryz.func121 rfl Tryz.ntmps121 rfl (mem0 (X := [SlOld evEnc 5 92 w.heap.size none eA en el]) (allF_cons hl.old allF_nil) (allL_cons SlOld.lasts allL_nil)) ?_
 refine sr_ ?_
 have hlen := hl.len
 obtain ⟨W, hW⟩ : ∃ z, z = statesM el mt := ⟨_, rfl⟩
 rw [← hW]
 refine sg_ rfl (nn_ (sr_ ?_))
 refine wl_makeMapF (enc := encS) rfl fun g1 => ?_
 refine sg_ rfl (nn_ (gw_seq (sr_ (mv_ rfl (wl_ov (ov_len es48 rfl) rfl (mv_ rfl (nn_ (gw_block ?_))))))))
 refine gw_loop (γ := Nat × AMap) (fun gg => gg.1 ≤ en ∧ ((el.drop gg.1).takeWhile fun x => decide (x.at_ ≤ mt)).foldl stepM gg.2 = W) (fun gg => [(1, .int .i64 mt), (4, .map none), (5, .map (some g1)), (9, .slice eA en ec), (10, .int .i64 ((en : Nat) : Int)), (11, .int .i64 ((gg.1 : Nat) : Int))]) (fun gg => fun _ => True) (fun gg => []) (fun gg => []) (fun gg => [MapF encS w.heap.size g1 (gg.2), SlOld evEnc 5 92 w.heap.size none eA en el]) (fun gg => en - gg.1) (0, fNil) ⟨Nat.zero_le _, hW.symm⟩ ⟨rfl, rfl, rfl, rfl, rfl, rfl, trivial⟩ (fun _ hm => hm.pick [] [] [0, 1] rfl rfl) ?_
 rintro ⟨i, F⟩ hinv
 replace hinv : i ≤ en ∧ ((el.drop i).takeWhile fun x => decide (x.at_ ≤ mt)).foldl stepM F = W := hinv
 dsimp only
 refine sr_ ?_
 obtain ⟨hi0, hF⟩ := hinv
 refine wl_ov (ov_lss rfl rfl) rfl (nn_ (gw_seq ?_))
 refine gw_cond rfl (fun hh => ?_) (fun hh => ?_)
 ·have hi : ((i : Nat) : Int) < ((en : Nat) : Int) := by simpa using hh
  clear hh
  refine gw_skip (nx_then (gw_seq (gw_block (sr_ ?_))))
  obtain ⟨b, off, hA, _, _⟩ := hl.get (by omega)
  subst hA
  obtain ⟨x, hx⟩ : ∃ x, el[i]? = some x := ⟨_, List.getElem?_eq_getElem (by omega)⟩
  obtain ⟨e0, e1, e2, e3, e4⟩ := x
  refine wl_ov (ov_index (j := i) es48 rfl rfl (by omega)) rfl ?_
  refine wl_ov (ov_elem (vs := [.int .i64 e0, .string e1, .string e2, .int .i64 e3, .string e4]) rz92 rfl (fun _ hm => (hm.fact 1 rfl).1) hx rfl rfl) rfl ?_
  refine wl_alloc zc92 rfl fun g2 => ?_
  refine wl_stores (cs' := [.int .i64 e0, .string e1, .string e2, .int .i64 e3, .string e4]) 0 rz92 rfl rfl rfl rfl rfl rfl rfl rfl ?_
  refine nn_ (gw_seq (sr_ (fd_ fo92_0 rfl rfl (lk_ sc3 0 rfl rfl rfl (mv_ rfl ?_)))))
  refine wl_ov (ov_gtr rfl rfl) rfl ?_
  refine nn_ ?_
  refine gw_cond rfl (fun hh => ?_) (fun hh => ?_)
  ·have h1 : mt < e0 := by simpa using hh
   clear hh
   refine gw_exit ?_
   refine nx_then_exit ?_
   refine nx_blk_on rfl ?_
   refine nx_then_exit (nx_then_exit ?_)
   refine nx_blk_here ?_
   refine nx_then (sr_ (mv_ rfl (sg_ rfl (nn_ ?_))))
   refine gw_ret ?_
   have hFW : F = W := (stM_stop hx (show ¬ (⟨e0, e1, e2, e3, e4⟩ : Ev).at_ ≤ mt by dsimp only; omega)).symm.trans hF
   refine nx_ret1 rfl rfl fun wx hm => ?_
   exact ⟨g1, rfl, (by have h := (hm.fact 0 rfl); rw [← hFW]; exact h.lower (Nat.zero_le _)), hm.g⟩
  have h1 : ¬ (mt < e0) := by simpa using hh
  clear hh
  refine gw_skip (nx_then ?_)
  have hst := (stM_from (F := F) hx (show (⟨e0, e1, e2, e3, e4⟩ : Ev).at_ ≤ mt by dsimp only; omega)).symm.trans hF
  obtain ⟨S0, hS0⟩ : ∃ z, z = ((F) e1).getD sa0 := ⟨_, rfl⟩
  obtain ⟨s0, s1, s2⟩ := S0
  obtain ⟨T0, hT0⟩ : ∃ z, z = stepS ⟨s0, s1, s2⟩ (⟨e0, e1, e2, e3, e4⟩ : Ev) := ⟨_, rfl⟩
  obtain ⟨t0, t1, t2⟩ := T0
  refine gd (fun wz => Blk wz g2 92 [.int .i64 e0, .string e1, .string e2, .int .i64 e3, .string e4] ∧ (SlOld evEnc 5 92 w.heap.size none (some ⟨b, off, none⟩) en el) wz ∧ True) mixed (fun _ hm => ⟨hm.bl 0, hm.fa 1, trivial⟩) fun z => ?_
  refine wt 0 13 1 rfl z (ov_move rfl) ?_
  refine wt 1 13 3 rfl z (ov_field fo92_1 rfl rfl) ?_
  refine wt 2 13 7 rfl z (ov_load sc9 rfl (fun _ hm => hm.1) rfl) ?_
  refine wt 3 13 15 rfl z (ov_move rfl) ?_
  refine wt 4 13 31 rfl z (ov_field fo92_1 rfl rfl) ?_
  refine wt 5 13 63 rfl z (ov_load sc9 rfl (fun _ hm => hm.1) rfl) ?_
  refine wt 7 13 191 rfl z (ov_loads rz92 rfl (fun _ hm => hm.1) rfl rfl) ?_
  refine wa1 6 rfl ?_
  refine wl_ov (ov_lookF (enc := encS) (k := 9) (e := 132) sa0 (by kernel_rfl) (by kernel_rfl) (by kernel_rfl) rfl rfl (fun _ hm => (hm.fact 0 rfl))) rfl ?_
  refine wl_set 26 (v' := .agg #[.int .i64 s0, .string s1, .int .i64 s2]) rfl (congrArg encS hS0.symm) ?_
  refine wl_nil ?_
  refine nw 13 255 (fun _ hm => ⟨hm.bl 0, hm.fa 1, trivial⟩) fun z => ?_
  refine wa1 8 rfl ?_
  refine wl_callv (v := .tuple #[.agg #[.int .i64 t0, .string t1, .int .i64 t2], .bool (goodB ⟨s0, s1, s2⟩ (⟨e0, e1, e2, e3, e4⟩ : Ev))]) rfl cb105 rfl rfl (fun wx hm => (by have h := follow_any s0 s1 s2 e0 e1 e2 e3 e4 wx; rw [← hT0] at h; exact h)) ?_
  refine wl_nil ?_
  refine nw 13 511 (fun _ hm => ⟨hm.bl 0, hm.fa 1, trivial⟩) fun z => ?_
  refine wt 9 13 1023 rfl z (ov_move rfl) ?_
  refine wt 10 13 2047 rfl z (ov_extract rfl rfl) ?_
  refine wt 11 13 4095 rfl z (ov_extract rfl rfl) ?_
  refine wa1 12 rfl ?_
  refine wl_mapPut (enc := encS) (v := (⟨t0, t1, t2⟩ : Sa)) (k := 9) (e := 132) (X' := [SlOld evEnc 5 92 w.heap.size none (some ⟨b, off, none⟩) en el]) 0 (by kernel_rfl) (by kernel_rfl) rfl rfl rfl rfl (far_cons (i := 1) SlOld.far rfl far_nil) ?_
  refine wl_nil ?_
  refine nw 13 8191 (fun _ hm => ⟨hm.bl 0, hm.fa 1, trivial⟩) fun z => ?_
  refine wa_done (by kernel_rfl) ?_
  refine nx_blk_nrm (nx_then (gw_region (ad_ rfl rfl (mv_ rfl (wl_nil ?_)))))
  have hwr : stepM F (⟨e0, e1, e2, e3, e4⟩ : Ev) = fPut (F) e1 (⟨t0, t1, t2⟩ : Sa) := by unfold stepM; dsimp only; rw [← hS0, ← hT0]
  exact nx_round (i + 1, fPut (F) e1 (⟨t0, t1, t2⟩ : Sa)) ⟨by dsimp only; omega, by rw [← hwr]; exact hst⟩ (by dsimp only; omega) ⟨rfl, rfl, rfl, rfl, rfl, (some_int (by omega)), trivial⟩ (fun _ hm => hm.pick [] [] [0, 1] rfl rfl)
 have hi : ¬ (((i : Nat) : Int) < ((en : Nat) : Int)) := by simpa using hh
 clear hh
 refine gw_exit ?_
 refine nx_then_exit (nx_then_exit ?_)
 refine nx_blk_here ?_
 refine nx_then (sr_ (mv_ rfl (sg_ rfl (nn_ ?_))))
 refine gw_ret ?_
 have hFW : F = W := (stM_end (by omega)).symm.trans hF
 refine nx_ret1 rfl rfl fun wx hm => ?_
 exact ⟨g1, rfl, (by have h := (hm.fact 0 rfl); rw [← hFW]; exact h.lower (Nat.zero_le _)), hm.g⟩
end Go.Proofs.YtjecbkgjabnmoaaGreatDoor
namespace Go.Proofs.YtjecbkgjabnmoaaGreatDoor
open Go.RowKit
section
variable {α : Type}
/-- One is put into a list that is sorted from behind. -/
def insR (lt : α → α → Bool) (x : α) : List α → List α
  | [] => [x]
  | y :: r => if lt x y = true then y :: insR lt x r else x :: y :: r
theorem insR_mem {lt : α → α → Bool} {x z : α} : ∀ {l : List α}, z ∈ insR lt x l → z = x ∨ z ∈ l
  | [], h => .inl (List.mem_singleton.1 h)
  | y :: r, h => by
    unfold insR at h
    split at h
    · rcases List.mem_cons.1 h with rfl | h
      · exact .inr (List.mem_cons_self ..)
      · rcases insR_mem h with h | h
        · exact .inl h
        · exact .inr (List.mem_cons_of_mem _ h)
    · rcases List.mem_cons.1 h with h | h
      · exact .inl h
      · exact .inr h
theorem insR_len {lt : α → α → Bool} {x : α} : ∀ {l : List α}, (insR lt x l).length = l.length + 1
  | [] => rfl
  | y :: r => by
    have := insR_len (lt := lt) (x := x) (l := r)
    unfold insR
    split
    · rw [List.length_cons, this, List.length_cons]
    · rw [List.length_cons]
theorem sink_ins {lt : α → α → Bool} : ∀ {j : Nat} {l : List α} {x : α}, l[j]? = some x → sink lt j l = (insR lt x (l.take j).reverse).reverse ++ l.drop (j + 1)
  | 0, l, x, h => by
    obtain ⟨h1, rfl⟩ := List.getElem?_eq_some_iff.1 h
    show l = [l[0]] ++ l.drop 1
    rw [List.singleton_append, ← List.drop_eq_getElem_cons h1, List.drop_zero]
  | j + 1, l, x, h => by
    obtain ⟨h1, hx⟩ := List.getElem?_eq_some_iff.1 h
    obtain ⟨y, hy⟩ : ∃ y, l[j]? = some y := ⟨_, List.getElem?_eq_getElem (by omega)⟩
    have ht : (l.take (j + 1)).reverse = y :: (l.take j).reverse := by
      rw [List.take_add_one, hy]; simp
    rw [ht]
    by_cases hl : lt x y = true
    · have hs : ((l.set (j + 1) y).set j x)[j]? = some x := List.getElem?_set_self (by rw [List.length_set]; omega)
      rw [sink_yes h hy hl, sink_ins hs]
      have e1 : ((l.set (j + 1) y).set j x).take j = l.take j := by
        rw [List.take_set_of_le (by omega), List.take_set_of_le (by omega)]
      have e2 : ((l.set (j + 1) y).set j x).drop (j + 1) = y :: l.drop (j + 2) := by
        rw [List.drop_set_of_lt (by omega), List.drop_eq_getElem_cons (by rw [List.length_set]; omega), List.getElem_set_self, List.drop_set_of_lt (by omega)]
      rw [e1, e2]
      unfold insR
      rw [if_pos hl]; simp
      cases (l.take j).reverse <;> rfl
    · have hl2 : lt x y = false := by simpa using hl
      rw [sink_no h hy hl2]
      unfold insR
      rw [if_neg hl]
      obtain ⟨h2, hy2⟩ := List.getElem?_eq_some_iff.1 hy
      conv => lhs; rw [← List.take_append_drop j l, List.drop_eq_getElem_cons h2, List.drop_eq_getElem_cons h1, hx, hy2]
      simp
theorem isortF_fold {lt : α → α → Bool} : ∀ (f i : Nat) (l : List α), i + f = l.length → isortF lt f i l = ((l.drop i).foldl (fun a x => insR lt x a) (l.take i).reverse).reverse
  | 0, i, l, h => by
    rw [List.drop_eq_nil_of_le (by omega), List.take_of_length_le (by omega)]
    show l = l.reverse.reverse
    rw [List.reverse_reverse]
  | f + 1, i, l, h => by
    obtain ⟨x, hx⟩ : ∃ x, l[i]? = some x := ⟨_, List.getElem?_eq_getElem (by omega)⟩
    obtain ⟨h1, hx1⟩ := List.getElem?_eq_some_iff.1 hx
    have hlen : (insR lt x (l.take i).reverse).reverse.length = i + 1 := by
      rw [List.length_reverse, insR_len, List.length_reverse, List.length_take]; omega
    show isortF lt f (i + 1) (sink lt i l) = _
    rw [isortF_fold f (i + 1) (sink lt i l) (by rw [sink_len]; omega), sink_ins hx]
    rw [show i + 1 = (insR lt x (l.take i).reverse).reverse.length from hlen.symm, List.drop_left, List.take_left, List.reverse_reverse, hlen, List.drop_eq_getElem_cons h1, hx1]
    rfl
theorem isort_fold {lt : α → α → Bool} (l : List α) : isort lt l = (l.foldl (fun a x => insR lt x a) []).reverse := by
  cases l with
  | nil => rfl
  | cons x r =>
    unfold isort
    rw [isortF_fold _ _ _ (by rw [List.length_cons]; omega)]
    rfl
theorem insR_pair {lt : α → α → Bool} {R : α → α → Prop} (tr : ∀ a b c, R a b → R b c → R a c) {x : α} : ∀ {l : List α}, l.Pairwise (fun a b => R b a) → (∀ y ∈ l, (lt x y = true → R x y) ∧ (lt x y = false → R y x)) → (insR lt x l).Pairwise (fun a b => R b a)
  | [], _, _ => List.pairwise_singleton _ _
  | y :: r, hp, hc => by
    obtain ⟨hp1, hp2⟩ := List.pairwise_cons.1 hp
    have hy := hc y (List.mem_cons_self ..)
    unfold insR
    split
    · rename_i h
      refine List.pairwise_cons.2 ⟨fun z hz => ?_, insR_pair (R := R) tr hp2 fun z hz => hc z (List.mem_cons_of_mem _ hz)⟩
      rcases insR_mem hz with rfl | hz
      · exact hy.1 h
      · exact hp1 z hz
    · rename_i h
      have h2 := hy.2 (by simpa using h)
      refine List.pairwise_cons.2 ⟨fun z hz => ?_, hp⟩
      rcases List.mem_cons.1 hz with rfl | hz
      · exact h2
      · exact tr _ _ _ (hp1 z hz) h2
theorem fold_pair {lt : α → α → Bool} {R : α → α → Prop} (tr : ∀ a b c, R a b → R b c → R a c) : ∀ {l acc : List α}, acc.Pairwise (fun a b => R b a) → (∀ y ∈ acc, ∀ x ∈ l, (lt x y = true → R x y) ∧ (lt x y = false → R y x)) → l.Pairwise (fun y x => (lt x y = true → R x y) ∧ (lt x y = false → R y x)) → (l.foldl (fun a x => insR lt x a) acc).Pairwise (fun a b => R b a)
  | [], _, h, _, _ => h
  | x :: r, acc, h, hc, hp => by
    obtain ⟨hp1, hp2⟩ := List.pairwise_cons.1 hp
    refine fold_pair (R := R) tr (l := r) (acc := insR lt x acc) (insR_pair (R := R) tr h fun y hy => hc y hy x (List.mem_cons_self ..)) (fun y hy z hz => ?_) hp2
    rcases insR_mem hy with rfl | hy
    · exact hp1 z hz
    · exact hc y hy z (List.mem_cons_of_mem _ hz)
/-- Sorting by insertion is stable, and sorts. -/
theorem isort_pair {lt : α → α → Bool} {R : α → α → Prop} (tr : ∀ a b c, R a b → R b c → R a c) {l : List α} (hp : l.Pairwise (fun y x => (lt x y = true → R x y) ∧ (lt x y = false → R y x))) : (isort lt l).Pairwise R := by
  rw [isort_fold, List.pairwise_reverse]
  exact fold_pair (R := R) tr List.Pairwise.nil (fun _ h => by cases h) hp
theorem filt_at {β : Type} {p : α → Bool} {f : α → β} {l : List α} {i : Nat} {x : α} (h : l[i]? = some x) : ((l.take (i + 1)).filter p).map f = ((l.take i).filter p).map f ++ (if p x = true then [f x] else []) := by
  rw [List.take_add_one, h, Option.toList_some, List.filter_append, List.map_append]
  by_cases hp : p x = true
  · rw [if_pos hp, List.filter_cons_of_pos hp]; rfl
  · rw [if_neg hp, List.filter_cons_of_neg hp]; rfl
end
theorem path_less {l : List Cs} (hc : Closed l) (hl : loopB l l.length = false) {k : ByteArray} (hk : 0 ≤ ixP (csP k) l 0) : (pathN l l.length k).length + 1 ≤ l.length := by
  have hno : ∀ x ∈ l, ¬ x.key ∈ pathN l l.length x.key := fun x hx hm => by
    have : loopB l l.length = true := List.any_eq_true.2 ⟨x, hx, inK_mem.2 hm⟩
    rw [hl] at this; cases this
  have hin : ∀ u ∈ k :: pathN l l.length k, 0 ≤ ixP (csP u) l 0 := fun u hu => by
    rcases List.mem_cons.1 hu with rfl | hu
    · exact hk
    · exact path_in hc _ _ u hu
  have hbound : ∀ x ∈ (k :: pathN l l.length k).map (fun u => (ixP (csP u) l 0).toNat), x < l.length := fun x hx => by
    obtain ⟨u, hu, rfl⟩ := List.mem_map.1 hx
    have h1 := hin u hu
    have h2 := ixP_bound (p := csP u) l
    omega
  have hsame : ∀ u ∈ k :: pathN l l.length k, ∀ v ∈ k :: pathN l l.length k, (ixP (csP u) l 0).toNat = (ixP (csP v) l 0).toNat → u = v := fun u hu v hv he => by
    obtain ⟨x, hx, _, hxu⟩ := ix_key (hin u hu)
    obtain ⟨y, hy, _, hyv⟩ := ix_key (hin v hv)
    rw [he, hy] at hx
    injection hx with hx
    subst hx
    exact hxu.symm.trans hyv
  have hnd : (k :: pathN l l.length k).Pairwise (fun a b => a ≠ b) := by
    refine List.pairwise_cons.2 ⟨fun u hu e => ?_, ?_⟩
    · subst e
      obtain ⟨x, _, hx, rfl⟩ := ix_key hk
      exact hno x hx hu
    · rw [List.pairwise_iff_getElem]
      intro i j hi hj hij he
      have hxi : (pathN l l.length k)[i]? = some ((pathN l l.length k)[i]) := List.getElem?_eq_getElem hi
      have hxj : (pathN l l.length k)[j]? = some ((pathN l l.length k)[j]) := List.getElem?_eq_getElem hj
      rw [← he] at hxj
      generalize (pathN l l.length k)[i] = u at *
      have hd := pathN_drop l i _ _ u hxi
      have hmem : u ∈ pathN l (l.length - (i + 1)) u := by
        rw [← hd]
        refine List.mem_of_getElem? (i := j - (i + 1)) ?_
        rw [List.getElem?_drop, show i + 1 + (j - (i + 1)) = j by omega]; exact hxj
      have hb := pathN_len l l.length k
      have hmore := pathN_more l (l.length - (i + 1)) u (i + 1)
      rw [show l.length - (i + 1) + (i + 1) = l.length by omega] at hmore
      rw [hmore] at hmem
      obtain ⟨x, _, hx, rfl⟩ := ix_key (path_in hc _ _ u (List.mem_of_getElem? hxi))
      exact hno x hx (List.mem_of_mem_take hmem)
  have hpair : ((k :: pathN l l.length k).map (fun u => (ixP (csP u) l 0).toNat)).Pairwise (fun a b => a ≠ b) := by
    rw [List.pairwise_map]
    exact hnd.imp_of_mem fun {a b} ha hb hab he => hab (hsame a ha b hb he)
  have := pigeon _ _ hbound hpair
  rw [List.length_map, List.length_cons] at this
  exact this
theorem steps_lt {l : List Cs} (hc : Closed l) (hl : loopB l l.length = false) {a : ByteArray} (b : ByteArray) (hk : 0 ≤ ixP (csP a) l 0) : stepsV l a b < (l.length : Int) := by
  have h1 := path_less hc hl hk
  have h2 := ixP_bound (p := fun y => b.toList == y.toList) (pathN l l.length a)
  unfold stepsV
  split
  · omega
  · split <;> omega
def readyB (el : List Ev) (mt : Int) (st : ByteArray) (v : Vh) : Bool := decide ((stateR el v.key mt).st = 1) && (stateR el v.key mt).sta.toList == st.toList
def goodV (cl : List Cs) (c : ByteArray) (el : List Ev) (mt : Int) (st : ByteArray) (v : Vh) : Bool := readyB el mt st v && decide (0 ≤ stepsV cl c v.cls)
def rdL (cl : List Cs) (c : ByteArray) (el : List Ev) (mt : Int) (st : ByteArray) (vl : List Vh) : List ByteArray := (vl.filter (goodV cl c el mt st)).map Vh.key
def thatB (cl : List Cs) (c : ByteArray) (el : List Ev) (mt : Int) (st : ByteArray) (n : Nat) (v : Vh) : Bool := decide (stepsV cl c v.cls = n) && readyB el mt st v
def rfL (cl : List Cs) (c : ByteArray) (el : List Ev) (mt : Int) (st : ByteArray) (vl : List Vh) (n : Nat) : List ByteArray := (vl.filter (thatB cl c el mt st n)).map Vh.key
def rfsL (cl : List Cs) (c : ByteArray) (el : List Ev) (mt : Int) (st : ByteArray) (vl : List Vh) (N : Nat) : List ByteArray := (List.range N).flatMap (rfL cl c el mt st vl)
def idB (el : List Ev) (mt least : Int) (v : Vh) : Bool := decide ((stateR el v.key mt).st = 1) && decide (least ≤ mt - (stateR el v.key mt).since)
def idL (el : List Ev) (mt least : Int) (vl : List Vh) : List ByteArray := (vl.filter (idB el mt least)).map Vh.key
theorem id_at {el : List Ev} {mt least : Int} {vl : List Vh} {i : Nat} {x : Vh} (h : vl[i]? = some x) : idL el mt least (vl.take (i + 1)) = idL el mt least (vl.take i) ++ (if idB el mt least x = true then [x.key] else []) := filt_at h
theorem rd_at {cl : List Cs} {c : ByteArray} {el : List Ev} {mt : Int} {st : ByteArray} {vl : List Vh} {i : Nat} {x : Vh} (h : vl[i]? = some x) : rdL cl c el mt st (vl.take (i + 1)) = rdL cl c el mt st (vl.take i) ++ (if goodV cl c el mt st x = true then [x.key] else []) := filt_at h
theorem rf_at {cl : List Cs} {c : ByteArray} {el : List Ev} {mt : Int} {st : ByteArray} {n : Nat} {vl : List Vh} {i : Nat} {x : Vh} (h : vl[i]? = some x) : rfL cl c el mt st (vl.take (i + 1)) n = rfL cl c el mt st (vl.take i) n ++ (if thatB cl c el mt st n x = true then [x.key] else []) := filt_at h
theorem stgs_bd {v : ByteArray} : ∀ {l : List Ev} {s : Sa}, (∀ x ∈ l, EvOk x) → ∀ z ∈ stgs v l s, -4000000000000000000 ≤ z.since ∧ z.since ≤ 4000000000000000000
  | [], _, _, z, hz => by cases hz
  | x :: r, s, h, z, hz => by
    have hr : ∀ y ∈ r, EvOk y := fun y hy => h y (List.mem_cons_of_mem _ hy)
    unfold stgs at hz
    split at hz
    · split at hz
      · rcases List.mem_cons.1 hz with rfl | hz
        · rw [nextS_since]; exact (h x (List.mem_cons_self ..)).1
        · exact stgs_bd hr z hz
      · exact stgs_bd hr z hz
    · exact stgs_bd hr z hz
theorem stateR_bd {l : List Ev} {v : ByteArray} {at_ : Int} (h : ∀ x ∈ l, EvOk x) : -4000000000000000000 ≤ (stateR l v at_).since ∧ (stateR l v at_).since ≤ 4000000000000000000 := by
  unfold stateR
  cases hf : (stages l v).reverse.find? (fun s => decide (s.since ≤ at_)) with
  | none => exact ⟨by decide, by decide⟩
  | some z =>
    rcases List.mem_cons.1 (List.mem_reverse.1 (List.mem_of_find?_eq_some hf)) with rfl | hz
    · exact ⟨by decide, by decide⟩
    · exact stgs_bd h z hz
theorem rfs_succ {cl : List Cs} {c : ByteArray} {el : List Ev} {mt : Int} {st : ByteArray} {vl : List Vh} {N : Nat} : rfsL cl c el mt st vl (N + 1) = rfsL cl c el mt st vl N ++ rfL cl c el mt st vl N := by
  unfold rfsL
  rw [List.range_succ, List.flatMap_append]; simp
def FarOk (cl : List Cs) (c : ByteArray) (el : List Ev) (mt : Int) (st : ByteArray) (F : ByteArray → Option Int) (l : List Vh) : Prop := ∀ v ∈ l, goodV cl c el mt st v = true → F v.key = some (stepsV cl c v.cls)
theorem far_put {cl : List Cs} {c : ByteArray} {el : List Ev} {mt : Int} {st : ByteArray} {F : ByteArray → Option Int} {vl : List Vh} {i : Nat} {x : Vh} (h : FarOk cl c el mt st F (vl.take i)) (hr : Rise vl) (hx : vl[i]? = some x) : FarOk cl c el mt st (fPut F x.key (stepsV cl c x.cls)) (vl.take (i + 1)) := fun v hv hg => by
  rw [List.take_add_one, hx, Option.toList_some] at hv
  rcases List.mem_append.1 hv with hv | hv
  · obtain ⟨j, hj⟩ := List.getElem?_of_mem hv
    have hji : j < i := by
      have := (List.getElem?_eq_some_iff.1 hj).1
      rw [List.length_take] at this; omega
    rw [List.getElem?_take, if_pos hji] at hj
    have := rise_lt hr hji hj hx
    rw [fPut_other _ _ (fun e => bl_ne this (by rw [e]))]
    exact h v hv hg
  · rw [List.mem_singleton.1 hv, fPut_same]
theorem far_skip {cl : List Cs} {c : ByteArray} {el : List Ev} {mt : Int} {st : ByteArray} {F : ByteArray → Option Int} {vl : List Vh} {i : Nat} {x : Vh} (h : FarOk cl c el mt st F (vl.take i)) (hx : vl[i]? = some x) (hn : goodV cl c el mt st x = false) : FarOk cl c el mt st F (vl.take (i + 1)) := fun v hv hg => by
  rw [List.take_add_one, hx, Option.toList_some] at hv
  rcases List.mem_append.1 hv with hv | hv
  · exact h v hv hg
  · rw [List.mem_singleton.1 hv, hn] at hg; cases hg
def farLt (F : ByteArray → Option Int) (a b : ByteArray) : Bool := decide (cmpI ((F a).getD 0) ((F b).getD 0) < 0)
def farR (F : ByteArray → Option Int) (a b : ByteArray) : Prop := (F a).getD 0 < (F b).getD 0 ∨ ((F a).getD 0 = (F b).getD 0 ∧ Go.Op.bytesLess a.toList b.toList = true)
theorem farR_tr {F : ByteArray → Option Int} {a b c : ByteArray} (h1 : farR F a b) (h2 : farR F b c) : farR F a c := by
  rcases h1 with h1 | ⟨h1, k1⟩ <;> rcases h2 with h2 | ⟨h2, k2⟩
  · exact .inl (by omega)
  · exact .inl (by omega)
  · exact .inl (by omega)
  · exact .inr ⟨by omega, bl_trans k1 k2⟩
theorem farR_ne {F : ByteArray → Option Int} {a b : ByteArray} (h : farR F a b) : a ≠ b := fun e => by
  subst e
  rcases h with h | ⟨_, h⟩
  · omega
  · rw [bl_irrefl] at h; cases h
theorem farR_anti {F : ByteArray → Option Int} {a b : ByteArray} (h1 : farR F a b) (h2 : farR F b a) : a = b := absurd rfl (farR_ne (farR_tr h1 h2))
theorem keys_rise {p : Vh → Bool} {vl : List Vh} (hr : Rise vl) : ((vl.filter p).map Vh.key).Pairwise (fun a b => Go.Op.bytesLess a.toList b.toList = true) := by
  rw [List.pairwise_map]
  exact hr.filter p
theorem ready_eq {cl : List Cs} {c : ByteArray} {el : List Ev} {mt : Int} {st : ByteArray} {F : ByteArray → Option Int} {vl : List Vh} (hr : Rise vl) (hc : Closed cl) (hl : loopB cl cl.length = false) (hk : 0 ≤ ixP (csP c) cl 0) (hF : FarOk cl c el mt st F vl) : isort (farLt F) (rdL cl c el mt st vl) = rfsL cl c el mt st vl cl.length := by
  have hin : ∀ n, ∀ x ∈ rfL cl c el mt st vl n, (F x).getD 0 = (n : Int) ∧ x ∈ rdL cl c el mt st vl := fun n x hx => by
    obtain ⟨v, hv, rfl⟩ := List.mem_map.1 hx
    obtain ⟨hv1, hv2⟩ := List.mem_filter.1 hv
    unfold thatB at hv2
    rw [Bool.and_eq_true, decide_eq_true_eq] at hv2
    have hg : goodV cl c el mt st v = true := by
      unfold goodV
      rw [hv2.2, hv2.1]; simp
    exact ⟨by rw [hF v hv1 hg, hv2.1]; rfl, List.mem_map.2 ⟨v, List.mem_filter.2 ⟨hv1, hg⟩, rfl⟩⟩
  have h1 : (isort (farLt F) (rdL cl c el mt st vl)).Pairwise (farR F) := by
    refine isort_pair (R := farR F) (fun _ _ _ h1 h2 => farR_tr h1 h2) ((keys_rise hr).imp fun {y x} h => ⟨fun h2 => ?_, fun h2 => ?_⟩)
    · exact .inl (cmpI_neg.1 (of_decide_eq_true h2))
    · have h3 := of_decide_eq_false h2
      rw [cmpI_neg] at h3
      by_cases h4 : (F y).getD 0 < (F x).getD 0
      · exact .inl h4
      · exact .inr ⟨by omega, h⟩
  have h2 : (rfsL cl c el mt st vl cl.length).Pairwise (farR F) := by
    unfold rfsL
    rw [List.pairwise_flatMap]
    refine ⟨fun n _ => ?_, List.pairwise_lt_range.imp fun {a b} hab x hx y hy => ?_⟩
    · refine (List.Pairwise.and_mem.1 (keys_rise (p := thatB cl c el mt st n) hr)).imp fun {a b} ⟨ha, hb, hab⟩ => .inr ⟨?_, hab⟩
      rw [(hin n a ha).1, (hin n b hb).1]
    · refine .inl ?_
      rw [(hin _ x hx).1, (hin _ y hy).1]; omega
  have hp : (isort (farLt F) (rdL cl c el mt st vl)).Perm (rfsL cl c el mt st vl cl.length) := by
    refine (List.perm_ext_iff_of_nodup (h1.imp fun h => farR_ne h) (h2.imp fun h => farR_ne h)).2 fun x => ?_
    rw [isort_mem]
    constructor
    · intro hx
      obtain ⟨v, hv, rfl⟩ := List.mem_map.1 hx
      obtain ⟨hv1, hv2⟩ := List.mem_filter.1 hv
      unfold goodV at hv2
      rw [Bool.and_eq_true, decide_eq_true_eq] at hv2
      have hlt := steps_lt hc hl v.cls hk
      refine List.mem_flatMap.2 ⟨(stepsV cl c v.cls).toNat, List.mem_range.2 (by omega), List.mem_map.2 ⟨v, List.mem_filter.2 ⟨hv1, ?_⟩, rfl⟩⟩
      unfold thatB
      rw [hv2.1, Bool.and_true]
      exact decide_eq_true (by omega)
    · intro hx
      obtain ⟨n, _, hn⟩ := List.mem_flatMap.1 hx
      exact (hin n x hn).2
  exact hp.eq_of_pairwise (le := farR F) (fun a b _ _ => farR_anti) h1 h2
end Go.Proofs.YtjecbkgjabnmoaaGreatDoor
namespace Go.Proofs.YtjecbkgjabnmoaaGreatDoor
open Go.RowKit
theorem b_ne_selfL (a : ByteArray) : (!(a.toList == a.toList)) = false := by simp
theorem nanL (a : ByteArray) (w : World) : Calls Tryz.prog 225 #[.string a] w (fun e w' => e = .returned (.bool false) ∧ w.grownBy w' none) := by
 refine gw_enter ⟨6, w, none, []⟩ Tryz.func225 rfl Tryz.ntmps225 rfl (mem0 (X := []) allF_nil allL_nil) ?_
 refine sr_ (sg_ rfl (nn_ (sr_ (mv_ rfl (mv_ rfl (wl_ov (ov_sneq rfl rfl) rfl ?_))))))
 refine wl_set 5 (v' := .bool false) rfl (congrArg Value.bool (b_ne_selfL a)) ?_
 refine sg_ rfl (nn_ ?_)
 refine gw_ret ?_
 refine nx_ret1 rfl rfl fun wx hm => ?_
 exact ⟨rfl, hm.g⟩
theorem cmpL (a b : ByteArray) (w : World) : Calls Tryz.prog 159 #[.string a, .string b] w (fun e w' => e = .returned (.int .i64 (cmpS a b)) ∧ w.grownBy w' none) := by
 refine gw_enter ⟨20, w, none, []⟩ Tryz.func159 rfl Tryz.ntmps159 rfl (mem0 (X := []) allF_nil allL_nil) ?_
 refine sr_ (sg_ rfl (nn_ (sr_ (mv_ rfl ?_))))
 refine wl_callv rfl cb225 rfl rfl (fun wx hm => (nanL _ wx)) ?_
 refine sg_ rfl (nn_ (sr_ (mv_ rfl ?_)))
 refine wl_callv rfl cb225 rfl rfl (fun wx hm => (nanL _ wx)) ?_
 refine sg_ rfl (nn_ (gw_seq (sr_ (mv_ rfl (nn_ (cf_ rfl (gw_skip (nx_then (gw_seq (gw_seq ?_))))))))))
 refine gw_region (mv_ rfl (nn_ (cf_ rfl (gw_skip (nx_then (gw_seq (sr_ (mv_ rfl (mv_ rfl ?_)))))))))
 refine wl_ov (ov_slss rfl rfl) rfl ?_
 refine nn_ ?_
 refine gw_cond rfl (fun hh => ?_) (fun hh => ?_)
 ·have h1 : (Op.bytesLess a.toList b.toList) = true := by simpa using hh
  clear hh
  refine sr_ (sg_ rfl ?_)
  refine wl_set 4 (v' := .int .i64 (-1)) rfl rfl ?_
  refine nn_ ?_
  refine gw_ret ?_
  refine nx_then_ret ?_
  refine nx_ret1 rfl rfl fun wx hm => ?_
  refine ⟨?_, hm.g⟩
  unfold cmpS; rw [if_pos h1]
 have h1 : (Op.bytesLess a.toList b.toList) = false := by simpa using hh
 clear hh
 refine gw_skip (nx_then (gw_seq (sr_ (mv_ rfl (mv_ rfl ?_)))))
 refine wl_ov (ov_sgtr rfl rfl) rfl ?_
 refine nn_ ?_
 refine gw_cond rfl (fun hh => ?_) (fun hh => ?_)
 ·have h2 : (Op.bytesLess a.toList b.toList || a.toList == b.toList) = false := by simpa only [Bool.not_eq_true', Bool.not_eq_false'] using hh
  clear hh
  refine sr_ (sg_ rfl (nn_ ?_))
  refine gw_ret ?_
  refine nx_then_ret ?_
  refine nx_ret1 rfl rfl fun wx hm => ?_
  refine ⟨?_, hm.g⟩
  unfold cmpS; rw [if_neg (by rw [h1]; decide), if_pos h2]
 have h2 : (Op.bytesLess a.toList b.toList || a.toList == b.toList) = true := by simpa only [Bool.not_eq_true', Bool.not_eq_false'] using hh
 clear hh
 refine gw_skip (nx_then (sr_ (sg_ rfl (nn_ ?_))))
 refine gw_ret ?_
 refine nx_ret1 rfl rfl fun wx hm => ?_
 refine ⟨?_, hm.g⟩
 unfold cmpS; rw [if_neg (by rw [h1]; decide), if_neg (by rw [h2]; decide)]
theorem hasL1 (gk : Nat) (w : World) (hk : Blk w gk 9 [.string ⟨#[115]⟩]) : Calls Tryz.prog 191 #[.agg #[.string ⟨#[115]⟩, .int .i64 0, .int .i64 0, .int .i64 0, .int .i64 0, .int .i64 0, .int .i64 0, .int .i64 0, .int .i64 0, .int .i64 0, .int .i64 0, .int .i64 0, .int .i64 0, .int .i64 0, .int .i64 0], .pointer (some ⟨gk, 0, none⟩)] w (fun e w' => e = .returned (.bool true) ∧ w.grownBy w' none) := by
 refine gw_enter ⟨8, w, none, []⟩ Tryz.func191 rfl Tryz.ntmps191 rfl (mem0 (X := [BlkOld w.heap.size none gk 9 [.string ⟨#[115]⟩]]) (allF_cons hk.old allF_nil) (allL_cons BlkOld.lasts allL_nil)) ?_
 refine sr_ ?_
 refine wl_box rfl rfl rfl fun g1 => ?_
 refine sg_ rfl (nn_ (sr_ (fd_ fo140_0 rfl rfl (lk_ sc9 0 rfl rfl rfl ?_))))
 refine wl_ov (ov_load (v := .string ⟨#[115]⟩) sc9 rfl (fun _ hm => (hm.fact 0 rfl).2) rfl) rfl ?_
 refine wl_ov (ov_seql rfl rfl) rfl ?_
 refine wl_set 7 (v' := .bool true) rfl (congrArg Value.bool (by decide +kernel)) ?_
 refine sg_ rfl (nn_ ?_)
 refine gw_ret ?_
 refine nx_ret1 rfl rfl fun wx hm => ?_
 exact ⟨rfl, hm.g⟩
theorem ixL (gs : Nat) (gk : Nat) (w : World) (hbs : Blk w gs 140 [.string ⟨#[115]⟩, .int .i64 0, .int .i64 0, .int .i64 0, .int .i64 0, .int .i64 0, .int .i64 0, .int .i64 0, .int .i64 0, .int .i64 0, .int .i64 0, .int .i64 0, .int .i64 0, .int .i64 0, .int .i64 0]) (hk : Blk w gk 9 [.string ⟨#[115]⟩]) : Calls Tryz.prog 127 #[.slice (some ⟨gs, 0, none⟩) 1 1, .func (.func 191) #[] #[.pointer (some ⟨gk, 0, none⟩)]] w (fun e w' => e = .returned (.int .i64 0) ∧ w.grownBy w' none) := by
 refine gw_enter ⟨19, w, none, []⟩ Tryz.func127 rfl Tryz.ntmps127 rfl (mem0 (X := [BlkOld w.heap.size none gs 140 [.string ⟨#[115]⟩, .int .i64 0, .int .i64 0, .int .i64 0, .int .i64 0, .int .i64 0, .int .i64 0, .int .i64 0, .int .i64 0, .int .i64 0, .int .i64 0, .int .i64 0, .int .i64 0, .int .i64 0, .int .i64 0], BlkOld w.heap.size none gk 9 [.string ⟨#[115]⟩]]) (allF_cons hbs.old (allF_cons hk.old allF_nil)) (allL_cons BlkOld.lasts (allL_cons BlkOld.lasts allL_nil))) ?_
 refine sr_ (sg_ rfl (nn_ (gw_seq (sr_ (mv_ rfl (wl_ov (ov_len es26 rfl) rfl ?_))))))
 refine wl_set 7 (v' := .int .i64 1) rfl rfl ?_
 refine mv_ rfl (nn_ (gw_block ?_))
 refine gw_rounds 4 ?_
 refine gr_next ?_
 refine sr_ (wl_ov (ov_lss rfl rfl) rfl ?_)
 refine wl_set 9 (v' := .bool true) rfl (congrArg Value.bool (by decide)) ?_
 refine nn_ (gw_seq (ct_ rfl (gw_skip (nx_then (gw_seq (gw_block (sr_ (mv_ rfl (sg_ rfl (nn_ ?_))))))))))
 refine sr_ (mv_ rfl (mv_ rfl (mv_ rfl ?_)))
 refine wl_ov (ov_index (j := 0) es26 rfl rfl (by decide)) rfl ?_
 refine wl_ov (ov_loads (vs := [.string ⟨#[115]⟩, .int .i64 0, .int .i64 0, .int .i64 0, .int .i64 0, .int .i64 0, .int .i64 0, .int .i64 0, .int .i64 0, .int .i64 0, .int .i64 0, .int .i64 0, .int .i64 0, .int .i64 0, .int .i64 0]) rz140 rfl (fun _ hm => (hm.fact 0 rfl).2) rfl rfl) rfl ?_
 refine wl_callv rfl cb191 rfl rfl (fun wx hm => (hasL1 gk wx (hm.fact 1 rfl).2)) ?_
 refine nn_ (ct_ rfl (sr_ (mv_ rfl (sg_ rfl (nn_ ?_)))))
 refine gw_ret ?_
 refine nx_blk_ret (nx_then_ret (nx_then_ret (nx_blk_ret (nx_then_ret ?_))))
 refine nx_ret1 rfl rfl fun wx hm => ?_
 exact ⟨rfl, hm.g⟩
theorem cfL (gs : Nat) (gk : Nat) (w : World) (hbs : Blk w gs 140 [.string ⟨#[115]⟩, .int .i64 0, .int .i64 0, .int .i64 0, .int .i64 0, .int .i64 0, .int .i64 0, .int .i64 0, .int .i64 0, .int .i64 0, .int .i64 0, .int .i64 0, .int .i64 0, .int .i64 0, .int .i64 0]) (hk : Blk w gk 9 [.string ⟨#[115]⟩]) : Calls Tryz.prog 190 #[.slice (some ⟨gs, 0, none⟩) 1 1, .func (.func 191) #[] #[.pointer (some ⟨gk, 0, none⟩)]] w (fun e w' => e = .returned (.bool true) ∧ w.grownBy w' none) := by
 refine gw_enter ⟨9, w, none, []⟩ Tryz.func190 rfl Tryz.ntmps190 rfl (mem0 (X := [BlkOld w.heap.size none gs 140 [.string ⟨#[115]⟩, .int .i64 0, .int .i64 0, .int .i64 0, .int .i64 0, .int .i64 0, .int .i64 0, .int .i64 0, .int .i64 0, .int .i64 0, .int .i64 0, .int .i64 0, .int .i64 0, .int .i64 0, .int .i64 0], BlkOld w.heap.size none gk 9 [.string ⟨#[115]⟩]]) (allF_cons hbs.old (allF_cons hk.old allF_nil)) (allL_cons BlkOld.lasts (allL_cons BlkOld.lasts allL_nil))) ?_
 refine sr_ (sg_ rfl (nn_ (sr_ (mv_ rfl (mv_ rfl ?_)))))
 refine wl_callv rfl cb127 rfl rfl (fun wx hm => (ixL gs gk wx (hm.fact 0 rfl).2 (hm.fact 1 rfl).2)) ?_
 refine wl_ov (ov_geq rfl rfl) rfl ?_
 refine wl_set 8 (v' := .bool true) rfl (congrArg Value.bool (by decide)) ?_
 refine sg_ rfl (nn_ ?_)
 refine gw_ret ?_
 refine nx_ret1 rfl rfl fun wx hm => ?_
 exact ⟨rfl, hm.g⟩
theorem hasStL (gs : Nat) (gc : Nat) (gv : Nat) (w : World) (hbs : Blk w gs 140 [.string ⟨#[115]⟩, .int .i64 0, .int .i64 0, .int .i64 0, .int .i64 0, .int .i64 0, .int .i64 0, .int .i64 0, .int .i64 0, .int .i64 0, .int .i64 0, .int .i64 0, .int .i64 0, .int .i64 0, .int .i64 0]) (hbc : Blk w gc 159 [.string ⟨#[99]⟩, .string ⟨#[]⟩]) (hbv : Blk w gv 77 [.string ⟨#[118]⟩, .string ⟨#[99]⟩]) : Calls Tryz.prog 120 #[.agg #[.slice (some ⟨gs, 0, none⟩) 1 1, .slice (some ⟨gc, 0, none⟩) 1 1, .slice (some ⟨gv, 0, none⟩) 1 1, .slice none 0 0], .string ⟨#[115]⟩] w (fun e w' => e = .returned (.bool true) ∧ w.grownBy w' none) := by
 refine gw_enter ⟨9, w, none, []⟩ Tryz.func120 rfl Tryz.ntmps120 rfl (mem0 (X := [BlkOld w.heap.size none gs 140 [.string ⟨#[115]⟩, .int .i64 0, .int .i64 0, .int .i64 0, .int .i64 0, .int .i64 0, .int .i64 0, .int .i64 0, .int .i64 0, .int .i64 0, .int .i64 0, .int .i64 0, .int .i64 0, .int .i64 0, .int .i64 0], BlkOld w.heap.size none gc 159 [.string ⟨#[99]⟩, .string ⟨#[]⟩], BlkOld w.heap.size none gv 77 [.string ⟨#[118]⟩, .string ⟨#[99]⟩]]) (allF_cons hbs.old (allF_cons hbc.old (allF_cons hbv.old allF_nil))) (allL_cons BlkOld.lasts (allL_cons BlkOld.lasts (allL_cons BlkOld.lasts allL_nil)))) ?_
 refine sr_ ?_
 refine wl_box rfl rfl rfl fun g1 => ?_
 refine wl_box rfl rfl rfl fun g2 => ?_
 refine sg_ rfl (nn_ (sr_ (fd_ fo31_0 rfl rfl (lk_ sc26 1 rfl rfl rfl (wl_ov (ov_makeFunc rfl rfl) rfl ?_)))))
 refine wl_callv rfl cb190 rfl rfl (fun wx hm => (cfL gs _ wx (hm.fact 0 rfl).2 (hm.blkI 0 rfl))) ?_
 refine sg_ rfl (nn_ ?_)
 refine gw_ret ?_
 refine nx_ret1 rfl rfl fun wx hm => ?_
 exact ⟨rfl, hm.g⟩
theorem vL1 (w : World) : Calls Tryz.prog 165 #[.agg #[.string ⟨#[118]⟩, .string ⟨#[99]⟩], .string ⟨#[118]⟩] w (fun e w' => e = .returned (.int .i64 0) ∧ w.grownBy w' none) := by
 refine gw_enter ⟨9, w, none, []⟩ Tryz.func165 rfl Tryz.ntmps165 rfl (mem0 (X := []) allF_nil allL_nil) ?_
 refine sr_ ?_
 refine wl_box rfl rfl rfl fun g1 => ?_
 refine sg_ rfl (nn_ (sr_ (fd_ fo77_0 rfl rfl (lk_ sc9 0 rfl rfl rfl (mv_ rfl ?_)))))
 refine wl_callv (v := .int .i64 0) rfl cb159 rfl rfl (fun wx hm => (by have h := cmpL ⟨#[118]⟩ ⟨#[118]⟩ wx; rw [show cmpS ⟨#[118]⟩ ⟨#[118]⟩ = 0 by decide +kernel] at h; exact h)) ?_
 refine sg_ rfl (nn_ ?_)
 refine gw_ret ?_
 refine nx_ret1 rfl rfl fun wx hm => ?_
 exact ⟨rfl, hm.g⟩
theorem bsL (gv : Nat) (w : World) (hbv : Blk w gv 77 [.string ⟨#[118]⟩, .string ⟨#[99]⟩]) : Calls Tryz.prog 164 #[.slice (some ⟨gv, 0, none⟩) 1 1, .string ⟨#[118]⟩, .func (.func 165) #[] #[]] w (fun e w' => e = .returned (.tuple #[.int .i64 0, .bool true]) ∧ w.grownBy w' none) := by
 refine gw_enter ⟨49, w, none, []⟩ Tryz.func164 rfl Tryz.ntmps164 rfl (mem0 (X := [BlkOld w.heap.size none gv 77 [.string ⟨#[118]⟩, .string ⟨#[99]⟩]]) (allF_cons hbv.old allF_nil) (allL_cons BlkOld.lasts allL_nil)) ?_
 refine sr_ (sg_ rfl (sg_ rfl (nn_ (sr_ (mv_ rfl (wl_ov (ov_len es28 rfl) rfl ?_))))))
 refine wl_set 13 (v' := .int .i64 1) rfl rfl ?_
 refine sg_ rfl (nn_ (sr_ (mv_ rfl (sg_ rfl (sg_ rfl (nn_ (gw_seq (gw_block ?_))))))))
 refine gw_rounds 4 ?_
 refine gr_next ?_
 refine gw_seq (sr_ (mv_ rfl (mv_ rfl (wl_ov (ov_lss rfl rfl) rfl ?_))))
 refine wl_set 17 (v' := .bool true) rfl (congrArg Value.bool (by decide)) ?_
 refine nn_ (ct_ rfl (gw_skip (nx_then (gw_block (sr_ (mv_ rfl (mv_ rfl (ad_ rfl rfl ?_))))))))
 refine wl_set 20 (v' := .int .i64 1) rfl rfl ?_
 refine wl_ov (ov_u64 (a := 1) (by kernel_rfl) (by kernel_rfl) rfl (by omega)) rfl ?_
 refine wl_ov (ov_shru1 (a := 1) rfl rfl) rfl ?_
 refine wl_ov (ov_i64 (a := 1 / 2) (by kernel_rfl) (by kernel_rfl) rfl (by omega)) rfl ?_
 refine wl_set 23 (v' := .int .i64 0) rfl rfl ?_
 refine sg_ rfl (nn_ (sr_ (mv_ rfl (mv_ rfl (mv_ rfl ?_)))))
 refine wl_ov (ov_index (j := 0) es28 rfl rfl (by decide)) rfl ?_
 refine wl_ov (ov_loads (vs := [.string ⟨#[118]⟩, .string ⟨#[99]⟩]) rz77 rfl (fun _ hm => (hm.fact 0 rfl).2) rfl rfl) rfl ?_
 refine mv_ rfl ?_
 refine wl_callv rfl cb165 rfl rfl (fun wx hm => (vL1 wx)) ?_
 refine wl_ov (ov_lss rfl rfl) rfl ?_
 refine wl_set 31 (v' := .bool false) rfl (congrArg Value.bool (by decide)) ?_
 refine nn_ (cf_ rfl (gw_region (mv_ rfl (sg_ rfl (wl_nil (nx_blk_nrm ?_))))))
 refine nx_next ?_
 refine gr_next ?_
 refine gw_seq (sr_ (mv_ rfl (mv_ rfl (wl_ov (ov_lss rfl rfl) rfl ?_))))
 refine wl_set 17 (v' := .bool false) rfl (congrArg Value.bool (by decide)) ?_
 refine nn_ (cf_ rfl ?_)
 refine gw_exit ?_
 refine nx_then_exit (nx_then_exit ?_)
 refine nx_blk_here ?_
 refine nx_then (sr_ (mv_ rfl (mv_ rfl (mv_ rfl (wl_ov (ov_lss rfl rfl) rfl ?_)))))
 refine wl_set 38 (v' := .bool true) rfl (congrArg Value.bool (by decide)) ?_
 refine mv_ rfl (wl_guard_on rfl rfl rfl (mv_ rfl (wl_guard_on rfl rfl rfl (mv_ rfl (wl_guard_on rfl rfl rfl (mv_ rfl (wl_guard_on rfl rfl rfl ?_)))))))
 refine wl_ov (ov_index (j := 0) es28 rfl rfl (by decide)) rfl ?_
 refine wl_guard_on rfl rfl rfl ?_
 refine wl_ov (ov_loads (vs := [.string ⟨#[118]⟩, .string ⟨#[99]⟩]) rz77 rfl (fun _ hm => (hm.fact 0 rfl).2) rfl rfl) rfl ?_
 refine wl_guard_on rfl rfl rfl (mv_ rfl (wl_guard_on rfl rfl rfl ?_))
 refine wl_callv rfl cb165 rfl rfl (fun wx hm => (vL1 wx)) ?_
 refine wl_guard_on rfl rfl rfl (wl_ov (ov_eql rfl rfl) rfl ?_)
 refine wl_set 47 (v' := .bool true) rfl (congrArg Value.bool (by decide)) ?_
 refine pt_ rfl rfl (sg_ rfl (sg_ rfl (nn_ ?_)))
 refine gw_ret ?_
 refine nx_ret2 rfl rfl rfl fun wx hm => ?_
 exact ⟨rfl, hm.g⟩
theorem vehL (gs : Nat) (gc : Nat) (gv : Nat) (w : World) (hbs : Blk w gs 140 [.string ⟨#[115]⟩, .int .i64 0, .int .i64 0, .int .i64 0, .int .i64 0, .int .i64 0, .int .i64 0, .int .i64 0, .int .i64 0, .int .i64 0, .int .i64 0, .int .i64 0, .int .i64 0, .int .i64 0, .int .i64 0]) (hbc : Blk w gc 159 [.string ⟨#[99]⟩, .string ⟨#[]⟩]) (hbv : Blk w gv 77 [.string ⟨#[118]⟩, .string ⟨#[99]⟩]) : Calls Tryz.prog 80 #[.agg #[.slice (some ⟨gs, 0, none⟩) 1 1, .slice (some ⟨gc, 0, none⟩) 1 1, .slice (some ⟨gv, 0, none⟩) 1 1, .slice none 0 0], .string ⟨#[118]⟩] w (fun e w' => e = .returned (.int .i64 0) ∧ w.grownBy w' none) := by
 refine gw_enter ⟨17, w, none, []⟩ Tryz.func80 rfl Tryz.ntmps80 rfl (mem0 (X := [BlkOld w.heap.size none gs 140 [.string ⟨#[115]⟩, .int .i64 0, .int .i64 0, .int .i64 0, .int .i64 0, .int .i64 0, .int .i64 0, .int .i64 0, .int .i64 0, .int .i64 0, .int .i64 0, .int .i64 0, .int .i64 0, .int .i64 0, .int .i64 0], BlkOld w.heap.size none gc 159 [.string ⟨#[99]⟩, .string ⟨#[]⟩], BlkOld w.heap.size none gv 77 [.string ⟨#[118]⟩, .string ⟨#[99]⟩]]) (allF_cons hbs.old (allF_cons hbc.old (allF_cons hbv.old allF_nil))) (allL_cons BlkOld.lasts (allL_cons BlkOld.lasts (allL_cons BlkOld.lasts allL_nil)))) ?_
 refine sr_ ?_
 refine wl_box rfl rfl rfl fun g1 => ?_
 refine sg_ rfl (nn_ (sr_ (fd_ fo31_2 rfl rfl (lk_ sc28 0 rfl rfl rfl (mv_ rfl ?_)))))
 refine wl_callv rfl cb164 rfl rfl (fun wx hm => (bsL gv wx (hm.fact 2 rfl).2)) ?_
 refine mv_ rfl (wl_ov (ov_extract rfl rfl) rfl (wl_ov (ov_extract rfl rfl) rfl (sg_ rfl (sg_ rfl (nn_ (gw_seq (sr_ (mv_ rfl (wl_ov (ov_un_not rfl) rfl ?_)))))))))
 refine wl_set 15 (v' := .bool false) rfl (congrArg Value.bool (by decide)) ?_
 refine nn_ (cf_ rfl (gw_skip (nx_then (sr_ (mv_ rfl (sg_ rfl (nn_ ?_)))))))
 refine gw_ret ?_
 refine nx_ret1 rfl rfl fun wx hm => ?_
 exact ⟨rfl, hm.g⟩
theorem oneS_ok : ∀ x ∈ [(⟨⟨#[115]⟩, [0, 0, 0, 0, 0, 0, 0, 0, 0, 0, 0, 0, 0, 0]⟩ : St)], StOk x := fun x hx => by
  rw [List.mem_singleton.1 hx]; exact ⟨rfl, by decide, by decide⟩
theorem oneC_ok : ∀ x ∈ [(⟨⟨#[99]⟩, ⟨#[]⟩⟩ : Cs)], CsOk x := fun x hx => by
  rw [List.mem_singleton.1 hx]; exact ⟨by decide, by decide⟩
theorem oneS_zero : stationsE [(⟨⟨#[115]⟩, [0, 0, 0, 0, 0, 0, 0, 0, 0, 0, 0, 0, 0, 0]⟩ : St)] = 0 := by decide +kernel
theorem oneC_zero : classesE [(⟨⟨#[99]⟩, ⟨#[]⟩⟩ : Cs)] = 0 := by decide +kernel
theorem oneC_ix : ixP (csP ⟨#[99]⟩) [(⟨⟨#[99]⟩, ⟨#[]⟩⟩ : Cs)] 0 = 0 := by decide +kernel
theorem slS {w : World} {g : Nat} (h : Blk w g 140 [.string ⟨#[115]⟩, .int .i64 0, .int .i64 0, .int .i64 0, .int .i64 0, .int .i64 0, .int .i64 0, .int .i64 0, .int .i64 0, .int .i64 0, .int .i64 0, .int .i64 0, .int .i64 0, .int .i64 0, .int .i64 0]) : SlT stEnc 15 140 w (some ⟨g, 0, none⟩) 1 [(⟨⟨#[115]⟩, [0, 0, 0, 0, 0, 0, 0, 0, 0, 0, 0, 0, 0, 0]⟩ : St)] := ⟨rfl, fun _ => ⟨g, 0, _, _, rfl, h, fun i x hx j v hv => by
  match i, hx with
  | 0, hx =>
    simp only [List.getElem?_cons_zero, Option.some.injEq] at hx
    subst hx
    rw [show 0 + 0 * 15 + j = j by omega, List.getElem?_toArray]; exact hv
  | i + 1, hx => simp at hx⟩⟩
theorem platesL (gs : Nat) (gc : Nat) (gv : Nat) (w : World) (hbs : Blk w gs 140 [.string ⟨#[115]⟩, .int .i64 0, .int .i64 0, .int .i64 0, .int .i64 0, .int .i64 0, .int .i64 0, .int .i64 0, .int .i64 0, .int .i64 0, .int .i64 0, .int .i64 0, .int .i64 0, .int .i64 0, .int .i64 0]) (hbc : Blk w gc 159 [.string ⟨#[99]⟩, .string ⟨#[]⟩]) (hbv : Blk w gv 77 [.string ⟨#[118]⟩, .string ⟨#[99]⟩]) : Calls Tryz.prog 99 #[.agg #[.slice (some ⟨gs, 0, none⟩) 1 1, .slice (some ⟨gc, 0, none⟩) 1 1, .slice (some ⟨gv, 0, none⟩) 1 1, .slice none 0 0]] w (fun e w' => e = .returned (.int .i64 0) ∧ w.grownBy w' none) := by
 refine gw_enter ⟨97, w, none, []⟩ Tryz.func99 rfl Tryz.ntmps99 rfl (mem0 (X := [BlkOld w.heap.size none gs 140 [.string ⟨#[115]⟩, .int .i64 0, .int .i64 0, .int .i64 0, .int .i64 0, .int .i64 0, .int .i64 0, .int .i64 0, .int .i64 0, .int .i64 0, .int .i64 0, .int .i64 0, .int .i64 0, .int .i64 0, .int .i64 0], BlkOld w.heap.size none gc 159 [.string ⟨#[99]⟩, .string ⟨#[]⟩], BlkOld w.heap.size none gv 77 [.string ⟨#[118]⟩, .string ⟨#[99]⟩]]) (allF_cons hbs.old (allF_cons hbc.old (allF_cons hbv.old allF_nil))) (allL_cons BlkOld.lasts (allL_cons BlkOld.lasts (allL_cons BlkOld.lasts allL_nil)))) ?_
 refine sr_ ?_
 refine wl_box rfl rfl rfl fun g1 => ?_
 refine sg_ rfl (nn_ (gw_seq (sr_ (fd_ fo31_3 rfl rfl (lk_ sc29 0 rfl rfl rfl (wl_ov (ov_len es29 rfl) rfl ?_))))))
 refine wl_set 10 (v' := .int .i64 0) rfl rfl ?_
 refine wl_ov (ov_gtr rfl rfl) rfl ?_
 refine wl_set 11 (v' := .bool false) rfl (congrArg Value.bool (by decide)) ?_
 refine nn_ (cf_ rfl (gw_skip (nx_then (gw_seq (sr_ (fd_ fo31_3 rfl rfl (lk_ sc29 0 rfl rfl rfl (wl_ov (ov_len es29 rfl) rfl ?_))))))))
 refine wl_set 14 (v' := .int .i64 0) rfl rfl ?_
 refine mv_ rfl (nn_ (gw_block ?_))
 refine gw_rounds 4 ?_
 refine gr_next ?_
 refine sr_ (wl_ov (ov_lss rfl rfl) rfl ?_)
 refine wl_set 16 (v' := .bool false) rfl (congrArg Value.bool (by decide)) ?_
 refine nn_ (gw_seq (cf_ rfl ?_))
 refine gw_exit ?_
 refine nx_then_exit (nx_then_exit ?_)
 refine nx_blk_here ?_
 refine nx_then (sr_ (sg_ rfl (nn_ ?_)))
 refine gw_ret ?_
 refine nx_ret1 rfl rfl fun wx hm => ?_
 exact ⟨rfl, hm.g⟩
theorem fleetL (gs : Nat) (gc : Nat) (gv : Nat) (w : World) (hbs : Blk w gs 140 [.string ⟨#[115]⟩, .int .i64 0, .int .i64 0, .int .i64 0, .int .i64 0, .int .i64 0, .int .i64 0, .int .i64 0, .int .i64 0, .int .i64 0, .int .i64 0, .int .i64 0, .int .i64 0, .int .i64 0, .int .i64 0]) (hbc : Blk w gc 159 [.string ⟨#[99]⟩, .string ⟨#[]⟩]) (hbv : Blk w gv 77 [.string ⟨#[118]⟩, .string ⟨#[99]⟩]) : Calls Tryz.prog 23 #[.agg #[.slice (some ⟨gs, 0, none⟩) 1 1, .slice (some ⟨gc, 0, none⟩) 1 1, .slice (some ⟨gv, 0, none⟩) 1 1, .slice none 0 0]] w (fun e w' => e = .returned (.int .i64 0) ∧ w.grownBy w' none) := by
 refine gw_enter ⟨60, w, none, []⟩ Tryz.func23 rfl Tryz.ntmps23 rfl (mem0 (X := [BlkOld w.heap.size none gs 140 [.string ⟨#[115]⟩, .int .i64 0, .int .i64 0, .int .i64 0, .int .i64 0, .int .i64 0, .int .i64 0, .int .i64 0, .int .i64 0, .int .i64 0, .int .i64 0, .int .i64 0, .int .i64 0, .int .i64 0, .int .i64 0], BlkOld w.heap.size none gc 159 [.string ⟨#[99]⟩, .string ⟨#[]⟩], BlkOld w.heap.size none gv 77 [.string ⟨#[118]⟩, .string ⟨#[99]⟩]]) (allF_cons hbs.old (allF_cons hbc.old (allF_cons hbv.old allF_nil))) (allL_cons BlkOld.lasts (allL_cons BlkOld.lasts (allL_cons BlkOld.lasts allL_nil)))) ?_
 refine sr_ ?_
 refine wl_box rfl rfl rfl fun g1 => ?_
 refine sg_ rfl (nn_ (gw_seq (gw_seq ?_)))
 refine gd (fun wz => Blk wz g1 31 [.slice (some ⟨gs, 0, none⟩) 1 1, .slice (some ⟨gc, 0, none⟩) 1 1, .slice (some ⟨gv, 0, none⟩) 1 1, .slice none 0 0] ∧ (BlkOld w.heap.size none gs 140 [.string ⟨#[115]⟩, .int .i64 0, .int .i64 0, .int .i64 0, .int .i64 0, .int .i64 0, .int .i64 0, .int .i64 0, .int .i64 0, .int .i64 0, .int .i64 0, .int .i64 0, .int .i64 0, .int .i64 0, .int .i64 0]) wz ∧ (BlkOld w.heap.size none gc 159 [.string ⟨#[99]⟩, .string ⟨#[]⟩]) wz ∧ (BlkOld w.heap.size none gv 77 [.string ⟨#[118]⟩, .string ⟨#[99]⟩]) wz ∧ True) mixed (fun _ hm => ⟨hm.bl 0, hm.fa 0, hm.fa 1, hm.fa 2, trivial⟩) fun z => ?_
 refine wt 0 14 1 rfl z (ov_field fo31_0 rfl rfl) ?_
 refine wt 1 14 3 rfl z (ov_load sc26 rfl (fun _ hm => hm.1) rfl) ?_
 refine wt 3 14 11 rfl z (ov_field fo31_1 rfl rfl) ?_
 refine wt 4 14 27 rfl z (ov_load sc27 rfl (fun _ hm => hm.1) rfl) ?_
 refine wt 6 14 91 rfl z (ov_field fo31_2 rfl rfl) ?_
 refine wt 7 14 219 rfl z (ov_load sc28 rfl (fun _ hm => hm.1) rfl) ?_
 refine wt 8 14 475 rfl z (ov_len es28 rfl) ?_
 refine wa_set 14 (v' := .int .i64 1) rfl rfl ?_
 refine wt 9 14 987 rfl z (ov_gtr rfl rfl) ?_
 refine wa_set 15 (v' := .bool false) rfl (congrArg Value.bool (by decide)) ?_
 refine wa1 2 rfl ?_
 refine wl_callv (v := .int .i64 0) rfl cb95 rfl rfl (fun wx hm => (by have h := checkStations_any [(⟨⟨#[115]⟩, [0, 0, 0, 0, 0, 0, 0, 0, 0, 0, 0, 0, 0, 0]⟩ : St)] _ 1 1 wx (slS (hm.fact 0 rfl).2) oneS_ok (by omega); rw [oneS_zero] at h; exact h)) ?_
 refine wl_nil ?_
 refine nw 14 991 (fun _ hm => ⟨hm.bl 0, hm.fa 0, hm.fa 1, hm.fa 2, trivial⟩) fun z => ?_
 refine wa1 5 rfl ?_
 refine wl_callv (v := .int .i64 0) rfl cb96 rfl rfl (fun wx hm => (by have h := checkClasses_any [(⟨⟨#[99]⟩, ⟨#[]⟩⟩ : Cs)] _ 1 1 wx (SlT.ofBlk (l := [(⟨⟨#[99]⟩, ⟨#[]⟩⟩ : Cs)]) cs_len (hm.fact 1 rfl).2) oneC_ok (by omega); rw [oneC_zero] at h; exact h)) ?_
 refine wl_nil ?_
 refine nw 14 1023 (fun _ hm => ⟨hm.bl 0, hm.fa 0, hm.fa 1, hm.fa 2, trivial⟩) fun z => ?_
 refine wa1 10 rfl ?_
 refine wl_callw (v := .int .i64 0) rfl cb79 rfl rfl (fun wx hm => (by have h := when_any false 2 wx; rw [show whenE false 2 = 0 by decide +kernel] at h; exact h)) ?_
 refine wl_nil ?_
 refine nw 14 2047 (fun _ hm => ⟨hm.bl 0, hm.fa 0, hm.fa 1, hm.fa 2, trivial⟩) fun z => ?_
 refine wa1 11 rfl ?_
 refine wl_buildSlice (e := 35) (cs := [.int .i64 0, .int .i64 0, .int .i64 0]) rfl (by kernel_rfl) rfl fun g2 => ?_
 refine wl_nil ?_
 refine nw 14 4095 (fun _ hm => ⟨hm.bl 1, hm.fa 0, hm.fa 1, hm.fa 2, trivial⟩) fun z => ?_
 refine wa1 12 rfl ?_
 refine wl_callw (v := .int .i64 0) rfl cb78 rfl rfl (fun wx hm => (by have h := first_any [0, 0, 0] g2 3 _ wx (hm.blkI 0 rfl) (by simp); rw [show firstE [0, 0, 0] = 0 by decide] at h; exact h)) ?_
 refine wl_nil ?_
 refine nw 14 8191 (fun _ hm => ⟨hm.bl 1, hm.fa 0, hm.fa 1, hm.fa 2, trivial⟩) fun z => ?_
 refine wt 13 14 16383 rfl z (ov_assign rfl) ?_
 refine wa_done (by kernel_rfl) ?_
 refine nx_then (sr_ (mv_ rfl (wl_ov (ov_neq rfl rfl) rfl ?_)))
 refine wl_set 20 (v' := .bool false) rfl (congrArg Value.bool (by decide)) ?_
 refine nn_ (cf_ rfl (gw_skip (nx_then (gw_seq (sr_ (fd_ fo31_2 rfl rfl (lk_ sc28 1 rfl rfl rfl (wl_ov (ov_len es28 rfl) rfl ?_))))))))
 refine wl_set 24 (v' := .int .i64 1) rfl rfl ?_
 refine mv_ rfl (nn_ (gw_block ?_))
 refine gw_rounds 4 ?_
 refine gr_next ?_
 refine sr_ (wl_ov (ov_lss rfl rfl) rfl ?_)
 refine wl_set 26 (v' := .bool true) rfl (congrArg Value.bool (by decide)) ?_
 refine nn_ (gw_seq (ct_ rfl (gw_skip (nx_then (gw_seq (gw_block (sr_ (mv_ rfl ?_))))))))
 refine wl_ov (ov_index (j := 0) es28 rfl rfl (by decide)) rfl ?_
 refine wl_ov (ov_loads (vs := [.string ⟨#[118]⟩, .string ⟨#[99]⟩]) rz77 rfl (fun _ hm => (hm.fact 2 rfl).2) rfl rfl) rfl ?_
 refine wl_alloc zc77 rfl fun g3 => ?_
 refine sg_ rfl ?_
 refine wl_stores (cs' := [.string ⟨#[118]⟩, .string ⟨#[99]⟩]) 0 rz77 rfl rfl rfl rfl rfl rfl rfl rfl ?_
 refine nn_ (gw_block (sr_ (fd_ fo77_0 rfl rfl (lk_ sc9 0 rfl rfl rfl ?_))))
 refine wl_callw (v := .bool true) rfl cb97 rfl rfl (fun wx hm => (by have h := isKey_any ⟨#[118]⟩ wx (by decide); rw [show keyB ⟨#[118]⟩ = true by decide +kernel] at h; exact h)) ?_
 refine wl_ov (ov_un_not rfl) rfl ?_
 refine wl_set 34 (v' := .bool false) rfl (congrArg Value.bool (by decide)) ?_
 refine sg_ rfl (nn_ (cf_ rfl (gw_seq ?_)))
 refine gd (fun wz => Blk wz g3 77 [.string ⟨#[118]⟩, .string ⟨#[99]⟩] ∧ Blk wz g2 35 [.int .i64 0, .int .i64 0, .int .i64 0] ∧ Blk wz g1 31 [.slice (some ⟨gs, 0, none⟩) 1 1, .slice (some ⟨gc, 0, none⟩) 1 1, .slice (some ⟨gv, 0, none⟩) 1 1, .slice none 0 0] ∧ (BlkOld w.heap.size none gs 140 [.string ⟨#[115]⟩, .int .i64 0, .int .i64 0, .int .i64 0, .int .i64 0, .int .i64 0, .int .i64 0, .int .i64 0, .int .i64 0, .int .i64 0, .int .i64 0, .int .i64 0, .int .i64 0, .int .i64 0, .int .i64 0]) wz ∧ (BlkOld w.heap.size none gc 159 [.string ⟨#[99]⟩, .string ⟨#[]⟩]) wz ∧ (BlkOld w.heap.size none gv 77 [.string ⟨#[118]⟩, .string ⟨#[99]⟩]) wz ∧ True) mixed (fun _ hm => ⟨hm.bl 0, hm.bl 1, hm.bl 2, hm.fa 0, hm.fa 1, hm.fa 2, trivial⟩) fun z => ?_
 refine wt 0 15 1 rfl z (ov_move rfl) ?_
 refine wt 1 15 3 rfl z (ov_gtr rfl rfl) ?_
 refine wa_set 37 (v' := .bool false) rfl (congrArg Value.bool (by decide)) ?_
 refine wt 2 15 7 rfl z (ov_move rfl) ?_
 refine wtf 3 15 15 rfl rfl rfl z ?_
 refine wtf 4 15 31 rfl rfl rfl z ?_
 refine wtf 5 15 63 rfl rfl rfl z ?_
 refine wtf 6 15 127 rfl rfl rfl z ?_
 refine wtf 7 15 255 rfl rfl rfl z ?_
 refine wtf 8 15 511 rfl rfl rfl z ?_
 refine wtf 9 15 1023 rfl rfl rfl z ?_
 refine wtf 10 15 2047 rfl rfl rfl z ?_
 refine wtf 11 15 4095 rfl rfl rfl z ?_
 refine wtf 12 15 8191 rfl rfl rfl z ?_
 refine wt 13 15 16383 rfl z (ov_pick_f rfl rfl) ?_
 refine wt 14 15 32767 rfl z (ov_assign rfl) ?_
 refine wa_done (by kernel_rfl) ?_
 refine nx_then (cf_ rfl (sr_ (fd_ fo31_1 rfl rfl (lk_ sc27 2 rfl rfl rfl (fd_ fo77_1 rfl rfl (lk_ sc9 0 rfl rfl rfl ?_))))))
 refine wl_callv (v := .int .i64 0) rfl cb98 rfl rfl (fun wx hm => (by have h := classAt_any [(⟨⟨#[99]⟩, ⟨#[]⟩⟩ : Cs)] _ 1 1 ⟨#[99]⟩ wx (SlT.ofBlk (l := [(⟨⟨#[99]⟩, ⟨#[]⟩⟩ : Cs)]) cs_len (hm.fact 1 rfl).2) (by omega); rw [oneC_ix] at h; exact h)) ?_
 refine wl_ov (ov_lss rfl rfl) rfl ?_
 refine wl_set 56 (v' := .bool false) rfl (congrArg Value.bool (by decide)) ?_
 refine sg_ rfl (nn_ (cf_ rfl (gw_skip (nx_blk_nrm (nx_blk_nrm (nx_then (gw_region (ad_ rfl rfl ?_))))))))
 refine wl_set 57 (v' := .int .i64 1) rfl rfl ?_
 refine mv_ rfl (wl_nil ?_)
 refine nx_next ?_
 refine gr_next ?_
 refine sr_ (wl_ov (ov_lss rfl rfl) rfl ?_)
 refine wl_set 26 (v' := .bool false) rfl (congrArg Value.bool (by decide)) ?_
 refine nn_ (gw_seq (cf_ rfl ?_))
 refine gw_exit ?_
 refine nx_then_exit (nx_then_exit ?_)
 refine nx_blk_here ?_
 refine nx_then (sr_ ?_)
 refine wl_ov (ov_loads rz31 rfl (fun _ hm => hm.blkI 2 rfl) rfl rfl) rfl ?_
 refine wl_callv rfl cb99 rfl rfl (fun wx hm => (platesL gs gc gv wx (hm.fact 0 rfl).2 (hm.fact 1 rfl).2 (hm.fact 2 rfl).2)) ?_
 refine sg_ rfl (nn_ ?_)
 refine gw_ret ?_
 refine nx_ret1 rfl rfl fun wx hm => ?_
 exact ⟨rfl, hm.g⟩
theorem momL (w : World) : Calls Tryz.prog 166 #[.int .i64 5] w (fun e w' => e = .returned (.bool true) ∧ w.grownBy w' none) := by
 refine gw_enter ⟨5, w, none, []⟩ Tryz.func166 rfl Tryz.ntmps166 rfl (mem0 (X := []) allF_nil allL_nil) ?_
 refine sr_ (sg_ rfl (nn_ (sr_ (mv_ rfl ?_))))
 refine wl_callw (v := .bool true) rfl cb126 rfl rfl (fun wx hm => (by have h := in_any 5 0 5761439 wx; rw [show inB 5 0 5761439 = true by decide +kernel] at h; exact h)) ?_
 refine sg_ rfl (nn_ ?_)
 refine gw_ret ?_
 refine nx_ret1 rfl rfl fun wx hm => ?_
 exact ⟨rfl, hm.g⟩
theorem logL (gs : Nat) (gc : Nat) (gv : Nat) (ge : Nat) (w : World) (hbs : Blk w gs 140 [.string ⟨#[115]⟩, .int .i64 0, .int .i64 0, .int .i64 0, .int .i64 0, .int .i64 0, .int .i64 0, .int .i64 0, .int .i64 0, .int .i64 0, .int .i64 0, .int .i64 0, .int .i64 0, .int .i64 0, .int .i64 0]) (hbc : Blk w gc 159 [.string ⟨#[99]⟩, .string ⟨#[]⟩]) (hbv : Blk w gv 77 [.string ⟨#[118]⟩, .string ⟨#[99]⟩]) (hbe : Blk w ge 92 [.int .i64 5, .string ⟨#[118]⟩, .string ⟨#[115]⟩, .int .i64 1, .string ⟨#[]⟩]) : Calls Tryz.prog 132 #[.agg #[.slice (some ⟨gs, 0, none⟩) 1 1, .slice (some ⟨gc, 0, none⟩) 1 1, .slice (some ⟨gv, 0, none⟩) 1 1, .slice none 0 0], .slice (some ⟨ge, 0, none⟩) 1 1] w (fun e w' => e = .returned (.int .i64 0) ∧ w.grownBy w' none) := by
 refine gw_enter ⟨81, w, none, []⟩ Tryz.func132 rfl Tryz.ntmps132 rfl (mem0 (X := [BlkOld w.heap.size none gs 140 [.string ⟨#[115]⟩, .int .i64 0, .int .i64 0, .int .i64 0, .int .i64 0, .int .i64 0, .int .i64 0, .int .i64 0, .int .i64 0, .int .i64 0, .int .i64 0, .int .i64 0, .int .i64 0, .int .i64 0, .int .i64 0], BlkOld w.heap.size none gc 159 [.string ⟨#[99]⟩, .string ⟨#[]⟩], BlkOld w.heap.size none gv 77 [.string ⟨#[118]⟩, .string ⟨#[99]⟩], BlkOld w.heap.size none ge 92 [.int .i64 5, .string ⟨#[118]⟩, .string ⟨#[115]⟩, .int .i64 1, .string ⟨#[]⟩]]) (allF_cons hbs.old (allF_cons hbc.old (allF_cons hbv.old (allF_cons hbe.old allF_nil)))) (allL_cons BlkOld.lasts (allL_cons BlkOld.lasts (allL_cons BlkOld.lasts (allL_cons BlkOld.lasts allL_nil))))) ?_
 refine sr_ ?_
 refine wl_box rfl rfl rfl fun g1 => ?_
 refine sg_ rfl (nn_ (gw_seq (sr_ (mv_ rfl (wl_ov (ov_len es48 rfl) rfl ?_)))))
 refine wl_set 9 (v' := .int .i64 1) rfl rfl ?_
 refine wl_ov (ov_gtr rfl rfl) rfl ?_
 refine wl_set 10 (v' := .bool false) rfl (congrArg Value.bool (by decide)) ?_
 refine nn_ (cf_ rfl (gw_skip (nx_then (gw_seq (sr_ (mv_ rfl (wl_ov (ov_len es48 rfl) rfl ?_)))))))
 refine wl_set 12 (v' := .int .i64 1) rfl rfl ?_
 refine mv_ rfl (nn_ (gw_block ?_))
 refine gw_rounds 4 ?_
 refine gr_next ?_
 refine sr_ (wl_ov (ov_lss rfl rfl) rfl ?_)
 refine wl_set 14 (v' := .bool true) rfl (congrArg Value.bool (by decide)) ?_
 refine nn_ (gw_seq (ct_ rfl (gw_skip (nx_then (gw_seq (gw_block (sr_ (mv_ rfl ?_))))))))
 refine wl_ov (ov_index (j := 0) es48 rfl rfl (by decide)) rfl ?_
 refine wl_ov (ov_loads (vs := [.int .i64 5, .string ⟨#[118]⟩, .string ⟨#[115]⟩, .int .i64 1, .string ⟨#[]⟩]) rz92 rfl (fun _ hm => (hm.fact 3 rfl).2) rfl rfl) rfl ?_
 refine wl_alloc zc92 rfl fun g2 => ?_
 refine sg_ rfl ?_
 refine wl_stores (cs' := [.int .i64 5, .string ⟨#[118]⟩, .string ⟨#[115]⟩, .int .i64 1, .string ⟨#[]⟩]) 0 rz92 rfl rfl rfl rfl rfl rfl rfl rfl ?_
 refine nn_ (sr_ (fd_ fo92_3 rfl rfl (lk_ sc3 0 rfl rfl rfl (wl_ov (ov_eql rfl rfl) rfl ?_))))
 refine wl_set 20 (v' := .bool false) rfl (congrArg Value.bool (by decide)) ?_
 refine sg_ rfl (nn_ (gw_block (sr_ (fd_ fo92_0 rfl rfl (lk_ sc3 0 rfl rfl rfl ?_)))))
 refine wl_callv rfl cb166 rfl rfl (fun wx hm => (momL wx)) ?_
 refine wl_ov (ov_un_not rfl) rfl ?_
 refine wl_set 25 (v' := .bool false) rfl (congrArg Value.bool (by decide)) ?_
 refine sg_ rfl (nn_ (cf_ rfl (sr_ ?_)))
 refine wl_ov (ov_loads rz31 rfl (fun _ hm => hm.blkI 1 rfl) rfl rfl) rfl ?_
 refine fd_ fo92_1 rfl rfl (lk_ sc9 0 rfl rfl rfl ?_)
 refine wl_callv rfl cb80 rfl rfl (fun wx hm => (vehL gs gc gv wx (hm.fact 0 rfl).2 (hm.fact 1 rfl).2 (hm.fact 2 rfl).2)) ?_
 refine wl_ov (ov_lss rfl rfl) rfl ?_
 refine wl_set 31 (v' := .bool false) rfl (congrArg Value.bool (by decide)) ?_
 refine mv_ rfl (wl_guard_on rfl rfl rfl ?_)
 refine wl_ov (ov_loads rz31 rfl (fun _ hm => hm.blkI 1 rfl) rfl rfl) rfl ?_
 refine wl_guard_on rfl rfl rfl (fd_ fo92_2 rfl rfl (wl_guard_on rfl rfl rfl (lk_ sc9 0 rfl rfl rfl (wl_guard_on rfl rfl rfl ?_))))
 refine wl_callv rfl cb120 rfl rfl (fun wx hm => (hasStL gs gc gv wx (hm.fact 0 rfl).2 (hm.fact 1 rfl).2 (hm.fact 2 rfl).2)) ?_
 refine wl_guard_on rfl rfl rfl (wl_ov (ov_un_not rfl) rfl ?_)
 refine wl_set 37 (v' := .bool false) rfl (congrArg Value.bool (by decide)) ?_
 refine pf_ rfl rfl (sg_ rfl (nn_ (cf_ rfl (sr_ (fd_ fo92_3 rfl rfl (lk_ sc3 0 rfl rfl rfl ?_))))))
 refine wl_callw (v := .bool true) rfl cb126 rfl rfl (fun wx hm => (by have h := in_any 1 1 8 wx; rw [show inB 1 1 8 = true by decide +kernel] at h; exact h)) ?_
 refine wl_ov (ov_un_not rfl) rfl ?_
 refine wl_set 43 (v' := .bool false) rfl (congrArg Value.bool (by decide)) ?_
 refine sg_ rfl (nn_ (cf_ rfl (sr_ (fd_ fo92_4 rfl rfl (lk_ sc9 0 rfl rfl rfl (wl_ov (ov_sneq rfl rfl) rfl ?_))))))
 refine wl_set 47 (v' := .bool false) rfl (congrArg Value.bool (by decide +kernel)) ?_
 refine mv_ rfl (goff rfl rfl rfl (goff rfl rfl rfl (pf_ rfl rfl (sg_ rfl (nn_ (cf_ rfl (sr_ (mv_ rfl (mv_ rfl (goff rfl rfl rfl (goff rfl rfl rfl ?_)))))))))))
 refine goff rfl rfl rfl (goff rfl rfl rfl (goff rfl rfl rfl (pf_ rfl rfl (sg_ rfl (nn_ (cf_ rfl (sr_ (fd_ fo92_4 rfl rfl (lk_ sc9 0 rfl rfl rfl (fd_ fo92_2 rfl rfl (lk_ sc9 0 rfl rfl rfl ?_)))))))))))
 refine wl_ov (ov_seql rfl rfl) rfl ?_
 refine wl_set 66 (v' := .bool false) rfl (congrArg Value.bool (by decide +kernel)) ?_
 refine sg_ rfl (nn_ (cf_ rfl (gw_seq ?_)))
 refine gd (fun wz => Blk wz g2 92 [.int .i64 5, .string ⟨#[118]⟩, .string ⟨#[115]⟩, .int .i64 1, .string ⟨#[]⟩] ∧ Blk wz g1 31 [.slice (some ⟨gs, 0, none⟩) 1 1, .slice (some ⟨gc, 0, none⟩) 1 1, .slice (some ⟨gv, 0, none⟩) 1 1, .slice none 0 0] ∧ (BlkOld w.heap.size none gs 140 [.string ⟨#[115]⟩, .int .i64 0, .int .i64 0, .int .i64 0, .int .i64 0, .int .i64 0, .int .i64 0, .int .i64 0, .int .i64 0, .int .i64 0, .int .i64 0, .int .i64 0, .int .i64 0, .int .i64 0, .int .i64 0]) wz ∧ (BlkOld w.heap.size none gc 159 [.string ⟨#[99]⟩, .string ⟨#[]⟩]) wz ∧ (BlkOld w.heap.size none gv 77 [.string ⟨#[118]⟩, .string ⟨#[99]⟩]) wz ∧ (BlkOld w.heap.size none ge 92 [.int .i64 5, .string ⟨#[118]⟩, .string ⟨#[115]⟩, .int .i64 1, .string ⟨#[]⟩]) wz ∧ True) mixed (fun _ hm => ⟨hm.bl 0, hm.bl 1, hm.fa 0, hm.fa 1, hm.fa 2, hm.fa 3, trivial⟩) fun z => ?_
 refine wt 0 13 1 rfl z (ov_move rfl) ?_
 refine wt 1 13 3 rfl z (ov_gtr rfl rfl) ?_
 refine wa_set 69 (v' := .bool false) rfl (congrArg Value.bool (by decide)) ?_
 refine wt 2 13 7 rfl z (ov_move rfl) ?_
 refine wtf 3 13 15 rfl rfl rfl z ?_
 refine wtf 4 13 31 rfl rfl rfl z ?_
 refine wtf 5 13 63 rfl rfl rfl z ?_
 refine wtf 6 13 127 rfl rfl rfl z ?_
 refine wtf 7 13 255 rfl rfl rfl z ?_
 refine wtf 8 13 511 rfl rfl rfl z ?_
 refine wtf 9 13 1023 rfl rfl rfl z ?_
 refine wtf 10 13 2047 rfl rfl rfl z ?_
 refine wt 11 13 4095 rfl z (ov_pick_f rfl rfl) ?_
 refine wt 12 13 8191 rfl z (ov_assign rfl) ?_
 refine wa_done (by kernel_rfl) ?_
 refine nx_then (cf_ rfl (gw_skip (nx_blk_nrm (nx_blk_nrm (nx_then (gw_region (ad_ rfl rfl ?_)))))))
 refine wl_set 80 (v' := .int .i64 1) rfl rfl ?_
 refine mv_ rfl (wl_nil ?_)
 refine nx_next ?_
 refine gr_next ?_
 refine sr_ (wl_ov (ov_lss rfl rfl) rfl ?_)
 refine wl_set 14 (v' := .bool false) rfl (congrArg Value.bool (by decide)) ?_
 refine nn_ (gw_seq (cf_ rfl ?_))
 refine gw_exit ?_
 refine nx_then_exit (nx_then_exit ?_)
 refine nx_blk_here ?_
 refine nx_then (sr_ (sg_ rfl (nn_ ?_)))
 refine gw_ret ?_
 refine nx_ret1 rfl rfl fun wx hm => ?_
 exact ⟨rfl, hm.g⟩
theorem checkL (gs : Nat) (gc : Nat) (gv : Nat) (ge : Nat) (w : World) (hbs : Blk w gs 140 [.string ⟨#[115]⟩, .int .i64 0, .int .i64 0, .int .i64 0, .int .i64 0, .int .i64 0, .int .i64 0, .int .i64 0, .int .i64 0, .int .i64 0, .int .i64 0, .int .i64 0, .int .i64 0, .int .i64 0, .int .i64 0]) (hbc : Blk w gc 159 [.string ⟨#[99]⟩, .string ⟨#[]⟩]) (hbv : Blk w gv 77 [.string ⟨#[118]⟩, .string ⟨#[99]⟩]) (hbe : Blk w ge 92 [.int .i64 5, .string ⟨#[118]⟩, .string ⟨#[115]⟩, .int .i64 1, .string ⟨#[]⟩]) : Calls Tryz.prog 56 #[.agg #[.slice (some ⟨gs, 0, none⟩) 1 1, .slice (some ⟨gc, 0, none⟩) 1 1, .slice (some ⟨gv, 0, none⟩) 1 1, .slice none 0 0], .slice (some ⟨ge, 0, none⟩) 1 1] w (fun e w' => e = .returned (.int .i64 0) ∧ w.grownBy w' none) := by
 refine gw_enter ⟨14, w, none, []⟩ Tryz.func56 rfl Tryz.ntmps56 rfl (mem0 (X := [BlkOld w.heap.size none gs 140 [.string ⟨#[115]⟩, .int .i64 0, .int .i64 0, .int .i64 0, .int .i64 0, .int .i64 0, .int .i64 0, .int .i64 0, .int .i64 0, .int .i64 0, .int .i64 0, .int .i64 0, .int .i64 0, .int .i64 0, .int .i64 0], BlkOld w.heap.size none gc 159 [.string ⟨#[99]⟩, .string ⟨#[]⟩], BlkOld w.heap.size none gv 77 [.string ⟨#[118]⟩, .string ⟨#[99]⟩], BlkOld w.heap.size none ge 92 [.int .i64 5, .string ⟨#[118]⟩, .string ⟨#[115]⟩, .int .i64 1, .string ⟨#[]⟩]]) (allF_cons hbs.old (allF_cons hbc.old (allF_cons hbv.old (allF_cons hbe.old allF_nil)))) (allL_cons BlkOld.lasts (allL_cons BlkOld.lasts (allL_cons BlkOld.lasts (allL_cons BlkOld.lasts allL_nil))))) ?_
 refine sr_ ?_
 refine wl_box rfl rfl rfl fun g1 => ?_
 refine sg_ rfl (nn_ (gw_seq (sr_ ?_)))
 refine wl_ov (ov_loads rz31 rfl (fun _ hm => hm.blkI 0 rfl) rfl rfl) rfl ?_
 refine wl_callv rfl cb23 rfl rfl (fun wx hm => (fleetL gs gc gv wx (hm.fact 0 rfl).2 (hm.fact 1 rfl).2 (hm.fact 2 rfl).2)) ?_
 refine sg_ rfl (nn_ (sr_ (mv_ rfl (wl_ov (ov_neq rfl rfl) rfl ?_))))
 refine wl_set 9 (v' := .bool false) rfl (congrArg Value.bool (by decide)) ?_
 refine nn_ (cf_ rfl (gw_skip (nx_then (sr_ ?_))))
 refine wl_ov (ov_loads rz31 rfl (fun _ hm => hm.blkI 0 rfl) rfl rfl) rfl ?_
 refine mv_ rfl ?_
 refine wl_callv rfl cb132 rfl rfl (fun wx hm => (logL gs gc gv ge wx (hm.fact 0 rfl).2 (hm.fact 1 rfl).2 (hm.fact 2 rfl).2 (hm.fact 3 rfl).2)) ?_
 refine sg_ rfl (nn_ ?_)
 refine gw_ret ?_
 refine nx_ret1 rfl rfl fun wx hm => ?_
 exact ⟨rfl, hm.g⟩
theorem followL (w : World) : Calls Tryz.prog 105 #[.agg #[.int .i64 0, .string ⟨#[]⟩, .int .i64 0], .agg #[.int .i64 5, .string ⟨#[118]⟩, .string ⟨#[115]⟩, .int .i64 1, .string ⟨#[]⟩]] w (fun e w' => e = .returned (.tuple #[.agg #[.int .i64 1, .string ⟨#[115]⟩, .int .i64 5], .bool true]) ∧ w.grownBy w' none) := by
 refine gw_enter ⟨74, w, none, []⟩ Tryz.func105 rfl Tryz.ntmps105 rfl (mem0 (X := []) allF_nil allL_nil) ?_
 refine sr_ ?_
 refine wl_box rfl rfl rfl fun g1 => ?_
 refine wl_box rfl rfl rfl fun g2 => ?_
 refine wl_alloc zc132 rfl fun g3 => ?_
 refine sg_ rfl (nn_ (sr_ (fd_ fo132_1 rfl rfl (lk_ sc9 2 rfl rfl rfl (fd_ fo92_2 rfl rfl (lk_ sc9 1 rfl rfl rfl (wl_ov (ov_seql rfl rfl) rfl ?_)))))))
 refine wl_set 15 (v' := .bool false) rfl (congrArg Value.bool (by decide +kernel)) ?_
 refine sg_ rfl (nn_ (sr_ (fd_ fo132_0 rfl rfl (lk_ sc3 2 rfl rfl rfl (wl_ov (ov_eql rfl rfl) rfl ?_)))))
 refine wl_set 18 (v' := .bool false) rfl (congrArg Value.bool (by decide)) ?_
 refine mv_ rfl (goff rfl rfl rfl (pf_ rfl rfl (sg_ rfl (nn_ (gw_seq ?_)))))
 refine gd (fun wz => Blk wz g3 132 [.int .i64 0, .string ⟨#[]⟩, .int .i64 0] ∧ Blk wz g2 92 [.int .i64 5, .string ⟨#[118]⟩, .string ⟨#[115]⟩, .int .i64 1, .string ⟨#[]⟩] ∧ Blk wz g1 132 [.int .i64 0, .string ⟨#[]⟩, .int .i64 0] ∧ True) mixed (fun _ hm => ⟨hm.bl 0, hm.bl 1, hm.bl 2, trivial⟩) fun z => ?_
 refine wt 0 5 1 rfl z (ov_field fo92_2 rfl rfl) ?_
 refine wt 1 5 3 rfl z (ov_load sc9 rfl (fun _ hm => hm.2.1) rfl) ?_
 refine wt 2 5 7 rfl z (ov_assign rfl) ?_
 refine wt 3 5 15 rfl z (ov_assign rfl) ?_
 refine wt 4 5 31 rfl z (ov_assign rfl) ?_
 refine wa_done (by kernel_rfl) ?_
 refine nx_then (gw_seq (sr_ (fd_ fo92_3 rfl rfl (lk_ sc3 1 rfl rfl rfl (nn_ (gw_block (sr_ (wl_ov (ov_eql rfl rfl) rfl ?_))))))))
 refine wl_set 27 (v' := .bool true) rfl (congrArg Value.bool (by decide)) ?_
 refine sg_ rfl (nn_ (ct_ rfl ?_))
 refine gd (fun wz => Blk wz g3 132 [.int .i64 0, .string ⟨#[]⟩, .int .i64 0] ∧ Blk wz g2 92 [.int .i64 5, .string ⟨#[118]⟩, .string ⟨#[115]⟩, .int .i64 1, .string ⟨#[]⟩] ∧ Blk wz g1 132 [.int .i64 0, .string ⟨#[]⟩, .int .i64 0] ∧ True) mixed (fun _ hm => ⟨hm.bl 0, hm.bl 1, hm.bl 2, trivial⟩) fun z => ?_
 refine wt 0 5 1 rfl z (ov_field fo132_0 rfl rfl) ?_
 refine wt 1 5 3 rfl z (ov_load sc3 rfl (fun _ hm => hm.2.2.1) rfl) ?_
 refine wt 2 5 7 rfl z (ov_eql rfl rfl) ?_
 refine wa_set 30 (v' := .bool true) rfl (congrArg Value.bool (by decide)) ?_
 refine wt 3 5 15 rfl z (ov_assign rfl) ?_
 refine wt 4 5 31 rfl z (ov_assign rfl) ?_
 refine wa_done (by kernel_rfl) ?_
 refine nx_blk_nrm (nx_then (gw_seq (sr_ (mv_ rfl (wl_ov (ov_un_not rfl) rfl ?_)))))
 refine wl_set 67 (v' := .bool false) rfl (congrArg Value.bool (by decide)) ?_
 refine nn_ (cf_ rfl (gw_skip (nx_then (sr_ (mv_ rfl (mv_ rfl (fd_ fo92_0 rfl rfl (lk_ sc3 1 rfl rfl rfl ?_))))))))
 refine wl_ov (ov_build (cs := [.int .i64 1, .string ⟨#[115]⟩, .int .i64 5]) rfl (by kernel_rfl)) rfl ?_
 refine wl_stores (cs' := [.int .i64 1, .string ⟨#[115]⟩, .int .i64 5]) 0 rz132 rfl rfl rfl rfl rfl rfl rfl rfl ?_
 refine sg_ rfl (nn_ ?_)
 refine gw_ret ?_
 refine nx_retct 0 rfl rz132 rfl rfl rfl rfl fun wx hm => ?_
 exact ⟨rfl, hm.g⟩
theorem statesL (ge : Nat) (w : World) (hbe : Blk w ge 92 [.int .i64 5, .string ⟨#[118]⟩, .string ⟨#[115]⟩, .int .i64 1, .string ⟨#[]⟩]) : Calls Tryz.prog 121 #[.slice (some ⟨ge, 0, none⟩) 1 1, .int .i64 7] w (fun e w' => ∃ g, e = .returned (.map (some g)) ∧ MapAt g #[⟨.string ⟨#[118]⟩, .agg #[.int .i64 1, .string ⟨#[115]⟩, .int .i64 5], 0⟩] 1 w' ∧ w.grownBy w' none) := by
 refine gw_enter ⟨33, w, none, []⟩ Tryz.func121 rfl Tryz.ntmps121 rfl (mem0 (X := [BlkOld w.heap.size none ge 92 [.int .i64 5, .string ⟨#[118]⟩, .string ⟨#[115]⟩, .int .i64 1, .string ⟨#[]⟩]]) (allF_cons hbe.old allF_nil) (allL_cons BlkOld.lasts allL_nil)) ?_
 refine sr_ (sg_ rfl (nn_ (sr_ ?_)))
 refine wl_makeMap rfl fun g1 => ?_
 refine sg_ rfl (nn_ (gw_seq (sr_ (mv_ rfl (wl_ov (ov_len es48 rfl) rfl ?_)))))
 refine wl_set 10 (v' := .int .i64 1) rfl rfl ?_
 refine mv_ rfl (nn_ (gw_block ?_))
 refine gw_rounds 4 ?_
 refine gr_next ?_
 refine sr_ (wl_ov (ov_lss rfl rfl) rfl ?_)
 refine wl_set 12 (v' := .bool true) rfl (congrArg Value.bool (by decide)) ?_
 refine nn_ (gw_seq (ct_ rfl (gw_skip (nx_then (gw_seq (gw_block (sr_ ?_)))))))
 refine wl_ov (ov_index (j := 0) es48 rfl rfl (by decide)) rfl ?_
 refine wl_ov (ov_loads (vs := [.int .i64 5, .string ⟨#[118]⟩, .string ⟨#[115]⟩, .int .i64 1, .string ⟨#[]⟩]) rz92 rfl (fun _ hm => (hm.fact 1 rfl).2) rfl rfl) rfl ?_
 refine wl_alloc zc92 rfl fun g2 => ?_
 refine wl_stores (cs' := [.int .i64 5, .string ⟨#[118]⟩, .string ⟨#[115]⟩, .int .i64 1, .string ⟨#[]⟩]) 0 rz92 rfl rfl rfl rfl rfl rfl rfl rfl ?_
 refine nn_ (gw_seq (sr_ (fd_ fo92_0 rfl rfl (lk_ sc3 0 rfl rfl rfl (mv_ rfl ?_)))))
 refine wl_ov (ov_gtr rfl rfl) rfl ?_
 refine wl_set 18 (v' := .bool false) rfl (congrArg Value.bool (by decide)) ?_
 refine nn_ (cf_ rfl (gw_skip (nx_then ?_)))
 refine gd (fun wz => Blk wz g2 92 [.int .i64 5, .string ⟨#[118]⟩, .string ⟨#[115]⟩, .int .i64 1, .string ⟨#[]⟩] ∧ (BlkOld w.heap.size none ge 92 [.int .i64 5, .string ⟨#[118]⟩, .string ⟨#[115]⟩, .int .i64 1, .string ⟨#[]⟩]) wz ∧ True) mixed (fun _ hm => ⟨hm.bl 0, hm.fa 1, trivial⟩) fun z => ?_
 refine wt 0 13 1 rfl z (ov_move rfl) ?_
 refine wt 1 13 3 rfl z (ov_field fo92_1 rfl rfl) ?_
 refine wt 2 13 7 rfl z (ov_load sc9 rfl (fun _ hm => hm.1) rfl) ?_
 refine wt 3 13 15 rfl z (ov_move rfl) ?_
 refine wt 4 13 31 rfl z (ov_field fo92_1 rfl rfl) ?_
 refine wt 5 13 63 rfl z (ov_load sc9 rfl (fun _ hm => hm.1) rfl) ?_
 refine wt 7 13 191 rfl z (ov_loads rz92 rfl (fun _ hm => hm.1) rfl rfl) ?_
 refine wa1 6 rfl ?_
 refine wl_ov (ov_lookup0 (k := 9) (e := 132) (z := .agg #[.int .i64 0, .string ⟨#[]⟩, .int .i64 0]) (by kernel_rfl) (by kernel_rfl) (by kernel_rfl) rfl rfl (fun _ hm => (hm.fact 0 rfl).2) (by kernel_rfl)) rfl ?_
 refine wl_nil ?_
 refine nw 13 255 (fun _ hm => ⟨hm.bl 0, hm.fa 1, trivial⟩) fun z => ?_
 refine wa1 8 rfl ?_
 refine wl_callv rfl cb105 rfl rfl (fun wx hm => (followL wx)) ?_
 refine wl_nil ?_
 refine nw 13 511 (fun _ hm => ⟨hm.bl 0, hm.fa 1, trivial⟩) fun z => ?_
 refine wt 9 13 1023 rfl z (ov_move rfl) ?_
 refine wt 10 13 2047 rfl z (ov_extract rfl rfl) ?_
 refine wt 11 13 4095 rfl z (ov_extract rfl rfl) ?_
 refine wa1 12 rfl ?_
 refine wl_mapPush (k := 9) (e := 132) (X' := [BlkOld w.heap.size none ge 92 [.int .i64 5, .string ⟨#[118]⟩, .string ⟨#[115]⟩, .int .i64 1, .string ⟨#[]⟩]]) 0 (by kernel_rfl) (by kernel_rfl) rfl rfl rfl rfl (by kernel_rfl) (far_cons (i := 1) BlkOld.far rfl far_nil) ?_
 refine wl_nil ?_
 refine nw 13 8191 (fun _ hm => ⟨hm.bl 0, hm.fa 1, trivial⟩) fun z => ?_
 refine wa_done (by kernel_rfl) ?_
 refine nx_blk_nrm (nx_then (gw_region (ad_ rfl rfl ?_)))
 refine wl_set 31 (v' := .int .i64 1) rfl rfl ?_
 refine mv_ rfl (wl_nil ?_)
 refine nx_next ?_
 refine gr_next ?_
 refine sr_ (wl_ov (ov_lss rfl rfl) rfl ?_)
 refine wl_set 12 (v' := .bool false) rfl (congrArg Value.bool (by decide)) ?_
 refine nn_ (gw_seq (cf_ rfl ?_))
 refine gw_exit ?_
 refine nx_then_exit (nx_then_exit ?_)
 refine nx_blk_here ?_
 refine nx_then (sr_ (mv_ rfl (sg_ rfl (nn_ ?_))))
 refine gw_ret ?_
 refine nx_ret1 rfl rfl fun wx hm => ?_
 exact ⟨g1, rfl, ((hm.fact 0 rfl)).2, hm.g⟩
theorem stateL (gs : Nat) (gc : Nat) (gv : Nat) (ge : Nat) (w : World) (hbs : Blk w gs 140 [.string ⟨#[115]⟩, .int .i64 0, .int .i64 0, .int .i64 0, .int .i64 0, .int .i64 0, .int .i64 0, .int .i64 0, .int .i64 0, .int .i64 0, .int .i64 0, .int .i64 0, .int .i64 0, .int .i64 0, .int .i64 0]) (hbc : Blk w gc 159 [.string ⟨#[99]⟩, .string ⟨#[]⟩]) (hbv : Blk w gv 77 [.string ⟨#[118]⟩, .string ⟨#[99]⟩]) (hbe : Blk w ge 92 [.int .i64 5, .string ⟨#[118]⟩, .string ⟨#[115]⟩, .int .i64 1, .string ⟨#[]⟩]) : Calls Tryz.prog 72 #[.agg #[.slice (some ⟨gs, 0, none⟩) 1 1, .slice (some ⟨gc, 0, none⟩) 1 1, .slice (some ⟨gv, 0, none⟩) 1 1, .slice none 0 0], .slice (some ⟨ge, 0, none⟩) 1 1, .string ⟨#[118]⟩, .int .i64 7] w (fun e w' => e = .returned (.tuple #[.agg #[.int .i64 1, .string ⟨#[115]⟩, .int .i64 5], .int .i64 0]) ∧ w.grownBy w' none) := by
 refine gw_enter ⟨37, w, none, []⟩ Tryz.func72 rfl Tryz.ntmps72 rfl (mem0 (X := [BlkOld w.heap.size none gs 140 [.string ⟨#[115]⟩, .int .i64 0, .int .i64 0, .int .i64 0, .int .i64 0, .int .i64 0, .int .i64 0, .int .i64 0, .int .i64 0, .int .i64 0, .int .i64 0, .int .i64 0, .int .i64 0, .int .i64 0, .int .i64 0], BlkOld w.heap.size none gc 159 [.string ⟨#[99]⟩, .string ⟨#[]⟩], BlkOld w.heap.size none gv 77 [.string ⟨#[118]⟩, .string ⟨#[99]⟩], BlkOld w.heap.size none ge 92 [.int .i64 5, .string ⟨#[118]⟩, .string ⟨#[115]⟩, .int .i64 1, .string ⟨#[]⟩]]) (allF_cons hbs.old (allF_cons hbc.old (allF_cons hbv.old (allF_cons hbe.old allF_nil)))) (allL_cons BlkOld.lasts (allL_cons BlkOld.lasts (allL_cons BlkOld.lasts (allL_cons BlkOld.lasts allL_nil))))) ?_
 refine sr_ ?_
 refine wl_box rfl rfl rfl fun g1 => ?_
 refine wl_alloc zc132 rfl fun g2 => ?_
 refine sg_ rfl (nn_ (gw_seq (sr_ ?_)))
 refine wl_ov (ov_loads rz31 rfl (fun _ hm => hm.blkI 1 rfl) rfl rfl) rfl ?_
 refine mv_ rfl ?_
 refine wl_callv rfl cb56 rfl rfl (fun wx hm => (checkL gs gc gv ge wx (hm.fact 0 rfl).2 (hm.fact 1 rfl).2 (hm.fact 2 rfl).2 (hm.fact 3 rfl).2)) ?_
 refine sg_ rfl (nn_ (sr_ (mv_ rfl (wl_ov (ov_neq rfl rfl) rfl ?_))))
 refine wl_set 16 (v' := .bool false) rfl (congrArg Value.bool (by decide)) ?_
 refine nn_ (cf_ rfl (gw_skip (nx_then (gw_seq (sr_ ?_)))))
 refine wl_ov (ov_loads rz31 rfl (fun _ hm => hm.blkI 1 rfl) rfl rfl) rfl ?_
 refine mv_ rfl ?_
 refine wl_callv rfl cb80 rfl rfl (fun wx hm => (vehL gs gc gv wx (hm.fact 0 rfl).2 (hm.fact 1 rfl).2 (hm.fact 2 rfl).2)) ?_
 refine wl_ov (ov_lss rfl rfl) rfl ?_
 refine wl_set 22 (v' := .bool false) rfl (congrArg Value.bool (by decide)) ?_
 refine wl_callw (v := .int .i64 0) rfl cb79 rfl rfl (fun wx hm => (by have h := when_any false 8 wx; rw [show whenE false 8 = 0 by decide +kernel] at h; exact h)) ?_
 refine mv_ rfl ?_
 refine wl_callw (v := .int .i64 0) rfl cb81 rfl rfl (fun wx hm => (by have h := moment_any 7 wx; rw [show momentE 7 = 0 by decide +kernel] at h; exact h)) ?_
 refine wl_buildSlice (e := 35) (cs := [.int .i64 0, .int .i64 0]) rfl (by kernel_rfl) rfl fun g3 => ?_
 refine wl_callw (v := .int .i64 0) rfl cb78 rfl rfl (fun wx hm => (by have h := first_any [0, 0] g3 2 _ wx (hm.blkI 0 rfl) (by simp); rw [show firstE [0, 0] = 0 by decide] at h; exact h)) ?_
 refine sg_ rfl (nn_ (sr_ (mv_ rfl (wl_ov (ov_neq rfl rfl) rfl ?_))))
 refine wl_set 29 (v' := .bool false) rfl (congrArg Value.bool (by decide)) ?_
 refine nn_ (cf_ rfl (gw_skip (nx_then (sr_ (mv_ rfl (mv_ rfl ?_))))))
 refine wl_callx (γ := Nat) (val := (fun g => .map (some g))) (φ := (fun g => True)) (Y := (fun g => fun wy => OwnMap 0 g #[⟨.string ⟨#[118]⟩, .agg #[.int .i64 1, .string ⟨#[115]⟩, .int .i64 5], 0⟩] 1 wy)) rfl cb121 rfl rfl (fun wx hm => (statesL ge wx (hm.fact 3 rfl).2).mono fun _ _ ⟨g, he, hm2, hg⟩ => ⟨g, he, trivial, hg, ⟨Nat.zero_le _, hm2⟩⟩) (fun _ => OwnMap.lasts2) ?_
 rintro gm hphi
 clear hphi
 refine mv_ rfl ?_
 refine wl_ov (ov_lookup (k := 9) (e := 132) (i := 0) (v := .agg #[.int .i64 1, .string ⟨#[115]⟩, .int .i64 5]) (by kernel_rfl) (by kernel_rfl) rfl rfl (fun _ hm => (hm.fact 0 rfl).2) (by kernel_rfl)) rfl ?_
 refine wl_stores (cs' := [.int .i64 1, .string ⟨#[115]⟩, .int .i64 5]) 1 rz132 rfl rfl rfl rfl rfl rfl rfl rfl ?_
 refine sg_ rfl (nn_ ?_)
 refine gw_ret ?_
 refine nx_retct 1 rfl rz132 rfl rfl rfl rfl fun wx hm => ?_
 exact ⟨rfl, hm.g⟩
set_option maxRecDepth 100000 in
theorem same_state_eql (x0 : Int) (x1 : ByteArray) (x2 : Int) (w : World) : (binOp .eql 132 (.agg #[.int .i64 x0, .string x1, .int .i64 x2]) (.agg #[.int .i64 x0, .string x1, .int .i64 x2])).run Tryz.prog w = .ok (.bool true) w := by
  have hS : Tryz.prog.underlying 132 = some (.struct (Tryz.prog.fieldsOf 132)) := by kernel_rfl
  have hp : Tryz.prog.stoodInHeld 132 = false := by kernel_rfl
  rw [run_eql_struct, show (10000 : Nat) = 9999 + 1 from rfl, run_equalIn_agg w 9999 132 _ _ hS hp]
  simp only [Program.fieldsOf, Tryz.underlying132]
  have u3 := Tryz.underlying3
  have u9 := Tryz.underlying9
  clear hS hp
  go_simp
theorem guard_state : Tryz.prog.eqGuardType Tryz.prog.depth 132 = false := by kernel_rfl
theorem lots_any (w : World) : Calls Tryz.prog 26 #[] w (fun e w' => e = .returned (.bool true) ∧ w.grownBy w' none) := by
 refine gw_enter ⟨25, w, none, []⟩ Tryz.func26 rfl Tryz.ntmps26 rfl (mem0 (X := []) allF_nil allL_nil) ?_
 refine sr_ (sg_ rfl (nn_ (sr_ ?_)))
 refine wl_ov (ov_build (cs := [.string ⟨#[115]⟩, .int .i64 0, .int .i64 0, .int .i64 0, .int .i64 0, .int .i64 0, .int .i64 0, .int .i64 0, .int .i64 0, .int .i64 0, .int .i64 0, .int .i64 0, .int .i64 0, .int .i64 0, .int .i64 0]) rfl (by kernel_rfl)) rfl ?_
 refine wl_buildSlice (e := 140) (cs := [.string ⟨#[115]⟩, .int .i64 0, .int .i64 0, .int .i64 0, .int .i64 0, .int .i64 0, .int .i64 0, .int .i64 0, .int .i64 0, .int .i64 0, .int .i64 0, .int .i64 0, .int .i64 0, .int .i64 0, .int .i64 0]) rfl (by kernel_rfl) rfl fun g1 => ?_
 refine wl_ov (ov_build (cs := [.string ⟨#[99]⟩, .string ⟨#[]⟩]) rfl (by kernel_rfl)) rfl ?_
 refine wl_buildSlice (e := 159) (cs := [.string ⟨#[99]⟩, .string ⟨#[]⟩]) rfl (by kernel_rfl) rfl fun g2 => ?_
 refine wl_ov (ov_build (cs := [.string ⟨#[118]⟩, .string ⟨#[99]⟩]) rfl (by kernel_rfl)) rfl ?_
 refine wl_buildSlice (e := 77) (cs := [.string ⟨#[118]⟩, .string ⟨#[99]⟩]) rfl (by kernel_rfl) rfl fun g3 => ?_
 refine wl_ov (ov_build (cs := [.slice (some ⟨g1, 0, none⟩) 1 1, .slice (some ⟨g2, 0, none⟩) 1 1, .slice (some ⟨g3, 0, none⟩) 1 1, .slice none 0 0]) rfl (by kernel_rfl)) rfl ?_
 refine wl_alloc zc31 rfl fun g4 => ?_
 refine wl_stores (cs' := [.slice (some ⟨g1, 0, none⟩) 1 1, .slice (some ⟨g2, 0, none⟩) 1 1, .slice (some ⟨g3, 0, none⟩) 1 1, .slice none 0 0]) 0 rz31 rfl rfl rfl rfl rfl rfl rfl rfl ?_
 refine nn_ (sr_ ?_)
 refine wl_ov (ov_loads rz31 rfl (fun _ hm => hm.blkI 0 rfl) rfl rfl) rfl ?_
 refine wl_ov (ov_build (cs := [.int .i64 5, .string ⟨#[118]⟩, .string ⟨#[115]⟩, .int .i64 1, .string ⟨#[]⟩]) rfl (by kernel_rfl)) rfl ?_
 refine wl_buildSlice (e := 92) (cs := [.int .i64 5, .string ⟨#[118]⟩, .string ⟨#[115]⟩, .int .i64 1, .string ⟨#[]⟩]) rfl (by kernel_rfl) rfl fun g5 => ?_
 refine wl_callv rfl cb72 rfl rfl (fun wx hm => (stateL g1 g2 g3 g5 wx (hm.blkI 4 rfl) (hm.blkI 3 rfl) (hm.blkI 2 rfl) (hm.blkI 0 rfl))) ?_
 refine mv_ rfl (wl_ov (ov_extract rfl rfl) rfl (wl_ov (ov_extract rfl rfl) rfl ?_))
 refine wl_alloc zc132 rfl fun g6 => ?_
 refine wl_stores (cs' := [.int .i64 1, .string ⟨#[115]⟩, .int .i64 5]) 0 rz132 rfl rfl rfl rfl rfl rfl rfl rfl ?_
 refine sg_ rfl (nn_ (sr_ (mv_ rfl (wl_ov (ov_eql rfl rfl) rfl ?_))))
 refine wl_set 19 (v' := .bool true) rfl (congrArg Value.bool (by decide)) ?_
 refine mv_ rfl (wl_guard_on rfl rfl rfl ?_)
 refine wl_ov (ov_loads rz132 rfl (fun _ hm => hm.blkI 0 rfl) rfl rfl) rfl ?_
 refine wl_guard_on rfl rfl rfl ?_
 refine wl_ov (ov_build (cs := [.int .i64 1, .string ⟨#[115]⟩, .int .i64 5]) rfl (by kernel_rfl)) rfl ?_
 refine wl_guard_on rfl rfl rfl ?_
 refine wl_ov (ov_bin rfl rfl (cmp_agg guard_state (fun wx => same_state_eql 1 ⟨#[115]⟩ 5 wx))) rfl ?_
 refine pt_ rfl rfl (sg_ rfl (nn_ ?_))
 refine gw_ret ?_
 refine nx_ret1 rfl rfl fun wx hm => ?_
 exact ⟨rfl, hm.g⟩
end Go.Proofs.YtjecbkgjabnmoaaGreatDoor
