/- Several texts as one: Rx Gs Eh Gp Ej Rt2 Ek Yp Zp Zf Lo El -/
import Derived.Test.YtdoooppeiphefaaGreatDoorPd
import Derived.Test.YtdoooppeiphefaaGreatDoorPb
import Derived.Test.YtdoooppeiphefaaGreatDoorPa
import Derived.Test.YtdoooppeiphefaaGreatDoorPc
import Derived.Shelf.Sort.Plain
set_option maxRecDepth 100000
set_option maxHeartbeats 4000000
namespace Go.Proofs.YtdoooppeiphefaaGreatDoor
open Go.RowKit
/-- What the generators' fleets are. -/
def FlOk (sl : List St) (cl : List Cs) (vl : List Vh) (pl : List Pl) (sn vn pn : Nat) : Prop := ((∀ x ∈ sl, StOk x) ∧ sn ≤ 10) ∧ (∀ x ∈ cl, CsOk x) ∧ ((∀ x ∈ vl, VhB x) ∧ vn ≤ 10) ∧ (∀ x ∈ pl, PlB x) ∧ pn ≤ 10
theorem s0_ok : ∀ h ∈ ([0, 0, 0, 0, 0, 0, 0, 0, 0, 0, 0, 0, 0, 0] : List Int), -9223372036854775808 ≤ h ∧ h ≤ 9223372036854775807 := by decide
theorem stB_all {l : List St} (h : ∀ x ∈ l, StB x) : ∀ x ∈ l, StOk x := fun x hx => stB_ok (h x hx)
theorem gclassKey2_any (w : World) (B sb m : Nat) (hS : Strm 25 w B sb m) (hm : m ≤ 100000000000) :
  Calls Tryz.prog 165 #[.pointer (some ⟨sb, 0, none⟩)] w (fun e w' => ∃ v : ByteArray, e = .returned (.string v) ∧ v.size ≤ 100 ∧ Strm 25 w' B sb (m + 1) ∧ w.grownBy w' (some sb)) := by
 refine gw_enter ⟨6, w, (some sb), []⟩ Tryz.func165 rfl Tryz.ntmps165 rfl (memS (X := []) hS allF_nil allL_nil) ?_
 refine sr_ (sg_ rfl (nn_ (sr_ (mv_ rfl ?_))))
 refine wl_buildSlice (e := 9) (cs := [.string ⟨#[109, 105, 110, 105]⟩, .string ⟨#[109, 105, 110, 105]⟩, .string ⟨#[109, 105, 100, 105]⟩, .string ⟨#[109, 97, 120, 105]⟩, .string ⟨#[98, 105, 103]⟩, .string ⟨#[109, 105, 110, 105]⟩, .string ⟨#[110, 111, 110, 101]⟩, .string ⟨#[]⟩, .string ⟨#[65]⟩]) rfl (by kernel_rfl) rfl fun g1 => ?_
 refine wl_got (γ := ByteArray) (val := fun v => .string v) (φ := fun v => v ∈ ([⟨#[109, 105, 110, 105]⟩, ⟨#[109, 105, 110, 105]⟩, ⟨#[109, 105, 100, 105]⟩, ⟨#[109, 97, 120, 105]⟩, ⟨#[98, 105, 103]⟩, ⟨#[109, 105, 110, 105]⟩, ⟨#[110, 111, 110, 101]⟩, ⟨#[]⟩, ⟨#[65]⟩] : List ByteArray)) rfl cb62 rfl rfl rfl rfl (fun wx hm => (some_any [⟨#[109, 105, 110, 105]⟩, ⟨#[109, 105, 110, 105]⟩, ⟨#[109, 105, 100, 105]⟩, ⟨#[109, 97, 120, 105]⟩, ⟨#[98, 105, 103]⟩, ⟨#[109, 105, 110, 105]⟩, ⟨#[110, 111, 110, 101]⟩, ⟨#[]⟩, ⟨#[65]⟩] _ _ _ wx B sb _ hm.k (by omega) (by simp) (by simp) (hm.blkI 0 rfl) (hm.neRow 0 rfl rfl))) fun s2 hs2 => ?_
 have zs2 : s2.size ≤ 100 := mem_sz hs2 (by decide)
 refine sg_ rfl (nn_ ?_)
 refine gw_ret ?_
 refine nx_ret1 rfl rfl fun wx hm => ?_
 exact ⟨s2, rfl, by omega, hm.k, hm.g⟩
theorem fleet_any (w : World) (B sb m : Nat) (hS : Strm 25 w B sb m) (hm : m ≤ 10000000) :
  Calls Tryz.prog 60 #[.pointer (some ⟨sb, 0, none⟩)] w (fun e w' => ∃ (sA cA vA pA : Option Addr) (sn sc cc vn vc pn pc : Nat) (sl : List St) (cl : List Cs) (vl : List Vh) (pl : List Pl), e = .returned (.agg #[.slice sA sn sc, .slice cA 4 cc, .slice vA vn vc, .slice pA pn pc]) ∧ FlOk sl cl vl pl sn vn pn ∧ Strm 25 w' B sb (m + 400) ∧ w.grownBy w' (some sb) ∧ SlT stEnc 15 156 w' sA sn sl ∧ SlT csEnc 2 158 w' cA 4 cl ∧ SlT vhEnc 2 69 w' vA vn vl ∧ SlT plEnc 3 164 w' pA pn pl ∧ ShapeA pA pn pc ∧ pn ≤ pc) := by
 refine gw_enter ⟨56, w, (some sb), [158]⟩ Tryz.func60 rfl Tryz.ntmps60 rfl (memS (X := []) hS allF_nil allL_nil) ?_
 refine sr_ ?_
 refine wl_alloc zc31 rfl fun g1 => ?_
 refine nn_ (sr_ (mv_ rfl ?_))
 refine wl_calls3 (γ := Option Addr × Option Addr × Option Addr × Option Addr × Nat × Nat × Nat × Nat × Nat × Nat × Nat × List St × List Cs × List Vh × List Pl) (val := (fun g => .agg #[.slice g.1 g.2.2.2.2.1 g.2.2.2.2.2.1, .slice g.2.1 4 g.2.2.2.2.2.2.1, .slice g.2.2.1 g.2.2.2.2.2.2.2.1 g.2.2.2.2.2.2.2.2.1, .slice g.2.2.2.1 g.2.2.2.2.2.2.2.2.2.1 g.2.2.2.2.2.2.2.2.2.2.1])) (φ := (fun g => RfOk g.2.2.2.2.2.2.2.2.2.2.2.1 g.2.2.2.2.2.2.2.2.2.2.2.2.1 g.2.2.2.2.2.2.2.2.2.2.2.2.2.1 g.2.2.2.2.2.2.2.2.2.2.2.2.2.2 g.2.2.2.2.1 g.2.2.2.2.2.2.2.1 g.2.2.2.2.2.2.2.2.2.1)) (Y := (fun g => fun wy => SlT csEnc 2 158 wy g.2.1 4 g.2.2.2.2.2.2.2.2.2.2.2.2.1)) (m' := m + 300) (fun g => ⟨.slice g.1 g.2.2.2.2.1 g.2.2.2.2.2.1, 156, 15, g.2.2.2.2.1, g.2.2.2.2.2.2.2.2.2.2.2.1.flatMap stEnc⟩) (fun g => ⟨.slice g.2.2.1 g.2.2.2.2.2.2.2.1 g.2.2.2.2.2.2.2.2.1, 69, 2, g.2.2.2.2.2.2.2.1, g.2.2.2.2.2.2.2.2.2.2.2.2.2.1.flatMap vhEnc⟩) (fun g => ⟨.slice g.2.2.2.1 g.2.2.2.2.2.2.2.2.2.1 g.2.2.2.2.2.2.2.2.2.2.1, 164, 3, g.2.2.2.2.2.2.2.2.2.1, g.2.2.2.2.2.2.2.2.2.2.2.2.2.2.flatMap plEnc⟩) rfl cb25 rfl rfl rfl rfl (fun _ => rfl) (fun _ => rfl) (fun _ => rfl) (fun wx hm => (rightFleet_any wx B sb _ hm.k (by omega)).mono fun _ _ ⟨sA, cA, vA, pA, sn, sc, cc, vn, vc, pn, pc, sl, cl, vl, pl, he, hok, hS, hg, h1, h2, h3, h4⟩ => ⟨(sA, cA, vA, pA, sn, sc, cc, vn, vc, pn, pc, sl, cl, vl, pl), he, hok, hS, hg, h1, h2, h3, h4⟩) (fun _ => SlT.lasts2 rfl) ?_
 rintro ⟨sA, cA, vA, pA, sn, sc, cc, vn, vc, pn, pc, sl, cl, vl, pl⟩ hrf
 dsimp only at hrf ⊢
 obtain ⟨⟨hsl, hsB, hs1, hs3⟩, ⟨hcl4, hcok⟩, ⟨hvl, hvB, hv4⟩, hpl, hpB, hp5⟩ := hrf
 refine wl_alloc zc31 rfl fun g2 => ?_
 refine wl_stores (cs' := [.slice sA sn sc, .slice cA 4 cc, .slice vA vn vc, .slice pA pn pc]) 0 rz31 rfl rfl rfl rfl rfl rfl rfl rfl ?_
 refine nn_ (gw_seq (sr_ (mv_ rfl ?_)))
 refine wl_got (γ := Bool) (val := fun v => .bool v) (φ := fun v => True) rfl cb64 rfl rfl rfl rfl (fun wx hm => ((flip_any _ wx B sb _ hm.k (by omega) (by omega) (by omega)).mono fun _ _ ⟨v, he, hS, hg⟩ => ⟨v, trivial, he, hS, hg⟩)) fun f3 _ => ?_
 refine wl_ov (ov_un_not rfl) rfl (nn_ ?_)
 refine gw_cond rfl (fun hh => ?_) (fun hh => ?_)
 ·have hf : f3 = false := by simpa using hh
  clear hh
  refine sr_ ?_
  refine wl_ov (ov_loads rz31 rfl (fun _ hm => hm.blkI 0 rfl) rfl rfl) rfl ?_
  refine wl_stores (cs' := [.slice sA sn sc, .slice cA 4 cc, .slice vA vn vc, .slice pA pn pc]) 1 rz31 rfl rfl rfl rfl rfl rfl rfl rfl ?_
  refine nn_ ?_
  refine gw_ret ?_
  refine nx_then_ret ?_
  refine nx_retc 1 rfl rz31 rfl rfl rfl fun wx hm => ?_
  exact ⟨sA, cA, vA, pA, sn, sc, cc, vn, vc, pn, pc, sl, cl, vl, pl, rfl, ⟨⟨stB_all hsB, by omega⟩, hcok, ⟨hvB, by omega⟩, hpB, by omega⟩, hm.k.more (by omega), hm.g, SlT.ofOwnL stEnc_lenL (stB_all hsB) (hm.ownI 0 rfl) hsl, (hm.fact 0 rfl), SlT.ofOwn vh_len (hm.ownI 1 rfl) hvl, SlT.ofOwn pl_len (hm.ownI 2 rfl) hpl, own_shape (hm.ownI 2 rfl), own_cap (hm.ownI 2 rfl)⟩
 have hf : f3 = true := by simpa using hh
 clear hh
 refine gw_skip (nx_then (gw_seq (sr_ (mv_ rfl ?_))))
 refine wl_got (γ := Int) (val := fun v => .int .i64 v) (φ := fun v => IsBelow 4 v) rfl cb29 rfl rfl rfl rfl (fun wx hm => (next_any _ wx B sb _ hm.k (by omega) (by omega) (by omega))) fun vj hvj => ?_
 refine nn_ (gw_block (sr_ (wl_ov (ov_eql rfl rfl) rfl (sg_ rfl (nn_ ?_)))))
 refine gw_cond rfl (fun hh => ?_) (fun hh => ?_)
 ·have h0 : vj = 0 := by simpa using hh
  clear hh
  refine gd (fun wz => Blk wz g1 31 [.slice none 0 0, .slice none 0 0, .slice none 0 0, .slice none 0 0] ∧ (fun wy => SlT csEnc 2 158 wy cA 4 cl) wz ∧ True) mixed (fun _ hm => ⟨hm.bl 1, hm.fa 0, trivial⟩) fun z => ?_
  refine wt 0 10 1 rfl z (ov_field fo31_0 rfl rfl) ?_
  refine wt 2 10 5 rfl z (ov_move rfl) ?_
  refine wa_all [1, 3] (by kernel_rfl) rfl ⟨⟨_, rfl, ?_⟩, ⟨_, rfl, ?_⟩, trivial⟩
  ·refine lk_ sc26 0 rfl rfl rfl (wl_nil ?_)
   refine nw 10 7 (fun _ hm => ⟨hm.bl 1, hm.fa 0, trivial⟩) fun z => ?_
   refine wa1 3 rfl ?_
   refine wl_buildSlice (e := 9) (cs := [.string ⟨#[]⟩, .string ⟨#[65]⟩, .string ⟨#[115, 49]⟩, .string ⟨#[115, 57]⟩]) rfl (by kernel_rfl) rfl fun g4 => ?_
   refine wl_nil ?_
   refine nw 10 15 (fun _ hm => ⟨hm.bl 2, hm.fa 0, trivial⟩) fun z => ?_
   refine wa1 4 rfl ?_
   refine wl_got (γ := ByteArray) (val := fun v => .string v) (φ := fun v => v ∈ ([⟨#[]⟩, ⟨#[65]⟩, ⟨#[115, 49]⟩, ⟨#[115, 57]⟩] : List ByteArray)) rfl cb62 rfl rfl rfl rfl (fun wx hm => (some_any [⟨#[]⟩, ⟨#[65]⟩, ⟨#[115, 49]⟩, ⟨#[115, 57]⟩] _ _ _ wx B sb _ hm.k (by omega) (by simp) (by simp) (hm.blkI 0 rfl) (hm.neRow 0 rfl rfl))) fun s5 hs5 => ?_
   have zs5 : s5.size ≤ 100 := mem_sz hs5 (by decide)
   refine wl_nil ?_
   refine nw 10 31 (fun _ hm => ⟨hm.bl 2, hm.fa 0, trivial⟩) fun z => ?_
   refine wt 5 10 63 rfl z (ov_build (cs := [.string s5, .int .i64 0, .int .i64 0, .int .i64 0, .int .i64 0, .int .i64 0, .int .i64 0, .int .i64 0, .int .i64 0, .int .i64 0, .int .i64 0, .int .i64 0, .int .i64 0, .int .i64 0, .int .i64 0]) rfl (by kernel_rfl)) ?_
   refine wa1 6 rfl ?_
   refine wl_buildSlice (e := 156) (cs := [.string s5, .int .i64 0, .int .i64 0, .int .i64 0, .int .i64 0, .int .i64 0, .int .i64 0, .int .i64 0, .int .i64 0, .int .i64 0, .int .i64 0, .int .i64 0, .int .i64 0, .int .i64 0, .int .i64 0]) rfl (by kernel_rfl) rfl fun g6 => ?_
   refine wl_nil ?_
   refine nw 10 127 (fun _ hm => ⟨hm.bl 3, hm.fa 0, trivial⟩) fun z => ?_
   refine wa1 7 rfl ?_
   refine wl_append (news := [.string s5, .int .i64 0, .int .i64 0, .int .i64 0, .int .i64 0, .int .i64 0, .int .i64 0, .int .i64 0, .int .i64 0, .int .i64 0, .int .i64 0, .int .i64 0, .int .i64 0, .int .i64 0, .int .i64 0]) 0 0 ap26 rfl rfl rfl rfl rfl rfl rfl (by omega) (by unfold maxLen; omega) rfl rfl fun v2 hv2 => ?_
   refine wl_look (R := ∃ A cc, v2 = .slice A (sn + 1) cc) (fun wx hm => own_slice (hm.ownI 0 rfl)) ?_
   rintro ⟨A2, c2, rfl⟩
   have hxs : sl.flatMap stEnc ++ ([.string s5, .int .i64 0, .int .i64 0, .int .i64 0, .int .i64 0, .int .i64 0, .int .i64 0, .int .i64 0, .int .i64 0, .int .i64 0, .int .i64 0, .int .i64 0, .int .i64 0, .int .i64 0, .int .i64 0] : List Value) = (sl ++ [(⟨s5, [0, 0, 0, 0, 0, 0, 0, 0, 0, 0, 0, 0, 0, 0]⟩ : St)]).flatMap stEnc := by simp [stEnc, stCells]
   rw [hxs]
   refine wl_nil ?_
   refine nw 10 255 (fun _ hm => ⟨hm.bl 3, hm.fa 0, trivial⟩) fun z => ?_
   refine wt 8 10 511 rfl z (ov_field fo31_0 rfl rfl) ?_
   refine wa1 9 rfl ?_
   refine wl_store 2 sc26 rfl rfl rfl rfl rfl rfl ?_
   refine wl_nil ?_
   refine nw 10 1023 (fun _ hm => ⟨hm.bl 3, hm.fa 0, trivial⟩) fun z => ?_
   refine wa_done (by kernel_rfl) ?_
   refine nx_blk_nrm (nx_then (sr_ ?_))
   refine wl_ov (ov_loads rz31 rfl (fun _ hm => hm.blkI 2 rfl) rfl rfl) rfl ?_
   refine wl_stores (cs' := [.slice A2 (sn + 1) c2, .slice cA 4 cc, .slice vA vn vc, .slice pA pn pc]) 3 rz31 rfl rfl rfl rfl rfl rfl rfl rfl ?_
   refine nn_ ?_
   refine gw_ret ?_
   refine nx_retc 3 rfl rz31 rfl rfl rfl fun wx hm => ?_
   exact ⟨A2, cA, vA, pA, sn + 1, c2, cc, vn, vc, pn, pc, sl ++ [(⟨s5, [0, 0, 0, 0, 0, 0, 0, 0, 0, 0, 0, 0, 0, 0]⟩ : St)], cl, vl, pl, rfl, ⟨⟨all_snoc (stB_all hsB) ⟨rfl, by dsimp only; omega, s0_ok⟩, by omega⟩, hcok, ⟨hvB, by omega⟩, hpB, by omega⟩, hm.k.more (by omega), hm.g, SlT.ofOwnL stEnc_lenL (all_snoc (stB_all hsB) ⟨rfl, by dsimp only; omega, s0_ok⟩) (hm.ownI 0 rfl) (by simp [hsl]), (hm.fact 0 rfl), SlT.ofOwn vh_len (hm.ownI 1 rfl) hvl, SlT.ofOwn pl_len (hm.ownI 2 rfl) hpl, own_shape (hm.ownI 2 rfl), own_cap (hm.ownI 2 rfl)⟩
  refine wl_buildSlice (e := 9) (cs := [.string ⟨#[]⟩, .string ⟨#[65]⟩, .string ⟨#[115, 49]⟩, .string ⟨#[115, 57]⟩]) rfl (by kernel_rfl) rfl fun g7 => ?_
  refine wl_nil ?_
  refine nw 10 13 (fun _ hm => ⟨hm.bl 2, hm.fa 0, trivial⟩) fun z => ?_
  refine wa_all [1, 4] (by kernel_rfl) rfl ⟨⟨_, rfl, ?_⟩, ⟨_, rfl, ?_⟩, trivial⟩
  ·refine lk_ sc26 1 rfl rfl rfl (wl_nil ?_)
   refine nw 10 15 (fun _ hm => ⟨hm.bl 2, hm.fa 0, trivial⟩) fun z => ?_
   refine wa1 4 rfl ?_
   refine wl_got (γ := ByteArray) (val := fun v => .string v) (φ := fun v => v ∈ ([⟨#[]⟩, ⟨#[65]⟩, ⟨#[115, 49]⟩, ⟨#[115, 57]⟩] : List ByteArray)) rfl cb62 rfl rfl rfl rfl (fun wx hm => (some_any [⟨#[]⟩, ⟨#[65]⟩, ⟨#[115, 49]⟩, ⟨#[115, 57]⟩] _ _ _ wx B sb _ hm.k (by omega) (by simp) (by simp) (hm.blkI 0 rfl) (hm.neRow 0 rfl rfl))) fun s8 hs8 => ?_
   have zs8 : s8.size ≤ 100 := mem_sz hs8 (by decide)
   refine wl_nil ?_
   refine nw 10 31 (fun _ hm => ⟨hm.bl 2, hm.fa 0, trivial⟩) fun z => ?_
   refine wt 5 10 63 rfl z (ov_build (cs := [.string s8, .int .i64 0, .int .i64 0, .int .i64 0, .int .i64 0, .int .i64 0, .int .i64 0, .int .i64 0, .int .i64 0, .int .i64 0, .int .i64 0, .int .i64 0, .int .i64 0, .int .i64 0, .int .i64 0]) rfl (by kernel_rfl)) ?_
   refine wa1 6 rfl ?_
   refine wl_buildSlice (e := 156) (cs := [.string s8, .int .i64 0, .int .i64 0, .int .i64 0, .int .i64 0, .int .i64 0, .int .i64 0, .int .i64 0, .int .i64 0, .int .i64 0, .int .i64 0, .int .i64 0, .int .i64 0, .int .i64 0, .int .i64 0]) rfl (by kernel_rfl) rfl fun g9 => ?_
   refine wl_nil ?_
   refine nw 10 127 (fun _ hm => ⟨hm.bl 3, hm.fa 0, trivial⟩) fun z => ?_
   refine wa1 7 rfl ?_
   refine wl_append (news := [.string s8, .int .i64 0, .int .i64 0, .int .i64 0, .int .i64 0, .int .i64 0, .int .i64 0, .int .i64 0, .int .i64 0, .int .i64 0, .int .i64 0, .int .i64 0, .int .i64 0, .int .i64 0, .int .i64 0]) 0 0 ap26 rfl rfl rfl rfl rfl rfl rfl (by omega) (by unfold maxLen; omega) rfl rfl fun v2 hv2 => ?_
   refine wl_look (R := ∃ A cc, v2 = .slice A (sn + 1) cc) (fun wx hm => own_slice (hm.ownI 0 rfl)) ?_
   rintro ⟨A2, c2, rfl⟩
   have hxs : sl.flatMap stEnc ++ ([.string s8, .int .i64 0, .int .i64 0, .int .i64 0, .int .i64 0, .int .i64 0, .int .i64 0, .int .i64 0, .int .i64 0, .int .i64 0, .int .i64 0, .int .i64 0, .int .i64 0, .int .i64 0, .int .i64 0] : List Value) = (sl ++ [(⟨s8, [0, 0, 0, 0, 0, 0, 0, 0, 0, 0, 0, 0, 0, 0]⟩ : St)]).flatMap stEnc := by simp [stEnc, stCells]
   rw [hxs]
   refine wl_nil ?_
   refine nw 10 255 (fun _ hm => ⟨hm.bl 3, hm.fa 0, trivial⟩) fun z => ?_
   refine wt 8 10 511 rfl z (ov_field fo31_0 rfl rfl) ?_
   refine wa1 9 rfl ?_
   refine wl_store 2 sc26 rfl rfl rfl rfl rfl rfl ?_
   refine wl_nil ?_
   refine nw 10 1023 (fun _ hm => ⟨hm.bl 3, hm.fa 0, trivial⟩) fun z => ?_
   refine wa_done (by kernel_rfl) ?_
   refine nx_blk_nrm (nx_then (sr_ ?_))
   refine wl_ov (ov_loads rz31 rfl (fun _ hm => hm.blkI 2 rfl) rfl rfl) rfl ?_
   refine wl_stores (cs' := [.slice A2 (sn + 1) c2, .slice cA 4 cc, .slice vA vn vc, .slice pA pn pc]) 3 rz31 rfl rfl rfl rfl rfl rfl rfl rfl ?_
   refine nn_ ?_
   refine gw_ret ?_
   refine nx_retc 3 rfl rz31 rfl rfl rfl fun wx hm => ?_
   exact ⟨A2, cA, vA, pA, sn + 1, c2, cc, vn, vc, pn, pc, sl ++ [(⟨s8, [0, 0, 0, 0, 0, 0, 0, 0, 0, 0, 0, 0, 0, 0]⟩ : St)], cl, vl, pl, rfl, ⟨⟨all_snoc (stB_all hsB) ⟨rfl, by dsimp only; omega, s0_ok⟩, by omega⟩, hcok, ⟨hvB, by omega⟩, hpB, by omega⟩, hm.k.more (by omega), hm.g, SlT.ofOwnL stEnc_lenL (all_snoc (stB_all hsB) ⟨rfl, by dsimp only; omega, s0_ok⟩) (hm.ownI 0 rfl) (by simp [hsl]), (hm.fact 0 rfl), SlT.ofOwn vh_len (hm.ownI 1 rfl) hvl, SlT.ofOwn pl_len (hm.ownI 2 rfl) hpl, own_shape (hm.ownI 2 rfl), own_cap (hm.ownI 2 rfl)⟩
  refine wl_got (γ := ByteArray) (val := fun v => .string v) (φ := fun v => v ∈ ([⟨#[]⟩, ⟨#[65]⟩, ⟨#[115, 49]⟩, ⟨#[115, 57]⟩] : List ByteArray)) rfl cb62 rfl rfl rfl rfl (fun wx hm => (some_any [⟨#[]⟩, ⟨#[65]⟩, ⟨#[115, 49]⟩, ⟨#[115, 57]⟩] _ _ _ wx B sb _ hm.k (by omega) (by simp) (by simp) (hm.blkI 0 rfl) (hm.neRow 0 rfl rfl))) fun s10 hs10 => ?_
  have zs10 : s10.size ≤ 100 := mem_sz hs10 (by decide)
  refine wl_nil ?_
  refine nw 10 29 (fun _ hm => ⟨hm.bl 2, hm.fa 0, trivial⟩) fun z => ?_
  refine wt 5 10 61 rfl z (ov_build (cs := [.string s10, .int .i64 0, .int .i64 0, .int .i64 0, .int .i64 0, .int .i64 0, .int .i64 0, .int .i64 0, .int .i64 0, .int .i64 0, .int .i64 0, .int .i64 0, .int .i64 0, .int .i64 0, .int .i64 0]) rfl (by kernel_rfl)) ?_
  refine wa_all [1, 6] (by kernel_rfl) rfl ⟨⟨_, rfl, ?_⟩, ⟨_, rfl, ?_⟩, trivial⟩
  ·refine lk_ sc26 1 rfl rfl rfl (wl_nil ?_)
   refine nw 10 63 (fun _ hm => ⟨hm.bl 2, hm.fa 0, trivial⟩) fun z => ?_
   refine wa1 6 rfl ?_
   refine wl_buildSlice (e := 156) (cs := [.string s10, .int .i64 0, .int .i64 0, .int .i64 0, .int .i64 0, .int .i64 0, .int .i64 0, .int .i64 0, .int .i64 0, .int .i64 0, .int .i64 0, .int .i64 0, .int .i64 0, .int .i64 0, .int .i64 0]) rfl (by kernel_rfl) rfl fun g11 => ?_
   refine wl_nil ?_
   refine nw 10 127 (fun _ hm => ⟨hm.bl 3, hm.fa 0, trivial⟩) fun z => ?_
   refine wa1 7 rfl ?_
   refine wl_append (news := [.string s10, .int .i64 0, .int .i64 0, .int .i64 0, .int .i64 0, .int .i64 0, .int .i64 0, .int .i64 0, .int .i64 0, .int .i64 0, .int .i64 0, .int .i64 0, .int .i64 0, .int .i64 0, .int .i64 0]) 0 0 ap26 rfl rfl rfl rfl rfl rfl rfl (by omega) (by unfold maxLen; omega) rfl rfl fun v2 hv2 => ?_
   refine wl_look (R := ∃ A cc, v2 = .slice A (sn + 1) cc) (fun wx hm => own_slice (hm.ownI 0 rfl)) ?_
   rintro ⟨A2, c2, rfl⟩
   have hxs : sl.flatMap stEnc ++ ([.string s10, .int .i64 0, .int .i64 0, .int .i64 0, .int .i64 0, .int .i64 0, .int .i64 0, .int .i64 0, .int .i64 0, .int .i64 0, .int .i64 0, .int .i64 0, .int .i64 0, .int .i64 0, .int .i64 0] : List Value) = (sl ++ [(⟨s10, [0, 0, 0, 0, 0, 0, 0, 0, 0, 0, 0, 0, 0, 0]⟩ : St)]).flatMap stEnc := by simp [stEnc, stCells]
   rw [hxs]
   refine wl_nil ?_
   refine nw 10 255 (fun _ hm => ⟨hm.bl 3, hm.fa 0, trivial⟩) fun z => ?_
   refine wt 8 10 511 rfl z (ov_field fo31_0 rfl rfl) ?_
   refine wa1 9 rfl ?_
   refine wl_store 2 sc26 rfl rfl rfl rfl rfl rfl ?_
   refine wl_nil ?_
   refine nw 10 1023 (fun _ hm => ⟨hm.bl 3, hm.fa 0, trivial⟩) fun z => ?_
   refine wa_done (by kernel_rfl) ?_
   refine nx_blk_nrm (nx_then (sr_ ?_))
   refine wl_ov (ov_loads rz31 rfl (fun _ hm => hm.blkI 2 rfl) rfl rfl) rfl ?_
   refine wl_stores (cs' := [.slice A2 (sn + 1) c2, .slice cA 4 cc, .slice vA vn vc, .slice pA pn pc]) 3 rz31 rfl rfl rfl rfl rfl rfl rfl rfl ?_
   refine nn_ ?_
   refine gw_ret ?_
   refine nx_retc 3 rfl rz31 rfl rfl rfl fun wx hm => ?_
   exact ⟨A2, cA, vA, pA, sn + 1, c2, cc, vn, vc, pn, pc, sl ++ [(⟨s10, [0, 0, 0, 0, 0, 0, 0, 0, 0, 0, 0, 0, 0, 0]⟩ : St)], cl, vl, pl, rfl, ⟨⟨all_snoc (stB_all hsB) ⟨rfl, by dsimp only; omega, s0_ok⟩, by omega⟩, hcok, ⟨hvB, by omega⟩, hpB, by omega⟩, hm.k.more (by omega), hm.g, SlT.ofOwnL stEnc_lenL (all_snoc (stB_all hsB) ⟨rfl, by dsimp only; omega, s0_ok⟩) (hm.ownI 0 rfl) (by simp [hsl]), (hm.fact 0 rfl), SlT.ofOwn vh_len (hm.ownI 1 rfl) hvl, SlT.ofOwn pl_len (hm.ownI 2 rfl) hpl, own_shape (hm.ownI 2 rfl), own_cap (hm.ownI 2 rfl)⟩
  refine wl_buildSlice (e := 156) (cs := [.string s10, .int .i64 0, .int .i64 0, .int .i64 0, .int .i64 0, .int .i64 0, .int .i64 0, .int .i64 0, .int .i64 0, .int .i64 0, .int .i64 0, .int .i64 0, .int .i64 0, .int .i64 0, .int .i64 0]) rfl (by kernel_rfl) rfl fun g12 => ?_
  refine wl_nil ?_
  refine nw 10 125 (fun _ hm => ⟨hm.bl 3, hm.fa 0, trivial⟩) fun z => ?_
  refine wa1 1 rfl ?_
  refine lk_ sc26 2 rfl rfl rfl (wl_nil ?_)
  refine nw 10 127 (fun _ hm => ⟨hm.bl 3, hm.fa 0, trivial⟩) fun z => ?_
  refine wa1 7 rfl ?_
  refine wl_append (news := [.string s10, .int .i64 0, .int .i64 0, .int .i64 0, .int .i64 0, .int .i64 0, .int .i64 0, .int .i64 0, .int .i64 0, .int .i64 0, .int .i64 0, .int .i64 0, .int .i64 0, .int .i64 0, .int .i64 0]) 0 0 ap26 rfl rfl rfl rfl rfl rfl rfl (by omega) (by unfold maxLen; omega) rfl rfl fun v2 hv2 => ?_
  refine wl_look (R := ∃ A cc, v2 = .slice A (sn + 1) cc) (fun wx hm => own_slice (hm.ownI 0 rfl)) ?_
  rintro ⟨A2, c2, rfl⟩
  have hxs : sl.flatMap stEnc ++ ([.string s10, .int .i64 0, .int .i64 0, .int .i64 0, .int .i64 0, .int .i64 0, .int .i64 0, .int .i64 0, .int .i64 0, .int .i64 0, .int .i64 0, .int .i64 0, .int .i64 0, .int .i64 0, .int .i64 0] : List Value) = (sl ++ [(⟨s10, [0, 0, 0, 0, 0, 0, 0, 0, 0, 0, 0, 0, 0, 0]⟩ : St)]).flatMap stEnc := by simp [stEnc, stCells]
  rw [hxs]
  refine wl_nil ?_
  refine nw 10 255 (fun _ hm => ⟨hm.bl 3, hm.fa 0, trivial⟩) fun z => ?_
  refine wt 8 10 511 rfl z (ov_field fo31_0 rfl rfl) ?_
  refine wa1 9 rfl ?_
  refine wl_store 2 sc26 rfl rfl rfl rfl rfl rfl ?_
  refine wl_nil ?_
  refine nw 10 1023 (fun _ hm => ⟨hm.bl 3, hm.fa 0, trivial⟩) fun z => ?_
  refine wa_done (by kernel_rfl) ?_
  refine nx_blk_nrm (nx_then (sr_ ?_))
  refine wl_ov (ov_loads rz31 rfl (fun _ hm => hm.blkI 2 rfl) rfl rfl) rfl ?_
  refine wl_stores (cs' := [.slice A2 (sn + 1) c2, .slice cA 4 cc, .slice vA vn vc, .slice pA pn pc]) 3 rz31 rfl rfl rfl rfl rfl rfl rfl rfl ?_
  refine nn_ ?_
  refine gw_ret ?_
  refine nx_retc 3 rfl rz31 rfl rfl rfl fun wx hm => ?_
  exact ⟨A2, cA, vA, pA, sn + 1, c2, cc, vn, vc, pn, pc, sl ++ [(⟨s10, [0, 0, 0, 0, 0, 0, 0, 0, 0, 0, 0, 0, 0, 0]⟩ : St)], cl, vl, pl, rfl, ⟨⟨all_snoc (stB_all hsB) ⟨rfl, by dsimp only; omega, s0_ok⟩, by omega⟩, hcok, ⟨hvB, by omega⟩, hpB, by omega⟩, hm.k.more (by omega), hm.g, SlT.ofOwnL stEnc_lenL (all_snoc (stB_all hsB) ⟨rfl, by dsimp only; omega, s0_ok⟩) (hm.ownI 0 rfl) (by simp [hsl]), (hm.fact 0 rfl), SlT.ofOwn vh_len (hm.ownI 1 rfl) hvl, SlT.ofOwn pl_len (hm.ownI 2 rfl) hpl, own_shape (hm.ownI 2 rfl), own_cap (hm.ownI 2 rfl)⟩
 have h0 : ¬ (vj = 0) := by simpa using hh
 clear hh
 refine sr_ (wl_ov (ov_eql rfl rfl) rfl (sg_ rfl (nn_ ?_)))
 refine gw_cond rfl (fun hh => ?_) (fun hh => ?_)
 ·have h1 : vj = 1 := by simpa using hh
  clear hh
  refine gw_region (mv_ rfl ?_)
  refine wl_calls (γ := Option Addr × Nat × List Cs) (val := (fun g => .slice g.1 4 g.2.1)) (φ := (fun g => g.2.2.length = 4 ∧ (∀ x ∈ g.2.2, CsOk x))) (Y := (fun g => fun wy => SlT csEnc 2 158 wy g.1 4 g.2.2)) (m' := m + 300 + 1 + 1 + 40) rfl cb127 rfl rfl rfl rfl (fun wx hm => (ganyClasses_any wx B sb _ hm.k (by omega)).mono fun _ _ ⟨A, c, l, he, ho, hl, hok, hS, hg⟩ => ⟨(A, c, l), he, ⟨hl, hok⟩, hS, hg, SlT.ofOwn cs_len ho hl⟩) (fun _ => SlT.lasts2 rfl) ?_
  rintro ⟨cA2, cc2, cl2⟩ hphi
  dsimp only at hphi ⊢
  obtain ⟨hcl42, hcok2⟩ := hphi
  refine fd_ fo31_1 rfl rfl ?_
  refine wl_store 0 sc27 rfl rfl rfl rfl rfl rfl ?_
  refine wl_nil (nx_blk_nrm (nx_then (sr_ ?_)))
  refine wl_ov (ov_loads rz31 rfl (fun _ hm => hm.blkI 0 rfl) rfl rfl) rfl ?_
  refine wl_stores (cs' := [.slice sA sn sc, .slice cA2 4 cc2, .slice vA vn vc, .slice pA pn pc]) 1 rz31 rfl rfl rfl rfl rfl rfl rfl rfl ?_
  refine nn_ ?_
  refine gw_ret ?_
  refine nx_retc 1 rfl rz31 rfl rfl rfl fun wx hm => ?_
  exact ⟨sA, cA2, vA, pA, sn, sc, cc2, vn, vc, pn, pc, sl, cl2, vl, pl, rfl, ⟨⟨stB_all hsB, by omega⟩, hcok2, ⟨hvB, by omega⟩, hpB, by omega⟩, hm.k.more (by omega), hm.g, SlT.ofOwnL stEnc_lenL (stB_all hsB) (hm.ownI 0 rfl) hsl, (hm.fact 0 rfl), SlT.ofOwn vh_len (hm.ownI 1 rfl) hvl, SlT.ofOwn pl_len (hm.ownI 2 rfl) hpl, own_shape (hm.ownI 2 rfl), own_cap (hm.ownI 2 rfl)⟩
 have h1 : ¬ (vj = 1) := by simpa using hh
 clear hh
 refine sr_ (wl_ov (ov_eql rfl rfl) rfl (sg_ rfl (nn_ ?_)))
 refine gw_cond rfl (fun hh => ?_) (fun hh => ?_)
 ·have h2 : vj = 2 := by simpa using hh
  clear hh
  refine gd (fun wz => Blk wz g1 31 [.slice none 0 0, .slice none 0 0, .slice none 0 0, .slice none 0 0] ∧ (fun wy => SlT csEnc 2 158 wy cA 4 cl) wz ∧ True) mixed (fun _ hm => ⟨hm.bl 1, hm.fa 0, trivial⟩) fun z => ?_
  refine wt 0 12 1 rfl z (ov_field fo31_2 rfl rfl) ?_
  refine wt 2 12 5 rfl z (ov_move rfl) ?_
  refine wt 5 12 37 rfl z (ov_move rfl) ?_
  refine wa_all [1, 3] (by kernel_rfl) rfl ⟨⟨_, rfl, ?_⟩, ⟨_, rfl, ?_⟩, trivial⟩
  ·refine lk_ sc28 0 rfl rfl rfl (wl_nil ?_)
   refine nw 12 39 (fun _ hm => ⟨hm.bl 1, hm.fa 0, trivial⟩) fun z => ?_
   refine wa1 3 rfl ?_
   refine wl_buildSlice (e := 9) (cs := [.string ⟨#[]⟩, .string ⟨#[118, 49]⟩, .string ⟨#[118, 57]⟩]) rfl (by kernel_rfl) rfl fun g13 => ?_
   refine wl_nil ?_
   refine nw 12 47 (fun _ hm => ⟨hm.bl 2, hm.fa 0, trivial⟩) fun z => ?_
   refine wa1 4 rfl ?_
   refine wl_got (γ := ByteArray) (val := fun v => .string v) (φ := fun v => v ∈ ([⟨#[]⟩, ⟨#[118, 49]⟩, ⟨#[118, 57]⟩] : List ByteArray)) rfl cb62 rfl rfl rfl rfl (fun wx hm => (some_any [⟨#[]⟩, ⟨#[118, 49]⟩, ⟨#[118, 57]⟩] _ _ _ wx B sb _ hm.k (by omega) (by simp) (by simp) (hm.blkI 0 rfl) (hm.neRow 0 rfl rfl))) fun s14 hs14 => ?_
   have zs14 : s14.size ≤ 100 := mem_sz hs14 (by decide)
   refine wl_nil ?_
   refine nw 12 63 (fun _ hm => ⟨hm.bl 2, hm.fa 0, trivial⟩) fun z => ?_
   refine wa1 6 rfl ?_
   refine wl_calls (γ := ByteArray) (val := (fun g => .string g)) (φ := (fun g => g.size ≤ 100)) (Y := (fun g => fun _ => True)) (m' := m + 300 + 1 + 1 + 1 + 1) rfl cb165 rfl rfl rfl rfl (fun wx hm => (gclassKey2_any wx B sb _ hm.k (by omega)).mono fun _ _ ⟨v, he, hz, hS, hg⟩ => ⟨v, he, hz, hS, hg, trivial⟩) (fun _ => Lasts2.true_) ?_
   rintro ck hck
   refine wl_nil ?_
   refine nw 12 127 (fun _ hm => ⟨hm.bl 2, hm.fa 1, trivial⟩) fun z => ?_
   refine wt 7 12 255 rfl z (ov_build (cs := [.string s14, .string ck]) rfl (by kernel_rfl)) ?_
   refine wa1 8 rfl ?_
   refine wl_buildSlice (e := 69) (cs := [.string s14, .string ck]) rfl (by kernel_rfl) rfl fun g16 => ?_
   refine wl_nil ?_
   refine nw 12 511 (fun _ hm => ⟨hm.bl 3, hm.fa 1, trivial⟩) fun z => ?_
   refine wa1 9 rfl ?_
   refine wl_append (news := [.string s14, .string ck]) 1 0 ap28 rfl rfl rfl rfl rfl rfl rfl (by omega) (by unfold maxLen; omega) rfl rfl fun v2 hv2 => ?_
   refine wl_look (R := ∃ A cc, v2 = .slice A (vn + 1) cc) (fun wx hm => own_slice (hm.ownI 1 rfl)) ?_
   rintro ⟨A2, c2, rfl⟩
   have hxs : vl.flatMap vhEnc ++ ([.string s14, .string ck] : List Value) = (vl ++ [(⟨s14, ck⟩ : Vh)]).flatMap vhEnc := by simp [vhEnc]
   rw [hxs]
   refine wl_nil ?_
   refine nw 12 1023 (fun _ hm => ⟨hm.bl 3, hm.fa 1, trivial⟩) fun z => ?_
   refine wt 10 12 2047 rfl z (ov_field fo31_2 rfl rfl) ?_
   refine wa1 11 rfl ?_
   refine wl_store 2 sc28 rfl rfl rfl rfl rfl rfl ?_
   refine wl_nil ?_
   refine nw 12 4095 (fun _ hm => ⟨hm.bl 3, hm.fa 1, trivial⟩) fun z => ?_
   refine wa_done (by kernel_rfl) ?_
   refine nx_blk_nrm (nx_then (sr_ ?_))
   refine wl_ov (ov_loads rz31 rfl (fun _ hm => hm.blkI 2 rfl) rfl rfl) rfl ?_
   refine wl_stores (cs' := [.slice sA sn sc, .slice cA 4 cc, .slice A2 (vn + 1) c2, .slice pA pn pc]) 3 rz31 rfl rfl rfl rfl rfl rfl rfl rfl ?_
   refine nn_ ?_
   refine gw_ret ?_
   refine nx_retc 3 rfl rz31 rfl rfl rfl fun wx hm => ?_
   exact ⟨sA, cA, A2, pA, sn, sc, cc, vn + 1, c2, pn, pc, sl, cl, vl ++ [(⟨s14, ck⟩ : Vh)], pl, rfl, ⟨⟨stB_all hsB, by omega⟩, hcok, ⟨all_snoc hvB ⟨by dsimp only; omega, by dsimp only; omega⟩, by omega⟩, hpB, by omega⟩, hm.k.more (by omega), hm.g, SlT.ofOwnL stEnc_lenL (stB_all hsB) (hm.ownI 0 rfl) hsl, (hm.fact 1 rfl), SlT.ofOwn vh_len (hm.ownI 1 rfl) (by simp [hvl]), SlT.ofOwn pl_len (hm.ownI 2 rfl) hpl, own_shape (hm.ownI 2 rfl), own_cap (hm.ownI 2 rfl)⟩
  refine wl_buildSlice (e := 9) (cs := [.string ⟨#[]⟩, .string ⟨#[118, 49]⟩, .string ⟨#[118, 57]⟩]) rfl (by kernel_rfl) rfl fun g17 => ?_
  refine wl_nil ?_
  refine nw 12 45 (fun _ hm => ⟨hm.bl 2, hm.fa 0, trivial⟩) fun z => ?_
  refine wa_all [1, 4] (by kernel_rfl) rfl ⟨⟨_, rfl, ?_⟩, ⟨_, rfl, ?_⟩, trivial⟩
  ·refine lk_ sc28 1 rfl rfl rfl (wl_nil ?_)
   refine nw 12 47 (fun _ hm => ⟨hm.bl 2, hm.fa 0, trivial⟩) fun z => ?_
   refine wa1 4 rfl ?_
   refine wl_got (γ := ByteArray) (val := fun v => .string v) (φ := fun v => v ∈ ([⟨#[]⟩, ⟨#[118, 49]⟩, ⟨#[118, 57]⟩] : List ByteArray)) rfl cb62 rfl rfl rfl rfl (fun wx hm => (some_any [⟨#[]⟩, ⟨#[118, 49]⟩, ⟨#[118, 57]⟩] _ _ _ wx B sb _ hm.k (by omega) (by simp) (by simp) (hm.blkI 0 rfl) (hm.neRow 0 rfl rfl))) fun s18 hs18 => ?_
   have zs18 : s18.size ≤ 100 := mem_sz hs18 (by decide)
   refine wl_nil ?_
   refine nw 12 63 (fun _ hm => ⟨hm.bl 2, hm.fa 0, trivial⟩) fun z => ?_
   refine wa1 6 rfl ?_
   refine wl_calls (γ := ByteArray) (val := (fun g => .string g)) (φ := (fun g => g.size ≤ 100)) (Y := (fun g => fun _ => True)) (m' := m + 300 + 1 + 1 + 1 + 1) rfl cb165 rfl rfl rfl rfl (fun wx hm => (gclassKey2_any wx B sb _ hm.k (by omega)).mono fun _ _ ⟨v, he, hz, hS, hg⟩ => ⟨v, he, hz, hS, hg, trivial⟩) (fun _ => Lasts2.true_) ?_
   rintro ck hck
   refine wl_nil ?_
   refine nw 12 127 (fun _ hm => ⟨hm.bl 2, hm.fa 1, trivial⟩) fun z => ?_
   refine wt 7 12 255 rfl z (ov_build (cs := [.string s18, .string ck]) rfl (by kernel_rfl)) ?_
   refine wa1 8 rfl ?_
   refine wl_buildSlice (e := 69) (cs := [.string s18, .string ck]) rfl (by kernel_rfl) rfl fun g20 => ?_
   refine wl_nil ?_
   refine nw 12 511 (fun _ hm => ⟨hm.bl 3, hm.fa 1, trivial⟩) fun z => ?_
   refine wa1 9 rfl ?_
   refine wl_append (news := [.string s18, .string ck]) 1 0 ap28 rfl rfl rfl rfl rfl rfl rfl (by omega) (by unfold maxLen; omega) rfl rfl fun v2 hv2 => ?_
   refine wl_look (R := ∃ A cc, v2 = .slice A (vn + 1) cc) (fun wx hm => own_slice (hm.ownI 1 rfl)) ?_
   rintro ⟨A2, c2, rfl⟩
   have hxs : vl.flatMap vhEnc ++ ([.string s18, .string ck] : List Value) = (vl ++ [(⟨s18, ck⟩ : Vh)]).flatMap vhEnc := by simp [vhEnc]
   rw [hxs]
   refine wl_nil ?_
   refine nw 12 1023 (fun _ hm => ⟨hm.bl 3, hm.fa 1, trivial⟩) fun z => ?_
   refine wt 10 12 2047 rfl z (ov_field fo31_2 rfl rfl) ?_
   refine wa1 11 rfl ?_
   refine wl_store 2 sc28 rfl rfl rfl rfl rfl rfl ?_
   refine wl_nil ?_
   refine nw 12 4095 (fun _ hm => ⟨hm.bl 3, hm.fa 1, trivial⟩) fun z => ?_
   refine wa_done (by kernel_rfl) ?_
   refine nx_blk_nrm (nx_then (sr_ ?_))
   refine wl_ov (ov_loads rz31 rfl (fun _ hm => hm.blkI 2 rfl) rfl rfl) rfl ?_
   refine wl_stores (cs' := [.slice sA sn sc, .slice cA 4 cc, .slice A2 (vn + 1) c2, .slice pA pn pc]) 3 rz31 rfl rfl rfl rfl rfl rfl rfl rfl ?_
   refine nn_ ?_
   refine gw_ret ?_
   refine nx_retc 3 rfl rz31 rfl rfl rfl fun wx hm => ?_
   exact ⟨sA, cA, A2, pA, sn, sc, cc, vn + 1, c2, pn, pc, sl, cl, vl ++ [(⟨s18, ck⟩ : Vh)], pl, rfl, ⟨⟨stB_all hsB, by omega⟩, hcok, ⟨all_snoc hvB ⟨by dsimp only; omega, by dsimp only; omega⟩, by omega⟩, hpB, by omega⟩, hm.k.more (by omega), hm.g, SlT.ofOwnL stEnc_lenL (stB_all hsB) (hm.ownI 0 rfl) hsl, (hm.fact 1 rfl), SlT.ofOwn vh_len (hm.ownI 1 rfl) (by simp [hvl]), SlT.ofOwn pl_len (hm.ownI 2 rfl) hpl, own_shape (hm.ownI 2 rfl), own_cap (hm.ownI 2 rfl)⟩
  refine wl_got (γ := ByteArray) (val := fun v => .string v) (φ := fun v => v ∈ ([⟨#[]⟩, ⟨#[118, 49]⟩, ⟨#[118, 57]⟩] : List ByteArray)) rfl cb62 rfl rfl rfl rfl (fun wx hm => (some_any [⟨#[]⟩, ⟨#[118, 49]⟩, ⟨#[118, 57]⟩] _ _ _ wx B sb _ hm.k (by omega) (by simp) (by simp) (hm.blkI 0 rfl) (hm.neRow 0 rfl rfl))) fun s21 hs21 => ?_
  have zs21 : s21.size ≤ 100 := mem_sz hs21 (by decide)
  refine wl_nil ?_
  refine nw 12 61 (fun _ hm => ⟨hm.bl 2, hm.fa 0, trivial⟩) fun z => ?_
  refine wa_all [1, 6] (by kernel_rfl) rfl ⟨⟨_, rfl, ?_⟩, ⟨_, rfl, ?_⟩, trivial⟩
  ·refine lk_ sc28 1 rfl rfl rfl (wl_nil ?_)
   refine nw 12 63 (fun _ hm => ⟨hm.bl 2, hm.fa 0, trivial⟩) fun z => ?_
   refine wa1 6 rfl ?_
   refine wl_calls (γ := ByteArray) (val := (fun g => .string g)) (φ := (fun g => g.size ≤ 100)) (Y := (fun g => fun _ => True)) (m' := m + 300 + 1 + 1 + 1 + 1) rfl cb165 rfl rfl rfl rfl (fun wx hm => (gclassKey2_any wx B sb _ hm.k (by omega)).mono fun _ _ ⟨v, he, hz, hS, hg⟩ => ⟨v, he, hz, hS, hg, trivial⟩) (fun _ => Lasts2.true_) ?_
   rintro ck hck
   refine wl_nil ?_
   refine nw 12 127 (fun _ hm => ⟨hm.bl 2, hm.fa 1, trivial⟩) fun z => ?_
   refine wt 7 12 255 rfl z (ov_build (cs := [.string s21, .string ck]) rfl (by kernel_rfl)) ?_
   refine wa1 8 rfl ?_
   refine wl_buildSlice (e := 69) (cs := [.string s21, .string ck]) rfl (by kernel_rfl) rfl fun g23 => ?_
   refine wl_nil ?_
   refine nw 12 511 (fun _ hm => ⟨hm.bl 3, hm.fa 1, trivial⟩) fun z => ?_
   refine wa1 9 rfl ?_
   refine wl_append (news := [.string s21, .string ck]) 1 0 ap28 rfl rfl rfl rfl rfl rfl rfl (by omega) (by unfold maxLen; omega) rfl rfl fun v2 hv2 => ?_
   refine wl_look (R := ∃ A cc, v2 = .slice A (vn + 1) cc) (fun wx hm => own_slice (hm.ownI 1 rfl)) ?_
   rintro ⟨A2, c2, rfl⟩
   have hxs : vl.flatMap vhEnc ++ ([.string s21, .string ck] : List Value) = (vl ++ [(⟨s21, ck⟩ : Vh)]).flatMap vhEnc := by simp [vhEnc]
   rw [hxs]
   refine wl_nil ?_
   refine nw 12 1023 (fun _ hm => ⟨hm.bl 3, hm.fa 1, trivial⟩) fun z => ?_
   refine wt 10 12 2047 rfl z (ov_field fo31_2 rfl rfl) ?_
   refine wa1 11 rfl ?_
   refine wl_store 2 sc28 rfl rfl rfl rfl rfl rfl ?_
   refine wl_nil ?_
   refine nw 12 4095 (fun _ hm => ⟨hm.bl 3, hm.fa 1, trivial⟩) fun z => ?_
   refine wa_done (by kernel_rfl) ?_
   refine nx_blk_nrm (nx_then (sr_ ?_))
   refine wl_ov (ov_loads rz31 rfl (fun _ hm => hm.blkI 2 rfl) rfl rfl) rfl ?_
   refine wl_stores (cs' := [.slice sA sn sc, .slice cA 4 cc, .slice A2 (vn + 1) c2, .slice pA pn pc]) 3 rz31 rfl rfl rfl rfl rfl rfl rfl rfl ?_
   refine nn_ ?_
   refine gw_ret ?_
   refine nx_retc 3 rfl rz31 rfl rfl rfl fun wx hm => ?_
   exact ⟨sA, cA, A2, pA, sn, sc, cc, vn + 1, c2, pn, pc, sl, cl, vl ++ [(⟨s21, ck⟩ : Vh)], pl, rfl, ⟨⟨stB_all hsB, by omega⟩, hcok, ⟨all_snoc hvB ⟨by dsimp only; omega, by dsimp only; omega⟩, by omega⟩, hpB, by omega⟩, hm.k.more (by omega), hm.g, SlT.ofOwnL stEnc_lenL (stB_all hsB) (hm.ownI 0 rfl) hsl, (hm.fact 1 rfl), SlT.ofOwn vh_len (hm.ownI 1 rfl) (by simp [hvl]), SlT.ofOwn pl_len (hm.ownI 2 rfl) hpl, own_shape (hm.ownI 2 rfl), own_cap (hm.ownI 2 rfl)⟩
  refine wl_calls (γ := ByteArray) (val := (fun g => .string g)) (φ := (fun g => g.size ≤ 100)) (Y := (fun g => fun _ => True)) (m' := m + 300 + 1 + 1 + 1 + 1) rfl cb165 rfl rfl rfl rfl (fun wx hm => (gclassKey2_any wx B sb _ hm.k (by omega)).mono fun _ _ ⟨v, he, hz, hS, hg⟩ => ⟨v, he, hz, hS, hg, trivial⟩) (fun _ => Lasts2.true_) ?_
  rintro ck hck
  refine wl_nil ?_
  refine nw 12 125 (fun _ hm => ⟨hm.bl 2, hm.fa 1, trivial⟩) fun z => ?_
  refine wt 7 12 253 rfl z (ov_build (cs := [.string s21, .string ck]) rfl (by kernel_rfl)) ?_
  refine wa_all [1, 8] (by kernel_rfl) rfl ⟨⟨_, rfl, ?_⟩, ⟨_, rfl, ?_⟩, trivial⟩
  ·refine lk_ sc28 1 rfl rfl rfl (wl_nil ?_)
   refine nw 12 255 (fun _ hm => ⟨hm.bl 2, hm.fa 1, trivial⟩) fun z => ?_
   refine wa1 8 rfl ?_
   refine wl_buildSlice (e := 69) (cs := [.string s21, .string ck]) rfl (by kernel_rfl) rfl fun g25 => ?_
   refine wl_nil ?_
   refine nw 12 511 (fun _ hm => ⟨hm.bl 3, hm.fa 1, trivial⟩) fun z => ?_
   refine wa1 9 rfl ?_
   refine wl_append (news := [.string s21, .string ck]) 1 0 ap28 rfl rfl rfl rfl rfl rfl rfl (by omega) (by unfold maxLen; omega) rfl rfl fun v2 hv2 => ?_
   refine wl_look (R := ∃ A cc, v2 = .slice A (vn + 1) cc) (fun wx hm => own_slice (hm.ownI 1 rfl)) ?_
   rintro ⟨A2, c2, rfl⟩
   have hxs : vl.flatMap vhEnc ++ ([.string s21, .string ck] : List Value) = (vl ++ [(⟨s21, ck⟩ : Vh)]).flatMap vhEnc := by simp [vhEnc]
   rw [hxs]
   refine wl_nil ?_
   refine nw 12 1023 (fun _ hm => ⟨hm.bl 3, hm.fa 1, trivial⟩) fun z => ?_
   refine wt 10 12 2047 rfl z (ov_field fo31_2 rfl rfl) ?_
   refine wa1 11 rfl ?_
   refine wl_store 2 sc28 rfl rfl rfl rfl rfl rfl ?_
   refine wl_nil ?_
   refine nw 12 4095 (fun _ hm => ⟨hm.bl 3, hm.fa 1, trivial⟩) fun z => ?_
   refine wa_done (by kernel_rfl) ?_
   refine nx_blk_nrm (nx_then (sr_ ?_))
   refine wl_ov (ov_loads rz31 rfl (fun _ hm => hm.blkI 2 rfl) rfl rfl) rfl ?_
   refine wl_stores (cs' := [.slice sA sn sc, .slice cA 4 cc, .slice A2 (vn + 1) c2, .slice pA pn pc]) 3 rz31 rfl rfl rfl rfl rfl rfl rfl rfl ?_
   refine nn_ ?_
   refine gw_ret ?_
   refine nx_retc 3 rfl rz31 rfl rfl rfl fun wx hm => ?_
   exact ⟨sA, cA, A2, pA, sn, sc, cc, vn + 1, c2, pn, pc, sl, cl, vl ++ [(⟨s21, ck⟩ : Vh)], pl, rfl, ⟨⟨stB_all hsB, by omega⟩, hcok, ⟨all_snoc hvB ⟨by dsimp only; omega, by dsimp only; omega⟩, by omega⟩, hpB, by omega⟩, hm.k.more (by omega), hm.g, SlT.ofOwnL stEnc_lenL (stB_all hsB) (hm.ownI 0 rfl) hsl, (hm.fact 1 rfl), SlT.ofOwn vh_len (hm.ownI 1 rfl) (by simp [hvl]), SlT.ofOwn pl_len (hm.ownI 2 rfl) hpl, own_shape (hm.ownI 2 rfl), own_cap (hm.ownI 2 rfl)⟩
  refine wl_buildSlice (e := 69) (cs := [.string s21, .string ck]) rfl (by kernel_rfl) rfl fun g26 => ?_
  refine wl_nil ?_
  refine nw 12 509 (fun _ hm => ⟨hm.bl 3, hm.fa 1, trivial⟩) fun z => ?_
  refine wa1 1 rfl ?_
  refine lk_ sc28 2 rfl rfl rfl (wl_nil ?_)
  refine nw 12 511 (fun _ hm => ⟨hm.bl 3, hm.fa 1, trivial⟩) fun z => ?_
  refine wa1 9 rfl ?_
  refine wl_append (news := [.string s21, .string ck]) 1 0 ap28 rfl rfl rfl rfl rfl rfl rfl (by omega) (by unfold maxLen; omega) rfl rfl fun v2 hv2 => ?_
  refine wl_look (R := ∃ A cc, v2 = .slice A (vn + 1) cc) (fun wx hm => own_slice (hm.ownI 1 rfl)) ?_
  rintro ⟨A2, c2, rfl⟩
  have hxs : vl.flatMap vhEnc ++ ([.string s21, .string ck] : List Value) = (vl ++ [(⟨s21, ck⟩ : Vh)]).flatMap vhEnc := by simp [vhEnc]
  rw [hxs]
  refine wl_nil ?_
  refine nw 12 1023 (fun _ hm => ⟨hm.bl 3, hm.fa 1, trivial⟩) fun z => ?_
  refine wt 10 12 2047 rfl z (ov_field fo31_2 rfl rfl) ?_
  refine wa1 11 rfl ?_
  refine wl_store 2 sc28 rfl rfl rfl rfl rfl rfl ?_
  refine wl_nil ?_
  refine nw 12 4095 (fun _ hm => ⟨hm.bl 3, hm.fa 1, trivial⟩) fun z => ?_
  refine wa_done (by kernel_rfl) ?_
  refine nx_blk_nrm (nx_then (sr_ ?_))
  refine wl_ov (ov_loads rz31 rfl (fun _ hm => hm.blkI 2 rfl) rfl rfl) rfl ?_
  refine wl_stores (cs' := [.slice sA sn sc, .slice cA 4 cc, .slice A2 (vn + 1) c2, .slice pA pn pc]) 3 rz31 rfl rfl rfl rfl rfl rfl rfl rfl ?_
  refine nn_ ?_
  refine gw_ret ?_
  refine nx_retc 3 rfl rz31 rfl rfl rfl fun wx hm => ?_
  exact ⟨sA, cA, A2, pA, sn, sc, cc, vn + 1, c2, pn, pc, sl, cl, vl ++ [(⟨s21, ck⟩ : Vh)], pl, rfl, ⟨⟨stB_all hsB, by omega⟩, hcok, ⟨all_snoc hvB ⟨by dsimp only; omega, by dsimp only; omega⟩, by omega⟩, hpB, by omega⟩, hm.k.more (by omega), hm.g, SlT.ofOwnL stEnc_lenL (stB_all hsB) (hm.ownI 0 rfl) hsl, (hm.fact 1 rfl), SlT.ofOwn vh_len (hm.ownI 1 rfl) (by simp [hvl]), SlT.ofOwn pl_len (hm.ownI 2 rfl) hpl, own_shape (hm.ownI 2 rfl), own_cap (hm.ownI 2 rfl)⟩
 have h2 : ¬ (vj = 2) := by simpa using hh
 clear hh
 refine gd (fun wz => Blk wz g1 31 [.slice none 0 0, .slice none 0 0, .slice none 0 0, .slice none 0 0] ∧ (fun wy => SlT csEnc 2 158 wy cA 4 cl) wz ∧ True) mixed (fun _ hm => ⟨hm.bl 1, hm.fa 0, trivial⟩) fun z => ?_
 refine wt 0 15 1 rfl z (ov_field fo31_3 rfl rfl) ?_
 refine wt 2 15 5 rfl z (ov_move rfl) ?_
 refine wt 4 15 21 rfl z (ov_move rfl) ?_
 refine wt 7 15 149 rfl z (ov_move rfl) ?_
 refine wa_open fun W hW => ?_
 have T255 : ∀ (k3 : Int) (hk3 : -2000000000000000 ≤ k3 ∧ k3 ≤ 2000000000000000) (q5 : Nat) (k6 : ByteArray) (zk6 : k6.size ≤ 100), W 7 (lb 15 255) [(2, .pointer (some ⟨g1, 0, none⟩)), (3, .pointer (some ⟨g2, 0, none⟩)), (13, .slice pA pn pc), (15, .int .i64 k3), (18, .string k6), (19, .pointer (some ⟨sb, 0, none⟩))] (fun w => Strm 25 w B sb (m + 300 + 1 + 1 + 2 + 1)) [(g1, 31, [.slice none 0 0, .slice none 0 0, .slice none 0 0, .slice none 0 0]), (g2, 31, [.slice sA sn sc, .slice cA 4 cc, .slice vA vn vc, .slice pA pn pc]), (q5, 9, [.string ⟨#[118, 49]⟩, .string ⟨#[110, 111, 110, 101]⟩])] [⟨.slice sA sn sc, 156, 15, sn, sl.flatMap stEnc⟩, ⟨.slice vA vn vc, 69, 2, vn, vl.flatMap vhEnc⟩, ⟨.slice pA pn pc, 164, 3, pn, pl.flatMap plEnc⟩] [fun wy => SlT csEnc 2 158 wy cA 4 cl] := by
  intro k3 hk3 q5 k6 zk6
  rw [hW]
  refine wa1 8 rfl ?_
  refine wl_buildSlice (e := 9) (cs := [.string ⟨#[65, 66, 49]⟩, .string ⟨#[97, 49]⟩, .string ⟨#[65]⟩, .string ⟨#[65, 66, 67, 68, 69, 70, 71, 72, 73, 74, 49]⟩, .string ⟨#[65, 66, 49]⟩]) rfl (by kernel_rfl) rfl fun g27 => ?_
  refine wl_nil ?_
  refine nw 15 511 (fun _ hm => ⟨hm.bl 1, hm.fa 0, trivial⟩) fun z => ?_
  refine wa1 9 rfl ?_
  refine wl_got (γ := ByteArray) (val := fun v => .string v) (φ := fun v => v ∈ ([⟨#[65, 66, 49]⟩, ⟨#[97, 49]⟩, ⟨#[65]⟩, ⟨#[65, 66, 67, 68, 69, 70, 71, 72, 73, 74, 49]⟩, ⟨#[65, 66, 49]⟩] : List ByteArray)) rfl cb62 rfl rfl rfl rfl (fun wx hm => (some_any [⟨#[65, 66, 49]⟩, ⟨#[97, 49]⟩, ⟨#[65]⟩, ⟨#[65, 66, 67, 68, 69, 70, 71, 72, 73, 74, 49]⟩, ⟨#[65, 66, 49]⟩] _ _ _ wx B sb _ hm.k (by omega) (by simp) (by simp) (hm.blkI 0 rfl) (hm.neRow 0 rfl rfl))) fun k9 hk9 => ?_
  have zk9 : k9.size ≤ 100 := mem_sz hk9 (by decide)
  refine wl_nil ?_
  refine nw 15 1023 (fun _ hm => ⟨hm.bl 1, hm.fa 0, trivial⟩) fun z => ?_
  refine wt 10 15 2047 rfl z (ov_build (cs := [.int .i64 k3, .string k6, .string k9]) rfl (by kernel_rfl)) ?_
  refine wa1 11 rfl ?_
  refine wl_buildSlice (e := 164) (cs := [.int .i64 k3, .string k6, .string k9]) rfl (by kernel_rfl) rfl fun g28 => ?_
  refine wl_nil ?_
  refine nw 15 4095 (fun _ hm => ⟨hm.bl 2, hm.fa 0, trivial⟩) fun z => ?_
  refine wa1 12 rfl ?_
  refine wl_append (news := [.int .i64 k3, .string k6, .string k9]) 2 0 ap29 rfl rfl rfl rfl rfl rfl rfl (by omega) (by unfold maxLen; omega) rfl rfl fun v2 hv2 => ?_
  refine wl_look (R := ∃ A cc, v2 = .slice A (pn + 1) cc) (fun wx hm => own_slice (hm.ownI 2 rfl)) ?_
  rintro ⟨A2, c2, rfl⟩
  have hxs : pl.flatMap plEnc ++ ([.int .i64 k3, .string k6, .string k9] : List Value) = (pl ++ [(⟨k3, k6, k9⟩ : Pl)]).flatMap plEnc := by simp [plEnc]
  rw [hxs]
  refine wl_nil ?_
  refine nw 15 8191 (fun _ hm => ⟨hm.bl 2, hm.fa 0, trivial⟩) fun z => ?_
  refine wt 13 15 16383 rfl z (ov_field fo31_3 rfl rfl) ?_
  refine wa1 14 rfl ?_
  refine wl_store 3 sc29 rfl rfl rfl rfl rfl rfl ?_
  refine wl_nil ?_
  refine nw 15 32767 (fun _ hm => ⟨hm.bl 2, hm.fa 0, trivial⟩) fun z => ?_
  refine wa_done (by kernel_rfl) ?_
  refine nx_blk_nrm (nx_then (sr_ ?_))
  refine wl_ov (ov_loads rz31 rfl (fun _ hm => hm.blkI 3 rfl) rfl rfl) rfl ?_
  refine wl_stores (cs' := [.slice sA sn sc, .slice cA 4 cc, .slice vA vn vc, .slice A2 (pn + 1) c2]) 2 rz31 rfl rfl rfl rfl rfl rfl rfl rfl ?_
  refine nn_ ?_
  refine gw_ret ?_
  refine nx_retc 2 rfl rz31 rfl rfl rfl fun wx hm => ?_
  exact ⟨sA, cA, vA, A2, sn, sc, cc, vn, vc, pn + 1, c2, sl, cl, vl, pl ++ [(⟨k3, k6, k9⟩ : Pl)], rfl, ⟨⟨stB_all hsB, by omega⟩, hcok, ⟨hvB, by omega⟩, all_snoc hpB ⟨⟨by dsimp only; omega, by dsimp only; omega⟩, by dsimp only; omega, by dsimp only; omega⟩, by omega⟩, hm.k.more (by omega), hm.g, SlT.ofOwnL stEnc_lenL (stB_all hsB) (hm.ownI 0 rfl) hsl, (hm.fact 0 rfl), SlT.ofOwn vh_len (hm.ownI 1 rfl) hvl, SlT.ofOwn pl_len (hm.ownI 2 rfl) (by simp [hpl]), own_shape (hm.ownI 2 rfl), own_cap (hm.ownI 2 rfl)⟩
 have T447 : ∀ (k3 : Int) (hk3 : -2000000000000000 ≤ k3 ∧ k3 ≤ 2000000000000000) (q5 : Nat) (q8 : Nat), W 7 (lb 15 447) [(2, .pointer (some ⟨g1, 0, none⟩)), (3, .pointer (some ⟨g2, 0, none⟩)), (13, .slice pA pn pc), (15, .int .i64 k3), (16, .pointer (some ⟨sb, 0, none⟩)), (17, .slice (some ⟨q5, 0, none⟩) 2 2), (19, .pointer (some ⟨sb, 0, none⟩)), (20, .slice (some ⟨q8, 0, none⟩) 5 5)] (fun w => Strm 25 w B sb (m + 300 + 1 + 1 + 2)) [(g1, 31, [.slice none 0 0, .slice none 0 0, .slice none 0 0, .slice none 0 0]), (g2, 31, [.slice sA sn sc, .slice cA 4 cc, .slice vA vn vc, .slice pA pn pc]), (q5, 9, [.string ⟨#[118, 49]⟩, .string ⟨#[110, 111, 110, 101]⟩]), (q8, 9, [.string ⟨#[65, 66, 49]⟩, .string ⟨#[97, 49]⟩, .string ⟨#[65]⟩, .string ⟨#[65, 66, 67, 68, 69, 70, 71, 72, 73, 74, 49]⟩, .string ⟨#[65, 66, 49]⟩])] [⟨.slice sA sn sc, 156, 15, sn, sl.flatMap stEnc⟩, ⟨.slice vA vn vc, 69, 2, vn, vl.flatMap vhEnc⟩, ⟨.slice pA pn pc, 164, 3, pn, pl.flatMap plEnc⟩] [fun wy => SlT csEnc 2 158 wy cA 4 cl] := by
  intro k3 hk3 q5 q8
  rw [hW]
  refine wa1 6 rfl ?_
  refine wl_got (γ := ByteArray) (val := fun v => .string v) (φ := fun v => v ∈ ([⟨#[118, 49]⟩, ⟨#[110, 111, 110, 101]⟩] : List ByteArray)) rfl cb62 rfl rfl rfl rfl (fun wx hm => (some_any [⟨#[118, 49]⟩, ⟨#[110, 111, 110, 101]⟩] _ _ _ wx B sb _ hm.k (by omega) (by simp) (by simp) (hm.blkI 2 rfl) (hm.neRow 2 rfl rfl))) fun k6 hk6 => ?_
  have zk6 : k6.size ≤ 100 := mem_sz hk6 (by decide)
  refine wl_nil ?_
  refine nw 15 511 (fun _ hm => ⟨hm.bl 0, hm.fa 0, trivial⟩) fun z => ?_
  refine wa1 9 rfl ?_
  refine wl_got (γ := ByteArray) (val := fun v => .string v) (φ := fun v => v ∈ ([⟨#[65, 66, 49]⟩, ⟨#[97, 49]⟩, ⟨#[65]⟩, ⟨#[65, 66, 67, 68, 69, 70, 71, 72, 73, 74, 49]⟩, ⟨#[65, 66, 49]⟩] : List ByteArray)) rfl cb62 rfl rfl rfl rfl (fun wx hm => (some_any [⟨#[65, 66, 49]⟩, ⟨#[97, 49]⟩, ⟨#[65]⟩, ⟨#[65, 66, 67, 68, 69, 70, 71, 72, 73, 74, 49]⟩, ⟨#[65, 66, 49]⟩] _ _ _ wx B sb _ hm.k (by omega) (by simp) (by simp) (hm.blkI 3 rfl) (hm.neRow 3 rfl rfl))) fun k9 hk9 => ?_
  have zk9 : k9.size ≤ 100 := mem_sz hk9 (by decide)
  refine wl_nil ?_
  refine nw 15 1023 (fun _ hm => ⟨hm.bl 0, hm.fa 0, trivial⟩) fun z => ?_
  refine wt 10 15 2047 rfl z (ov_build (cs := [.int .i64 k3, .string k6, .string k9]) rfl (by kernel_rfl)) ?_
  refine wa1 11 rfl ?_
  refine wl_buildSlice (e := 164) (cs := [.int .i64 k3, .string k6, .string k9]) rfl (by kernel_rfl) rfl fun g29 => ?_
  refine wl_nil ?_
  refine nw 15 4095 (fun _ hm => ⟨hm.bl 1, hm.fa 0, trivial⟩) fun z => ?_
  refine wa1 12 rfl ?_
  refine wl_append (news := [.int .i64 k3, .string k6, .string k9]) 2 0 ap29 rfl rfl rfl rfl rfl rfl rfl (by omega) (by unfold maxLen; omega) rfl rfl fun v2 hv2 => ?_
  refine wl_look (R := ∃ A cc, v2 = .slice A (pn + 1) cc) (fun wx hm => own_slice (hm.ownI 2 rfl)) ?_
  rintro ⟨A2, c2, rfl⟩
  have hxs : pl.flatMap plEnc ++ ([.int .i64 k3, .string k6, .string k9] : List Value) = (pl ++ [(⟨k3, k6, k9⟩ : Pl)]).flatMap plEnc := by simp [plEnc]
  rw [hxs]
  refine wl_nil ?_
  refine nw 15 8191 (fun _ hm => ⟨hm.bl 1, hm.fa 0, trivial⟩) fun z => ?_
  refine wt 13 15 16383 rfl z (ov_field fo31_3 rfl rfl) ?_
  refine wa1 14 rfl ?_
  refine wl_store 2 sc29 rfl rfl rfl rfl rfl rfl ?_
  refine wl_nil ?_
  refine nw 15 32767 (fun _ hm => ⟨hm.bl 1, hm.fa 0, trivial⟩) fun z => ?_
  refine wa_done (by kernel_rfl) ?_
  refine nx_blk_nrm (nx_then (sr_ ?_))
  refine wl_ov (ov_loads rz31 rfl (fun _ hm => hm.blkI 2 rfl) rfl rfl) rfl ?_
  refine wl_stores (cs' := [.slice sA sn sc, .slice cA 4 cc, .slice vA vn vc, .slice A2 (pn + 1) c2]) 1 rz31 rfl rfl rfl rfl rfl rfl rfl rfl ?_
  refine nn_ ?_
  refine gw_ret ?_
  refine nx_retc 1 rfl rz31 rfl rfl rfl fun wx hm => ?_
  exact ⟨sA, cA, vA, A2, sn, sc, cc, vn, vc, pn + 1, c2, sl, cl, vl, pl ++ [(⟨k3, k6, k9⟩ : Pl)], rfl, ⟨⟨stB_all hsB, by omega⟩, hcok, ⟨hvB, by omega⟩, all_snoc hpB ⟨⟨by dsimp only; omega, by dsimp only; omega⟩, by dsimp only; omega, by dsimp only; omega⟩, by omega⟩, hm.k.more (by omega), hm.g, SlT.ofOwnL stEnc_lenL (stB_all hsB) (hm.ownI 0 rfl) hsl, (hm.fact 0 rfl), SlT.ofOwn vh_len (hm.ownI 1 rfl) hvl, SlT.ofOwn pl_len (hm.ownI 2 rfl) (by simp [hpl]), own_shape (hm.ownI 2 rfl), own_cap (hm.ownI 2 rfl)⟩
 have J191 : ∀ (k3 : Int) (hk3 : -2000000000000000 ≤ k3 ∧ k3 ≤ 2000000000000000) (q5 : Nat), W 8 (lb 15 191) [(2, .pointer (some ⟨g1, 0, none⟩)), (3, .pointer (some ⟨g2, 0, none⟩)), (13, .slice pA pn pc), (15, .int .i64 k3), (16, .pointer (some ⟨sb, 0, none⟩)), (17, .slice (some ⟨q5, 0, none⟩) 2 2), (19, .pointer (some ⟨sb, 0, none⟩))] (fun w => Strm 25 w B sb (m + 300 + 1 + 1 + 2)) [(g1, 31, [.slice none 0 0, .slice none 0 0, .slice none 0 0, .slice none 0 0]), (g2, 31, [.slice sA sn sc, .slice cA 4 cc, .slice vA vn vc, .slice pA pn pc]), (q5, 9, [.string ⟨#[118, 49]⟩, .string ⟨#[110, 111, 110, 101]⟩])] [⟨.slice sA sn sc, 156, 15, sn, sl.flatMap stEnc⟩, ⟨.slice vA vn vc, 69, 2, vn, vl.flatMap vhEnc⟩, ⟨.slice pA pn pc, 164, 3, pn, pl.flatMap plEnc⟩] [fun wy => SlT csEnc 2 158 wy cA 4 cl] := by
  intro k3 hk3 q5
  rw [hW]
  refine wa_all [6, 8] (by kernel_rfl) rfl ⟨⟨_, rfl, ?_⟩, ⟨_, rfl, ?_⟩, trivial⟩
  ·refine wl_got (γ := ByteArray) (val := fun v => .string v) (φ := fun v => v ∈ ([⟨#[118, 49]⟩, ⟨#[110, 111, 110, 101]⟩] : List ByteArray)) rfl cb62 rfl rfl rfl rfl (fun wx hm => (some_any [⟨#[118, 49]⟩, ⟨#[110, 111, 110, 101]⟩] _ _ _ wx B sb _ hm.k (by omega) (by simp) (by simp) (hm.blkI 2 rfl) (hm.neRow 2 rfl rfl))) fun k6 hk6 => ?_
   have zk6 : k6.size ≤ 100 := mem_sz hk6 (by decide)
   refine wl_nil ?_
   refine nw 15 255 (fun _ hm => ⟨hm.bl 0, hm.fa 0, trivial⟩) fun z => ?_
   have h := T255 k3 hk3 q5 k6 zk6
   rw [hW] at h
   refine wa_weak ?_ ?_ h
   ·exact ⟨rfl, rfl, rfl, rfl, rfl, rfl, trivial⟩
   exact fun _ hm => hm.pick [0, 1, 2] [0, 1, 2] [0] rfl rfl
  refine wl_buildSlice (e := 9) (cs := [.string ⟨#[65, 66, 49]⟩, .string ⟨#[97, 49]⟩, .string ⟨#[65]⟩, .string ⟨#[65, 66, 67, 68, 69, 70, 71, 72, 73, 74, 49]⟩, .string ⟨#[65, 66, 49]⟩]) rfl (by kernel_rfl) rfl fun q8 => ?_
  refine wl_nil ?_
  refine nw 15 447 (fun _ hm => ⟨hm.bl 1, hm.fa 0, trivial⟩) fun z => ?_
  have h := T447 k3 hk3 q5 q8
  rw [hW] at h
  refine wa_weak ?_ ?_ h
  ·exact ⟨rfl, rfl, rfl, rfl, rfl, rfl, rfl, rfl, trivial⟩
  exact fun _ hm => hm.pick [1, 2, 3, 0] [0, 1, 2] [0] rfl rfl
 have T415 : ∀ (k3 : Int) (hk3 : -2000000000000000 ≤ k3 ∧ k3 ≤ 2000000000000000) (q8 : Nat), W 8 (lb 15 415) [(2, .pointer (some ⟨g1, 0, none⟩)), (3, .pointer (some ⟨g2, 0, none⟩)), (13, .slice pA pn pc), (15, .int .i64 k3), (16, .pointer (some ⟨sb, 0, none⟩)), (19, .pointer (some ⟨sb, 0, none⟩)), (20, .slice (some ⟨q8, 0, none⟩) 5 5)] (fun w => Strm 25 w B sb (m + 300 + 1 + 1 + 2)) [(g1, 31, [.slice none 0 0, .slice none 0 0, .slice none 0 0, .slice none 0 0]), (g2, 31, [.slice sA sn sc, .slice cA 4 cc, .slice vA vn vc, .slice pA pn pc]), (q8, 9, [.string ⟨#[65, 66, 49]⟩, .string ⟨#[97, 49]⟩, .string ⟨#[65]⟩, .string ⟨#[65, 66, 67, 68, 69, 70, 71, 72, 73, 74, 49]⟩, .string ⟨#[65, 66, 49]⟩])] [⟨.slice sA sn sc, 156, 15, sn, sl.flatMap stEnc⟩, ⟨.slice vA vn vc, 69, 2, vn, vl.flatMap vhEnc⟩, ⟨.slice pA pn pc, 164, 3, pn, pl.flatMap plEnc⟩] [fun wy => SlT csEnc 2 158 wy cA 4 cl] := by
  intro k3 hk3 q8
  rw [hW]
  refine wa1 5 rfl ?_
  refine wl_buildSlice (e := 9) (cs := [.string ⟨#[118, 49]⟩, .string ⟨#[110, 111, 110, 101]⟩]) rfl (by kernel_rfl) rfl fun g30 => ?_
  refine wl_nil ?_
  refine nw 15 447 (fun _ hm => ⟨hm.bl 1, hm.fa 0, trivial⟩) fun z => ?_
  refine wa1 6 rfl ?_
  refine wl_got (γ := ByteArray) (val := fun v => .string v) (φ := fun v => v ∈ ([⟨#[118, 49]⟩, ⟨#[110, 111, 110, 101]⟩] : List ByteArray)) rfl cb62 rfl rfl rfl rfl (fun wx hm => (some_any [⟨#[118, 49]⟩, ⟨#[110, 111, 110, 101]⟩] _ _ _ wx B sb _ hm.k (by omega) (by simp) (by simp) (hm.blkI 0 rfl) (hm.neRow 0 rfl rfl))) fun k6 hk6 => ?_
  have zk6 : k6.size ≤ 100 := mem_sz hk6 (by decide)
  refine wl_nil ?_
  refine nw 15 511 (fun _ hm => ⟨hm.bl 1, hm.fa 0, trivial⟩) fun z => ?_
  refine wa1 9 rfl ?_
  refine wl_got (γ := ByteArray) (val := fun v => .string v) (φ := fun v => v ∈ ([⟨#[65, 66, 49]⟩, ⟨#[97, 49]⟩, ⟨#[65]⟩, ⟨#[65, 66, 67, 68, 69, 70, 71, 72, 73, 74, 49]⟩, ⟨#[65, 66, 49]⟩] : List ByteArray)) rfl cb62 rfl rfl rfl rfl (fun wx hm => (some_any [⟨#[65, 66, 49]⟩, ⟨#[97, 49]⟩, ⟨#[65]⟩, ⟨#[65, 66, 67, 68, 69, 70, 71, 72, 73, 74, 49]⟩, ⟨#[65, 66, 49]⟩] _ _ _ wx B sb _ hm.k (by omega) (by simp) (by simp) (hm.blkI 3 rfl) (hm.neRow 3 rfl rfl))) fun k9 hk9 => ?_
  have zk9 : k9.size ≤ 100 := mem_sz hk9 (by decide)
  refine wl_nil ?_
  refine nw 15 1023 (fun _ hm => ⟨hm.bl 1, hm.fa 0, trivial⟩) fun z => ?_
  refine wt 10 15 2047 rfl z (ov_build (cs := [.int .i64 k3, .string k6, .string k9]) rfl (by kernel_rfl)) ?_
  refine wa1 11 rfl ?_
  refine wl_buildSlice (e := 164) (cs := [.int .i64 k3, .string k6, .string k9]) rfl (by kernel_rfl) rfl fun g31 => ?_
  refine wl_nil ?_
  refine nw 15 4095 (fun _ hm => ⟨hm.bl 2, hm.fa 0, trivial⟩) fun z => ?_
  refine wa1 12 rfl ?_
  refine wl_append (news := [.int .i64 k3, .string k6, .string k9]) 2 0 ap29 rfl rfl rfl rfl rfl rfl rfl (by omega) (by unfold maxLen; omega) rfl rfl fun v2 hv2 => ?_
  refine wl_look (R := ∃ A cc, v2 = .slice A (pn + 1) cc) (fun wx hm => own_slice (hm.ownI 2 rfl)) ?_
  rintro ⟨A2, c2, rfl⟩
  have hxs : pl.flatMap plEnc ++ ([.int .i64 k3, .string k6, .string k9] : List Value) = (pl ++ [(⟨k3, k6, k9⟩ : Pl)]).flatMap plEnc := by simp [plEnc]
  rw [hxs]
  refine wl_nil ?_
  refine nw 15 8191 (fun _ hm => ⟨hm.bl 2, hm.fa 0, trivial⟩) fun z => ?_
  refine wt 13 15 16383 rfl z (ov_field fo31_3 rfl rfl) ?_
  refine wa1 14 rfl ?_
  refine wl_store 3 sc29 rfl rfl rfl rfl rfl rfl ?_
  refine wl_nil ?_
  refine nw 15 32767 (fun _ hm => ⟨hm.bl 2, hm.fa 0, trivial⟩) fun z => ?_
  refine wa_done (by kernel_rfl) ?_
  refine nx_blk_nrm (nx_then (sr_ ?_))
  refine wl_ov (ov_loads rz31 rfl (fun _ hm => hm.blkI 3 rfl) rfl rfl) rfl ?_
  refine wl_stores (cs' := [.slice sA sn sc, .slice cA 4 cc, .slice vA vn vc, .slice A2 (pn + 1) c2]) 2 rz31 rfl rfl rfl rfl rfl rfl rfl rfl ?_
  refine nn_ ?_
  refine gw_ret ?_
  refine nx_retc 2 rfl rz31 rfl rfl rfl fun wx hm => ?_
  exact ⟨sA, cA, vA, A2, sn, sc, cc, vn, vc, pn + 1, c2, sl, cl, vl, pl ++ [(⟨k3, k6, k9⟩ : Pl)], rfl, ⟨⟨stB_all hsB, by omega⟩, hcok, ⟨hvB, by omega⟩, all_snoc hpB ⟨⟨by dsimp only; omega, by dsimp only; omega⟩, by dsimp only; omega, by dsimp only; omega⟩, by omega⟩, hm.k.more (by omega), hm.g, SlT.ofOwnL stEnc_lenL (stB_all hsB) (hm.ownI 0 rfl) hsl, (hm.fact 0 rfl), SlT.ofOwn vh_len (hm.ownI 1 rfl) hvl, SlT.ofOwn pl_len (hm.ownI 2 rfl) (by simp [hpl]), own_shape (hm.ownI 2 rfl), own_cap (hm.ownI 2 rfl)⟩
 have J159 : ∀ (k3 : Int) (hk3 : -2000000000000000 ≤ k3 ∧ k3 ≤ 2000000000000000), W 9 (lb 15 159) [(2, .pointer (some ⟨g1, 0, none⟩)), (3, .pointer (some ⟨g2, 0, none⟩)), (13, .slice pA pn pc), (15, .int .i64 k3), (16, .pointer (some ⟨sb, 0, none⟩)), (19, .pointer (some ⟨sb, 0, none⟩))] (fun w => Strm 25 w B sb (m + 300 + 1 + 1 + 2)) [(g1, 31, [.slice none 0 0, .slice none 0 0, .slice none 0 0, .slice none 0 0]), (g2, 31, [.slice sA sn sc, .slice cA 4 cc, .slice vA vn vc, .slice pA pn pc])] [⟨.slice sA sn sc, 156, 15, sn, sl.flatMap stEnc⟩, ⟨.slice vA vn vc, 69, 2, vn, vl.flatMap vhEnc⟩, ⟨.slice pA pn pc, 164, 3, pn, pl.flatMap plEnc⟩] [fun wy => SlT csEnc 2 158 wy cA 4 cl] := by
  intro k3 hk3
  rw [hW]
  refine wa_all [5, 8] (by kernel_rfl) rfl ⟨⟨_, rfl, ?_⟩, ⟨_, rfl, ?_⟩, trivial⟩
  ·refine wl_buildSlice (e := 9) (cs := [.string ⟨#[118, 49]⟩, .string ⟨#[110, 111, 110, 101]⟩]) rfl (by kernel_rfl) rfl fun q5 => ?_
   refine wl_nil ?_
   refine nw 15 191 (fun _ hm => ⟨hm.bl 1, hm.fa 0, trivial⟩) fun z => ?_
   have h := J191 k3 hk3 q5
   rw [hW] at h
   refine wa_weak ?_ ?_ h
   ·exact ⟨rfl, rfl, rfl, rfl, rfl, rfl, rfl, trivial⟩
   exact fun _ hm => hm.pick [1, 2, 0] [0, 1, 2] [0] rfl rfl
  refine wl_buildSlice (e := 9) (cs := [.string ⟨#[65, 66, 49]⟩, .string ⟨#[97, 49]⟩, .string ⟨#[65]⟩, .string ⟨#[65, 66, 67, 68, 69, 70, 71, 72, 73, 74, 49]⟩, .string ⟨#[65, 66, 49]⟩]) rfl (by kernel_rfl) rfl fun q8 => ?_
  refine wl_nil ?_
  refine nw 15 415 (fun _ hm => ⟨hm.bl 1, hm.fa 0, trivial⟩) fun z => ?_
  have h := T415 k3 hk3 q8
  rw [hW] at h
  refine wa_weak ?_ ?_ h
  ·exact ⟨rfl, rfl, rfl, rfl, rfl, rfl, rfl, trivial⟩
  exact fun _ hm => hm.pick [1, 2, 0] [0, 1, 2] [0] rfl rfl
 have T439 : ∀ (q5 : Nat) (q8 : Nat), W 8 (lb 15 439) [(2, .pointer (some ⟨g1, 0, none⟩)), (3, .pointer (some ⟨g2, 0, none⟩)), (13, .slice pA pn pc), (14, .pointer (some ⟨sb, 0, none⟩)), (16, .pointer (some ⟨sb, 0, none⟩)), (17, .slice (some ⟨q5, 0, none⟩) 2 2), (19, .pointer (some ⟨sb, 0, none⟩)), (20, .slice (some ⟨q8, 0, none⟩) 5 5)] (fun w => Strm 25 w B sb (m + 300 + 1 + 1)) [(g1, 31, [.slice none 0 0, .slice none 0 0, .slice none 0 0, .slice none 0 0]), (g2, 31, [.slice sA sn sc, .slice cA 4 cc, .slice vA vn vc, .slice pA pn pc]), (q5, 9, [.string ⟨#[118, 49]⟩, .string ⟨#[110, 111, 110, 101]⟩]), (q8, 9, [.string ⟨#[65, 66, 49]⟩, .string ⟨#[97, 49]⟩, .string ⟨#[65]⟩, .string ⟨#[65, 66, 67, 68, 69, 70, 71, 72, 73, 74, 49]⟩, .string ⟨#[65, 66, 49]⟩])] [⟨.slice sA sn sc, 156, 15, sn, sl.flatMap stEnc⟩, ⟨.slice vA vn vc, 69, 2, vn, vl.flatMap vhEnc⟩, ⟨.slice pA pn pc, 164, 3, pn, pl.flatMap plEnc⟩] [fun wy => SlT csEnc 2 158 wy cA 4 cl] := by
  intro q5 q8
  rw [hW]
  refine wa1 3 rfl ?_
  refine wl_got (γ := Int) (val := fun v => .int .i64 v) (φ := fun v => -2000000000000000 ≤ v ∧ v ≤ 2000000000000000) rfl cb65 rfl rfl rfl rfl (fun wx hm => (odd_any _ _ wx B sb _ hm.k (by omega) (by omega) (by omega) (by omega))) fun k3 hk3 => ?_
  refine wl_nil ?_
  refine nw 15 447 (fun _ hm => ⟨hm.bl 0, hm.fa 0, trivial⟩) fun z => ?_
  refine wa1 6 rfl ?_
  refine wl_got (γ := ByteArray) (val := fun v => .string v) (φ := fun v => v ∈ ([⟨#[118, 49]⟩, ⟨#[110, 111, 110, 101]⟩] : List ByteArray)) rfl cb62 rfl rfl rfl rfl (fun wx hm => (some_any [⟨#[118, 49]⟩, ⟨#[110, 111, 110, 101]⟩] _ _ _ wx B sb _ hm.k (by omega) (by simp) (by simp) (hm.blkI 2 rfl) (hm.neRow 2 rfl rfl))) fun k6 hk6 => ?_
  have zk6 : k6.size ≤ 100 := mem_sz hk6 (by decide)
  refine wl_nil ?_
  refine nw 15 511 (fun _ hm => ⟨hm.bl 0, hm.fa 0, trivial⟩) fun z => ?_
  refine wa1 9 rfl ?_
  refine wl_got (γ := ByteArray) (val := fun v => .string v) (φ := fun v => v ∈ ([⟨#[65, 66, 49]⟩, ⟨#[97, 49]⟩, ⟨#[65]⟩, ⟨#[65, 66, 67, 68, 69, 70, 71, 72, 73, 74, 49]⟩, ⟨#[65, 66, 49]⟩] : List ByteArray)) rfl cb62 rfl rfl rfl rfl (fun wx hm => (some_any [⟨#[65, 66, 49]⟩, ⟨#[97, 49]⟩, ⟨#[65]⟩, ⟨#[65, 66, 67, 68, 69, 70, 71, 72, 73, 74, 49]⟩, ⟨#[65, 66, 49]⟩] _ _ _ wx B sb _ hm.k (by omega) (by simp) (by simp) (hm.blkI 3 rfl) (hm.neRow 3 rfl rfl))) fun k9 hk9 => ?_
  have zk9 : k9.size ≤ 100 := mem_sz hk9 (by decide)
  refine wl_nil ?_
  refine nw 15 1023 (fun _ hm => ⟨hm.bl 0, hm.fa 0, trivial⟩) fun z => ?_
  refine wt 10 15 2047 rfl z (ov_build (cs := [.int .i64 k3, .string k6, .string k9]) rfl (by kernel_rfl)) ?_
  refine wa1 11 rfl ?_
  refine wl_buildSlice (e := 164) (cs := [.int .i64 k3, .string k6, .string k9]) rfl (by kernel_rfl) rfl fun g32 => ?_
  refine wl_nil ?_
  refine nw 15 4095 (fun _ hm => ⟨hm.bl 1, hm.fa 0, trivial⟩) fun z => ?_
  refine wa1 12 rfl ?_
  refine wl_append (news := [.int .i64 k3, .string k6, .string k9]) 2 0 ap29 rfl rfl rfl rfl rfl rfl rfl (by omega) (by unfold maxLen; omega) rfl rfl fun v2 hv2 => ?_
  refine wl_look (R := ∃ A cc, v2 = .slice A (pn + 1) cc) (fun wx hm => own_slice (hm.ownI 2 rfl)) ?_
  rintro ⟨A2, c2, rfl⟩
  have hxs : pl.flatMap plEnc ++ ([.int .i64 k3, .string k6, .string k9] : List Value) = (pl ++ [(⟨k3, k6, k9⟩ : Pl)]).flatMap plEnc := by simp [plEnc]
  rw [hxs]
  refine wl_nil ?_
  refine nw 15 8191 (fun _ hm => ⟨hm.bl 1, hm.fa 0, trivial⟩) fun z => ?_
  refine wt 13 15 16383 rfl z (ov_field fo31_3 rfl rfl) ?_
  refine wa1 14 rfl ?_
  refine wl_store 2 sc29 rfl rfl rfl rfl rfl rfl ?_
  refine wl_nil ?_
  refine nw 15 32767 (fun _ hm => ⟨hm.bl 1, hm.fa 0, trivial⟩) fun z => ?_
  refine wa_done (by kernel_rfl) ?_
  refine nx_blk_nrm (nx_then (sr_ ?_))
  refine wl_ov (ov_loads rz31 rfl (fun _ hm => hm.blkI 2 rfl) rfl rfl) rfl ?_
  refine wl_stores (cs' := [.slice sA sn sc, .slice cA 4 cc, .slice vA vn vc, .slice A2 (pn + 1) c2]) 1 rz31 rfl rfl rfl rfl rfl rfl rfl rfl ?_
  refine nn_ ?_
  refine gw_ret ?_
  refine nx_retc 1 rfl rz31 rfl rfl rfl fun wx hm => ?_
  exact ⟨sA, cA, vA, A2, sn, sc, cc, vn, vc, pn + 1, c2, sl, cl, vl, pl ++ [(⟨k3, k6, k9⟩ : Pl)], rfl, ⟨⟨stB_all hsB, by omega⟩, hcok, ⟨hvB, by omega⟩, all_snoc hpB ⟨⟨by dsimp only; omega, by dsimp only; omega⟩, by dsimp only; omega, by dsimp only; omega⟩, by omega⟩, hm.k.more (by omega), hm.g, SlT.ofOwnL stEnc_lenL (stB_all hsB) (hm.ownI 0 rfl) hsl, (hm.fact 0 rfl), SlT.ofOwn vh_len (hm.ownI 1 rfl) hvl, SlT.ofOwn pl_len (hm.ownI 2 rfl) (by simp [hpl]), own_shape (hm.ownI 2 rfl), own_cap (hm.ownI 2 rfl)⟩
 have J183 : ∀ (q5 : Nat), W 9 (lb 15 183) [(2, .pointer (some ⟨g1, 0, none⟩)), (3, .pointer (some ⟨g2, 0, none⟩)), (13, .slice pA pn pc), (14, .pointer (some ⟨sb, 0, none⟩)), (16, .pointer (some ⟨sb, 0, none⟩)), (17, .slice (some ⟨q5, 0, none⟩) 2 2), (19, .pointer (some ⟨sb, 0, none⟩))] (fun w => Strm 25 w B sb (m + 300 + 1 + 1)) [(g1, 31, [.slice none 0 0, .slice none 0 0, .slice none 0 0, .slice none 0 0]), (g2, 31, [.slice sA sn sc, .slice cA 4 cc, .slice vA vn vc, .slice pA pn pc]), (q5, 9, [.string ⟨#[118, 49]⟩, .string ⟨#[110, 111, 110, 101]⟩])] [⟨.slice sA sn sc, 156, 15, sn, sl.flatMap stEnc⟩, ⟨.slice vA vn vc, 69, 2, vn, vl.flatMap vhEnc⟩, ⟨.slice pA pn pc, 164, 3, pn, pl.flatMap plEnc⟩] [fun wy => SlT csEnc 2 158 wy cA 4 cl] := by
  intro q5
  rw [hW]
  refine wa_all [3, 8] (by kernel_rfl) rfl ⟨⟨_, rfl, ?_⟩, ⟨_, rfl, ?_⟩, trivial⟩
  ·refine wl_got (γ := Int) (val := fun v => .int .i64 v) (φ := fun v => -2000000000000000 ≤ v ∧ v ≤ 2000000000000000) rfl cb65 rfl rfl rfl rfl (fun wx hm => (odd_any _ _ wx B sb _ hm.k (by omega) (by omega) (by omega) (by omega))) fun k3 hk3 => ?_
   refine wl_nil ?_
   refine nw 15 191 (fun _ hm => ⟨hm.bl 0, hm.fa 0, trivial⟩) fun z => ?_
   have h := J191 k3 hk3 q5
   rw [hW] at h
   refine wa_weak ?_ ?_ h
   ·exact ⟨rfl, rfl, rfl, rfl, rfl, rfl, rfl, trivial⟩
   exact fun _ hm => hm.pick [0, 1, 2] [0, 1, 2] [0] rfl rfl
  refine wl_buildSlice (e := 9) (cs := [.string ⟨#[65, 66, 49]⟩, .string ⟨#[97, 49]⟩, .string ⟨#[65]⟩, .string ⟨#[65, 66, 67, 68, 69, 70, 71, 72, 73, 74, 49]⟩, .string ⟨#[65, 66, 49]⟩]) rfl (by kernel_rfl) rfl fun q8 => ?_
  refine wl_nil ?_
  refine nw 15 439 (fun _ hm => ⟨hm.bl 1, hm.fa 0, trivial⟩) fun z => ?_
  have h := T439 q5 q8
  rw [hW] at h
  refine wa_weak ?_ ?_ h
  ·exact ⟨rfl, rfl, rfl, rfl, rfl, rfl, rfl, rfl, trivial⟩
  exact fun _ hm => hm.pick [1, 2, 3, 0] [0, 1, 2] [0] rfl rfl
 have J407 : ∀ (q8 : Nat), W 9 (lb 15 407) [(2, .pointer (some ⟨g1, 0, none⟩)), (3, .pointer (some ⟨g2, 0, none⟩)), (13, .slice pA pn pc), (14, .pointer (some ⟨sb, 0, none⟩)), (16, .pointer (some ⟨sb, 0, none⟩)), (19, .pointer (some ⟨sb, 0, none⟩)), (20, .slice (some ⟨q8, 0, none⟩) 5 5)] (fun w => Strm 25 w B sb (m + 300 + 1 + 1)) [(g1, 31, [.slice none 0 0, .slice none 0 0, .slice none 0 0, .slice none 0 0]), (g2, 31, [.slice sA sn sc, .slice cA 4 cc, .slice vA vn vc, .slice pA pn pc]), (q8, 9, [.string ⟨#[65, 66, 49]⟩, .string ⟨#[97, 49]⟩, .string ⟨#[65]⟩, .string ⟨#[65, 66, 67, 68, 69, 70, 71, 72, 73, 74, 49]⟩, .string ⟨#[65, 66, 49]⟩])] [⟨.slice sA sn sc, 156, 15, sn, sl.flatMap stEnc⟩, ⟨.slice vA vn vc, 69, 2, vn, vl.flatMap vhEnc⟩, ⟨.slice pA pn pc, 164, 3, pn, pl.flatMap plEnc⟩] [fun wy => SlT csEnc 2 158 wy cA 4 cl] := by
  intro q8
  rw [hW]
  refine wa_all [3, 5] (by kernel_rfl) rfl ⟨⟨_, rfl, ?_⟩, ⟨_, rfl, ?_⟩, trivial⟩
  ·refine wl_got (γ := Int) (val := fun v => .int .i64 v) (φ := fun v => -2000000000000000 ≤ v ∧ v ≤ 2000000000000000) rfl cb65 rfl rfl rfl rfl (fun wx hm => (odd_any _ _ wx B sb _ hm.k (by omega) (by omega) (by omega) (by omega))) fun k3 hk3 => ?_
   refine wl_nil ?_
   refine nw 15 415 (fun _ hm => ⟨hm.bl 0, hm.fa 0, trivial⟩) fun z => ?_
   have h := T415 k3 hk3 q8
   rw [hW] at h
   refine wa_weak ?_ ?_ h
   ·exact ⟨rfl, rfl, rfl, rfl, rfl, rfl, rfl, trivial⟩
   exact fun _ hm => hm.pick [0, 1, 2] [0, 1, 2] [0] rfl rfl
  refine wl_buildSlice (e := 9) (cs := [.string ⟨#[118, 49]⟩, .string ⟨#[110, 111, 110, 101]⟩]) rfl (by kernel_rfl) rfl fun q5 => ?_
  refine wl_nil ?_
  refine nw 15 439 (fun _ hm => ⟨hm.bl 1, hm.fa 0, trivial⟩) fun z => ?_
  have h := T439 q5 q8
  rw [hW] at h
  refine wa_weak ?_ ?_ h
  ·exact ⟨rfl, rfl, rfl, rfl, rfl, rfl, rfl, rfl, trivial⟩
  exact fun _ hm => hm.pick [1, 2, 0, 3] [0, 1, 2] [0] rfl rfl
 have J151 : W 10 (lb 15 151) [(2, .pointer (some ⟨g1, 0, none⟩)), (3, .pointer (some ⟨g2, 0, none⟩)), (13, .slice pA pn pc), (14, .pointer (some ⟨sb, 0, none⟩)), (16, .pointer (some ⟨sb, 0, none⟩)), (19, .pointer (some ⟨sb, 0, none⟩))] (fun w => Strm 25 w B sb (m + 300 + 1 + 1)) [(g1, 31, [.slice none 0 0, .slice none 0 0, .slice none 0 0, .slice none 0 0]), (g2, 31, [.slice sA sn sc, .slice cA 4 cc, .slice vA vn vc, .slice pA pn pc])] [⟨.slice sA sn sc, 156, 15, sn, sl.flatMap stEnc⟩, ⟨.slice vA vn vc, 69, 2, vn, vl.flatMap vhEnc⟩, ⟨.slice pA pn pc, 164, 3, pn, pl.flatMap plEnc⟩] [fun wy => SlT csEnc 2 158 wy cA 4 cl] := by
  skip
  rw [hW]
  refine wa_all [3, 5, 8] (by kernel_rfl) rfl ⟨⟨_, rfl, ?_⟩, ⟨_, rfl, ?_⟩, ⟨_, rfl, ?_⟩, trivial⟩
  ·refine wl_got (γ := Int) (val := fun v => .int .i64 v) (φ := fun v => -2000000000000000 ≤ v ∧ v ≤ 2000000000000000) rfl cb65 rfl rfl rfl rfl (fun wx hm => (odd_any _ _ wx B sb _ hm.k (by omega) (by omega) (by omega) (by omega))) fun k3 hk3 => ?_
   refine wl_nil ?_
   refine nw 15 159 (fun _ hm => ⟨hm.bl 0, hm.fa 0, trivial⟩) fun z => ?_
   have h := J159 k3 hk3
   rw [hW] at h
   refine wa_weak ?_ ?_ h
   ·exact ⟨rfl, rfl, rfl, rfl, rfl, rfl, trivial⟩
   exact fun _ hm => hm.pick [0, 1] [0, 1, 2] [0] rfl rfl
  ·refine wl_buildSlice (e := 9) (cs := [.string ⟨#[118, 49]⟩, .string ⟨#[110, 111, 110, 101]⟩]) rfl (by kernel_rfl) rfl fun q5 => ?_
   refine wl_nil ?_
   refine nw 15 183 (fun _ hm => ⟨hm.bl 1, hm.fa 0, trivial⟩) fun z => ?_
   have h := J183 q5
   rw [hW] at h
   refine wa_weak ?_ ?_ h
   ·exact ⟨rfl, rfl, rfl, rfl, rfl, rfl, rfl, trivial⟩
   exact fun _ hm => hm.pick [1, 2, 0] [0, 1, 2] [0] rfl rfl
  refine wl_buildSlice (e := 9) (cs := [.string ⟨#[65, 66, 49]⟩, .string ⟨#[97, 49]⟩, .string ⟨#[65]⟩, .string ⟨#[65, 66, 67, 68, 69, 70, 71, 72, 73, 74, 49]⟩, .string ⟨#[65, 66, 49]⟩]) rfl (by kernel_rfl) rfl fun q8 => ?_
  refine wl_nil ?_
  refine nw 15 407 (fun _ hm => ⟨hm.bl 1, hm.fa 0, trivial⟩) fun z => ?_
  have h := J407 q8
  rw [hW] at h
  refine wa_weak ?_ ?_ h
  ·exact ⟨rfl, rfl, rfl, rfl, rfl, rfl, rfl, trivial⟩
  exact fun _ hm => hm.pick [1, 2, 0] [0, 1, 2] [0] rfl rfl
 have T511 : ∀ (k3 : Int) (hk3 : -2000000000000000 ≤ k3 ∧ k3 ≤ 2000000000000000) (q5 : Nat) (k6 : ByteArray) (zk6 : k6.size ≤ 100) (q8 : Nat), W 6 (lb 15 511) [(2, .pointer (some ⟨g1, 0, none⟩)), (3, .pointer (some ⟨g2, 0, none⟩)), (13, .slice pA pn pc), (15, .int .i64 k3), (18, .string k6), (19, .pointer (some ⟨sb, 0, none⟩)), (20, .slice (some ⟨q8, 0, none⟩) 5 5)] (fun w => Strm 25 w B sb (m + 300 + 1 + 1 + 2 + 1)) [(g1, 31, [.slice none 0 0, .slice none 0 0, .slice none 0 0, .slice none 0 0]), (g2, 31, [.slice sA sn sc, .slice cA 4 cc, .slice vA vn vc, .slice pA pn pc]), (q5, 9, [.string ⟨#[118, 49]⟩, .string ⟨#[110, 111, 110, 101]⟩]), (q8, 9, [.string ⟨#[65, 66, 49]⟩, .string ⟨#[97, 49]⟩, .string ⟨#[65]⟩, .string ⟨#[65, 66, 67, 68, 69, 70, 71, 72, 73, 74, 49]⟩, .string ⟨#[65, 66, 49]⟩])] [⟨.slice sA sn sc, 156, 15, sn, sl.flatMap stEnc⟩, ⟨.slice vA vn vc, 69, 2, vn, vl.flatMap vhEnc⟩, ⟨.slice pA pn pc, 164, 3, pn, pl.flatMap plEnc⟩] [fun wy => SlT csEnc 2 158 wy cA 4 cl] := by
  intro k3 hk3 q5 k6 zk6 q8
  rw [hW]
  refine wa1 9 rfl ?_
  refine wl_got (γ := ByteArray) (val := fun v => .string v) (φ := fun v => v ∈ ([⟨#[65, 66, 49]⟩, ⟨#[97, 49]⟩, ⟨#[65]⟩, ⟨#[65, 66, 67, 68, 69, 70, 71, 72, 73, 74, 49]⟩, ⟨#[65, 66, 49]⟩] : List ByteArray)) rfl cb62 rfl rfl rfl rfl (fun wx hm => (some_any [⟨#[65, 66, 49]⟩, ⟨#[97, 49]⟩, ⟨#[65]⟩, ⟨#[65, 66, 67, 68, 69, 70, 71, 72, 73, 74, 49]⟩, ⟨#[65, 66, 49]⟩] _ _ _ wx B sb _ hm.k (by omega) (by simp) (by simp) (hm.blkI 3 rfl) (hm.neRow 3 rfl rfl))) fun k9 hk9 => ?_
  have zk9 : k9.size ≤ 100 := mem_sz hk9 (by decide)
  refine wl_nil ?_
  refine nw 15 1023 (fun _ hm => ⟨hm.bl 0, hm.fa 0, trivial⟩) fun z => ?_
  refine wt 10 15 2047 rfl z (ov_build (cs := [.int .i64 k3, .string k6, .string k9]) rfl (by kernel_rfl)) ?_
  refine wa1 11 rfl ?_
  refine wl_buildSlice (e := 164) (cs := [.int .i64 k3, .string k6, .string k9]) rfl (by kernel_rfl) rfl fun g33 => ?_
  refine wl_nil ?_
  refine nw 15 4095 (fun _ hm => ⟨hm.bl 1, hm.fa 0, trivial⟩) fun z => ?_
  refine wa1 12 rfl ?_
  refine wl_append (news := [.int .i64 k3, .string k6, .string k9]) 2 0 ap29 rfl rfl rfl rfl rfl rfl rfl (by omega) (by unfold maxLen; omega) rfl rfl fun v2 hv2 => ?_
  refine wl_look (R := ∃ A cc, v2 = .slice A (pn + 1) cc) (fun wx hm => own_slice (hm.ownI 2 rfl)) ?_
  rintro ⟨A2, c2, rfl⟩
  have hxs : pl.flatMap plEnc ++ ([.int .i64 k3, .string k6, .string k9] : List Value) = (pl ++ [(⟨k3, k6, k9⟩ : Pl)]).flatMap plEnc := by simp [plEnc]
  rw [hxs]
  refine wl_nil ?_
  refine nw 15 8191 (fun _ hm => ⟨hm.bl 1, hm.fa 0, trivial⟩) fun z => ?_
  refine wt 13 15 16383 rfl z (ov_field fo31_3 rfl rfl) ?_
  refine wa1 14 rfl ?_
  refine wl_store 2 sc29 rfl rfl rfl rfl rfl rfl ?_
  refine wl_nil ?_
  refine nw 15 32767 (fun _ hm => ⟨hm.bl 1, hm.fa 0, trivial⟩) fun z => ?_
  refine wa_done (by kernel_rfl) ?_
  refine nx_blk_nrm (nx_then (sr_ ?_))
  refine wl_ov (ov_loads rz31 rfl (fun _ hm => hm.blkI 2 rfl) rfl rfl) rfl ?_
  refine wl_stores (cs' := [.slice sA sn sc, .slice cA 4 cc, .slice vA vn vc, .slice A2 (pn + 1) c2]) 1 rz31 rfl rfl rfl rfl rfl rfl rfl rfl ?_
  refine nn_ ?_
  refine gw_ret ?_
  refine nx_retc 1 rfl rz31 rfl rfl rfl fun wx hm => ?_
  exact ⟨sA, cA, vA, A2, sn, sc, cc, vn, vc, pn + 1, c2, sl, cl, vl, pl ++ [(⟨k3, k6, k9⟩ : Pl)], rfl, ⟨⟨stB_all hsB, by omega⟩, hcok, ⟨hvB, by omega⟩, all_snoc hpB ⟨⟨by dsimp only; omega, by dsimp only; omega⟩, by dsimp only; omega, by dsimp only; omega⟩, by omega⟩, hm.k.more (by omega), hm.g, SlT.ofOwnL stEnc_lenL (stB_all hsB) (hm.ownI 0 rfl) hsl, (hm.fact 0 rfl), SlT.ofOwn vh_len (hm.ownI 1 rfl) hvl, SlT.ofOwn pl_len (hm.ownI 2 rfl) (by simp [hpl]), own_shape (hm.ownI 2 rfl), own_cap (hm.ownI 2 rfl)⟩
 have T2047 : ∀ (k3 : Int) (hk3 : -2000000000000000 ≤ k3 ∧ k3 ≤ 2000000000000000) (q5 : Nat) (k6 : ByteArray) (zk6 : k6.size ≤ 100) (q8 : Nat) (k9 : ByteArray) (zk9 : k9.size ≤ 100), W 4 (lb 15 2047) [(2, .pointer (some ⟨g1, 0, none⟩)), (3, .pointer (some ⟨g2, 0, none⟩)), (13, .slice pA pn pc), (22, .agg #[.int .i64 k3, .string k6, .string k9])] (fun w => Strm 25 w B sb (m + 300 + 1 + 1 + 2 + 1 + 1)) [(g1, 31, [.slice none 0 0, .slice none 0 0, .slice none 0 0, .slice none 0 0]), (g2, 31, [.slice sA sn sc, .slice cA 4 cc, .slice vA vn vc, .slice pA pn pc]), (q5, 9, [.string ⟨#[118, 49]⟩, .string ⟨#[110, 111, 110, 101]⟩]), (q8, 9, [.string ⟨#[65, 66, 49]⟩, .string ⟨#[97, 49]⟩, .string ⟨#[65]⟩, .string ⟨#[65, 66, 67, 68, 69, 70, 71, 72, 73, 74, 49]⟩, .string ⟨#[65, 66, 49]⟩])] [⟨.slice sA sn sc, 156, 15, sn, sl.flatMap stEnc⟩, ⟨.slice vA vn vc, 69, 2, vn, vl.flatMap vhEnc⟩, ⟨.slice pA pn pc, 164, 3, pn, pl.flatMap plEnc⟩] [fun wy => SlT csEnc 2 158 wy cA 4 cl] := by
  intro k3 hk3 q5 k6 zk6 q8 k9 zk9
  rw [hW]
  refine wa1 11 rfl ?_
  refine wl_buildSlice (e := 164) (cs := [.int .i64 k3, .string k6, .string k9]) rfl (by kernel_rfl) rfl fun g34 => ?_
  refine wl_nil ?_
  refine nw 15 4095 (fun _ hm => ⟨hm.bl 1, hm.fa 0, trivial⟩) fun z => ?_
  refine wa1 12 rfl ?_
  refine wl_append (news := [.int .i64 k3, .string k6, .string k9]) 2 0 ap29 rfl rfl rfl rfl rfl rfl rfl (by omega) (by unfold maxLen; omega) rfl rfl fun v2 hv2 => ?_
  refine wl_look (R := ∃ A cc, v2 = .slice A (pn + 1) cc) (fun wx hm => own_slice (hm.ownI 2 rfl)) ?_
  rintro ⟨A2, c2, rfl⟩
  have hxs : pl.flatMap plEnc ++ ([.int .i64 k3, .string k6, .string k9] : List Value) = (pl ++ [(⟨k3, k6, k9⟩ : Pl)]).flatMap plEnc := by simp [plEnc]
  rw [hxs]
  refine wl_nil ?_
  refine nw 15 8191 (fun _ hm => ⟨hm.bl 1, hm.fa 0, trivial⟩) fun z => ?_
  refine wt 13 15 16383 rfl z (ov_field fo31_3 rfl rfl) ?_
  refine wa1 14 rfl ?_
  refine wl_store 2 sc29 rfl rfl rfl rfl rfl rfl ?_
  refine wl_nil ?_
  refine nw 15 32767 (fun _ hm => ⟨hm.bl 1, hm.fa 0, trivial⟩) fun z => ?_
  refine wa_done (by kernel_rfl) ?_
  refine nx_blk_nrm (nx_then (sr_ ?_))
  refine wl_ov (ov_loads rz31 rfl (fun _ hm => hm.blkI 2 rfl) rfl rfl) rfl ?_
  refine wl_stores (cs' := [.slice sA sn sc, .slice cA 4 cc, .slice vA vn vc, .slice A2 (pn + 1) c2]) 1 rz31 rfl rfl rfl rfl rfl rfl rfl rfl ?_
  refine nn_ ?_
  refine gw_ret ?_
  refine nx_retc 1 rfl rz31 rfl rfl rfl fun wx hm => ?_
  exact ⟨sA, cA, vA, A2, sn, sc, cc, vn, vc, pn + 1, c2, sl, cl, vl, pl ++ [(⟨k3, k6, k9⟩ : Pl)], rfl, ⟨⟨stB_all hsB, by omega⟩, hcok, ⟨hvB, by omega⟩, all_snoc hpB ⟨⟨by dsimp only; omega, by dsimp only; omega⟩, by dsimp only; omega, by dsimp only; omega⟩, by omega⟩, hm.k.more (by omega), hm.g, SlT.ofOwnL stEnc_lenL (stB_all hsB) (hm.ownI 0 rfl) hsl, (hm.fact 0 rfl), SlT.ofOwn vh_len (hm.ownI 1 rfl) hvl, SlT.ofOwn pl_len (hm.ownI 2 rfl) (by simp [hpl]), own_shape (hm.ownI 2 rfl), own_cap (hm.ownI 2 rfl)⟩
 have T4093 : ∀ (k3 : Int) (hk3 : -2000000000000000 ≤ k3 ∧ k3 ≤ 2000000000000000) (q5 : Nat) (k6 : ByteArray) (zk6 : k6.size ≤ 100) (q8 : Nat) (k9 : ByteArray) (zk9 : k9.size ≤ 100) (q11 : Nat), W 4 (lb 15 4093) [(2, .pointer (some ⟨g1, 0, none⟩)), (3, .pointer (some ⟨g2, 0, none⟩)), (12, .pointer (some ⟨g2, 3, none⟩)), (23, .slice (some ⟨q11, 0, none⟩) 1 1)] (fun w => Strm 25 w B sb (m + 300 + 1 + 1 + 2 + 1 + 1)) [(g1, 31, [.slice none 0 0, .slice none 0 0, .slice none 0 0, .slice none 0 0]), (g2, 31, [.slice sA sn sc, .slice cA 4 cc, .slice vA vn vc, .slice pA pn pc]), (q11, 164, [.int .i64 k3, .string k6, .string k9]), (q5, 9, [.string ⟨#[118, 49]⟩, .string ⟨#[110, 111, 110, 101]⟩]), (q8, 9, [.string ⟨#[65, 66, 49]⟩, .string ⟨#[97, 49]⟩, .string ⟨#[65]⟩, .string ⟨#[65, 66, 67, 68, 69, 70, 71, 72, 73, 74, 49]⟩, .string ⟨#[65, 66, 49]⟩])] [⟨.slice sA sn sc, 156, 15, sn, sl.flatMap stEnc⟩, ⟨.slice vA vn vc, 69, 2, vn, vl.flatMap vhEnc⟩, ⟨.slice pA pn pc, 164, 3, pn, pl.flatMap plEnc⟩] [fun wy => SlT csEnc 2 158 wy cA 4 cl] := by
  intro k3 hk3 q5 k6 zk6 q8 k9 zk9 q11
  rw [hW]
  refine wa1 1 rfl ?_
  refine lk_ sc29 1 rfl rfl rfl (wl_nil ?_)
  refine nw 15 4095 (fun _ hm => ⟨hm.bl 0, hm.fa 0, trivial⟩) fun z => ?_
  refine wa1 12 rfl ?_
  refine wl_append (news := [.int .i64 k3, .string k6, .string k9]) 2 2 ap29 rfl rfl rfl rfl rfl rfl rfl (by omega) (by unfold maxLen; omega) rfl rfl fun v2 hv2 => ?_
  refine wl_look (R := ∃ A cc, v2 = .slice A (pn + 1) cc) (fun wx hm => own_slice (hm.ownI 2 rfl)) ?_
  rintro ⟨A2, c2, rfl⟩
  have hxs : pl.flatMap plEnc ++ ([.int .i64 k3, .string k6, .string k9] : List Value) = (pl ++ [(⟨k3, k6, k9⟩ : Pl)]).flatMap plEnc := by simp [plEnc]
  rw [hxs]
  refine wl_nil ?_
  refine nw 15 8191 (fun _ hm => ⟨hm.bl 0, hm.fa 0, trivial⟩) fun z => ?_
  refine wt 13 15 16383 rfl z (ov_field fo31_3 rfl rfl) ?_
  refine wa1 14 rfl ?_
  refine wl_store 1 sc29 rfl rfl rfl rfl rfl rfl ?_
  refine wl_nil ?_
  refine nw 15 32767 (fun _ hm => ⟨hm.bl 0, hm.fa 0, trivial⟩) fun z => ?_
  refine wa_done (by kernel_rfl) ?_
  refine nx_blk_nrm (nx_then (sr_ ?_))
  refine wl_ov (ov_loads rz31 rfl (fun _ hm => hm.blkI 1 rfl) rfl rfl) rfl ?_
  refine wl_stores (cs' := [.slice sA sn sc, .slice cA 4 cc, .slice vA vn vc, .slice A2 (pn + 1) c2]) 0 rz31 rfl rfl rfl rfl rfl rfl rfl rfl ?_
  refine nn_ ?_
  refine gw_ret ?_
  refine nx_retc 0 rfl rz31 rfl rfl rfl fun wx hm => ?_
  exact ⟨sA, cA, vA, A2, sn, sc, cc, vn, vc, pn + 1, c2, sl, cl, vl, pl ++ [(⟨k3, k6, k9⟩ : Pl)], rfl, ⟨⟨stB_all hsB, by omega⟩, hcok, ⟨hvB, by omega⟩, all_snoc hpB ⟨⟨by dsimp only; omega, by dsimp only; omega⟩, by dsimp only; omega, by dsimp only; omega⟩, by omega⟩, hm.k.more (by omega), hm.g, SlT.ofOwnL stEnc_lenL (stB_all hsB) (hm.ownI 0 rfl) hsl, (hm.fact 0 rfl), SlT.ofOwn vh_len (hm.ownI 1 rfl) hvl, SlT.ofOwn pl_len (hm.ownI 2 rfl) (by simp [hpl]), own_shape (hm.ownI 2 rfl), own_cap (hm.ownI 2 rfl)⟩
 have J2045 : ∀ (k3 : Int) (hk3 : -2000000000000000 ≤ k3 ∧ k3 ≤ 2000000000000000) (q5 : Nat) (k6 : ByteArray) (zk6 : k6.size ≤ 100) (q8 : Nat) (k9 : ByteArray) (zk9 : k9.size ≤ 100), W 5 (lb 15 2045) [(2, .pointer (some ⟨g1, 0, none⟩)), (3, .pointer (some ⟨g2, 0, none⟩)), (12, .pointer (some ⟨g2, 3, none⟩)), (22, .agg #[.int .i64 k3, .string k6, .string k9])] (fun w => Strm 25 w B sb (m + 300 + 1 + 1 + 2 + 1 + 1)) [(g1, 31, [.slice none 0 0, .slice none 0 0, .slice none 0 0, .slice none 0 0]), (g2, 31, [.slice sA sn sc, .slice cA 4 cc, .slice vA vn vc, .slice pA pn pc]), (q5, 9, [.string ⟨#[118, 49]⟩, .string ⟨#[110, 111, 110, 101]⟩]), (q8, 9, [.string ⟨#[65, 66, 49]⟩, .string ⟨#[97, 49]⟩, .string ⟨#[65]⟩, .string ⟨#[65, 66, 67, 68, 69, 70, 71, 72, 73, 74, 49]⟩, .string ⟨#[65, 66, 49]⟩])] [⟨.slice sA sn sc, 156, 15, sn, sl.flatMap stEnc⟩, ⟨.slice vA vn vc, 69, 2, vn, vl.flatMap vhEnc⟩, ⟨.slice pA pn pc, 164, 3, pn, pl.flatMap plEnc⟩] [fun wy => SlT csEnc 2 158 wy cA 4 cl] := by
  intro k3 hk3 q5 k6 zk6 q8 k9 zk9
  rw [hW]
  refine wa_all [1, 11] (by kernel_rfl) rfl ⟨⟨_, rfl, ?_⟩, ⟨_, rfl, ?_⟩, trivial⟩
  ·refine lk_ sc29 1 rfl rfl rfl (wl_nil ?_)
   refine nw 15 2047 (fun _ hm => ⟨hm.bl 0, hm.fa 0, trivial⟩) fun z => ?_
   have h := T2047 k3 hk3 q5 k6 zk6 q8 k9 zk9
   rw [hW] at h
   refine wa_weak ?_ ?_ h
   ·exact ⟨rfl, rfl, rfl, rfl, trivial⟩
   exact fun _ hm => hm.pick [0, 1, 2, 3] [0, 1, 2] [0] rfl rfl
  refine wl_buildSlice (e := 164) (cs := [.int .i64 k3, .string k6, .string k9]) rfl (by kernel_rfl) rfl fun q11 => ?_
  refine wl_nil ?_
  refine nw 15 4093 (fun _ hm => ⟨hm.bl 1, hm.fa 0, trivial⟩) fun z => ?_
  have h := T4093 k3 hk3 q5 k6 zk6 q8 k9 zk9 q11
  rw [hW] at h
  refine wa_weak ?_ ?_ h
  ·exact ⟨rfl, rfl, rfl, rfl, trivial⟩
  exact fun _ hm => hm.pick [1, 2, 0, 3, 4] [0, 1, 2] [0] rfl rfl
 have J509 : ∀ (k3 : Int) (hk3 : -2000000000000000 ≤ k3 ∧ k3 ≤ 2000000000000000) (q5 : Nat) (k6 : ByteArray) (zk6 : k6.size ≤ 100) (q8 : Nat), W 7 (lb 15 509) [(2, .pointer (some ⟨g1, 0, none⟩)), (3, .pointer (some ⟨g2, 0, none⟩)), (12, .pointer (some ⟨g2, 3, none⟩)), (15, .int .i64 k3), (18, .string k6), (19, .pointer (some ⟨sb, 0, none⟩)), (20, .slice (some ⟨q8, 0, none⟩) 5 5)] (fun w => Strm 25 w B sb (m + 300 + 1 + 1 + 2 + 1)) [(g1, 31, [.slice none 0 0, .slice none 0 0, .slice none 0 0, .slice none 0 0]), (g2, 31, [.slice sA sn sc, .slice cA 4 cc, .slice vA vn vc, .slice pA pn pc]), (q5, 9, [.string ⟨#[118, 49]⟩, .string ⟨#[110, 111, 110, 101]⟩]), (q8, 9, [.string ⟨#[65, 66, 49]⟩, .string ⟨#[97, 49]⟩, .string ⟨#[65]⟩, .string ⟨#[65, 66, 67, 68, 69, 70, 71, 72, 73, 74, 49]⟩, .string ⟨#[65, 66, 49]⟩])] [⟨.slice sA sn sc, 156, 15, sn, sl.flatMap stEnc⟩, ⟨.slice vA vn vc, 69, 2, vn, vl.flatMap vhEnc⟩, ⟨.slice pA pn pc, 164, 3, pn, pl.flatMap plEnc⟩] [fun wy => SlT csEnc 2 158 wy cA 4 cl] := by
  intro k3 hk3 q5 k6 zk6 q8
  rw [hW]
  refine wa_all [1, 9] (by kernel_rfl) rfl ⟨⟨_, rfl, ?_⟩, ⟨_, rfl, ?_⟩, trivial⟩
  ·refine lk_ sc29 1 rfl rfl rfl (wl_nil ?_)
   refine nw 15 511 (fun _ hm => ⟨hm.bl 0, hm.fa 0, trivial⟩) fun z => ?_
   have h := T511 k3 hk3 q5 k6 zk6 q8
   rw [hW] at h
   refine wa_weak ?_ ?_ h
   ·exact ⟨rfl, rfl, rfl, rfl, rfl, rfl, rfl, trivial⟩
   exact fun _ hm => hm.pick [0, 1, 2, 3] [0, 1, 2] [0] rfl rfl
  refine wl_got (γ := ByteArray) (val := fun v => .string v) (φ := fun v => v ∈ ([⟨#[65, 66, 49]⟩, ⟨#[97, 49]⟩, ⟨#[65]⟩, ⟨#[65, 66, 67, 68, 69, 70, 71, 72, 73, 74, 49]⟩, ⟨#[65, 66, 49]⟩] : List ByteArray)) rfl cb62 rfl rfl rfl rfl (fun wx hm => (some_any [⟨#[65, 66, 49]⟩, ⟨#[97, 49]⟩, ⟨#[65]⟩, ⟨#[65, 66, 67, 68, 69, 70, 71, 72, 73, 74, 49]⟩, ⟨#[65, 66, 49]⟩] _ _ _ wx B sb _ hm.k (by omega) (by simp) (by simp) (hm.blkI 3 rfl) (hm.neRow 3 rfl rfl))) fun k9 hk9 => ?_
  have zk9 : k9.size ≤ 100 := mem_sz hk9 (by decide)
  refine wl_nil ?_
  refine nw 15 1021 (fun _ hm => ⟨hm.bl 0, hm.fa 0, trivial⟩) fun z => ?_
  refine wt 10 15 2045 rfl z (ov_build (cs := [.int .i64 k3, .string k6, .string k9]) rfl (by kernel_rfl)) ?_
  have h := J2045 k3 hk3 q5 k6 zk6 q8 k9 zk9
  rw [hW] at h
  refine wa_weak ?_ ?_ h
  ·exact ⟨rfl, rfl, rfl, rfl, trivial⟩
  exact fun _ hm => hm.pick [0, 1, 2, 3] [0, 1, 2] [0] rfl rfl
 have J253 : ∀ (k3 : Int) (hk3 : -2000000000000000 ≤ k3 ∧ k3 ≤ 2000000000000000) (q5 : Nat) (k6 : ByteArray) (zk6 : k6.size ≤ 100), W 8 (lb 15 253) [(2, .pointer (some ⟨g1, 0, none⟩)), (3, .pointer (some ⟨g2, 0, none⟩)), (12, .pointer (some ⟨g2, 3, none⟩)), (15, .int .i64 k3), (18, .string k6), (19, .pointer (some ⟨sb, 0, none⟩))] (fun w => Strm 25 w B sb (m + 300 + 1 + 1 + 2 + 1)) [(g1, 31, [.slice none 0 0, .slice none 0 0, .slice none 0 0, .slice none 0 0]), (g2, 31, [.slice sA sn sc, .slice cA 4 cc, .slice vA vn vc, .slice pA pn pc]), (q5, 9, [.string ⟨#[118, 49]⟩, .string ⟨#[110, 111, 110, 101]⟩])] [⟨.slice sA sn sc, 156, 15, sn, sl.flatMap stEnc⟩, ⟨.slice vA vn vc, 69, 2, vn, vl.flatMap vhEnc⟩, ⟨.slice pA pn pc, 164, 3, pn, pl.flatMap plEnc⟩] [fun wy => SlT csEnc 2 158 wy cA 4 cl] := by
  intro k3 hk3 q5 k6 zk6
  rw [hW]
  refine wa_all [1, 8] (by kernel_rfl) rfl ⟨⟨_, rfl, ?_⟩, ⟨_, rfl, ?_⟩, trivial⟩
  ·refine lk_ sc29 1 rfl rfl rfl (wl_nil ?_)
   refine nw 15 255 (fun _ hm => ⟨hm.bl 0, hm.fa 0, trivial⟩) fun z => ?_
   have h := T255 k3 hk3 q5 k6 zk6
   rw [hW] at h
   refine wa_weak ?_ ?_ h
   ·exact ⟨rfl, rfl, rfl, rfl, rfl, rfl, trivial⟩
   exact fun _ hm => hm.pick [0, 1, 2] [0, 1, 2] [0] rfl rfl
  refine wl_buildSlice (e := 9) (cs := [.string ⟨#[65, 66, 49]⟩, .string ⟨#[97, 49]⟩, .string ⟨#[65]⟩, .string ⟨#[65, 66, 67, 68, 69, 70, 71, 72, 73, 74, 49]⟩, .string ⟨#[65, 66, 49]⟩]) rfl (by kernel_rfl) rfl fun q8 => ?_
  refine wl_nil ?_
  refine nw 15 509 (fun _ hm => ⟨hm.bl 1, hm.fa 0, trivial⟩) fun z => ?_
  have h := J509 k3 hk3 q5 k6 zk6 q8
  rw [hW] at h
  refine wa_weak ?_ ?_ h
  ·exact ⟨rfl, rfl, rfl, rfl, rfl, rfl, rfl, trivial⟩
  exact fun _ hm => hm.pick [1, 2, 3, 0] [0, 1, 2] [0] rfl rfl
 have J445 : ∀ (k3 : Int) (hk3 : -2000000000000000 ≤ k3 ∧ k3 ≤ 2000000000000000) (q5 : Nat) (q8 : Nat), W 8 (lb 15 445) [(2, .pointer (some ⟨g1, 0, none⟩)), (3, .pointer (some ⟨g2, 0, none⟩)), (12, .pointer (some ⟨g2, 3, none⟩)), (15, .int .i64 k3), (16, .pointer (some ⟨sb, 0, none⟩)), (17, .slice (some ⟨q5, 0, none⟩) 2 2), (19, .pointer (some ⟨sb, 0, none⟩)), (20, .slice (some ⟨q8, 0, none⟩) 5 5)] (fun w => Strm 25 w B sb (m + 300 + 1 + 1 + 2)) [(g1, 31, [.slice none 0 0, .slice none 0 0, .slice none 0 0, .slice none 0 0]), (g2, 31, [.slice sA sn sc, .slice cA 4 cc, .slice vA vn vc, .slice pA pn pc]), (q5, 9, [.string ⟨#[118, 49]⟩, .string ⟨#[110, 111, 110, 101]⟩]), (q8, 9, [.string ⟨#[65, 66, 49]⟩, .string ⟨#[97, 49]⟩, .string ⟨#[65]⟩, .string ⟨#[65, 66, 67, 68, 69, 70, 71, 72, 73, 74, 49]⟩, .string ⟨#[65, 66, 49]⟩])] [⟨.slice sA sn sc, 156, 15, sn, sl.flatMap stEnc⟩, ⟨.slice vA vn vc, 69, 2, vn, vl.flatMap vhEnc⟩, ⟨.slice pA pn pc, 164, 3, pn, pl.flatMap plEnc⟩] [fun wy => SlT csEnc 2 158 wy cA 4 cl] := by
  intro k3 hk3 q5 q8
  rw [hW]
  refine wa_all [1, 6] (by kernel_rfl) rfl ⟨⟨_, rfl, ?_⟩, ⟨_, rfl, ?_⟩, trivial⟩
  ·refine lk_ sc29 1 rfl rfl rfl (wl_nil ?_)
   refine nw 15 447 (fun _ hm => ⟨hm.bl 0, hm.fa 0, trivial⟩) fun z => ?_
   have h := T447 k3 hk3 q5 q8
   rw [hW] at h
   refine wa_weak ?_ ?_ h
   ·exact ⟨rfl, rfl, rfl, rfl, rfl, rfl, rfl, rfl, trivial⟩
   exact fun _ hm => hm.pick [0, 1, 2, 3] [0, 1, 2] [0] rfl rfl
  refine wl_got (γ := ByteArray) (val := fun v => .string v) (φ := fun v => v ∈ ([⟨#[118, 49]⟩, ⟨#[110, 111, 110, 101]⟩] : List ByteArray)) rfl cb62 rfl rfl rfl rfl (fun wx hm => (some_any [⟨#[118, 49]⟩, ⟨#[110, 111, 110, 101]⟩] _ _ _ wx B sb _ hm.k (by omega) (by simp) (by simp) (hm.blkI 2 rfl) (hm.neRow 2 rfl rfl))) fun k6 hk6 => ?_
  have zk6 : k6.size ≤ 100 := mem_sz hk6 (by decide)
  refine wl_nil ?_
  refine nw 15 509 (fun _ hm => ⟨hm.bl 0, hm.fa 0, trivial⟩) fun z => ?_
  have h := J509 k3 hk3 q5 k6 zk6 q8
  rw [hW] at h
  refine wa_weak ?_ ?_ h
  ·exact ⟨rfl, rfl, rfl, rfl, rfl, rfl, rfl, trivial⟩
  exact fun _ hm => hm.pick [0, 1, 2, 3] [0, 1, 2] [0] rfl rfl
 have J189 : ∀ (k3 : Int) (hk3 : -2000000000000000 ≤ k3 ∧ k3 ≤ 2000000000000000) (q5 : Nat), W 9 (lb 15 189) [(2, .pointer (some ⟨g1, 0, none⟩)), (3, .pointer (some ⟨g2, 0, none⟩)), (12, .pointer (some ⟨g2, 3, none⟩)), (15, .int .i64 k3), (16, .pointer (some ⟨sb, 0, none⟩)), (17, .slice (some ⟨q5, 0, none⟩) 2 2), (19, .pointer (some ⟨sb, 0, none⟩))] (fun w => Strm 25 w B sb (m + 300 + 1 + 1 + 2)) [(g1, 31, [.slice none 0 0, .slice none 0 0, .slice none 0 0, .slice none 0 0]), (g2, 31, [.slice sA sn sc, .slice cA 4 cc, .slice vA vn vc, .slice pA pn pc]), (q5, 9, [.string ⟨#[118, 49]⟩, .string ⟨#[110, 111, 110, 101]⟩])] [⟨.slice sA sn sc, 156, 15, sn, sl.flatMap stEnc⟩, ⟨.slice vA vn vc, 69, 2, vn, vl.flatMap vhEnc⟩, ⟨.slice pA pn pc, 164, 3, pn, pl.flatMap plEnc⟩] [fun wy => SlT csEnc 2 158 wy cA 4 cl] := by
  intro k3 hk3 q5
  rw [hW]
  refine wa_all [1, 6, 8] (by kernel_rfl) rfl ⟨⟨_, rfl, ?_⟩, ⟨_, rfl, ?_⟩, ⟨_, rfl, ?_⟩, trivial⟩
  ·refine lk_ sc29 1 rfl rfl rfl (wl_nil ?_)
   refine nw 15 191 (fun _ hm => ⟨hm.bl 0, hm.fa 0, trivial⟩) fun z => ?_
   have h := J191 k3 hk3 q5
   rw [hW] at h
   refine wa_weak ?_ ?_ h
   ·exact ⟨rfl, rfl, rfl, rfl, rfl, rfl, rfl, trivial⟩
   exact fun _ hm => hm.pick [0, 1, 2] [0, 1, 2] [0] rfl rfl
  ·refine wl_got (γ := ByteArray) (val := fun v => .string v) (φ := fun v => v ∈ ([⟨#[118, 49]⟩, ⟨#[110, 111, 110, 101]⟩] : List ByteArray)) rfl cb62 rfl rfl rfl rfl (fun wx hm => (some_any [⟨#[118, 49]⟩, ⟨#[110, 111, 110, 101]⟩] _ _ _ wx B sb _ hm.k (by omega) (by simp) (by simp) (hm.blkI 2 rfl) (hm.neRow 2 rfl rfl))) fun k6 hk6 => ?_
   have zk6 : k6.size ≤ 100 := mem_sz hk6 (by decide)
   refine wl_nil ?_
   refine nw 15 253 (fun _ hm => ⟨hm.bl 0, hm.fa 0, trivial⟩) fun z => ?_
   have h := J253 k3 hk3 q5 k6 zk6
   rw [hW] at h
   refine wa_weak ?_ ?_ h
   ·exact ⟨rfl, rfl, rfl, rfl, rfl, rfl, trivial⟩
   exact fun _ hm => hm.pick [0, 1, 2] [0, 1, 2] [0] rfl rfl
  refine wl_buildSlice (e := 9) (cs := [.string ⟨#[65, 66, 49]⟩, .string ⟨#[97, 49]⟩, .string ⟨#[65]⟩, .string ⟨#[65, 66, 67, 68, 69, 70, 71, 72, 73, 74, 49]⟩, .string ⟨#[65, 66, 49]⟩]) rfl (by kernel_rfl) rfl fun q8 => ?_
  refine wl_nil ?_
  refine nw 15 445 (fun _ hm => ⟨hm.bl 1, hm.fa 0, trivial⟩) fun z => ?_
  have h := J445 k3 hk3 q5 q8
  rw [hW] at h
  refine wa_weak ?_ ?_ h
  ·exact ⟨rfl, rfl, rfl, rfl, rfl, rfl, rfl, rfl, trivial⟩
  exact fun _ hm => hm.pick [1, 2, 3, 0] [0, 1, 2] [0] rfl rfl
 have J413 : ∀ (k3 : Int) (hk3 : -2000000000000000 ≤ k3 ∧ k3 ≤ 2000000000000000) (q8 : Nat), W 9 (lb 15 413) [(2, .pointer (some ⟨g1, 0, none⟩)), (3, .pointer (some ⟨g2, 0, none⟩)), (12, .pointer (some ⟨g2, 3, none⟩)), (15, .int .i64 k3), (16, .pointer (some ⟨sb, 0, none⟩)), (19, .pointer (some ⟨sb, 0, none⟩)), (20, .slice (some ⟨q8, 0, none⟩) 5 5)] (fun w => Strm 25 w B sb (m + 300 + 1 + 1 + 2)) [(g1, 31, [.slice none 0 0, .slice none 0 0, .slice none 0 0, .slice none 0 0]), (g2, 31, [.slice sA sn sc, .slice cA 4 cc, .slice vA vn vc, .slice pA pn pc]), (q8, 9, [.string ⟨#[65, 66, 49]⟩, .string ⟨#[97, 49]⟩, .string ⟨#[65]⟩, .string ⟨#[65, 66, 67, 68, 69, 70, 71, 72, 73, 74, 49]⟩, .string ⟨#[65, 66, 49]⟩])] [⟨.slice sA sn sc, 156, 15, sn, sl.flatMap stEnc⟩, ⟨.slice vA vn vc, 69, 2, vn, vl.flatMap vhEnc⟩, ⟨.slice pA pn pc, 164, 3, pn, pl.flatMap plEnc⟩] [fun wy => SlT csEnc 2 158 wy cA 4 cl] := by
  intro k3 hk3 q8
  rw [hW]
  refine wa_all [1, 5] (by kernel_rfl) rfl ⟨⟨_, rfl, ?_⟩, ⟨_, rfl, ?_⟩, trivial⟩
  ·refine lk_ sc29 1 rfl rfl rfl (wl_nil ?_)
   refine nw 15 415 (fun _ hm => ⟨hm.bl 0, hm.fa 0, trivial⟩) fun z => ?_
   have h := T415 k3 hk3 q8
   rw [hW] at h
   refine wa_weak ?_ ?_ h
   ·exact ⟨rfl, rfl, rfl, rfl, rfl, rfl, rfl, trivial⟩
   exact fun _ hm => hm.pick [0, 1, 2] [0, 1, 2] [0] rfl rfl
  refine wl_buildSlice (e := 9) (cs := [.string ⟨#[118, 49]⟩, .string ⟨#[110, 111, 110, 101]⟩]) rfl (by kernel_rfl) rfl fun q5 => ?_
  refine wl_nil ?_
  refine nw 15 445 (fun _ hm => ⟨hm.bl 1, hm.fa 0, trivial⟩) fun z => ?_
  have h := J445 k3 hk3 q5 q8
  rw [hW] at h
  refine wa_weak ?_ ?_ h
  ·exact ⟨rfl, rfl, rfl, rfl, rfl, rfl, rfl, rfl, trivial⟩
  exact fun _ hm => hm.pick [1, 2, 0, 3] [0, 1, 2] [0] rfl rfl
 have J157 : ∀ (k3 : Int) (hk3 : -2000000000000000 ≤ k3 ∧ k3 ≤ 2000000000000000), W 10 (lb 15 157) [(2, .pointer (some ⟨g1, 0, none⟩)), (3, .pointer (some ⟨g2, 0, none⟩)), (12, .pointer (some ⟨g2, 3, none⟩)), (15, .int .i64 k3), (16, .pointer (some ⟨sb, 0, none⟩)), (19, .pointer (some ⟨sb, 0, none⟩))] (fun w => Strm 25 w B sb (m + 300 + 1 + 1 + 2)) [(g1, 31, [.slice none 0 0, .slice none 0 0, .slice none 0 0, .slice none 0 0]), (g2, 31, [.slice sA sn sc, .slice cA 4 cc, .slice vA vn vc, .slice pA pn pc])] [⟨.slice sA sn sc, 156, 15, sn, sl.flatMap stEnc⟩, ⟨.slice vA vn vc, 69, 2, vn, vl.flatMap vhEnc⟩, ⟨.slice pA pn pc, 164, 3, pn, pl.flatMap plEnc⟩] [fun wy => SlT csEnc 2 158 wy cA 4 cl] := by
  intro k3 hk3
  rw [hW]
  refine wa_all [1, 5, 8] (by kernel_rfl) rfl ⟨⟨_, rfl, ?_⟩, ⟨_, rfl, ?_⟩, ⟨_, rfl, ?_⟩, trivial⟩
  ·refine lk_ sc29 1 rfl rfl rfl (wl_nil ?_)
   refine nw 15 159 (fun _ hm => ⟨hm.bl 0, hm.fa 0, trivial⟩) fun z => ?_
   have h := J159 k3 hk3
   rw [hW] at h
   refine wa_weak ?_ ?_ h
   ·exact ⟨rfl, rfl, rfl, rfl, rfl, rfl, trivial⟩
   exact fun _ hm => hm.pick [0, 1] [0, 1, 2] [0] rfl rfl
  ·refine wl_buildSlice (e := 9) (cs := [.string ⟨#[118, 49]⟩, .string ⟨#[110, 111, 110, 101]⟩]) rfl (by kernel_rfl) rfl fun q5 => ?_
   refine wl_nil ?_
   refine nw 15 189 (fun _ hm => ⟨hm.bl 1, hm.fa 0, trivial⟩) fun z => ?_
   have h := J189 k3 hk3 q5
   rw [hW] at h
   refine wa_weak ?_ ?_ h
   ·exact ⟨rfl, rfl, rfl, rfl, rfl, rfl, rfl, trivial⟩
   exact fun _ hm => hm.pick [1, 2, 0] [0, 1, 2] [0] rfl rfl
  refine wl_buildSlice (e := 9) (cs := [.string ⟨#[65, 66, 49]⟩, .string ⟨#[97, 49]⟩, .string ⟨#[65]⟩, .string ⟨#[65, 66, 67, 68, 69, 70, 71, 72, 73, 74, 49]⟩, .string ⟨#[65, 66, 49]⟩]) rfl (by kernel_rfl) rfl fun q8 => ?_
  refine wl_nil ?_
  refine nw 15 413 (fun _ hm => ⟨hm.bl 1, hm.fa 0, trivial⟩) fun z => ?_
  have h := J413 k3 hk3 q8
  rw [hW] at h
  refine wa_weak ?_ ?_ h
  ·exact ⟨rfl, rfl, rfl, rfl, rfl, rfl, rfl, trivial⟩
  exact fun _ hm => hm.pick [1, 2, 0] [0, 1, 2] [0] rfl rfl
 have J437 : ∀ (q5 : Nat) (q8 : Nat), W 9 (lb 15 437) [(2, .pointer (some ⟨g1, 0, none⟩)), (3, .pointer (some ⟨g2, 0, none⟩)), (12, .pointer (some ⟨g2, 3, none⟩)), (14, .pointer (some ⟨sb, 0, none⟩)), (16, .pointer (some ⟨sb, 0, none⟩)), (17, .slice (some ⟨q5, 0, none⟩) 2 2), (19, .pointer (some ⟨sb, 0, none⟩)), (20, .slice (some ⟨q8, 0, none⟩) 5 5)] (fun w => Strm 25 w B sb (m + 300 + 1 + 1)) [(g1, 31, [.slice none 0 0, .slice none 0 0, .slice none 0 0, .slice none 0 0]), (g2, 31, [.slice sA sn sc, .slice cA 4 cc, .slice vA vn vc, .slice pA pn pc]), (q5, 9, [.string ⟨#[118, 49]⟩, .string ⟨#[110, 111, 110, 101]⟩]), (q8, 9, [.string ⟨#[65, 66, 49]⟩, .string ⟨#[97, 49]⟩, .string ⟨#[65]⟩, .string ⟨#[65, 66, 67, 68, 69, 70, 71, 72, 73, 74, 49]⟩, .string ⟨#[65, 66, 49]⟩])] [⟨.slice sA sn sc, 156, 15, sn, sl.flatMap stEnc⟩, ⟨.slice vA vn vc, 69, 2, vn, vl.flatMap vhEnc⟩, ⟨.slice pA pn pc, 164, 3, pn, pl.flatMap plEnc⟩] [fun wy => SlT csEnc 2 158 wy cA 4 cl] := by
  intro q5 q8
  rw [hW]
  refine wa_all [1, 3] (by kernel_rfl) rfl ⟨⟨_, rfl, ?_⟩, ⟨_, rfl, ?_⟩, trivial⟩
  ·refine lk_ sc29 1 rfl rfl rfl (wl_nil ?_)
   refine nw 15 439 (fun _ hm => ⟨hm.bl 0, hm.fa 0, trivial⟩) fun z => ?_
   have h := T439 q5 q8
   rw [hW] at h
   refine wa_weak ?_ ?_ h
   ·exact ⟨rfl, rfl, rfl, rfl, rfl, rfl, rfl, rfl, trivial⟩
   exact fun _ hm => hm.pick [0, 1, 2, 3] [0, 1, 2] [0] rfl rfl
  refine wl_got (γ := Int) (val := fun v => .int .i64 v) (φ := fun v => -2000000000000000 ≤ v ∧ v ≤ 2000000000000000) rfl cb65 rfl rfl rfl rfl (fun wx hm => (odd_any _ _ wx B sb _ hm.k (by omega) (by omega) (by omega) (by omega))) fun k3 hk3 => ?_
  refine wl_nil ?_
  refine nw 15 445 (fun _ hm => ⟨hm.bl 0, hm.fa 0, trivial⟩) fun z => ?_
  have h := J445 k3 hk3 q5 q8
  rw [hW] at h
  refine wa_weak ?_ ?_ h
  ·exact ⟨rfl, rfl, rfl, rfl, rfl, rfl, rfl, rfl, trivial⟩
  exact fun _ hm => hm.pick [0, 1, 2, 3] [0, 1, 2] [0] rfl rfl
 have J181 : ∀ (q5 : Nat), W 10 (lb 15 181) [(2, .pointer (some ⟨g1, 0, none⟩)), (3, .pointer (some ⟨g2, 0, none⟩)), (12, .pointer (some ⟨g2, 3, none⟩)), (14, .pointer (some ⟨sb, 0, none⟩)), (16, .pointer (some ⟨sb, 0, none⟩)), (17, .slice (some ⟨q5, 0, none⟩) 2 2), (19, .pointer (some ⟨sb, 0, none⟩))] (fun w => Strm 25 w B sb (m + 300 + 1 + 1)) [(g1, 31, [.slice none 0 0, .slice none 0 0, .slice none 0 0, .slice none 0 0]), (g2, 31, [.slice sA sn sc, .slice cA 4 cc, .slice vA vn vc, .slice pA pn pc]), (q5, 9, [.string ⟨#[118, 49]⟩, .string ⟨#[110, 111, 110, 101]⟩])] [⟨.slice sA sn sc, 156, 15, sn, sl.flatMap stEnc⟩, ⟨.slice vA vn vc, 69, 2, vn, vl.flatMap vhEnc⟩, ⟨.slice pA pn pc, 164, 3, pn, pl.flatMap plEnc⟩] [fun wy => SlT csEnc 2 158 wy cA 4 cl] := by
  intro q5
  rw [hW]
  refine wa_all [1, 3, 8] (by kernel_rfl) rfl ⟨⟨_, rfl, ?_⟩, ⟨_, rfl, ?_⟩, ⟨_, rfl, ?_⟩, trivial⟩
  ·refine lk_ sc29 1 rfl rfl rfl (wl_nil ?_)
   refine nw 15 183 (fun _ hm => ⟨hm.bl 0, hm.fa 0, trivial⟩) fun z => ?_
   have h := J183 q5
   rw [hW] at h
   refine wa_weak ?_ ?_ h
   ·exact ⟨rfl, rfl, rfl, rfl, rfl, rfl, rfl, trivial⟩
   exact fun _ hm => hm.pick [0, 1, 2] [0, 1, 2] [0] rfl rfl
  ·refine wl_got (γ := Int) (val := fun v => .int .i64 v) (φ := fun v => -2000000000000000 ≤ v ∧ v ≤ 2000000000000000) rfl cb65 rfl rfl rfl rfl (fun wx hm => (odd_any _ _ wx B sb _ hm.k (by omega) (by omega) (by omega) (by omega))) fun k3 hk3 => ?_
   refine wl_nil ?_
   refine nw 15 189 (fun _ hm => ⟨hm.bl 0, hm.fa 0, trivial⟩) fun z => ?_
   have h := J189 k3 hk3 q5
   rw [hW] at h
   refine wa_weak ?_ ?_ h
   ·exact ⟨rfl, rfl, rfl, rfl, rfl, rfl, rfl, trivial⟩
   exact fun _ hm => hm.pick [0, 1, 2] [0, 1, 2] [0] rfl rfl
  refine wl_buildSlice (e := 9) (cs := [.string ⟨#[65, 66, 49]⟩, .string ⟨#[97, 49]⟩, .string ⟨#[65]⟩, .string ⟨#[65, 66, 67, 68, 69, 70, 71, 72, 73, 74, 49]⟩, .string ⟨#[65, 66, 49]⟩]) rfl (by kernel_rfl) rfl fun q8 => ?_
  refine wl_nil ?_
  refine nw 15 437 (fun _ hm => ⟨hm.bl 1, hm.fa 0, trivial⟩) fun z => ?_
  have h := J437 q5 q8
  rw [hW] at h
  refine wa_weak ?_ ?_ h
  ·exact ⟨rfl, rfl, rfl, rfl, rfl, rfl, rfl, rfl, trivial⟩
  exact fun _ hm => hm.pick [1, 2, 3, 0] [0, 1, 2] [0] rfl rfl
 have J405 : ∀ (q8 : Nat), W 10 (lb 15 405) [(2, .pointer (some ⟨g1, 0, none⟩)), (3, .pointer (some ⟨g2, 0, none⟩)), (12, .pointer (some ⟨g2, 3, none⟩)), (14, .pointer (some ⟨sb, 0, none⟩)), (16, .pointer (some ⟨sb, 0, none⟩)), (19, .pointer (some ⟨sb, 0, none⟩)), (20, .slice (some ⟨q8, 0, none⟩) 5 5)] (fun w => Strm 25 w B sb (m + 300 + 1 + 1)) [(g1, 31, [.slice none 0 0, .slice none 0 0, .slice none 0 0, .slice none 0 0]), (g2, 31, [.slice sA sn sc, .slice cA 4 cc, .slice vA vn vc, .slice pA pn pc]), (q8, 9, [.string ⟨#[65, 66, 49]⟩, .string ⟨#[97, 49]⟩, .string ⟨#[65]⟩, .string ⟨#[65, 66, 67, 68, 69, 70, 71, 72, 73, 74, 49]⟩, .string ⟨#[65, 66, 49]⟩])] [⟨.slice sA sn sc, 156, 15, sn, sl.flatMap stEnc⟩, ⟨.slice vA vn vc, 69, 2, vn, vl.flatMap vhEnc⟩, ⟨.slice pA pn pc, 164, 3, pn, pl.flatMap plEnc⟩] [fun wy => SlT csEnc 2 158 wy cA 4 cl] := by
  intro q8
  rw [hW]
  refine wa_all [1, 3, 5] (by kernel_rfl) rfl ⟨⟨_, rfl, ?_⟩, ⟨_, rfl, ?_⟩, ⟨_, rfl, ?_⟩, trivial⟩
  ·refine lk_ sc29 1 rfl rfl rfl (wl_nil ?_)
   refine nw 15 407 (fun _ hm => ⟨hm.bl 0, hm.fa 0, trivial⟩) fun z => ?_
   have h := J407 q8
   rw [hW] at h
   refine wa_weak ?_ ?_ h
   ·exact ⟨rfl, rfl, rfl, rfl, rfl, rfl, rfl, trivial⟩
   exact fun _ hm => hm.pick [0, 1, 2] [0, 1, 2] [0] rfl rfl
  ·refine wl_got (γ := Int) (val := fun v => .int .i64 v) (φ := fun v => -2000000000000000 ≤ v ∧ v ≤ 2000000000000000) rfl cb65 rfl rfl rfl rfl (fun wx hm => (odd_any _ _ wx B sb _ hm.k (by omega) (by omega) (by omega) (by omega))) fun k3 hk3 => ?_
   refine wl_nil ?_
   refine nw 15 413 (fun _ hm => ⟨hm.bl 0, hm.fa 0, trivial⟩) fun z => ?_
   have h := J413 k3 hk3 q8
   rw [hW] at h
   refine wa_weak ?_ ?_ h
   ·exact ⟨rfl, rfl, rfl, rfl, rfl, rfl, rfl, trivial⟩
   exact fun _ hm => hm.pick [0, 1, 2] [0, 1, 2] [0] rfl rfl
  refine wl_buildSlice (e := 9) (cs := [.string ⟨#[118, 49]⟩, .string ⟨#[110, 111, 110, 101]⟩]) rfl (by kernel_rfl) rfl fun q5 => ?_
  refine wl_nil ?_
  refine nw 15 437 (fun _ hm => ⟨hm.bl 1, hm.fa 0, trivial⟩) fun z => ?_
  have h := J437 q5 q8
  rw [hW] at h
  refine wa_weak ?_ ?_ h
  ·exact ⟨rfl, rfl, rfl, rfl, rfl, rfl, rfl, rfl, trivial⟩
  exact fun _ hm => hm.pick [1, 2, 0, 3] [0, 1, 2] [0] rfl rfl
 have J149 : W 11 (lb 15 149) [(2, .pointer (some ⟨g1, 0, none⟩)), (3, .pointer (some ⟨g2, 0, none⟩)), (12, .pointer (some ⟨g2, 3, none⟩)), (14, .pointer (some ⟨sb, 0, none⟩)), (16, .pointer (some ⟨sb, 0, none⟩)), (19, .pointer (some ⟨sb, 0, none⟩))] (fun w => Strm 25 w B sb (m + 300 + 1 + 1)) [(g1, 31, [.slice none 0 0, .slice none 0 0, .slice none 0 0, .slice none 0 0]), (g2, 31, [.slice sA sn sc, .slice cA 4 cc, .slice vA vn vc, .slice pA pn pc])] [⟨.slice sA sn sc, 156, 15, sn, sl.flatMap stEnc⟩, ⟨.slice vA vn vc, 69, 2, vn, vl.flatMap vhEnc⟩, ⟨.slice pA pn pc, 164, 3, pn, pl.flatMap plEnc⟩] [fun wy => SlT csEnc 2 158 wy cA 4 cl] := by
  skip
  rw [hW]
  refine wa_all [1, 3, 5, 8] (by kernel_rfl) rfl ⟨⟨_, rfl, ?_⟩, ⟨_, rfl, ?_⟩, ⟨_, rfl, ?_⟩, ⟨_, rfl, ?_⟩, trivial⟩
  ·refine lk_ sc29 1 rfl rfl rfl (wl_nil ?_)
   refine nw 15 151 (fun _ hm => ⟨hm.bl 0, hm.fa 0, trivial⟩) fun z => ?_
   have h := J151 
   rw [hW] at h
   refine wa_weak ?_ ?_ h
   ·exact ⟨rfl, rfl, rfl, rfl, rfl, rfl, trivial⟩
   exact fun _ hm => hm.pick [0, 1] [0, 1, 2] [0] rfl rfl
  ·refine wl_got (γ := Int) (val := fun v => .int .i64 v) (φ := fun v => -2000000000000000 ≤ v ∧ v ≤ 2000000000000000) rfl cb65 rfl rfl rfl rfl (fun wx hm => (odd_any _ _ wx B sb _ hm.k (by omega) (by omega) (by omega) (by omega))) fun k3 hk3 => ?_
   refine wl_nil ?_
   refine nw 15 157 (fun _ hm => ⟨hm.bl 0, hm.fa 0, trivial⟩) fun z => ?_
   have h := J157 k3 hk3
   rw [hW] at h
   refine wa_weak ?_ ?_ h
   ·exact ⟨rfl, rfl, rfl, rfl, rfl, rfl, trivial⟩
   exact fun _ hm => hm.pick [0, 1] [0, 1, 2] [0] rfl rfl
  ·refine wl_buildSlice (e := 9) (cs := [.string ⟨#[118, 49]⟩, .string ⟨#[110, 111, 110, 101]⟩]) rfl (by kernel_rfl) rfl fun q5 => ?_
   refine wl_nil ?_
   refine nw 15 181 (fun _ hm => ⟨hm.bl 1, hm.fa 0, trivial⟩) fun z => ?_
   have h := J181 q5
   rw [hW] at h
   refine wa_weak ?_ ?_ h
   ·exact ⟨rfl, rfl, rfl, rfl, rfl, rfl, rfl, trivial⟩
   exact fun _ hm => hm.pick [1, 2, 0] [0, 1, 2] [0] rfl rfl
  refine wl_buildSlice (e := 9) (cs := [.string ⟨#[65, 66, 49]⟩, .string ⟨#[97, 49]⟩, .string ⟨#[65]⟩, .string ⟨#[65, 66, 67, 68, 69, 70, 71, 72, 73, 74, 49]⟩, .string ⟨#[65, 66, 49]⟩]) rfl (by kernel_rfl) rfl fun q8 => ?_
  refine wl_nil ?_
  refine nw 15 405 (fun _ hm => ⟨hm.bl 1, hm.fa 0, trivial⟩) fun z => ?_
  have h := J405 q8
  rw [hW] at h
  refine wa_weak ?_ ?_ h
  ·exact ⟨rfl, rfl, rfl, rfl, rfl, rfl, rfl, trivial⟩
  exact fun _ hm => hm.pick [1, 2, 0] [0, 1, 2] [0] rfl rfl
 rw [hW]
 have h := J149 
 rw [hW] at h
 refine wa_weak ?_ ?_ h
 ·exact ⟨rfl, rfl, rfl, rfl, rfl, rfl, trivial⟩
 exact fun _ hm => hm.pick [1, 0] [0, 1, 2] [0] rfl rfl
end Go.Proofs.YtdoooppeiphefaaGreatDoor
namespace Go.Proofs.YtdoooppeiphefaaGreatDoor
open Go.RowKit
theorem gvehicleKey_any (w : World) (B sb m : Nat) (hS : Strm 25 w B sb m) (hm : m ≤ 100000000000) :
  Calls Tryz.prog 11 #[.pointer (some ⟨sb, 0, none⟩)] w (fun e w' => ∃ v : ByteArray, e = .returned (.string v) ∧ v.size ≤ 100 ∧ Strm 25 w' B sb (m + 1) ∧ w.grownBy w' (some sb)) := by
 refine gw_enter ⟨6, w, (some sb), []⟩ Tryz.func11 rfl Tryz.ntmps11 rfl (memS (X := []) hS allF_nil allL_nil) ?_
 refine sr_ (sg_ rfl (nn_ (sr_ (mv_ rfl ?_))))
 refine wl_buildSlice (e := 9) (cs := [.string ⟨#[118, 49]⟩, .string ⟨#[118, 49]⟩, .string ⟨#[118, 50]⟩, .string ⟨#[118, 50]⟩, .string ⟨#[118, 51]⟩, .string ⟨#[118, 52]⟩, .string ⟨#[110, 111, 110, 101]⟩, .string ⟨#[]⟩, .string ⟨#[65]⟩]) rfl (by kernel_rfl) rfl fun g1 => ?_
 refine wl_got (γ := ByteArray) (val := fun v => .string v) (φ := fun v => v ∈ ([⟨#[118, 49]⟩, ⟨#[118, 49]⟩, ⟨#[118, 50]⟩, ⟨#[118, 50]⟩, ⟨#[118, 51]⟩, ⟨#[118, 52]⟩, ⟨#[110, 111, 110, 101]⟩, ⟨#[]⟩, ⟨#[65]⟩] : List ByteArray)) rfl cb62 rfl rfl rfl rfl (fun wx hm => (some_any [⟨#[118, 49]⟩, ⟨#[118, 49]⟩, ⟨#[118, 50]⟩, ⟨#[118, 50]⟩, ⟨#[118, 51]⟩, ⟨#[118, 52]⟩, ⟨#[110, 111, 110, 101]⟩, ⟨#[]⟩, ⟨#[65]⟩] _ _ _ wx B sb _ hm.k (by omega) (by simp) (by simp) (hm.blkI 0 rfl) (hm.neRow 0 rfl rfl))) fun s2 hs2 => ?_
 have zs2 : s2.size ≤ 100 := mem_sz hs2 (by decide)
 refine sg_ rfl (nn_ ?_)
 refine gw_ret ?_
 refine nx_ret1 rfl rfl fun wx hm => ?_
 exact ⟨s2, rfl, by omega, hm.k, hm.g⟩
end Go.Proofs.YtdoooppeiphefaaGreatDoor
namespace Go.Proofs.YtdoooppeiphefaaGreatDoor
open Go.RowKit
theorem cloneEvents_all (l : List Ev) (A : Option Addr) (n c : Nat) (w : World) (hl : SlT evEnc 5 105 w A n l) (hs : ShapeA A n c) (hn : n ≤ 1000000) :
    Calls Tryz.prog 87 #[.slice A n c] w (fun e w' => ∃ A' c', e = .returned (.slice A' n c') ∧ w'.ownsRow w.heap.size 105 5 (.slice A' n c') n (l.flatMap evEnc) ∧ w.grownBy w' none) := by
  rcases hs with ⟨rfl, rfl, rfl⟩ | ⟨b, off, rfl⟩
  · exact cloneEvents_any l none 0 0 w hl (fun _ => ⟨rfl, rfl⟩) hn
  · rcases Nat.eq_zero_or_pos n with rfl | h0
    · have hl0 : l = [] := List.length_eq_zero_iff.1 hl.len
      subst hl0
      exact cloneEvents_empty b off c w
    · exact cloneEvents_pos l _ n c w hl h0 hn
theorem glog_any (sl : List St) (vl : List Vh) (sA cA vA pA : Option Addr) (sn sc cn cc vn vc pn pc q : Nat) (w : World) (B sb m : Nat) (hS : Strm 25 w B sb m) (hm : m ≤ 100000000) (hs : SlT stEnc 15 156 w sA sn sl) (hv : SlT vhEnc 2 69 w vA vn vl) (hsok : ∀ x ∈ sl, StOk x) (hvok : ∀ x ∈ vl, VhOk x) (hsn : sn ≤ 1000) (hvn : vn ≤ 1000) (hq : q ≤ 1000) :
  Calls Tryz.prog 26 #[.pointer (some ⟨sb, 0, none⟩), .agg #[.slice sA sn sc, .slice cA cn cc, .slice vA vn vc, .slice pA pn pc], .int .i64 ((q : Nat) : Int)] w (fun e w' => ∃ (A : Option Addr) (n c : Nat) (l : List Ev), e = .returned (.slice A n c) ∧ w'.ownsRow w.heap.size 105 5 (.slice A n c) n (l.flatMap evEnc) ∧ l.length = n ∧ (∀ x ∈ l, EvOk x) ∧ n ≤ q ∧ Strm 25 w' B sb (m + 20 * q + 20) ∧ w.grownBy w' (some sb)) := by
 obtain ⟨_, _, _, _, hh, _⟩ := hS.pos
 have hso := hs.oldRow hh (by decide)
 have hvo := hv.oldRow hh (by decide)
 refine gw_enter ⟨137, w, (some sb), []⟩ Tryz.func26 rfl Tryz.ntmps26 rfl (memS (X := [SlOld stEnc 15 156 w.heap.size (some sb) sA sn sl, SlOld vhEnc 2 69 w.heap.size (some sb) vA vn vl]) hS (allF_cons hso (allF_cons hvo allF_nil)) (allL_cons SlOld.lasts (allL_cons SlOld.lasts allL_nil))) ?_
 refine sr_ ?_
 have hvl := hv.len
 have hsl := hs.len
 refine wl_nilOwn 105 5 ?_
 refine wl_box rfl rfl rfl fun g1 => ?_
 refine sg_ rfl (nn_ (sr_ (sg_ rfl (nn_ (gw_seq (sr_ (fd_ fo31_2 rfl rfl (lk_ sc28 0 rfl rfl rfl (wl_ov (ov_len es28 rfl) rfl ?_)))))))))
 refine wl_ov (ov_eql rfl rfl) rfl (mv_ rfl ?_)
 rcases Bool.eq_false_or_eq_true (decide (((vn : Nat) : Int) = 0)) with h0 | h0
 ·refine wl_set 16 rfl (congrArg Value.bool h0) ?_
  refine goff rfl rfl rfl (goff rfl rfl rfl (goff rfl rfl rfl (goff rfl rfl rfl (pt_ rfl rfl (nn_ (ct_ rfl (sr_ (mv_ rfl (sg_ rfl (nn_ ?_))))))))))
  refine gw_ret ?_
  refine nx_then_ret ?_
  refine nx_ret1 rfl rfl fun wx hm => ?_
  exact ⟨none, 0, 0, [], rfl, (hm.ownI 0 rfl), rfl, (fun _ h => by cases h), by omega, hm.k.more (by omega), hm.g⟩
 refine wl_set 16 rfl (congrArg Value.bool h0) ?_
 have h0 := of_decide_eq_false h0
 refine wl_guard_on rfl rfl rfl (fd_ fo31_0 rfl rfl (wl_guard_on rfl rfl rfl (lk_ sc26 0 rfl rfl rfl (wl_guard_on rfl rfl rfl (wl_ov (ov_len es26 rfl) rfl (wl_guard_on rfl rfl rfl (wl_ov (ov_eql rfl rfl) rfl (pf_ rfl rfl (nn_ ?_)))))))))
 refine gw_cond rfl (fun hh => ?_) (fun hh => ?_)
 ·have h1 : ((sn : Nat) : Int) = 0 := by simpa using hh
  clear hh
  refine sr_ (mv_ rfl (sg_ rfl (nn_ ?_)))
  refine gw_ret ?_
  refine nx_then_ret ?_
  refine nx_ret1 rfl rfl fun wx hm => ?_
  exact ⟨none, 0, 0, [], rfl, (hm.ownI 0 rfl), rfl, (fun _ h => by cases h), by omega, hm.k.more (by omega), hm.g⟩
 have h1 : ¬ (((sn : Nat) : Int) = 0) := by simpa using hh
 clear hh
 refine gw_skip (nx_then (sr_ ?_))
 have hvn0 : 0 < vn := by omega
 have hsn0 : 0 < sn := by omega
 obtain ⟨bv, ov, hA, _, _⟩ := hv.get (by omega)
 subst hA
 obtain ⟨bs, os, hA, _, _⟩ := hs.get (by omega)
 subst hA
 refine sg_ rfl (nn_ (gw_seq (sr_ (mv_ rfl (mv_ rfl (nn_ (gw_block ?_)))))))
 refine gw_loop (γ := Nat × Nat × Int × Option Addr × Nat × List Ev) (fun g => g.1 ≤ q ∧ g.2.1 ≤ g.1 ∧ (0 ≤ g.2.2.1 ∧ g.2.2.1 ≤ 500 * ((g.1 : Nat) : Int)) ∧ g.2.2.2.2.2.length = g.2.1 ∧ (∀ x ∈ g.2.2.2.2.2, EvOk x)) (fun g => [(0, .pointer (some ⟨sb, 0, none⟩)), (4, .pointer (some ⟨g1, 0, none⟩)), (6, .slice none 0 0), (7, .slice g.2.2.2.1 g.2.1 g.2.2.2.2.1), (8, .int .i64 g.2.2.1), (23, .int .i64 ((q : Nat) : Int)), (24, .int .i64 ((g.1 : Nat) : Int))]) (fun g => fun w => Strm 25 w B sb (m + 20 * g.1)) (fun g => [(g1, 31, [.slice (some ⟨bs, os, none⟩) sn sc, .slice cA cn cc, .slice (some ⟨bv, ov, none⟩) vn vc, .slice pA pn pc])]) (fun g => [⟨.slice g.2.2.2.1 g.2.1 g.2.2.2.2.1, 105, 5, g.2.1, g.2.2.2.2.2.flatMap evEnc⟩]) (fun g => [SlOld stEnc 15 156 w.heap.size (some sb) (some ⟨bs, os, none⟩) sn sl, SlOld vhEnc 2 69 w.heap.size (some sb) (some ⟨bv, ov, none⟩) vn vl]) (fun g => q - g.1) (0, 0, 0, none, 0, []) ⟨Nat.zero_le _, Nat.le_refl _, ⟨Int.le_refl _, by decide⟩, rfl, (fun _ h => by cases h)⟩ ⟨rfl, rfl, rfl, rfl, rfl, rfl, rfl, trivial⟩ (fun _ hm => (hm.more rfl (by first | omega | (dsimp only; omega))).pick [0] [0] [0, 1] rfl rfl) ?_
 rintro ⟨i, k, at_, oA, oc, xl⟩ hinv
 replace hinv : i ≤ q ∧ k ≤ i ∧ (0 ≤ at_ ∧ at_ ≤ 500 * ((i : Nat) : Int)) ∧ xl.length = k ∧ (∀ x ∈ xl, EvOk x) := hinv
 dsimp only
 refine sr_ ?_
 obtain ⟨hi0, hki, ⟨ha0, ha1⟩, hxl, hxok⟩ := hinv
 refine wl_ov (ov_lss rfl rfl) rfl (nn_ (gw_seq ?_))
 refine gw_cond rfl (fun hh => ?_) (fun hh => ?_)
 ·have hi : ((i : Nat) : Int) < ((q : Nat) : Int) := by simpa using hh
  clear hh
  refine gw_skip (nx_then (gw_seq (gw_block (sr_ (mv_ rfl (mv_ rfl ?_))))))
  refine wl_buildSlice (e := 3) (cs := [.int .i64 0, .int .i64 1, .int .i64 10, .int .i64 50, .int .i64 100, .int .i64 500]) rfl (by kernel_rfl) rfl fun g2 => ?_
  refine wl_got (γ := Int) (val := fun v => .int .i64 v) (φ := fun v => v ∈ ([0, 1, 10, 50, 100, 500] : List Int)) rfl cb63 rfl rfl rfl rfl (fun wx hm => (pick_any [0, 1, 10, 50, 100, 500] _ _ _ wx B sb _ hm.k (by omega) (by simp) (by simp) (hm.blkI 0 rfl) (hm.neRow 0 rfl rfl))) fun v3 hv3 => ?_
  have bv3 : 0 ≤ v3 ∧ v3 ≤ 500 := mem_rng hv3 (by decide)
  have bv30 := bv3.1
  have bv31 := bv3.2
  clear bv3
  refine ad_ rfl rfl (sg_ rfl (nn_ (gw_seq ?_)))
  refine gd (fun wz => Blk wz g2 3 [.int .i64 0, .int .i64 1, .int .i64 10, .int .i64 50, .int .i64 100, .int .i64 500] ∧ Blk wz g1 31 [.slice (some ⟨bs, os, none⟩) sn sc, .slice cA cn cc, .slice (some ⟨bv, ov, none⟩) vn vc, .slice pA pn pc] ∧ (SlOld stEnc 15 156 w.heap.size (some sb) (some ⟨bs, os, none⟩) sn sl) wz ∧ (SlOld vhEnc 2 69 w.heap.size (some sb) (some ⟨bv, ov, none⟩) vn vl) wz ∧ True) mixed (fun _ hm => ⟨hm.bl 0, hm.bl 1, hm.fa 0, hm.fa 1, trivial⟩) fun z => ?_
  refine wt 0 11 1 rfl z (ov_field fo31_2 rfl rfl) ?_
  refine wt 1 11 3 rfl z (ov_load sc28 rfl (fun _ hm => hm.2.1) rfl) ?_
  refine wt 2 11 7 rfl z (ov_move rfl) ?_
  refine wt 3 11 15 rfl z (ov_field fo31_2 rfl rfl) ?_
  refine wt 4 11 31 rfl z (ov_load sc28 rfl (fun _ hm => hm.2.1) rfl) ?_
  refine wt 5 11 63 rfl z (ov_len es28 rfl) ?_
  refine wa1 6 rfl ?_
  refine wl_got (γ := Int) (val := fun v => .int .i64 v) (φ := fun v => IsBelow ((vn : Nat) : Int) v) rfl cb29 rfl rfl rfl rfl (fun wx hm => (next_any _ wx B sb _ hm.k (by omega) (by omega) (by omega))) fun vj hvj => ?_
  have hj := isBelow_lt hvj (by omega)
  obtain ⟨j, rfl⟩ := Int.eq_ofNat_of_zero_le hj.1
  have hji : j < vn := by omega
  obtain ⟨y, hy⟩ : ∃ y, vl[j]? = some y := ⟨_, List.getElem?_eq_getElem (by omega)⟩
  obtain ⟨y0, y1⟩ := y
  have hyB := hvok _ (List.mem_of_getElem? hy)
  have hy0 : y0.size ≤ 1000000 := hyB.1
  refine wl_nil ?_
  refine nw 11 127 (fun _ hm => ⟨hm.bl 0, hm.bl 1, hm.fa 0, hm.fa 1, trivial⟩) fun z => ?_
  refine wt 7 11 255 rfl z (ov_index (j := j) es28 rfl rfl (by omega)) ?_
  refine wt 8 11 511 rfl z (ov_field fo69_0 rfl rfl) ?_
  refine wt 9 11 1023 rfl z (ov_elem1 (k := 0) (v := .string y0) sc9 rfl (fun _ hm => (hm.2.2.2.1).1) hy rfl rfl) ?_
  refine wt 10 11 2047 rfl z (ov_assign rfl) ?_
  refine wa_done (by kernel_rfl) ?_
  refine nx_then ?_
  obtain ⟨t8, ht8⟩ : ∃ z, z = at_ + v3 := ⟨_, rfl⟩
  rw [← ht8]
  have ht0 : 0 ≤ t8 := by omega
  have ht1 : t8 ≤ 500 * ((i : Nat) : Int) + 500 := by omega
  refine gw_cut (γ := Nat × ByteArray × Int) (I := (fun g => g.2.1.size ≤ 1000000 ∧ (-4000000000000000000 ≤ g.2.2 ∧ g.2.2 ≤ 4000000000000000000))) (S' := (fun g => [(0, .pointer (some ⟨sb, 0, none⟩)), (4, .pointer (some ⟨g1, 0, none⟩)), (6, .slice none 0 0), (7, .slice oA k oc), (8, .int .i64 t8), (9, .string y0), (10, .pointer (some ⟨g.1, 0, none⟩)), (23, .int .i64 ((q : Nat) : Int)), (24, .int .i64 ((i : Nat) : Int))])) (K' := (fun g => fun w => Strm 25 w B sb (m + 20 * i + 4))) (L' := (fun g => [(g.1, 105, [.int .i64 t8, .string y0, .string g.2.1, .int .i64 g.2.2, .string ⟨#[]⟩]), (g2, 3, [.int .i64 0, .int .i64 1, .int .i64 10, .int .i64 50, .int .i64 100, .int .i64 500]), (g1, 31, [.slice (some ⟨bs, os, none⟩) sn sc, .slice cA cn cc, .slice (some ⟨bv, ov, none⟩) vn vc, .slice pA pn pc])])) (O' := (fun g => [⟨.slice oA k oc, 105, 5, k, xl.flatMap evEnc⟩])) (X' := (fun g => [SlOld stEnc 15 156 w.heap.size (some sb) (some ⟨bs, os, none⟩) sn sl, SlOld vhEnc 2 69 w.heap.size (some sb) (some ⟨bv, ov, none⟩) vn vl])) ?_ ?_
  ·refine gd (fun wz => Blk wz g2 3 [.int .i64 0, .int .i64 1, .int .i64 10, .int .i64 50, .int .i64 100, .int .i64 500] ∧ Blk wz g1 31 [.slice (some ⟨bs, os, none⟩) sn sc, .slice cA cn cc, .slice (some ⟨bv, ov, none⟩) vn vc, .slice pA pn pc] ∧ (SlOld stEnc 15 156 w.heap.size (some sb) (some ⟨bs, os, none⟩) sn sl) wz ∧ (SlOld vhEnc 2 69 w.heap.size (some sb) (some ⟨bv, ov, none⟩) vn vl) wz ∧ True) mixed (fun _ hm => ⟨hm.bl 0, hm.bl 1, hm.fa 0, hm.fa 1, trivial⟩) fun z => ?_
   refine wt 0 17 1 rfl z (ov_move rfl) ?_
   refine wt 1 17 3 rfl z (ov_move rfl) ?_
   refine wt 2 17 7 rfl z (ov_field fo31_0 rfl rfl) ?_
   refine wt 3 17 15 rfl z (ov_load sc26 rfl (fun _ hm => hm.2.1) rfl) ?_
   refine wt 4 17 31 rfl z (ov_move rfl) ?_
   refine wt 5 17 63 rfl z (ov_field fo31_0 rfl rfl) ?_
   refine wt 6 17 127 rfl z (ov_load sc26 rfl (fun _ hm => hm.2.1) rfl) ?_
   refine wt 7 17 255 rfl z (ov_len es26 rfl) ?_
   refine wt 12 17 4351 rfl z (ov_move rfl) ?_
   refine wa_all [8, 15] (by kernel_rfl) rfl ⟨⟨_, rfl, ?_⟩, ⟨_, rfl, ?_⟩, trivial⟩
   ·refine wl_got (γ := Int) (val := fun v => .int .i64 v) (φ := fun v => IsBelow ((sn : Nat) : Int) v) rfl cb29 rfl rfl rfl rfl (fun wx hm => (next_any _ wx B sb _ hm.k (by omega) (by omega) (by omega))) fun vu4 hvu4 => ?_
    have hju4 := isBelow_lt hvu4 (by omega)
    obtain ⟨ju4, rfl⟩ := Int.eq_ofNat_of_zero_le hju4.1
    have hjiu4 : ju4 < sn := by omega
    obtain ⟨zu4, hzu4⟩ : ∃ y, sl[ju4]? = some y := ⟨_, List.getElem?_eq_getElem (by omega)⟩
    obtain ⟨ku4, ru4⟩ := zu4
    have hku4 : ku4.size ≤ 1000000 := (hsok _ (List.mem_of_getElem? hzu4)).2.1
    refine wl_nil ?_
    refine nw 17 4607 (fun _ hm => ⟨hm.bl 0, hm.bl 1, hm.fa 0, hm.fa 1, trivial⟩) fun z => ?_
    refine wt 9 17 5119 rfl z (ov_index (j := ju4) es26 rfl rfl (by omega)) ?_
    refine wt 10 17 6143 rfl z (ov_field fo156_0 rfl rfl) ?_
    refine wt 11 17 8191 rfl z (ov_elem1 (k := 0) (v := .string ku4) sc9 rfl (fun _ hm => (hm.2.2.1).1) hzu4 rfl rfl) ?_
    refine wa_all [13, 15] (by kernel_rfl) rfl ⟨⟨_, rfl, ?_⟩, ⟨_, rfl, ?_⟩, trivial⟩
    ·refine wl_got (γ := Int) (val := fun v => .int .i64 v) (φ := fun v => 1 ≤ v ∧ (v ≤ 8 ∨ v = 1)) rfl cb10 rfl rfl rfl rfl (fun wx hm => (range_any _ _ wx B sb _ hm.k (by omega) (by omega) (by omega) (by omega) (by omega))) fun v5 hv5 => ?_
     refine wl_nil ?_
     refine nw 17 16383 (fun _ hm => ⟨hm.bl 0, hm.bl 1, hm.fa 0, hm.fa 1, trivial⟩) fun z => ?_
     refine wt 14 17 32767 rfl z (ov_build (cs := [.int .i64 t8, .string y0, .string ku4, .int .i64 v5, .string ⟨#[]⟩]) rfl (by kernel_rfl)) ?_
     refine wa1 15 rfl ?_
     refine wl_alloc zc105 rfl fun g6 => ?_
     refine wl_nil ?_
     refine nw 17 65535 (fun _ hm => ⟨hm.bl 1, hm.bl 2, hm.fa 0, hm.fa 1, trivial⟩) fun z => ?_
     refine wa1 16 rfl ?_
     refine wl_stores (cs' := [.int .i64 t8, .string y0, .string ku4, .int .i64 v5, .string ⟨#[]⟩]) 0 rz105 rfl rfl rfl rfl rfl rfl rfl rfl ?_
     refine wl_nil ?_
     refine nw 17 131071 (fun _ hm => ⟨hm.bl 1, hm.bl 2, hm.fa 0, hm.fa 1, trivial⟩) fun z => ?_
     refine wa_done (by kernel_rfl) ?_
     exact nx_meet (g6, ku4, v5) ⟨by dsimp only; omega, by dsimp only; omega, by dsimp only; omega⟩ ⟨rfl, rfl, rfl, rfl, rfl, rfl, rfl, rfl, rfl, trivial⟩ (fun _ hm => (hm.more rfl (by first | omega | (dsimp only; omega))).pick [0, 1, 2] [0] [0, 1] rfl rfl)
    refine wl_alloc zc105 rfl fun g7 => ?_
    refine wl_nil ?_
    refine nw 17 40959 (fun _ hm => ⟨hm.bl 1, hm.bl 2, hm.fa 0, hm.fa 1, trivial⟩) fun z => ?_
    refine wa1 13 rfl ?_
    refine wl_got (γ := Int) (val := fun v => .int .i64 v) (φ := fun v => 1 ≤ v ∧ (v ≤ 8 ∨ v = 1)) rfl cb10 rfl rfl rfl rfl (fun wx hm => (range_any _ _ wx B sb _ hm.k (by omega) (by omega) (by omega) (by omega) (by omega))) fun v8 hv8 => ?_
    refine wl_nil ?_
    refine nw 17 49151 (fun _ hm => ⟨hm.bl 1, hm.bl 2, hm.fa 0, hm.fa 1, trivial⟩) fun z => ?_
    refine wt 14 17 65535 rfl z (ov_build (cs := [.int .i64 t8, .string y0, .string ku4, .int .i64 v8, .string ⟨#[]⟩]) rfl (by kernel_rfl)) ?_
    refine wa1 16 rfl ?_
    refine wl_stores (cs' := [.int .i64 t8, .string y0, .string ku4, .int .i64 v8, .string ⟨#[]⟩]) 0 rz105 rfl rfl rfl rfl rfl rfl rfl rfl ?_
    refine wl_nil ?_
    refine nw 17 131071 (fun _ hm => ⟨hm.bl 1, hm.bl 2, hm.fa 0, hm.fa 1, trivial⟩) fun z => ?_
    refine wa_done (by kernel_rfl) ?_
    exact nx_meet (g7, ku4, v8) ⟨by dsimp only; omega, by dsimp only; omega, by dsimp only; omega⟩ ⟨rfl, rfl, rfl, rfl, rfl, rfl, rfl, rfl, rfl, trivial⟩ (fun _ hm => (hm.more rfl (by first | omega | (dsimp only; omega))).pick [0, 1, 2] [0] [0, 1] rfl rfl)
   refine wl_alloc zc105 rfl fun g9 => ?_
   refine wl_nil ?_
   refine nw 17 37119 (fun _ hm => ⟨hm.bl 1, hm.bl 2, hm.fa 0, hm.fa 1, trivial⟩) fun z => ?_
   refine wa1 8 rfl ?_
   refine wl_got (γ := Int) (val := fun v => .int .i64 v) (φ := fun v => IsBelow ((sn : Nat) : Int) v) rfl cb29 rfl rfl rfl rfl (fun wx hm => (next_any _ wx B sb _ hm.k (by omega) (by omega) (by omega))) fun vu10 hvu10 => ?_
   have hju10 := isBelow_lt hvu10 (by omega)
   obtain ⟨ju10, rfl⟩ := Int.eq_ofNat_of_zero_le hju10.1
   have hjiu10 : ju10 < sn := by omega
   obtain ⟨zu10, hzu10⟩ : ∃ y, sl[ju10]? = some y := ⟨_, List.getElem?_eq_getElem (by omega)⟩
   obtain ⟨ku10, ru10⟩ := zu10
   have hku10 : ku10.size ≤ 1000000 := (hsok _ (List.mem_of_getElem? hzu10)).2.1
   refine wl_nil ?_
   refine nw 17 37375 (fun _ hm => ⟨hm.bl 1, hm.bl 2, hm.fa 0, hm.fa 1, trivial⟩) fun z => ?_
   refine wt 9 17 37887 rfl z (ov_index (j := ju10) es26 rfl rfl (by omega)) ?_
   refine wt 10 17 38911 rfl z (ov_field fo156_0 rfl rfl) ?_
   refine wt 11 17 40959 rfl z (ov_elem1 (k := 0) (v := .string ku10) sc9 rfl (fun _ hm => (hm.2.2.1).1) hzu10 rfl rfl) ?_
   refine wa1 13 rfl ?_
   refine wl_got (γ := Int) (val := fun v => .int .i64 v) (φ := fun v => 1 ≤ v ∧ (v ≤ 8 ∨ v = 1)) rfl cb10 rfl rfl rfl rfl (fun wx hm => (range_any _ _ wx B sb _ hm.k (by omega) (by omega) (by omega) (by omega) (by omega))) fun v11 hv11 => ?_
   refine wl_nil ?_
   refine nw 17 49151 (fun _ hm => ⟨hm.bl 1, hm.bl 2, hm.fa 0, hm.fa 1, trivial⟩) fun z => ?_
   refine wt 14 17 65535 rfl z (ov_build (cs := [.int .i64 t8, .string y0, .string ku10, .int .i64 v11, .string ⟨#[]⟩]) rfl (by kernel_rfl)) ?_
   refine wa1 16 rfl ?_
   refine wl_stores (cs' := [.int .i64 t8, .string y0, .string ku10, .int .i64 v11, .string ⟨#[]⟩]) 0 rz105 rfl rfl rfl rfl rfl rfl rfl rfl ?_
   refine wl_nil ?_
   refine nw 17 131071 (fun _ hm => ⟨hm.bl 1, hm.bl 2, hm.fa 0, hm.fa 1, trivial⟩) fun z => ?_
   refine wa_done (by kernel_rfl) ?_
   exact nx_meet (g9, ku10, v11) ⟨by dsimp only; omega, by dsimp only; omega, by dsimp only; omega⟩ ⟨rfl, rfl, rfl, rfl, rfl, rfl, rfl, rfl, rfl, trivial⟩ (fun _ hm => (hm.more rfl (by first | omega | (dsimp only; omega))).pick [0, 1, 2] [0] [0, 1] rfl rfl)
  rintro ⟨g10, st1, kd1⟩ hinv
  replace hinv : st1.size ≤ 1000000 ∧ (-4000000000000000000 ≤ kd1 ∧ kd1 ≤ 4000000000000000000) := hinv
  dsimp only
  obtain ⟨hst1, hkd1a, hkd1b⟩ := hinv
  refine gw_cut (γ := ByteArray × Int) (I := (fun g => g.1.size ≤ 1000000 ∧ (-4000000000000000000 ≤ g.2 ∧ g.2 ≤ 4000000000000000000))) (S' := (fun g => [(0, .pointer (some ⟨sb, 0, none⟩)), (4, .pointer (some ⟨g1, 0, none⟩)), (6, .slice none 0 0), (7, .slice oA k oc), (8, .int .i64 t8), (10, .pointer (some ⟨g10, 0, none⟩)), (23, .int .i64 ((q : Nat) : Int)), (24, .int .i64 ((i : Nat) : Int))])) (K' := (fun g => fun w => Strm 25 w B sb (m + 20 * i + 6))) (L' := (fun g => [(g10, 105, [.int .i64 t8, .string y0, .string g.1, .int .i64 g.2, .string ⟨#[]⟩]), (g2, 3, [.int .i64 0, .int .i64 1, .int .i64 10, .int .i64 50, .int .i64 100, .int .i64 500]), (g1, 31, [.slice (some ⟨bs, os, none⟩) sn sc, .slice cA cn cc, .slice (some ⟨bv, ov, none⟩) vn vc, .slice pA pn pc])])) (O' := (fun g => [⟨.slice oA k oc, 105, 5, k, xl.flatMap evEnc⟩])) (X' := (fun g => [SlOld stEnc 15 156 w.heap.size (some sb) (some ⟨bs, os, none⟩) sn sl, SlOld vhEnc 2 69 w.heap.size (some sb) (some ⟨bv, ov, none⟩) vn vl])) ?_ ?_
  ·refine sr_ (mv_ rfl ?_)
   refine wl_got (γ := Bool) (val := fun v => .bool v) (φ := fun v => True) rfl cb64 rfl rfl rfl rfl (fun wx hm => ((flip_any _ wx B sb _ hm.k (by omega) (by omega) (by omega)).mono fun _ _ ⟨v, he, hS, hg⟩ => ⟨v, trivial, he, hS, hg⟩)) fun f12 _ => ?_
   refine wl_ov (ov_un_not rfl) rfl (nn_ ?_)
   refine gw_cond rfl (fun hh => ?_) (fun hh => ?_)
   ·have hc13 : f12 = false := by simpa using hh
    clear hh
    refine sr_ (mv_ rfl (mv_ rfl (mv_ rfl ?_)))
    obtain ⟨SS, hSS⟩ : ∃ z, z = stateR xl y0 t8 := ⟨_, rfl⟩
    have hfine : SaFine SS := by rw [hSS]; exact stateR_fine hxok
    obtain ⟨s0, s1, s2⟩ := SS
    obtain ⟨hs00, hs05, hs1z⟩ := hfine
    have hs00 : 0 ≤ s0 := hs00
    have hs05 : s0 ≤ 5 := hs05
    have hs1z : s1.size ≤ 1000000 := hs1z
    obtain ⟨sj, rfl⟩ := Int.eq_ofNat_of_zero_le hs00
    obtain ⟨kv, hkv⟩ : ∃ x, ([1, 2, 3, 5, 7, 1] : List Int)[sj]? = some x := ⟨_, List.getElem?_eq_getElem (by simp; omega)⟩
    have hkvb : 1 ≤ kv ∧ kv ≤ 7 := mem_rng (List.mem_of_getElem? hkv) (by decide)
    refine wl_callv (v := .agg #[.int .i64 ((sj : Nat) : Int), .string s1, .int .i64 s2]) rfl cb86 rfl rfl (fun wx hm => (by have h := rStateAt_any xl oA k oc y0 t8 wx (SlT.ofOwn ev_len (hm.ownI 0 rfl) hxl) (by omega); rw [← hSS] at h; exact h)) ?_
    refine wl_alloc zc142 rfl fun g14 => ?_
    refine wl_stores (cs' := [.int .i64 ((sj : Nat) : Int), .string s1, .int .i64 s2]) 0 rz142 rfl rfl rfl rfl rfl rfl rfl rfl ?_
    refine nn_ (gw_seq (sr_ (fd_ fo142_1 rfl rfl (lk_ sc9 0 rfl rfl rfl (wl_ov (ov_sneq rfl rfl) rfl (nn_ ?_))))))
    refine gw_cond rfl (fun hh => ?_) (fun hh => ?_)
    ·have hc15 : (s1.toList == (⟨#[]⟩ : ByteArray).toList) = false := by simpa using hh
     clear hh
     refine gw_region (fd_ fo142_1 rfl rfl (lk_ sc9 0 rfl rfl rfl (fd_ fo105_2 rfl rfl ?_)))
     refine wl_store 1 sc9 rfl rfl rfl rfl rfl rfl ?_
     refine nn_ (sr_ ?_)
     refine wl_buildSlice (e := 3) (cs := [.int .i64 1, .int .i64 2, .int .i64 3, .int .i64 5, .int .i64 7, .int .i64 1]) rfl (by kernel_rfl) rfl fun g16 => ?_
     refine fd_ fo142_0 rfl rfl (lk_ sc3 1 rfl rfl rfl ?_)
     refine wl_ov (ov_index (j := sj) es22 rfl rfl (by omega)) rfl ?_
     refine wl_ov (ov_elem1 (k := 0) (v := .int .i64 kv) sc3 rfl (fun _ hm => (SlT.ofBlk (l := [1, 2, 3, 5, 7, 1]) it_len1 (hm.blkI 0 rfl))) hkv rfl rfl) rfl ?_
     refine fd_ fo105_3 rfl rfl ?_
     refine wl_store 2 sc3 rfl rfl rfl rfl rfl rfl ?_
     refine nn_ (sr_ (fd_ fo142_0 rfl rfl (lk_ sc3 1 rfl rfl rfl (wl_ov (ov_eql rfl rfl) rfl (nn_ ?_)))))
     refine gw_cond rfl (fun hh => ?_) (fun hh => ?_)
     ·have hc17 : ((sj : Nat) : Int) = 1 := by simpa using hh
      clear hh
      refine gw_region (mv_ rfl ?_)
      refine wl_buildSlice (e := 3) (cs := [.int .i64 2, .int .i64 2, .int .i64 2, .int .i64 4, .int .i64 6, .int .i64 8]) rfl (by kernel_rfl) rfl fun g18 => ?_
      refine wl_got (γ := Int) (val := fun v => .int .i64 v) (φ := fun v => v ∈ ([2, 2, 2, 4, 6, 8] : List Int)) rfl cb63 rfl rfl rfl rfl (fun wx hm => (pick_any [2, 2, 2, 4, 6, 8] _ _ _ wx B sb _ hm.k (by omega) (by simp) (by simp) (hm.blkI 0 rfl) (hm.neRow 0 rfl rfl))) fun v19 hv19 => ?_
      have bv19 : 2 ≤ v19 ∧ v19 ≤ 8 := mem_rng hv19 (by decide)
      have bv190 := bv19.1
      have bv191 := bv19.2
      clear bv19
      refine fd_ fo105_3 rfl rfl ?_
      refine wl_store 3 sc3 rfl rfl rfl rfl rfl rfl ?_
      refine wl_nil ?_
      exact nx_meet (s1, v19) ⟨by dsimp only; omega, by dsimp only; omega, by dsimp only; omega⟩ ⟨rfl, rfl, rfl, rfl, rfl, rfl, rfl, rfl, trivial⟩ (fun _ hm => (hm.more rfl (by first | omega | (dsimp only; omega))).pick [3, 4, 5] [0] [0, 1] rfl rfl)
     have hc17 : ¬ (((sj : Nat) : Int) = 1) := by simpa using hh
     clear hh
     refine gw_skip ?_
     exact nx_meet (s1, kv) ⟨by dsimp only; omega, by dsimp only; omega, by dsimp only; omega⟩ ⟨rfl, rfl, rfl, rfl, rfl, rfl, rfl, rfl, trivial⟩ (fun _ hm => (hm.more rfl (by first | omega | (dsimp only; omega))).pick [2, 3, 4] [0] [0, 1] rfl rfl)
    have hc15 : (s1.toList == (⟨#[]⟩ : ByteArray).toList) = true := by simpa using hh
    clear hh
    refine gw_skip (nx_then (sr_ ?_))
    refine wl_buildSlice (e := 3) (cs := [.int .i64 1, .int .i64 2, .int .i64 3, .int .i64 5, .int .i64 7, .int .i64 1]) rfl (by kernel_rfl) rfl fun g20 => ?_
    refine fd_ fo142_0 rfl rfl (lk_ sc3 1 rfl rfl rfl ?_)
    refine wl_ov (ov_index (j := sj) es22 rfl rfl (by omega)) rfl ?_
    refine wl_ov (ov_elem1 (k := 0) (v := .int .i64 kv) sc3 rfl (fun _ hm => (SlT.ofBlk (l := [1, 2, 3, 5, 7, 1]) it_len1 (hm.blkI 0 rfl))) hkv rfl rfl) rfl ?_
    refine fd_ fo105_3 rfl rfl ?_
    refine wl_store 2 sc3 rfl rfl rfl rfl rfl rfl ?_
    refine nn_ (sr_ (fd_ fo142_0 rfl rfl (lk_ sc3 1 rfl rfl rfl (wl_ov (ov_eql rfl rfl) rfl (nn_ ?_)))))
    refine gw_cond rfl (fun hh => ?_) (fun hh => ?_)
    ·have hc21 : ((sj : Nat) : Int) = 1 := by simpa using hh
     clear hh
     refine gw_region (mv_ rfl ?_)
     refine wl_buildSlice (e := 3) (cs := [.int .i64 2, .int .i64 2, .int .i64 2, .int .i64 4, .int .i64 6, .int .i64 8]) rfl (by kernel_rfl) rfl fun g22 => ?_
     refine wl_got (γ := Int) (val := fun v => .int .i64 v) (φ := fun v => v ∈ ([2, 2, 2, 4, 6, 8] : List Int)) rfl cb63 rfl rfl rfl rfl (fun wx hm => (pick_any [2, 2, 2, 4, 6, 8] _ _ _ wx B sb _ hm.k (by omega) (by simp) (by simp) (hm.blkI 0 rfl) (hm.neRow 0 rfl rfl))) fun v23 hv23 => ?_
     have bv23 : 2 ≤ v23 ∧ v23 ≤ 8 := mem_rng hv23 (by decide)
     have bv230 := bv23.1
     have bv231 := bv23.2
     clear bv23
     refine fd_ fo105_3 rfl rfl ?_
     refine wl_store 3 sc3 rfl rfl rfl rfl rfl rfl ?_
     refine wl_nil ?_
     exact nx_meet (st1, v23) ⟨by dsimp only; omega, by dsimp only; omega, by dsimp only; omega⟩ ⟨rfl, rfl, rfl, rfl, rfl, rfl, rfl, rfl, trivial⟩ (fun _ hm => (hm.more rfl (by first | omega | (dsimp only; omega))).pick [3, 4, 5] [0] [0, 1] rfl rfl)
    have hc21 : ¬ (((sj : Nat) : Int) = 1) := by simpa using hh
    clear hh
    refine gw_skip ?_
    exact nx_meet (st1, kv) ⟨by dsimp only; omega, by dsimp only; omega, by dsimp only; omega⟩ ⟨rfl, rfl, rfl, rfl, rfl, rfl, rfl, rfl, trivial⟩ (fun _ hm => (hm.more rfl (by first | omega | (dsimp only; omega))).pick [2, 3, 4] [0] [0, 1] rfl rfl)
   have hc13 : f12 = true := by simpa using hh
   clear hh
   refine gw_skip ?_
   exact nx_meet (st1, kd1) ⟨by dsimp only; omega, by dsimp only; omega, by dsimp only; omega⟩ ⟨rfl, rfl, rfl, rfl, rfl, rfl, rfl, rfl, trivial⟩ (fun _ hm => (hm.more rfl (by first | omega | (dsimp only; omega))).pick [0, 1, 2] [0] [0, 1] rfl rfl)
  rintro ⟨st2, kd2⟩ hinv
  replace hinv : st2.size ≤ 1000000 ∧ (-4000000000000000000 ≤ kd2 ∧ kd2 ≤ 4000000000000000000) := hinv
  dsimp only
  obtain ⟨hst2, hkd2a, hkd2b⟩ := hinv
  refine gw_cut (γ := ByteArray) (I := (fun (to3 : ByteArray) => to3.size ≤ 1000000)) (S' := (fun (to3 : ByteArray) => [(0, .pointer (some ⟨sb, 0, none⟩)), (4, .pointer (some ⟨g1, 0, none⟩)), (6, .slice none 0 0), (7, .slice oA k oc), (8, .int .i64 t8), (10, .pointer (some ⟨g10, 0, none⟩)), (23, .int .i64 ((q : Nat) : Int)), (24, .int .i64 ((i : Nat) : Int))])) (K' := (fun (to3 : ByteArray) => fun w => Strm 25 w B sb (m + 20 * i + 7))) (L' := (fun (to3 : ByteArray) => [(g10, 105, [.int .i64 t8, .string y0, .string st2, .int .i64 kd2, .string to3]), (g2, 3, [.int .i64 0, .int .i64 1, .int .i64 10, .int .i64 50, .int .i64 100, .int .i64 500]), (g1, 31, [.slice (some ⟨bs, os, none⟩) sn sc, .slice cA cn cc, .slice (some ⟨bv, ov, none⟩) vn vc, .slice pA pn pc])])) (O' := (fun (to3 : ByteArray) => [⟨.slice oA k oc, 105, 5, k, xl.flatMap evEnc⟩])) (X' := (fun (to3 : ByteArray) => [SlOld stEnc 15 156 w.heap.size (some sb) (some ⟨bs, os, none⟩) sn sl, SlOld vhEnc 2 69 w.heap.size (some sb) (some ⟨bv, ov, none⟩) vn vl])) ?_ ?_
  ·refine sr_ (fd_ fo105_3 rfl rfl (lk_ sc3 0 rfl rfl rfl (wl_ov (ov_eql rfl rfl) rfl (nn_ ?_))))
   refine gw_cond rfl (fun hh => ?_) (fun hh => ?_)
   ·have hc6 : kd2 = 6 := by simpa using hh
    clear hh
    refine gd (fun wz => Blk wz g2 3 [.int .i64 0, .int .i64 1, .int .i64 10, .int .i64 50, .int .i64 100, .int .i64 500] ∧ Blk wz g1 31 [.slice (some ⟨bs, os, none⟩) sn sc, .slice cA cn cc, .slice (some ⟨bv, ov, none⟩) vn vc, .slice pA pn pc] ∧ (SlOld stEnc 15 156 w.heap.size (some sb) (some ⟨bs, os, none⟩) sn sl) wz ∧ (SlOld vhEnc 2 69 w.heap.size (some sb) (some ⟨bv, ov, none⟩) vn vl) wz ∧ True) mixed (fun _ hm => ⟨hm.bl 1, hm.bl 2, hm.fa 0, hm.fa 1, trivial⟩) fun z => ?_
    refine wt 0 12 1 rfl z (ov_field fo31_0 rfl rfl) ?_
    refine wt 1 12 3 rfl z (ov_load sc26 rfl (fun _ hm => hm.2.1) rfl) ?_
    refine wt 2 12 7 rfl z (ov_move rfl) ?_
    refine wt 3 12 15 rfl z (ov_field fo31_0 rfl rfl) ?_
    refine wt 4 12 31 rfl z (ov_load sc26 rfl (fun _ hm => hm.2.1) rfl) ?_
    refine wt 5 12 63 rfl z (ov_len es26 rfl) ?_
    refine wa1 6 rfl ?_
    refine wl_got (γ := Int) (val := fun v => .int .i64 v) (φ := fun v => IsBelow ((sn : Nat) : Int) v) rfl cb29 rfl rfl rfl rfl (fun wx hm => (next_any _ wx B sb _ hm.k (by omega) (by omega) (by omega))) fun vu24 hvu24 => ?_
    have hju24 := isBelow_lt hvu24 (by omega)
    obtain ⟨ju24, rfl⟩ := Int.eq_ofNat_of_zero_le hju24.1
    have hjiu24 : ju24 < sn := by omega
    obtain ⟨zu24, hzu24⟩ : ∃ y, sl[ju24]? = some y := ⟨_, List.getElem?_eq_getElem (by omega)⟩
    obtain ⟨ku24, ru24⟩ := zu24
    have hku24 : ku24.size ≤ 1000000 := (hsok _ (List.mem_of_getElem? hzu24)).2.1
    refine wl_nil ?_
    refine nw 12 127 (fun _ hm => ⟨hm.bl 1, hm.bl 2, hm.fa 0, hm.fa 1, trivial⟩) fun z => ?_
    refine wt 7 12 255 rfl z (ov_index (j := ju24) es26 rfl rfl (by omega)) ?_
    refine wt 8 12 511 rfl z (ov_field fo156_0 rfl rfl) ?_
    refine wt 9 12 1023 rfl z (ov_elem1 (k := 0) (v := .string ku24) sc9 rfl (fun _ hm => (hm.2.2.1).1) hzu24 rfl rfl) ?_
    refine wt 10 12 2047 rfl z (ov_field fo105_4 rfl rfl) ?_
    refine wa1 11 rfl ?_
    refine wl_store 0 sc9 rfl rfl rfl rfl rfl rfl ?_
    refine wl_nil ?_
    refine nw 12 4095 (fun _ hm => ⟨hm.bl 1, hm.bl 2, hm.fa 0, hm.fa 1, trivial⟩) fun z => ?_
    refine wa_done (by kernel_rfl) ?_
    exact nx_meet ku24 (by (try dsimp only); omega) ⟨rfl, rfl, rfl, rfl, rfl, rfl, rfl, rfl, trivial⟩ (fun _ hm => (hm.more rfl (by first | omega | (dsimp only; omega))).pick [0, 1, 2] [0] [0, 1] rfl rfl)
   have hc6 : ¬ (kd2 = 6) := by simpa using hh
   clear hh
   refine gw_skip ?_
   exact nx_meet ⟨#[]⟩ (show (⟨#[]⟩ : ByteArray).size ≤ 1000000 by decide) ⟨rfl, rfl, rfl, rfl, rfl, rfl, rfl, rfl, trivial⟩ (fun _ hm => (hm.more rfl (by first | omega | (dsimp only; omega))).pick [0, 1, 2] [0] [0, 1] rfl rfl)
  intro to3 hinv
  replace hinv : to3.size ≤ 1000000 := hinv
  have hto3 : to3.size ≤ 1000000 := hinv
  refine gw_cut (γ := Int × ByteArray × ByteArray × Int × ByteArray) (I := (fun g => EvOk (⟨g.1, g.2.1, g.2.2.1, g.2.2.2.1, g.2.2.2.2⟩ : Ev))) (S' := (fun g => [(0, .pointer (some ⟨sb, 0, none⟩)), (4, .pointer (some ⟨g1, 0, none⟩)), (6, .slice none 0 0), (7, .slice oA k oc), (8, .int .i64 t8), (10, .pointer (some ⟨g10, 0, none⟩)), (23, .int .i64 ((q : Nat) : Int)), (24, .int .i64 ((i : Nat) : Int))])) (K' := (fun g => fun w => Strm 25 w B sb (m + 20 * i + 12))) (L' := (fun g => [(g10, 105, [.int .i64 g.1, .string g.2.1, .string g.2.2.1, .int .i64 g.2.2.2.1, .string g.2.2.2.2]), (g2, 3, [.int .i64 0, .int .i64 1, .int .i64 10, .int .i64 50, .int .i64 100, .int .i64 500]), (g1, 31, [.slice (some ⟨bs, os, none⟩) sn sc, .slice cA cn cc, .slice (some ⟨bv, ov, none⟩) vn vc, .slice pA pn pc])])) (O' := (fun g => [⟨.slice oA k oc, 105, 5, k, xl.flatMap evEnc⟩])) (X' := (fun g => [SlOld stEnc 15 156 w.heap.size (some sb) (some ⟨bs, os, none⟩) sn sl, SlOld vhEnc 2 69 w.heap.size (some sb) (some ⟨bv, ov, none⟩) vn vl])) ?_ ?_
  ·refine sr_ (mv_ rfl ?_)
   refine wl_got (γ := Bool) (val := fun v => .bool v) (φ := fun v => True) rfl cb64 rfl rfl rfl rfl (fun wx hm => ((flip_any _ wx B sb _ hm.k (by omega) (by omega) (by omega)).mono fun _ _ ⟨v, he, hS, hg⟩ => ⟨v, trivial, he, hS, hg⟩)) fun f25 _ => ?_
   refine nn_ ?_
   refine gw_cond rfl (fun hh => ?_) (fun hh => ?_)
   ·have hd26 : f25 = true := by simpa using hh
    clear hh
    refine sr_ (mv_ rfl ?_)
    refine wl_got (γ := Int) (val := fun v => .int .i64 v) (φ := fun v => IsBelow 4 v) rfl cb29 rfl rfl rfl rfl (fun wx hm => (next_any _ wx B sb _ hm.k (by omega) (by omega) (by omega))) fun v4 hv4 => ?_
    refine nn_ (gw_block (sr_ (wl_ov (ov_eql rfl rfl) rfl (sg_ rfl (nn_ ?_)))))
    refine gw_cond rfl (fun hh => ?_) (fun hh => ?_)
    ·have hd27 : v4 = 0 := by simpa using hh
     clear hh
     refine gw_region (mv_ rfl ?_)
     refine wl_got (γ := Int) (val := fun v => .int .i64 v) (φ := fun v => -2000000000000000 ≤ v ∧ v ≤ 2000000000000000) rfl cb65 rfl rfl rfl rfl (fun wx hm => (odd_any _ _ wx B sb _ hm.k (by omega) (by omega) (by omega) (by omega))) fun v28 hv28 => ?_
     refine fd_ fo105_3 rfl rfl ?_
     refine wl_store 0 sc3 rfl rfl rfl rfl rfl rfl ?_
     refine wl_nil (nx_blk_nrm ?_)
     exact nx_meet (t8, y0, st2, v28, to3) ⟨⟨by dsimp only; omega, by dsimp only; omega⟩, ⟨by dsimp only; omega, by dsimp only; omega⟩, by dsimp only; omega, by dsimp only; omega, by dsimp only; omega⟩ ⟨rfl, rfl, rfl, rfl, rfl, rfl, rfl, rfl, trivial⟩ (fun _ hm => (hm.more rfl (by first | omega | (dsimp only; omega))).pick [0, 1, 2] [0] [0, 1] rfl rfl)
    have hd27 : ¬ (v4 = 0) := by simpa using hh
    clear hh
    refine sr_ (wl_ov (ov_eql rfl rfl) rfl (sg_ rfl (nn_ ?_)))
    refine gw_cond rfl (fun hh => ?_) (fun hh => ?_)
    ·have hd29 : v4 = 1 := by simpa using hh
     clear hh
     refine gw_region (mv_ rfl ?_)
     refine wl_buildSlice (e := 9) (cs := [.string ⟨#[115, 49]⟩, .string ⟨#[110, 111, 110, 101]⟩, .string ⟨#[]⟩]) rfl (by kernel_rfl) rfl fun g30 => ?_
     refine wl_got (γ := ByteArray) (val := fun v => .string v) (φ := fun v => v ∈ ([⟨#[115, 49]⟩, ⟨#[110, 111, 110, 101]⟩, ⟨#[]⟩] : List ByteArray)) rfl cb62 rfl rfl rfl rfl (fun wx hm => (some_any [⟨#[115, 49]⟩, ⟨#[110, 111, 110, 101]⟩, ⟨#[]⟩] _ _ _ wx B sb _ hm.k (by omega) (by simp) (by simp) (hm.blkI 0 rfl) (hm.neRow 0 rfl rfl))) fun s31 hs31 => ?_
     have zs31 : s31.size ≤ 100 := mem_sz hs31 (by decide)
     refine fd_ fo105_4 rfl rfl ?_
     refine wl_store 1 sc9 rfl rfl rfl rfl rfl rfl ?_
     refine wl_nil (nx_blk_nrm ?_)
     exact nx_meet (t8, y0, st2, kd2, s31) ⟨⟨by dsimp only; omega, by dsimp only; omega⟩, ⟨by dsimp only; omega, by dsimp only; omega⟩, by dsimp only; omega, by dsimp only; omega, by dsimp only; omega⟩ ⟨rfl, rfl, rfl, rfl, rfl, rfl, rfl, rfl, trivial⟩ (fun _ hm => (hm.more rfl (by first | omega | (dsimp only; omega))).pick [1, 2, 3] [0] [0, 1] rfl rfl)
    have hd29 : ¬ (v4 = 1) := by simpa using hh
    clear hh
    refine sr_ (wl_ov (ov_eql rfl rfl) rfl (sg_ rfl (nn_ ?_)))
    refine gw_cond rfl (fun hh => ?_) (fun hh => ?_)
    ·have hd32 : v4 = 2 := by simpa using hh
     clear hh
     refine gw_region (mv_ rfl ?_)
     refine wl_calls (γ := ByteArray) (val := (fun g => .string g)) (φ := (fun g => g.size ≤ 100)) (Y := (fun g => fun _ => True)) (m' := m + 20 * i + 7 + 1 + 1 + 1) rfl cb11 rfl rfl rfl rfl (fun wx hm => (gvehicleKey_any wx B sb _ hm.k (by omega)).mono fun _ _ ⟨v, he, hv, hS, hg⟩ => ⟨v, he, hv, hS, hg, trivial⟩) (fun _ => Lasts2.true_) ?_
     rintro vk hvk
     refine fd_ fo105_1 rfl rfl ?_
     refine wl_store 0 sc9 rfl rfl rfl rfl rfl rfl ?_
     refine wl_nil (nx_blk_nrm ?_)
     exact nx_meet (t8, vk, st2, kd2, to3) ⟨⟨by dsimp only; omega, by dsimp only; omega⟩, ⟨by dsimp only; omega, by dsimp only; omega⟩, by dsimp only; omega, by dsimp only; omega, by dsimp only; omega⟩ ⟨rfl, rfl, rfl, rfl, rfl, rfl, rfl, rfl, trivial⟩ (fun _ hm => (hm.more rfl (by first | omega | (dsimp only; omega))).pick [0, 1, 2] [0] [1, 2] rfl rfl)
    have hd32 : ¬ (v4 = 2) := by simpa using hh
    clear hh
    refine gw_region (mv_ rfl ?_)
    refine wl_got (γ := Int) (val := fun v => .int .i64 v) (φ := fun v => -2000000000000000 ≤ v ∧ v ≤ 2000000000000000) rfl cb65 rfl rfl rfl rfl (fun wx hm => (odd_any _ _ wx B sb _ hm.k (by omega) (by omega) (by omega) (by omega))) fun v34 hv34 => ?_
    refine fd_ fo105_0 rfl rfl ?_
    refine wl_store 0 sc3 rfl rfl rfl rfl rfl rfl ?_
    refine wl_nil (nx_blk_nrm ?_)
    exact nx_meet (v34, y0, st2, kd2, to3) ⟨⟨by dsimp only; omega, by dsimp only; omega⟩, ⟨by dsimp only; omega, by dsimp only; omega⟩, by dsimp only; omega, by dsimp only; omega, by dsimp only; omega⟩ ⟨rfl, rfl, rfl, rfl, rfl, rfl, rfl, rfl, trivial⟩ (fun _ hm => (hm.more rfl (by first | omega | (dsimp only; omega))).pick [0, 1, 2] [0] [0, 1] rfl rfl)
   have hd26 : f25 = false := by simpa using hh
   clear hh
   refine gw_skip ?_
   exact nx_meet (t8, y0, st2, kd2, to3) ⟨⟨by dsimp only; omega, by dsimp only; omega⟩, ⟨by dsimp only; omega, by dsimp only; omega⟩, by dsimp only; omega, by dsimp only; omega, by dsimp only; omega⟩ ⟨rfl, rfl, rfl, rfl, rfl, rfl, rfl, rfl, trivial⟩ (fun _ hm => (hm.more rfl (by first | omega | (dsimp only; omega))).pick [0, 1, 2] [0] [0, 1] rfl rfl)
  rintro ⟨a4, ve4, st4, kd4, to4⟩ hinv
  replace hinv : EvOk (⟨a4, ve4, st4, kd4, to4⟩ : Ev) := hinv
  dsimp only
  have hx4 : EvOk (⟨a4, ve4, st4, kd4, to4⟩ : Ev) := hinv
  have huok : ∀ x ∈ xl ++ [(⟨a4, ve4, st4, kd4, to4⟩ : Ev)], EvOk x := all_snoc hxok hx4
  have hul : (xl ++ [(⟨a4, ve4, st4, kd4, to4⟩ : Ev)]).length = k + 1 := by simp [hxl]
  obtain ⟨us, hus⟩ : ∃ z, z = xl ++ [(⟨a4, ve4, st4, kd4, to4⟩ : Ev)] := ⟨_, rfl⟩
  rw [← hus] at huok hul
  obtain ⟨LE, hLE⟩ : ∃ z, z = logE sl vl us := ⟨_, rfl⟩
  refine gw_cut (γ := Bool) (I := (fun (bb : Bool) => True)) (S' := (fun (bb : Bool) => [(0, .pointer (some ⟨sb, 0, none⟩)), (4, .pointer (some ⟨g1, 0, none⟩)), (6, .slice none 0 0), (7, .slice oA k oc), (8, .int .i64 t8), (10, .pointer (some ⟨g10, 0, none⟩)), (23, .int .i64 ((q : Nat) : Int)), (24, .int .i64 ((i : Nat) : Int)), (130, .bool bb)])) (K' := (fun (bb : Bool) => fun w => Strm 25 w B sb (m + 20 * i + 13))) (L' := (fun (bb : Bool) => [(g10, 105, [.int .i64 a4, .string ve4, .string st4, .int .i64 kd4, .string to4]), (g2, 3, [.int .i64 0, .int .i64 1, .int .i64 10, .int .i64 50, .int .i64 100, .int .i64 500]), (g1, 31, [.slice (some ⟨bs, os, none⟩) sn sc, .slice cA cn cc, .slice (some ⟨bv, ov, none⟩) vn vc, .slice pA pn pc])])) (O' := (fun (bb : Bool) => [⟨.slice oA k oc, 105, 5, k, xl.flatMap evEnc⟩])) (X' := (fun (bb : Bool) => [SlOld stEnc 15 156 w.heap.size (some sb) (some ⟨bs, os, none⟩) sn sl, SlOld vhEnc 2 69 w.heap.size (some sb) (some ⟨bv, ov, none⟩) vn vl])) ?_ ?_
  ·refine gd (fun wz => Blk wz g10 105 [.int .i64 a4, .string ve4, .string st4, .int .i64 kd4, .string to4] ∧ Blk wz g2 3 [.int .i64 0, .int .i64 1, .int .i64 10, .int .i64 50, .int .i64 100, .int .i64 500] ∧ Blk wz g1 31 [.slice (some ⟨bs, os, none⟩) sn sc, .slice cA cn cc, .slice (some ⟨bv, ov, none⟩) vn vc, .slice pA pn pc] ∧ (SlOld stEnc 15 156 w.heap.size (some sb) (some ⟨bs, os, none⟩) sn sl) wz ∧ (SlOld vhEnc 2 69 w.heap.size (some sb) (some ⟨bv, ov, none⟩) vn vl) wz ∧ True) mixed (fun _ hm => ⟨hm.bl 0, hm.bl 1, hm.bl 2, hm.fa 0, hm.fa 1, trivial⟩) fun z => ?_
   refine wt 0 12 1 rfl z (ov_move rfl) ?_
   refine wa1 1 rfl ?_
   refine wl_got (γ := Bool) (val := fun v => .bool v) (φ := fun v => True) rfl cb64 rfl rfl rfl rfl (fun wx hm => ((flip_any _ wx B sb _ hm.k (by omega) (by omega) (by omega)).mono fun _ _ ⟨v, he, hS, hg⟩ => ⟨v, trivial, he, hS, hg⟩)) fun f35 _ => ?_
   refine wl_nil ?_
   refine nw 12 3 (fun _ hm => ⟨hm.bl 0, hm.bl 1, hm.bl 2, hm.fa 0, hm.fa 1, trivial⟩) fun z => ?_
   refine wt 2 12 7 rfl z (ov_move rfl) ?_
   rcases Bool.eq_false_or_eq_true f35 with hg8 | hg8
   ·refine wa_set 121 rfl (congrArg Value.bool hg8) ?_
    refine wtf 3 12 15 rfl rfl rfl z ?_
    refine wtf 4 12 31 rfl rfl rfl z ?_
    refine wtf 5 12 63 rfl rfl rfl z ?_
    refine wtf 6 12 127 rfl rfl rfl z ?_
    refine wtf 7 12 255 rfl rfl rfl z ?_
    refine wtf 8 12 511 rfl rfl rfl z ?_
    refine wtf 9 12 1023 rfl rfl rfl z ?_
    refine wtf 10 12 2047 rfl rfl rfl z ?_
    refine wt 11 12 4095 rfl z (ov_pick_t rfl rfl) ?_
    refine wa_done (by kernel_rfl) ?_
    exact nx_meet true trivial ⟨rfl, rfl, rfl, rfl, rfl, rfl, rfl, rfl, rfl, trivial⟩ (fun _ hm => (hm.more rfl (by first | omega | (dsimp only; omega))).pick [0, 1, 2] [0] [0, 1] rfl rfl)
   refine wa_set 121 rfl (congrArg Value.bool hg8) ?_
   refine wto 3 12 15 rfl rfl rfl z (ov_loads rz31 rfl (fun _ hm => hm.2.2.1) rfl rfl) ?_
   refine wto 4 12 31 rfl rfl rfl z (ov_move rfl) ?_
   refine wto 6 12 95 rfl rfl rfl z (ov_loads rz105 rfl (fun _ hm => hm.1) rfl rfl) ?_
   refine wa_all [5, 7] (by kernel_rfl) rfl ⟨⟨_, rfl, ?_⟩, ⟨_, rfl, ?_⟩, trivial⟩
   ·refine wl_guard_on rfl rfl rfl ?_
    refine wl_callgo (γ := Option Addr × Nat) (val := (fun g => .slice g.1 k g.2)) (φ := (fun g => True)) (fun g => ⟨.slice g.1 k g.2, 105, 5, k, xl.flatMap evEnc⟩) rfl cb87 rfl rfl (fun wx hm => (cloneEvents_all xl oA k oc wx (SlT.ofOwn ev_len (hm.ownI 0 rfl) hxl) (own_shape (hm.ownI 0 rfl)) (by omega)).mono fun _ _ ⟨A, c, he, ho, hg⟩ => ⟨(A, c), he, trivial, ho, hg⟩) ?_
    rintro ⟨A3, c3⟩ hphi
    dsimp only at hphi ⊢
    refine wl_nil ?_
    refine nw 12 127 (fun _ hm => ⟨hm.bl 0, hm.bl 1, hm.bl 2, hm.fa 0, hm.fa 1, trivial⟩) fun z => ?_
    refine wa1 7 rfl ?_
    refine wl_guard_on rfl rfl rfl ?_
    refine wl_buildSlice (e := 105) (cs := [.int .i64 a4, .string ve4, .string st4, .int .i64 kd4, .string to4]) rfl (by kernel_rfl) rfl fun g36 => ?_
    refine wl_nil ?_
    refine nw 12 255 (fun _ hm => ⟨hm.bl 1, hm.bl 2, hm.bl 3, hm.fa 0, hm.fa 1, trivial⟩) fun z => ?_
    refine wa1 8 rfl ?_
    refine wl_guard_on rfl rfl rfl ?_
    refine wl_append (news := [.int .i64 a4, .string ve4, .string st4, .int .i64 kd4, .string to4]) 0 0 ap32 rfl rfl rfl rfl rfl rfl rfl (by omega) (by unfold maxLen; omega) rfl rfl fun v2 hv2 => ?_
    refine wl_look (R := ∃ A cc, v2 = .slice A (k + 1) cc) (fun wx hm => own_slice (hm.ownI 0 rfl)) ?_
    rintro ⟨A4, c4, rfl⟩
    have hxs : xl.flatMap evEnc ++ ([.int .i64 a4, .string ve4, .string st4, .int .i64 kd4, .string to4] : List Value) = us.flatMap evEnc := by rw [hus]; simp [evEnc]
    rw [hxs]
    refine wl_nil ?_
    refine nw 12 511 (fun _ hm => ⟨hm.bl 1, hm.bl 2, hm.bl 3, hm.fa 0, hm.fa 1, trivial⟩) fun z => ?_
    refine wa1 9 rfl ?_
    refine wl_guard_on rfl rfl rfl ?_
    refine wl_callv (v := .int .i64 LE) rfl cb27 rfl rfl (fun wx hm => (by rw [hLE]; exact logFault_any sl vl (some ⟨bs, os, none⟩) cA (some ⟨bv, ov, none⟩) pA sn sc cn cc vn vc pn pc us A4 (k + 1) c4 wx (hm.fact 0 rfl).1 (hm.fact 1 rfl).1 hsok hsn hvn (SlT.ofOwn ev_len (hm.ownI 0 rfl) hul) huok (by omega))) ?_
    refine wl_nil ?_
    refine nw 12 1023 (fun _ hm => ⟨hm.bl 1, hm.bl 2, hm.bl 3, hm.fa 0, hm.fa 1, trivial⟩) fun z => ?_
    refine wto 10 12 2047 rfl rfl rfl z (ov_eql rfl rfl) ?_
    refine wt 11 12 4095 rfl z (ov_pick_f rfl rfl) ?_
    refine wa_done (by kernel_rfl) ?_
    exact nx_meet (decide (LE = 0)) trivial ⟨rfl, rfl, rfl, rfl, rfl, rfl, rfl, rfl, rfl, trivial⟩ (fun _ hm => (hm.more rfl (by first | omega | (dsimp only; omega))).pick [1, 2, 3] [1] [0, 1] rfl rfl)
   refine wl_guard_on rfl rfl rfl ?_
   refine wl_buildSlice (e := 105) (cs := [.int .i64 a4, .string ve4, .string st4, .int .i64 kd4, .string to4]) rfl (by kernel_rfl) rfl fun g37 => ?_
   refine wl_nil ?_
   refine nw 12 223 (fun _ hm => ⟨hm.bl 1, hm.bl 2, hm.bl 3, hm.fa 0, hm.fa 1, trivial⟩) fun z => ?_
   refine wa1 5 rfl ?_
   refine wl_guard_on rfl rfl rfl ?_
   refine wl_callgo (γ := Option Addr × Nat) (val := (fun g => .slice g.1 k g.2)) (φ := (fun g => True)) (fun g => ⟨.slice g.1 k g.2, 105, 5, k, xl.flatMap evEnc⟩) rfl cb87 rfl rfl (fun wx hm => (cloneEvents_all xl oA k oc wx (SlT.ofOwn ev_len (hm.ownI 0 rfl) hxl) (own_shape (hm.ownI 0 rfl)) (by omega)).mono fun _ _ ⟨A, c, he, ho, hg⟩ => ⟨(A, c), he, trivial, ho, hg⟩) ?_
   rintro ⟨A3, c3⟩ hphi
   dsimp only at hphi ⊢
   refine wl_nil ?_
   refine nw 12 255 (fun _ hm => ⟨hm.bl 1, hm.bl 2, hm.bl 3, hm.fa 0, hm.fa 1, trivial⟩) fun z => ?_
   refine wa1 8 rfl ?_
   refine wl_guard_on rfl rfl rfl ?_
   refine wl_append (news := [.int .i64 a4, .string ve4, .string st4, .int .i64 kd4, .string to4]) 0 0 ap32 rfl rfl rfl rfl rfl rfl rfl (by omega) (by unfold maxLen; omega) rfl rfl fun v2 hv2 => ?_
   refine wl_look (R := ∃ A cc, v2 = .slice A (k + 1) cc) (fun wx hm => own_slice (hm.ownI 0 rfl)) ?_
   rintro ⟨A4, c4, rfl⟩
   have hxs : xl.flatMap evEnc ++ ([.int .i64 a4, .string ve4, .string st4, .int .i64 kd4, .string to4] : List Value) = us.flatMap evEnc := by rw [hus]; simp [evEnc]
   rw [hxs]
   refine wl_nil ?_
   refine nw 12 511 (fun _ hm => ⟨hm.bl 1, hm.bl 2, hm.bl 3, hm.fa 0, hm.fa 1, trivial⟩) fun z => ?_
   refine wa1 9 rfl ?_
   refine wl_guard_on rfl rfl rfl ?_
   refine wl_callv (v := .int .i64 LE) rfl cb27 rfl rfl (fun wx hm => (by rw [hLE]; exact logFault_any sl vl (some ⟨bs, os, none⟩) cA (some ⟨bv, ov, none⟩) pA sn sc cn cc vn vc pn pc us A4 (k + 1) c4 wx (hm.fact 0 rfl).1 (hm.fact 1 rfl).1 hsok hsn hvn (SlT.ofOwn ev_len (hm.ownI 0 rfl) hul) huok (by omega))) ?_
   refine wl_nil ?_
   refine nw 12 1023 (fun _ hm => ⟨hm.bl 1, hm.bl 2, hm.bl 3, hm.fa 0, hm.fa 1, trivial⟩) fun z => ?_
   refine wto 10 12 2047 rfl rfl rfl z (ov_eql rfl rfl) ?_
   refine wt 11 12 4095 rfl z (ov_pick_f rfl rfl) ?_
   refine wa_done (by kernel_rfl) ?_
   exact nx_meet (decide (LE = 0)) trivial ⟨rfl, rfl, rfl, rfl, rfl, rfl, rfl, rfl, rfl, trivial⟩ (fun _ hm => (hm.more rfl (by first | omega | (dsimp only; omega))).pick [1, 2, 3] [1] [0, 1] rfl rfl)
  intro bb hinv
  replace hinv : True := hinv
  refine gw_cond rfl (fun hh => ?_) (fun hh => ?_)
  ·have hbb : bb = true := by simpa using hh
   clear hh
   refine gw_region (mv_ rfl ?_)
   refine wl_ov (ov_loads rz105 rfl (fun _ hm => hm.blkI 0 rfl) rfl rfl) rfl ?_
   refine wl_buildSlice (e := 105) (cs := [.int .i64 a4, .string ve4, .string st4, .int .i64 kd4, .string to4]) rfl (by kernel_rfl) rfl fun g38 => ?_
   refine wl_append (news := [.int .i64 a4, .string ve4, .string st4, .int .i64 kd4, .string to4]) 0 0 ap32 rfl rfl rfl rfl rfl rfl rfl (by omega) (by unfold maxLen; omega) rfl rfl fun v2 hv2 => ?_
   refine wl_look (R := ∃ A cc, v2 = .slice A (k + 1) cc) (fun wx hm => own_slice (hm.ownI 0 rfl)) ?_
   rintro ⟨A4, c4, rfl⟩
   have hxs : xl.flatMap evEnc ++ ([.int .i64 a4, .string ve4, .string st4, .int .i64 kd4, .string to4] : List Value) = us.flatMap evEnc := by rw [hus]; simp [evEnc]
   rw [hxs]
   refine sg_ rfl (wl_nil (nx_blk_nrm (nx_then (gw_region (ad_ rfl rfl (mv_ rfl (wl_nil ?_)))))))
   exact nx_round (i + 1, k + 1, t8, A4, c4, us) ⟨by dsimp only; omega, by dsimp only; omega, ⟨by dsimp only; omega, by dsimp only; omega⟩, hul, huok⟩ (by dsimp only; omega) ⟨rfl, rfl, rfl, rfl, rfl, rfl, (some_int (by omega)), trivial⟩ (fun _ hm => (hm.more rfl (by first | omega | (dsimp only; omega))).pick [3] [0] [0, 1] rfl rfl)
  have hbb : bb = false := by simpa using hh
  clear hh
  refine gw_skip (nx_blk_nrm (nx_then (gw_region (ad_ rfl rfl (mv_ rfl (wl_nil ?_))))))
  exact nx_round (i + 1, k, t8, oA, oc, xl) ⟨by dsimp only; omega, by dsimp only; omega, ⟨by dsimp only; omega, by dsimp only; omega⟩, hxl, hxok⟩ (by dsimp only; omega) ⟨rfl, rfl, rfl, rfl, rfl, rfl, (some_int (by omega)), trivial⟩ (fun _ hm => (hm.more rfl (by first | omega | (dsimp only; omega))).pick [2] [0] [0, 1] rfl rfl)
 have hi : ¬ (((i : Nat) : Int) < ((q : Nat) : Int)) := by simpa using hh
 clear hh
 refine gw_exit ?_
 refine nx_then_exit (nx_then_exit ?_)
 refine nx_blk_here ?_
 refine nx_then (sr_ (mv_ rfl (sg_ rfl (nn_ ?_))))
 refine gw_ret ?_
 refine nx_ret1 rfl rfl fun wx hm => ?_
 exact ⟨oA, k, oc, xl, rfl, (hm.ownI 0 rfl), hxl, hxok, by omega, hm.k.more (by omega), hm.g⟩
end Go.Proofs.YtdoooppeiphefaaGreatDoor
namespace Go.Proofs.YtdoooppeiphefaaGreatDoor
open Go.RowKit
theorem fleet_rise {sl : List St} {cl : List Cs} {vl : List Vh} {pl : List Pl} (h : fleetE sl cl vl pl = 0) : Rise vl := by
  unfold fleetE at h
  exact (vehs_rise (fe_all h (vehsE cl vl) (by simp))).2
theorem fe_hd {a : Int} {r : List Int} (h : a ≠ 0) : firstE (a :: r) = a := by simp [firstE, h]
theorem fe_tl {r : List Int} : firstE (0 :: r) = firstE r := by simp [firstE]
end Go.Proofs.YtdoooppeiphefaaGreatDoor
namespace Go.Proofs.YtdoooppeiphefaaGreatDoor
open Go.RowKit
def evsE (sl : List St) (cl : List Cs) (vl : List Vh) (pl : List Pl) (el : List Ev) : Int := firstE [fleetE sl cl vl pl, logE sl vl el]
theorem evs_one {sl : List St} {cl : List Cs} {vl : List Vh} {pl : List Pl} {el : List Ev} (h : fleetE sl cl vl pl ≠ 0) : evsE sl cl vl pl el = fleetE sl cl vl pl := fe_hd h
theorem evs_two {sl : List St} {cl : List Cs} {vl : List Vh} {pl : List Pl} {el : List Ev} (h : fleetE sl cl vl pl = 0) : evsE sl cl vl pl el = logE sl vl el := by
  unfold evsE; rw [h, fe_tl]
  by_cases h2 : logE sl vl el = 0
  · rw [h2]; rfl
  · exact fe_hd h2
theorem evs_ok {sl : List St} {cl : List Cs} {vl : List Vh} {pl : List Pl} {el : List Ev} (h : evsE sl cl vl pl el = 0) : fleetE sl cl vl pl = 0 ∧ logE sl vl el = 0 := ⟨fe_all h _ (by simp), fe_all h _ (by simp)⟩
theorem log_ok {sl : List St} {vl : List Vh} {el : List Ev} (h : logE sl vl el = 0) : ESort el ∧ (∀ x ∈ el, EvFine sl vl x) ∧ el.length ≤ 3000 := by
  unfold logE at h
  split at h
  · cases h
  · obtain ⟨h1, _, h3⟩ := log_fine h
    exact ⟨h1, h3, by omega⟩
theorem eventsFault_any (sl : List St) (cl : List Cs) (vl : List Vh) (pl : List Pl) (sA cA vA pA : Option Addr) (sn sc cn cc vn vc pn pc : Nat) (el : List Ev) (eA : Option Addr) (en ec : Nat) (w : World) (hs : SlT stEnc 15 156 w sA sn sl) (hc : SlT csEnc 2 158 w cA cn cl) (hv : SlT vhEnc 2 69 w vA vn vl) (hp : SlT plEnc 3 164 w pA pn pl) (hsok : ∀ x ∈ sl, StOk x) (hcok : ∀ x ∈ cl, CsOk x) (hvok : ∀ x ∈ vl, VhOk x) (hpok : ∀ x ∈ pl, PlOk x) (hsn : sn ≤ 1000) (hcn : cn ≤ 1000) (hvn : vn ≤ 1000) (hpn : pn ≤ 1000) (hl : SlT evEnc 5 105 w eA en el) (heok : ∀ x ∈ el, EvOk x) (hen : en ≤ 100000) (hpc : pn ≤ pc) :
  Calls Tryz.prog 61 #[.agg #[.slice sA sn sc, .slice cA cn cc, .slice vA vn vc, .slice pA pn pc], .slice eA en ec] w (GotE w (evsE sl cl vl pl el)) := by
 refine gw_enter ⟨14, w, none, []⟩ Tryz.func61 rfl Tryz.ntmps61 rfl (mem0 (X := [SlOld stEnc 15 156 w.heap.size none sA sn sl, SlOld csEnc 2 158 w.heap.size none cA cn cl, SlOld vhEnc 2 69 w.heap.size none vA vn vl, SlOld plEnc 3 164 w.heap.size none pA pn pl, SlOld evEnc 5 105 w.heap.size none eA en el]) (allF_cons hs.old (allF_cons hc.old (allF_cons hv.old (allF_cons hp.old (allF_cons hl.old allF_nil))))) (allL_cons SlOld.lasts (allL_cons SlOld.lasts (allL_cons SlOld.lasts (allL_cons SlOld.lasts (allL_cons SlOld.lasts allL_nil)))))) ?_
 refine sr_ ?_
 obtain ⟨FE, hFE⟩ : ∃ z, z = fleetE sl cl vl pl := ⟨_, rfl⟩
 obtain ⟨LE, hLE⟩ : ∃ z, z = logE sl vl el := ⟨_, rfl⟩
 refine wl_box rfl rfl rfl fun g1 => ?_
 refine sg_ rfl (nn_ (gw_seq (sr_ ?_)))
 refine wl_ov (ov_loads rz31 rfl (fun _ hm => hm.blkI 0 rfl) rfl rfl) rfl ?_
 refine wl_callv (v := .int .i64 FE) rfl cb85 rfl rfl (fun wx hm => (by rw [hFE]; exact fleetFault_any sl cl vl pl sA cA vA pA sn sc cn cc vn vc pn pc wx (hm.fact 0 rfl).1 (hm.fact 1 rfl).1 (hm.fact 2 rfl).1 (hm.fact 3 rfl).1 hsok hcok hvok hpok hsn hcn hvn hpn hpc)) ?_
 refine sg_ rfl (nn_ (sr_ (mv_ rfl (wl_ov (ov_neq rfl rfl) rfl (nn_ ?_)))))
 refine gw_cond rfl (fun hh => ?_) (fun hh => ?_)
 ·have h1 : ¬ (FE = 0) := by simpa using hh
  clear hh
  refine sr_ (mv_ rfl (sg_ rfl (nn_ ?_)))
  refine gw_ret ?_
  refine nx_then_ret ?_
  refine nx_ret1 rfl rfl fun wx hm => ?_
  exact ⟨ret_int (by rw [evs_one (by rw [← hFE]; simpa using h1)]; exact hFE), hm.g⟩
 have h1 : FE = 0 := by simpa using hh
 clear hh
 refine gw_skip (nx_then (sr_ ?_))
 have h0 : fleetE sl cl vl pl = 0 := by rw [← hFE]; simpa using h1
 refine wl_ov (ov_loads rz31 rfl (fun _ hm => hm.blkI 0 rfl) rfl rfl) rfl ?_
 refine mv_ rfl ?_
 refine wl_callv (v := .int .i64 LE) rfl cb27 rfl rfl (fun wx hm => (by rw [hLE]; exact logFault_any sl vl sA cA vA pA sn sc cn cc vn vc pn pc el eA en ec wx (hm.fact 0 rfl).1 (hm.fact 2 rfl).1 hsok hsn hvn (hm.fact 4 rfl).1 heok hen)) ?_
 refine sg_ rfl (nn_ ?_)
 refine gw_ret ?_
 refine nx_ret1 rfl rfl fun wx hm => ?_
 exact ⟨ret_int (by rw [evs_two h0]; exact hLE), hm.g⟩
theorem check2_any (sl : List St) (cl : List Cs) (vl : List Vh) (pl : List Pl) (sA cA vA pA : Option Addr) (sn sc cn cc vn vc pn pc : Nat) (el : List Ev) (eA : Option Addr) (en ec : Nat) (w : World) (hs : SlT stEnc 15 156 w sA sn sl) (hc : SlT csEnc 2 158 w cA cn cl) (hv : SlT vhEnc 2 69 w vA vn vl) (hp : SlT plEnc 3 164 w pA pn pl) (hsok : ∀ x ∈ sl, StOk x) (hcok : ∀ x ∈ cl, CsOk x) (hvok : ∀ x ∈ vl, VhOk x) (hpok : ∀ x ∈ pl, PlOk x) (hsn : sn ≤ 1000) (hcn : cn ≤ 1000) (hvn : vn ≤ 1000) (hpn : pn ≤ 1000) (hl : SlT evEnc 5 105 w eA en el) (heok : ∀ x ∈ el, EvOk x) (hen : en ≤ 100000) :
  Calls Tryz.prog 42 #[.agg #[.slice sA sn sc, .slice cA cn cc, .slice vA vn vc, .slice pA pn pc], .slice eA en ec] w (GotE w (evsE sl cl vl pl el)) := by
 refine gw_enter ⟨14, w, none, []⟩ Tryz.func42 rfl Tryz.ntmps42 rfl (mem0 (X := [SlOld stEnc 15 156 w.heap.size none sA sn sl, SlOld csEnc 2 158 w.heap.size none cA cn cl, SlOld vhEnc 2 69 w.heap.size none vA vn vl, SlOld plEnc 3 164 w.heap.size none pA pn pl, SlOld evEnc 5 105 w.heap.size none eA en el]) (allF_cons hs.old (allF_cons hc.old (allF_cons hv.old (allF_cons hp.old (allF_cons hl.old allF_nil))))) (allL_cons SlOld.lasts (allL_cons SlOld.lasts (allL_cons SlOld.lasts (allL_cons SlOld.lasts (allL_cons SlOld.lasts allL_nil)))))) ?_
 refine sr_ ?_
 obtain ⟨FE, hFE⟩ : ∃ z, z = fleetE sl cl vl pl := ⟨_, rfl⟩
 obtain ⟨LE, hLE⟩ : ∃ z, z = logE sl vl el := ⟨_, rfl⟩
 refine wl_box rfl rfl rfl fun g1 => ?_
 refine sg_ rfl (nn_ (gw_seq (sr_ ?_)))
 refine wl_ov (ov_loads rz31 rfl (fun _ hm => hm.blkI 0 rfl) rfl rfl) rfl ?_
 refine wl_callv (v := .int .i64 FE) rfl cb121 rfl rfl (fun wx hm => (by rw [hFE]; exact checkFleet_any sl cl vl pl sA cA vA pA sn sc cn cc vn vc pn pc wx (hm.fact 0 rfl).1 (hm.fact 1 rfl).1 (hm.fact 2 rfl).1 (hm.fact 3 rfl).1 hsok hcok hvok hpok hsn hcn hvn hpn)) ?_
 refine sg_ rfl (nn_ (sr_ (mv_ rfl (wl_ov (ov_neq rfl rfl) rfl (nn_ ?_)))))
 refine gw_cond rfl (fun hh => ?_) (fun hh => ?_)
 ·have h1 : ¬ (FE = 0) := by simpa using hh
  clear hh
  refine sr_ (mv_ rfl (sg_ rfl (nn_ ?_)))
  refine gw_ret ?_
  refine nx_then_ret ?_
  refine nx_ret1 rfl rfl fun wx hm => ?_
  exact ⟨ret_int (by rw [evs_one (by rw [← hFE]; simpa using h1)]; exact hFE), hm.g⟩
 have h1 : FE = 0 := by simpa using hh
 clear hh
 refine gw_skip (nx_then (sr_ ?_))
 have h0 : fleetE sl cl vl pl = 0 := by rw [← hFE]; simpa using h1
 have hrise := fleet_rise h0
 refine wl_ov (ov_loads rz31 rfl (fun _ hm => hm.blkI 0 rfl) rfl rfl) rfl ?_
 refine mv_ rfl ?_
 refine wl_callv (v := .int .i64 LE) rfl cb122 rfl rfl (fun wx hm => (by rw [hLE]; exact check_any sl vl sA cA vA pA sn sc cn cc vn vc pn pc el eA en ec wx (hm.fact 0 rfl).1 (hm.fact 2 rfl).1 hsok hsn hvn (hm.fact 4 rfl).1 heok hen hrise)) ?_
 refine sg_ rfl (nn_ ?_)
 refine gw_ret ?_
 refine nx_ret1 rfl rfl fun wx hm => ?_
 exact ⟨ret_int (by rw [evs_two h0]; exact hLE), hm.g⟩
section
variable {P : Program} {c : Cx} {S : List (Nat × Value)} {K : World → Prop} {L : List (Nat × TypeId × List Value)} {O : List Own} {X : List (World → Prop)} {fn : Func} {R : Ending → World → Prop}
theorem results_ctt {p u r : Tmp} {t : TypeId} (h : fn.results = #[.cell p t, .tmp u, .tmp r]) (tmps : Array Value) (w : World) (g : Nat) (T : TypeId) (cs : Array Value) (fr : Nat × Nat) (d : TypeDesc) (hp : tmps.getD p undef = .pointer (some ⟨g, 0, none⟩)) (hg : w.heap[g]? = some (.cells cs T fr)) (hu : P.underlying t = some d) (hd : (match d with | .struct _ | .array _ _ => true | _ => false) = true) (hi : (P.info? t).map (·.size) = some cs.size) :
    (results fn tmps).run P w = .ok (.tuple #[.agg cs, tmps.getD u undef, tmps.getD r undef]) w := by
  have hp' : tmps[p]?.getD undef = .pointer (some ⟨g, 0, none⟩) := by simpa using hp
  simp [results, h, hp', asAddr, run_loadVar_row w g T t cs fr d hg hu hd hi]
theorem nx_retctt {p u r : Nat} {t T : TypeId} {g n : Nat} {cs : List Value} {v v' : Value} (i : Nat) (hr : fn.results = #[.cell p t, .tmp u, .tmp r]) (hs : rowSz P t = some n) (hp : look S p = some (.pointer (some ⟨g, 0, none⟩))) (hv : look S u = some v) (hv' : look S r = some v') (hL : L[i]? = some (g, T, cs)) (hn : cs.length = n)
    (h : ∀ w, Mem c K L O X w → R (.returned (.tuple #[.agg cs.toArray, v, v'])) w) : Nx c (bodyPost P fn R) .ret S K L O X := fun a w ha hm => by
  obtain ⟨dd, hu, hd, hi⟩ := run_row hs
  have hb : w.heap[g]? = some (.cells cs.toArray T (0, 0)) := hm.blk (List.mem_of_getElem? hL)
  have h1 := results_ctt (P := P) hr a.tmps w g T cs.toArray (0, 0) dd (by simp [Array.getD_eq_getD_getElem?, ha.val p _ hp]) hb hu (by cases dd <;> simp_all [TypeDesc.isRow]) (by simpa [hn] using hi)
  rw [show a.tmps.getD u undef = v by simp [Array.getD_eq_getD_getElem?, ha.val u _ hv], show a.tmps.getD r undef = v' by simp [Array.getD_eq_getD_getElem?, ha.val r _ hv']] at h1
  exact bodyPost_ret h1 ha.df (h w hm)
end
theorem scene_any (q : Nat) (w : World) (B sb m : Nat) (hS : Strm 25 w B sb m) (hm : m ≤ 1000000) (hq : q ≤ 1000) :
  Calls Tryz.prog 9 #[.pointer (some ⟨sb, 0, none⟩), .int .i64 ((q : Nat) : Int)] w (fun e w' => ∃ (sA cA vA pA : Option Addr) (sn sc cc vn vc pn pc : Nat) (sl : List St) (cl : List Cs) (vl : List Vh) (pl : List Pl) (eA : Option Addr) (en ec : Nat) (el : List Ev),  e = .returned (.tuple #[.agg #[.slice sA sn sc, .slice cA 4 cc, .slice vA vn vc, .slice pA pn pc], .slice eA en ec, .int .i64 (evsE sl cl vl pl el)]) ∧ (FlOk sl cl vl pl sn vn pn ∧ ShapeA pA pn pc ∧ pn ≤ pc) ∧ (el.length = en ∧ (∀ x ∈ el, EvOk x) ∧ en ≤ q) ∧ Strm 25 w' B sb (m + 20 * q + 420) ∧ w.grownBy w' (some sb) ∧ w'.ownsRow w.heap.size 105 5 (.slice eA en ec) en (el.flatMap evEnc) ∧ SlT stEnc 15 156 w' sA sn sl ∧ SlT csEnc 2 158 w' cA 4 cl ∧ SlT vhEnc 2 69 w' vA vn vl ∧ SlT plEnc 3 164 w' pA pn pl) := by
 refine gw_enter ⟨20, w, (some sb), [156, 158, 69, 164]⟩ Tryz.func9 rfl Tryz.ntmps9 rfl (memS (X := []) hS allF_nil allL_nil) ?_
 refine sr_ ?_
 refine wl_alloc zc31 rfl fun g1 => ?_
 refine sg_ rfl (sg_ rfl (nn_ (sr_ (mv_ rfl ?_))))
 refine wl_calls (γ := Option Addr × Option Addr × Option Addr × Option Addr × Nat × Nat × Nat × Nat × Nat × Nat × Nat × List St × List Cs × List Vh × List Pl) (val := (fun g => .agg #[.slice g.1 g.2.2.2.2.1 g.2.2.2.2.2.1, .slice g.2.1 4 g.2.2.2.2.2.2.1, .slice g.2.2.1 g.2.2.2.2.2.2.2.1 g.2.2.2.2.2.2.2.2.1, .slice g.2.2.2.1 g.2.2.2.2.2.2.2.2.2.1 g.2.2.2.2.2.2.2.2.2.2.1])) (φ := (fun g => FlOk g.2.2.2.2.2.2.2.2.2.2.2.1 g.2.2.2.2.2.2.2.2.2.2.2.2.1 g.2.2.2.2.2.2.2.2.2.2.2.2.2.1 g.2.2.2.2.2.2.2.2.2.2.2.2.2.2 g.2.2.2.2.1 g.2.2.2.2.2.2.2.1 g.2.2.2.2.2.2.2.2.2.1 ∧ ShapeA g.2.2.2.1 g.2.2.2.2.2.2.2.2.2.1 g.2.2.2.2.2.2.2.2.2.2.1 ∧ g.2.2.2.2.2.2.2.2.2.1 ≤ g.2.2.2.2.2.2.2.2.2.2.1)) (Y := (fun g => fun wy => SlT stEnc 15 156 wy g.1 g.2.2.2.2.1 g.2.2.2.2.2.2.2.2.2.2.2.1 ∧ SlT csEnc 2 158 wy g.2.1 4 g.2.2.2.2.2.2.2.2.2.2.2.2.1 ∧ SlT vhEnc 2 69 wy g.2.2.1 g.2.2.2.2.2.2.2.1 g.2.2.2.2.2.2.2.2.2.2.2.2.2.1 ∧ SlT plEnc 3 164 wy g.2.2.2.1 g.2.2.2.2.2.2.2.2.2.1 g.2.2.2.2.2.2.2.2.2.2.2.2.2.2)) (m' := m + 400) rfl cb60 rfl rfl rfl rfl (fun wx hm => (fleet_any wx B sb _ hm.k (by omega)).mono fun _ _ ⟨sA, cA, vA, pA, sn, sc, cc, vn, vc, pn, pc, sl, cl, vl, pl, he, hok, hS, hg, h1, h2, h3, h4, h5, h6⟩ => ⟨(sA, cA, vA, pA, sn, sc, cc, vn, vc, pn, pc, sl, cl, vl, pl), he, ⟨hok, h5, h6⟩, hS, hg, h1, h2, h3, h4⟩) (fun _ => (SlT.lasts2 rfl).and_ ((SlT.lasts2 rfl).and_ ((SlT.lasts2 rfl).and_ (SlT.lasts2 rfl)))) ?_
 rintro ⟨sA, cA, vA, pA, sn, sc, cc, vn, vc, pn, pc, sl, cl, vl, pl⟩ hfl
 dsimp only at hfl ⊢
 have hfl2 := hfl
 obtain ⟨⟨⟨hsok, hsn10⟩, hcok, ⟨hvB, hvn10⟩, hpB, hpn10⟩, hsh, hpnc⟩ := hfl
 have hvok : ∀ x ∈ vl, VhOk x := fun x hx => vhB_ok (hvB x hx)
 have hpok : ∀ x ∈ pl, PlOk x := fun x hx => plB_ok (hpB x hx)
 refine wl_alloc zc31 rfl fun g2 => ?_
 refine wl_stores (cs' := [.slice sA sn sc, .slice cA 4 cc, .slice vA vn vc, .slice pA pn pc]) 0 rz31 rfl rfl rfl rfl rfl rfl rfl rfl ?_
 refine nn_ (sr_ (mv_ rfl ?_))
 refine wl_ov (ov_loads rz31 rfl (fun _ hm => hm.blkI 0 rfl) rfl rfl) rfl ?_
 refine mv_ rfl ?_
 refine wl_callgs (γ := Option Addr × Nat × Nat × List Ev) (val := (fun g => .slice g.1 g.2.1 g.2.2.1)) (φ := (fun g => g.2.2.2.length = g.2.1 ∧ (∀ x ∈ g.2.2.2, EvOk x) ∧ g.2.1 ≤ q)) (m' := m + 400 + (20 * q + 20)) (fun g => ⟨.slice g.1 g.2.1 g.2.2.1, 105, 5, g.2.1, g.2.2.2.flatMap evEnc⟩) rfl cb26 rfl rfl rfl rfl (fun wx hm => (glog_any sl vl sA cA vA pA sn sc 4 cc vn vc pn pc q wx B sb _ hm.k (by omega) (hm.fact 0 rfl).1 (hm.fact 0 rfl).2.2.1 hsok hvok (by omega) (by omega) (by omega)).mono fun _ _ ⟨A, n, c, l, he, ho, hl, hok, hn, hS, hg⟩ => ⟨(A, n, c, l), he, ⟨hl, hok, hn⟩, hS, hg, ho⟩) ?_
 rintro ⟨eA, en, ec, el⟩ hel
 dsimp only at hel ⊢
 obtain ⟨hell, heok, henq⟩ := hel
 obtain ⟨FE, hFE⟩ : ∃ z, z = evsE sl cl vl pl el := ⟨_, rfl⟩
 refine sg_ rfl (nn_ (gw_seq ?_))
 refine gd (fun wz => Blk wz g2 31 [.slice sA sn sc, .slice cA 4 cc, .slice vA vn vc, .slice pA pn pc] ∧ (fun wy => SlT stEnc 15 156 wy sA sn sl ∧ SlT csEnc 2 158 wy cA 4 cl ∧ SlT vhEnc 2 69 wy vA vn vl ∧ SlT plEnc 3 164 wy pA pn pl) wz ∧ True) mixed (fun _ hm => ⟨hm.bl 0, hm.fa 0, trivial⟩) fun z => ?_
 refine wt 0 8 1 rfl z (ov_loads rz31 rfl (fun _ hm => hm.1) rfl rfl) ?_
 refine wt 1 8 3 rfl z (ov_move rfl) ?_
 refine wt 2 8 7 rfl z (ov_loads rz31 rfl (fun _ hm => hm.1) rfl rfl) ?_
 refine wt 3 8 15 rfl z (ov_move rfl) ?_
 refine wa1 4 rfl ?_
 refine wl_callv (v := .int .i64 FE) rfl cb61 rfl rfl (fun wx hm => (by rw [hFE]; exact eventsFault_any sl cl vl pl sA cA vA pA sn sc 4 cc vn vc pn pc el eA en ec wx (hm.fact 0 rfl).1 (hm.fact 0 rfl).2.1 (hm.fact 0 rfl).2.2.1 (hm.fact 0 rfl).2.2.2 hsok hcok hvok hpok (by omega) (by omega) (by omega) (by omega) (SlT.ofOwn ev_len (hm.ownI 0 rfl) hell) heok (by omega) hpnc)) ?_
 refine wl_nil ?_
 refine nw 8 31 (fun _ hm => ⟨hm.bl 0, hm.fa 0, trivial⟩) fun z => ?_
 refine wa1 5 rfl ?_
 refine wl_stores (cs' := [.slice sA sn sc, .slice cA 4 cc, .slice vA vn vc, .slice pA pn pc]) 1 rz31 rfl rfl rfl rfl rfl rfl rfl rfl ?_
 refine wl_nil ?_
 refine nw 8 63 (fun _ hm => ⟨hm.bl 0, hm.fa 0, trivial⟩) fun z => ?_
 refine wt 6 8 127 rfl z (ov_assign rfl) ?_
 refine wt 7 8 255 rfl z (ov_assign rfl) ?_
 refine wa_done (by kernel_rfl) ?_
 refine nx_then ?_
 refine gw_ret ?_
 refine nx_retctt 1 rfl rz31 rfl rfl rfl rfl rfl fun wx hm => ?_
 exact ⟨sA, cA, vA, pA, sn, sc, cc, vn, vc, pn, pc, sl, cl, vl, pl, eA, en, ec, el, by rw [hFE], hfl2, ⟨hell, heok, henq⟩, hm.k.more (by omega), hm.g, (hm.ownI 0 rfl), (hm.fact 0 rfl)⟩
end Go.Proofs.YtdoooppeiphefaaGreatDoor
namespace Go.Proofs.YtdoooppeiphefaaGreatDoor
open Go.RowKit
abbrev AMap := ByteArray → Option Sa
def encS (x : Sa) : Value := .agg #[.int .i64 x.st, .string x.sta, .int .i64 x.since]
end Go.Proofs.YtdoooppeiphefaaGreatDoor
namespace Go.Proofs.YtdoooppeiphefaaGreatDoor
open Go.RowKit
theorem stgs_bd {v : ByteArray} : ∀ {l : List Ev} {s : Sa}, (∀ x ∈ l, EvOk x) → ∀ z ∈ stgs v l s, -4000000000000000000 ≤ z.since ∧ z.since ≤ 4000000000000000000
  | [], _, _, z, hz => by cases hz
  | x :: r, s, h, z, hz => by
    have hr : ∀ y ∈ r, EvOk y := fun y hy => h y (List.mem_cons_of_mem _ hy)
    unfold stgs at hz
    split at hz
    · split at hz
      · rcases List.mem_cons.1 hz with rfl | hz
        · rw [nextS_since]; exact (h x (List.mem_cons_self ..)).1
        · exact stgs_bd hr z hz
      · exact stgs_bd hr z hz
    · exact stgs_bd hr z hz
end Go.Proofs.YtdoooppeiphefaaGreatDoor
namespace Go.Proofs.YtdoooppeiphefaaGreatDoor
open Go.RowKit
def cmn (a b c d : Int) : Int := max 0 (min b d - max a c)
theorem cmn_bd {a b c d : Int} (h : a ≤ b) : 0 ≤ cmn a b c d ∧ cmn a b c d ≤ b - a := by unfold cmn; omega
def endOf : List Sa → Int
  | [] => 5761440
  | t :: _ => t.since
/-- How long a vehicle is in state j, from stage to stage. -/
def stT (a b j : Int) : List Sa → Int
  | [] => 0
  | s :: r => (if s.st = j then cmn a b s.since (endOf r) else 0) + stT a b j r
theorem endOf_at {l : List Sa} {i : Nat} : endOf (l.drop i) = match l[i]? with
    | some t => t.since
    | none => 5761440 := by
  cases h : l[i]? with
  | none => rw [List.drop_eq_nil_of_le (List.getElem?_eq_none_iff.1 h)]; rfl
  | some t =>
    obtain ⟨hi, rfl⟩ := List.getElem?_eq_some_iff.1 h
    rw [List.drop_eq_getElem_cons hi]; rfl
theorem stT_at {a b j : Int} {l : List Sa} {i : Nat} {s : Sa} (h : l[i]? = some s) : stT a b j (l.drop i) = (if s.st = j then cmn a b s.since (endOf (l.drop (i + 1))) else 0) + stT a b j (l.drop (i + 1)) := by
  obtain ⟨hi, rfl⟩ := List.getElem?_eq_some_iff.1 h
  rw [List.drop_eq_getElem_cons hi]; rfl
/-- .. of a vehicle, over a log. -/
def spT (a b : Int) (el : List Ev) (v : ByteArray) (j : Int) : Int := stT a b j (stages el v)
/-- What is known between two events. -/
def SpInv (a b : Int) (el rest : List Ev) (cur : ByteArray → Sa) (G : ByteArray → Int → Int) : Prop := ∀ v j, G v j + stT a b j (cur v :: stgs v rest (cur v)) = spT a b el v j
theorem sp_start {a b : Int} {el : List Ev} : SpInv a b el el (fun _ => sa0) (fun _ _ => 0) := fun _ _ => by
  rw [Int.zero_add]; rfl
def gPut (G : ByteArray → Int → Int) (v : ByteArray) (j n : Int) : ByteArray → Int → Int := fun u i => if (v.toList == u.toList) = true then (if i = j then G u i + n else G u i) else G u i
theorem gPut_same {G : ByteArray → Int → Int} {v : ByteArray} {j n : Int} : gPut G v j n v = fun i => if i = j then G v i + n else G v i := by
  unfold gPut; simp
theorem gPut_other {G : ByteArray → Int → Int} {v u : ByteArray} {j n : Int} (h : u ≠ v) : gPut G v j n u = G u := by
  unfold gPut
  funext i
  rw [if_neg (fun e => h (bytes_eqb.1 e).symm)]
theorem sp_good {a b : Int} {el r : List Ev} {x : Ev} {F : ByteArray → Option Sa} {G : ByteArray → Int → Int} (h : SpInv a b el (x :: r) (fun v => (F v).getD sa0) G) (hg : goodB ((F x.veh).getD sa0) x = true) :
    SpInv a b el r (fun v => ((fPut F x.veh (nextS x)) v).getD sa0) (gPut G x.veh ((F x.veh).getD sa0).st (cmn a b ((F x.veh).getD sa0).since x.at_)) := fun v j => by
  have hv := h v j
  dsimp only at hv ⊢
  by_cases e : x.veh = v
  · subst e
    rw [fPut_same, gPut_same]
    have h2 : stgs x.veh (x :: r) ((F x.veh).getD sa0) = nextS x :: stgs x.veh r (nextS x) := by
      conv => lhs; unfold stgs
      rw [if_pos (beq_self_eq_true _), if_pos hg]
    rw [h2] at hv
    show (if j = ((F x.veh).getD sa0).st then G x.veh j + _ else G x.veh j) + stT a b j (nextS x :: stgs x.veh r (nextS x)) = _
    rw [← hv]
    conv => rhs; unfold stT
    rw [show endOf (nextS x :: stgs x.veh r (nextS x)) = x.at_ from nextS_since x]
    by_cases hj : ((F x.veh).getD sa0).st = j
    · rw [if_pos hj.symm, if_pos hj]; omega
    · rw [if_neg (fun e => hj e.symm), if_neg hj]; omega
  · rw [fPut_other _ _ (fun e2 => e e2.symm), gPut_other (fun e2 => e e2.symm), ← hv]
    have h2 : stgs v (x :: r) ((F v).getD sa0) = stgs v r ((F v).getD sa0) := by
      conv => lhs; unfold stgs
      rw [if_neg (fun e2 => e (bytes_eqb.1 e2))]
    rw [h2]
theorem sp_bad {a b : Int} {el r : List Ev} {x : Ev} {F : ByteArray → Option Sa} {G : ByteArray → Int → Int} (h : SpInv a b el (x :: r) (fun v => (F v).getD sa0) G) (hg : ¬ goodB ((F x.veh).getD sa0) x = true) : SpInv a b el r (fun v => (F v).getD sa0) G := fun v j => by
  have hv := h v j
  dsimp only at hv ⊢
  by_cases e : x.veh = v
  · subst e
    have h2 : stgs x.veh (x :: r) ((F x.veh).getD sa0) = stgs x.veh r ((F x.veh).getD sa0) := by
      conv => lhs; unfold stgs
      rw [if_pos (beq_self_eq_true _), if_neg hg]
    rw [h2] at hv; exact hv
  · have h2 : stgs v (x :: r) ((F v).getD sa0) = stgs v r ((F v).getD sa0) := by
      conv => lhs; unfold stgs
      rw [if_neg (fun e2 => e (bytes_eqb.1 e2))]
    rw [h2] at hv; exact hv
/-- The last loop: the vehicles ahead of the i-th one are done. -/
def SpEnd (a b : Int) (el : List Ev) (vl : List Vh) (i : Nat) (cur : ByteArray → Sa) (G : ByteArray → Int → Int) : Prop := ∀ k x, vl[k]? = some x → ∀ j, G x.key j + (if i ≤ k then stT a b j [cur x.key] else 0) = spT a b el x.key j
theorem sp_turn {a b : Int} {el : List Ev} {vl : List Vh} {cur : ByteArray → Sa} {G : ByteArray → Int → Int} (h : SpInv a b el [] cur G) : SpEnd a b el vl 0 cur G := fun k x _ j => by
  rw [if_pos (Nat.zero_le _)]; exact h x.key j
theorem sp_next {a b : Int} {el : List Ev} {vl : List Vh} {cur : ByteArray → Sa} {G : ByteArray → Int → Int} {i : Nat} {x : Vh} (h : SpEnd a b el vl i cur G) (hr : Rise vl) (hx : vl[i]? = some x) : SpEnd a b el vl (i + 1) cur (gPut G x.key (cur x.key).st (cmn a b (cur x.key).since 5761440)) := fun k y hy j => by
  have h2 := h k y hy j
  rcases Nat.lt_trichotomy k i with hk | rfl | hk
  · rw [if_neg (by omega)] at h2 ⊢
    rw [gPut_other (fun e => bl_ne (rise_lt hr hk hy hx) (by rw [e]))]; exact h2
  · rw [hx] at hy; cases hy
    rw [if_pos (Nat.le_refl _)] at h2
    rw [if_neg (by omega), gPut_same, ← h2]
    show (if j = (cur x.key).st then G x.key j + _ else G x.key j) + 0 = G x.key j + ((if (cur x.key).st = j then cmn a b (cur x.key).since 5761440 else 0) + 0)
    by_cases hj : (cur x.key).st = j
    · rw [if_pos hj.symm, if_pos hj]; omega
    · rw [if_neg (fun e => hj e.symm), if_neg hj]; omega
  · rw [if_pos (by omega)] at h2
    rw [if_pos (by omega), gPut_other (fun e => bl_ne (rise_lt hr hk hx hy) (by rw [e]))]; exact h2
theorem sp_done {a b : Int} {el : List Ev} {vl : List Vh} {cur : ByteArray → Sa} {G : ByteArray → Int → Int} (h : SpEnd a b el vl vl.length cur G) {k : Nat} {x : Vh} (hx : vl[k]? = some x) (j : Int) : G x.key j = spT a b el x.key j := by
  have h2 := h k x hx j
  have := (List.getElem?_eq_some_iff.1 hx).1
  rw [if_neg (by omega), Int.add_zero] at h2; exact h2
theorem stT_bd {a b j : Int} (h : a ≤ b) (hb : b - a ≤ 6000000) : ∀ (l : List Sa), 0 ≤ stT a b j l ∧ stT a b j l ≤ 6000000 * (l.length : Int)
  | [] => ⟨Int.le_refl _, by simp [stT]⟩
  | s :: r => by
    have h1 := stT_bd (j := j) h hb r
    have h2 := cmn_bd (c := s.since) (d := endOf r) h
    unfold stT
    rw [List.length_cons]
    split <;> constructor <;> omega
theorem gPut_bd {G : ByteArray → Int → Int} {v : ByteArray} {j n M D : Int} (h : ∀ u i, 0 ≤ G u i ∧ G u i ≤ M) (h0 : 0 ≤ n) (h1 : n ≤ D) : ∀ u i, 0 ≤ gPut G v j n u i ∧ gPut G v j n u i ≤ M + D := fun u i => by
  have := h u i
  unfold gPut
  split
  · split <;> omega
  · omega
structure Tr where
  fr : Int
  to_ : Int
  a : ByteArray
  b : ByteArray
def trEnc (x : Tr) : List Value := [.int .i64 x.fr, .int .i64 x.to_, .string x.a, .string x.b]
theorem tr_len (x : Tr) : (trEnc x).length = 4 := rfl
def toOf : List Sa → Int
  | [] => -1
  | t :: _ => t.since
def bOf : List Sa → ByteArray
  | [] => ⟨#[]⟩
  | t :: _ => t.sta
/-- The trips, from stage to stage. -/
def trR : ByteArray → List Sa → List Tr
  | _, [] => []
  | p, s :: r => (if s.st = 2 then [⟨s.since, toOf r, p, bOf r⟩] else []) ++ trR s.sta r
def tripsR (el : List Ev) (v : ByteArray) : List Tr := trR ⟨#[]⟩ (stages el v)
theorem trR_len : ∀ (l : List Sa) (p : ByteArray), (trR p l).length ≤ l.length
  | [], _ => Nat.le_refl _
  | s :: r, p => by
    have := trR_len r s.sta
    unfold trR
    rw [List.length_append, List.length_cons]
    split
    · rw [List.length_singleton]; omega
    · rw [List.length_nil]; omega
/-- The program's way: a trip begins with a car that goes out, and its end is written when it comes back. -/
def trP (v : ByteArray) : List Ev → Sa → List Tr → List Tr
  | [], _, acc => acc
  | x :: r, s, acc => if (x.veh.toList == v.toList) = true then (if goodB s x = true then
      (if x.kd = 2 then trP v r (nextS x) (acc ++ [⟨x.at_, -1, x.sta, ⟨#[]⟩⟩])
       else if x.kd = 3 then trP v r (nextS x) (acc.set (acc.length - 1) ⟨(acc[acc.length - 1]?.getD ⟨0, 0, ⟨#[]⟩, ⟨#[]⟩⟩).fr, x.at_, (acc[acc.length - 1]?.getD ⟨0, 0, ⟨#[]⟩, ⟨#[]⟩⟩).a, x.sta⟩)
       else trP v r (nextS x) acc) else trP v r s acc) else trP v r s acc
theorem good_two {s : Sa} {x : Ev} (h : goodB s x = true) (hk : x.kd = 2) : s.st = 1 ∧ s.sta = x.sta ∧ nextS x = ⟨2, ⟨#[]⟩, x.at_⟩ := by
  unfold goodB at h
  rw [if_neg (by omega), if_neg (by omega), if_neg (by omega), if_neg (by omega), if_pos (.inl hk), Bool.and_eq_true, decide_eq_true_eq] at h
  refine ⟨h.1, bytes_eqb.1 h.2, ?_⟩
  unfold nextS
  rw [if_pos hk]
theorem good_three {s : Sa} {x : Ev} (h : goodB s x = true) (hk : x.kd = 3) : s.st = 2 ∧ nextS x = ⟨1, x.sta, x.at_⟩ := by
  unfold goodB at h
  rw [if_neg (by omega), if_pos hk, decide_eq_true_eq] at h
  refine ⟨h, ?_⟩
  unfold nextS
  rw [if_neg (by omega), if_neg (by omega), if_neg (by omega), if_neg (by omega)]
theorem good_more {s : Sa} {x : Ev} (h : goodB s x = true) (h2 : x.kd ≠ 2) (h3 : x.kd ≠ 3) : s.st ≠ 2 ∧ (nextS x).st ≠ 2 := by
  constructor
  · intro e
    unfold goodB at h
    rw [e] at h
    rw [if_neg h3] at h
    repeat' split at h
    all_goals simp at h
  · unfold nextS
    rw [if_neg h2]
    repeat' split
    all_goals simp
theorem trP_eq {v : ByteArray} : ∀ (l : List Ev) (s : Sa) (acc : List Tr),
    (s.st ≠ 2 → trP v l s acc = acc ++ trR s.sta (stgs v l s)) ∧
    (∀ a, s.st = 2 → trP v l s (acc ++ [⟨s.since, -1, a, ⟨#[]⟩⟩]) = acc ++ (⟨s.since, toOf (stgs v l s), a, bOf (stgs v l s)⟩ :: trR s.sta (stgs v l s)))
  | [], s, acc => ⟨fun _ => (List.append_nil _).symm, fun a _ => rfl⟩
  | x :: r, s, acc => by
    by_cases hv : (x.veh.toList == v.toList) = true
    · by_cases hg : goodB s x = true
      · have hst : stgs v (x :: r) s = nextS x :: stgs v r (nextS x) := by
          conv => lhs; unfold stgs
          rw [if_pos hv, if_pos hg]
        rw [hst]
        by_cases h2 : x.kd = 2
        · obtain ⟨g1, g2, g3⟩ := good_two hg h2
          refine ⟨fun _ => ?_, fun _ e => by omega⟩
          unfold trP
          rw [if_pos hv, if_pos hg, if_pos h2]
          have ih := (trP_eq (v := v) r (nextS x) acc).2 x.sta (by rw [g3])
          rw [g3] at ih ⊢
          rw [ih]
          conv => rhs; unfold trR
          rw [if_pos rfl, g2]; rfl
        · by_cases h3 : x.kd = 3
          · obtain ⟨g1, g3⟩ := good_three hg h3
            refine ⟨fun e => absurd g1 e, fun a _ => ?_⟩
            unfold trP
            rw [if_pos hv, if_pos hg, if_neg h2, if_pos h3]
            have e1 : (acc ++ [(⟨s.since, -1, a, ⟨#[]⟩⟩ : Tr)]).length - 1 = acc.length := by rw [List.length_append, List.length_singleton]; omega
            have e2 : (acc ++ [(⟨s.since, -1, a, ⟨#[]⟩⟩ : Tr)])[acc.length]? = some ⟨s.since, -1, a, ⟨#[]⟩⟩ := by rw [List.getElem?_append_right (Nat.le_refl _), Nat.sub_self]; rfl
            rw [e1, e2]
            have e3 : (acc ++ [(⟨s.since, -1, a, ⟨#[]⟩⟩ : Tr)]).set acc.length ⟨s.since, x.at_, a, x.sta⟩ = acc ++ [⟨s.since, x.at_, a, x.sta⟩] := by
              rw [List.set_append_right _ _ (Nat.le_refl _), Nat.sub_self]; rfl
            show trP v r (nextS x) ((acc ++ [(⟨s.since, -1, a, ⟨#[]⟩⟩ : Tr)]).set acc.length ⟨s.since, x.at_, a, x.sta⟩) = _
            rw [e3]
            have ih := (trP_eq (v := v) r (nextS x) (acc ++ [⟨s.since, x.at_, a, x.sta⟩])).1 (by rw [g3]; simp)
            rw [ih, g3, List.append_assoc]
            conv => rhs; unfold trR
            rfl
          · obtain ⟨g1, g2⟩ := good_more hg h2 h3
            refine ⟨fun _ => ?_, fun _ e => absurd e g1⟩
            unfold trP
            rw [if_pos hv, if_pos hg, if_neg h2, if_neg h3, (trP_eq (v := v) r (nextS x) acc).1 g2]
            conv => rhs; unfold trR
            rw [if_neg g2]; rfl
      · have hst : stgs v (x :: r) s = stgs v r s := by
          conv => lhs; unfold stgs
          rw [if_pos hv, if_neg hg]
        rw [hst]
        have hP : ∀ acc, trP v (x :: r) s acc = trP v r s acc := fun acc => by
          conv => lhs; unfold trP
          rw [if_pos hv, if_neg hg]
        refine ⟨fun e => ?_, fun a e => ?_⟩
        · rw [hP]; exact (trP_eq (v := v) r s acc).1 e
        · rw [hP]; exact (trP_eq (v := v) r s acc).2 a e
    · have hst : stgs v (x :: r) s = stgs v r s := by
        conv => lhs; unfold stgs
        rw [if_neg hv]
      rw [hst]
      have hP : ∀ acc, trP v (x :: r) s acc = trP v r s acc := fun acc => by
        conv => lhs; unfold trP
        rw [if_neg hv]
      refine ⟨fun e => ?_, fun a e => ?_⟩
      · rw [hP]; exact (trP_eq (v := v) r s acc).1 e
      · rw [hP]; exact (trP_eq (v := v) r s acc).2 a e
theorem trips_eq {v : ByteArray} (el : List Ev) : trP v el sa0 [] = tripsR el v := by
  rw [(trP_eq el sa0 []).1 (by decide)]; rfl
def staPrev (l : List Sa) (i : Nat) : ByteArray := match prevOf l i with
  | none => ⟨#[]⟩
  | some s => s.sta
theorem staPrev_succ {l : List Sa} {i : Nat} {s : Sa} (h : l[i]? = some s) : staPrev l (i + 1) = s.sta := by
  unfold staPrev prevOf; rw [if_neg (by omega), Nat.add_sub_cancel, h]
theorem staPrev_at {l : List Sa} {i : Nat} {s : Sa} (h0 : 1 ≤ i) (h : l[i - 1]? = some s) : staPrev l i = s.sta := by
  unfold staPrev prevOf; rw [if_neg (by omega), h]
theorem trR_at {l : List Sa} {i : Nat} {s : Sa} {p : ByteArray} (h : l[i]? = some s) : trR p (l.drop i) = (if s.st = 2 then [⟨s.since, toOf (l.drop (i + 1)), p, bOf (l.drop (i + 1))⟩] else []) ++ trR s.sta (l.drop (i + 1)) := by
  obtain ⟨hi, rfl⟩ := List.getElem?_eq_some_iff.1 h
  rw [List.drop_eq_getElem_cons hi]; rfl
theorem drop_none {l : List Sa} {i : Nat} (h : l.length ≤ i) : toOf (l.drop i) = -1 ∧ bOf (l.drop i) = ⟨#[]⟩ := by
  rw [List.drop_eq_nil_of_le h]; exact ⟨rfl, rfl⟩
theorem drop_some {l : List Sa} {i : Nat} {s : Sa} (h : l[i]? = some s) : toOf (l.drop i) = s.since ∧ bOf (l.drop i) = s.sta := by
  obtain ⟨hi, rfl⟩ := List.getElem?_eq_some_iff.1 h
  rw [List.drop_eq_getElem_cons hi]; exact ⟨rfl, rfl⟩
theorem trP_at {v : ByteArray} {l : List Ev} {i : Nat} {x : Ev} {s : Sa} {acc : List Tr} (h : l[i]? = some x) : trP v (l.drop i) s acc = trP v (x :: l.drop (i + 1)) s acc := by
  obtain ⟨hi, rfl⟩ := List.getElem?_eq_some_iff.1 h
  rw [List.drop_eq_getElem_cons hi]
section
variable {v : ByteArray} {r : List Ev} {x : Ev} {s : Sa} {acc : List Tr}
theorem trP_skip (hv : (x.veh.toList == v.toList) = false) : trP v (x :: r) s acc = trP v r s acc := by
  conv => lhs; unfold trP
  rw [if_neg (by rw [hv]; decide)]
theorem trP_bad (hv : (x.veh.toList == v.toList) = true) (hg : goodB s x = false) : trP v (x :: r) s acc = trP v r (stepS s x) acc := by
  conv => lhs; unfold trP
  rw [if_pos hv, if_neg (by rw [hg]; decide)]
  unfold stepS
  rw [if_neg (by rw [hg]; decide)]
theorem step_good (hg : goodB s x = true) : stepS s x = nextS x := by unfold stepS; rw [if_pos hg]
theorem trP_two (hv : (x.veh.toList == v.toList) = true) (hg : goodB s x = true) (h2 : x.kd = 2) : trP v (x :: r) s acc = trP v r (stepS s x) (acc ++ [⟨x.at_, -1, x.sta, ⟨#[]⟩⟩]) := by
  conv => lhs; unfold trP
  rw [if_pos hv, if_pos hg, if_pos h2, step_good hg]
theorem trP_three {e : Tr} (hv : (x.veh.toList == v.toList) = true) (hg : goodB s x = true) (h3 : x.kd = 3) (he : acc[acc.length - 1]? = some e) : trP v (x :: r) s acc = trP v r (stepS s x) (acc.set (acc.length - 1) ⟨e.fr, x.at_, e.a, x.sta⟩) := by
  conv => lhs; unfold trP
  rw [if_pos hv, if_pos hg, if_neg (by omega), if_pos h3, he, step_good hg]; rfl
theorem trP_more (hv : (x.veh.toList == v.toList) = true) (hg : goodB s x = true) (h2 : x.kd ≠ 2) (h3 : x.kd ≠ 3) : trP v (x :: r) s acc = trP v r (stepS s x) acc := by
  conv => lhs; unfold trP
  rw [if_pos hv, if_pos hg, if_neg h2, if_neg h3, step_good hg]
end
end Go.Proofs.YtdoooppeiphefaaGreatDoor
namespace Go.Proofs.YtdoooppeiphefaaGreatDoor
open Go.RowKit
def encP : Option Nat → Value
  | none => .pointer none
  | some g => .pointer (some ⟨g, 0, none⟩)
abbrev PMap := ByteArray → Option (Option Nat)
def six (f : Int → Int) : List Value := [.int .i64 (f 0), .int .i64 (f 1), .int .i64 (f 2), .int .i64 (f 3), .int .i64 (f 4), .int .i64 (f 5)]
/-- Each key's block holds its six numbers. -/
def Fam (T : TypeId) (N : Nat) (p : PMap) (G : ByteArray → Int → Int) (w : World) : Prop := ∀ k g, p k = some (some g) → N ≤ g ∧ Blk w g T (six (G k))
def Inj (p : PMap) : Prop := ∀ k j g, p k = some (some g) → p j = some (some g) → k = j
structure FamOk (p : PMap) (m1 m2 : Nat) : Prop where
  inj : Inj p
  none_ : ∀ k, p k ≠ some none
  ne1 : ∀ k, p k ≠ some (some m1)
  ne2 : ∀ k, p k ≠ some (some m2)
theorem famOk_nil {m1 m2 : Nat} : FamOk fNil m1 m2 := ⟨fun _ _ _ h => (by cases h), fun _ h => (by cases h), fun _ h => (by cases h), fun _ h => (by cases h)⟩
theorem FamOk.put {p : PMap} {m1 m2 g : Nat} {k : ByteArray} (h : FamOk p m1 m2) (hf : ∀ j, p j ≠ some (some g)) (h1 : g ≠ m1) (h2 : g ≠ m2) : FamOk (fPut p k (some g)) m1 m2 := by
  have hp : ∀ j x, fPut p k (some g) j = some x → (j = k ∧ x = some g) ∨ p j = some x := fun j x hj => by
    by_cases e : j = k
    · subst e
      rw [fPut_same] at hj
      exact .inl ⟨rfl, (Option.some.inj hj).symm⟩
    · rw [fPut_other _ _ e] at hj; exact .inr hj
  refine ⟨fun a b x ha hb => ?_, fun a ha => ?_, fun a ha => ?_, fun a ha => ?_⟩
  · rcases hp a _ ha with ⟨rfl, e⟩ | ha2 <;> rcases hp b _ hb with ⟨rfl, e'⟩ | hb2
    · rfl
    · injection e with e; subst e; exact absurd hb2 (hf b)
    · injection e' with e'; subst e'; exact absurd ha2 (hf a)
    · exact h.inj a b x ha2 hb2
  · rcases hp a _ ha with ⟨_, e⟩ | ha2
    · cases e
    · exact h.none_ a ha2
  · rcases hp a _ ha with ⟨_, e⟩ | ha2
    · injection e with e; exact h1 e.symm
    · exact h.ne1 a ha2
  · rcases hp a _ ha with ⟨_, e⟩ | ha2
    · injection e with e; exact h2 e.symm
    · exact h.ne2 a ha2
theorem Fam.lasts2 {N M : Nat} {row : Option Nat} {Tt : List TypeId} {T : TypeId} {p : PMap} {G : ByteArray → Int → Int} (hT : Tt.contains T = true) : Lasts2 N row Tt (Fam T M p G) :=
  ⟨fun _ _ h hx k g hk => ⟨(hx k g hk).1, (hx k g hk).2.grown h (by simp)⟩, fun w _ r T2 cs h1 h2 _ h3 hx k g hk => ⟨(hx k g hk).1, (hx k g hk).2.grown h3 (fun e => by
    have e2 : g = r := Option.some.inj e
    subst e2
    have hb := (hx k g hk).2
    unfold Blk at hb
    rw [h1] at hb
    injection hb with hb
    injection hb with _ hb _
    exact h2 (by rw [hb]; simpa using hT))⟩⟩
theorem Fam.far {T : TypeId} {M N m : Nat} {p : PMap} {G : ByteArray → Int → Int} (hne : ∀ k, p k ≠ some (some m)) : ∀ w w' : World, N ≤ m → w.grownBy w' (some m) → Fam T M p G w → Fam T M p G w' := fun _ _ _ hg hx k g hk => ⟨(hx k g hk).1, (hx k g hk).2.grown hg (fun e => hne k (by rw [hk, Option.some.inj e]))⟩
theorem Fam.put {T : TypeId} {N g : Nat} {p : PMap} {G : ByteArray → Int → Int} {w : World} {k : ByteArray} (h : Fam T N p G w) (hN : N ≤ g) (hb : Blk w g T (six (G k))) : Fam T N (fPut p k (some g)) G w := fun j x hj => by
  by_cases e : j = k
  · subst e
    rw [fPut_same] at hj
    injection hj with hj
    injection hj with hj
    subst hj
    exact ⟨hN, hb⟩
  · rw [fPut_other _ _ e] at hj; exact h j x hj
theorem Fam.added {T : TypeId} {N g : Nat} {p : PMap} {G : ByteArray → Int → Int} {w w' : World} {k : ByteArray} {j n : Int} (h : Fam T N p G w) (hi : Inj p) (hk : p k = some (some g)) (hb : Blk w' g T (six (fun i => if i = j then G k i + n else G k i))) (hg : w.grownBy w' (some g)) : Fam T N p (gPut G k j n) w' := fun u x hu => by
  by_cases e : u = k
  · subst e
    rw [hk] at hu
    injection hu with hu
    injection hu with hu
    subst hu
    refine ⟨(h u g hk).1, ?_⟩
    rw [gPut_same]; exact hb
  · rw [gPut_other e]
    exact ⟨(h u x hu).1, (h u x hu).2.grown hg (fun e2 => e (hi u k g (by rw [hu, Option.some.inj e2]) hk))⟩
theorem dom_put {p : PMap} {vl : List Vh} {i g : Nat} {y : Vh} (h : ∀ k x, vl[k]? = some x → k < i → ∃ g, p x.key = some (some g)) (hy : vl[i]? = some y) : ∀ k x, vl[k]? = some x → k < i + 1 → ∃ g', fPut p y.key (some g) x.key = some (some g') := fun k x hx hk => by
  by_cases e : x.key = y.key
  · exact ⟨g, by rw [e, fPut_same]⟩
  · rw [fPut_other _ _ e]
    refine h k x hx ?_
    rcases Nat.lt_or_ge k i with h2 | h2
    · exact h2
    · obtain rfl : k = i := by omega
      rw [hx] at hy
      cases hy
      exact absurd rfl e
theorem dom_in {p : PMap} {vl : List Vh} {i g : Nat} {y : Vh} (h : ∀ k, p k ≠ none → ∃ x ∈ vl, x.key = k) (hy : vl[i]? = some y) : ∀ k, fPut p y.key (some g) k ≠ none → ∃ x ∈ vl, x.key = k := fun k hk => by
  by_cases e : k = y.key
  · exact ⟨y, List.mem_of_getElem? hy, e.symm⟩
  · rw [fPut_other _ _ e] at hk; exact h k hk
theorem dom_veh {p : PMap} {vl : List Vh} {k : ByteArray} (h : ∀ i x, vl[i]? = some x → i < vl.length → ∃ g, p x.key = some (some g)) (hk : 0 ≤ ixP (vhP k) vl 0) : ∃ g, p k = some (some g) := by
  obtain ⟨v, hv, hp⟩ := ixP_get hk
  have e : v.key = k := bytes_eqb.1 hp
  rw [← e]
  exact h _ v hv (List.getElem?_eq_some_iff.1 hv).1
/-- Each vehicle's state is one that there is. -/
def CurS (F : ByteArray → Option Sa) : Prop := ∀ v, (0 ≤ ((F v).getD sa0).st ∧ ((F v).getD sa0).st ≤ 5) ∧ -4000000000000000000 ≤ ((F v).getD sa0).since ∧ ((F v).getD sa0).since ≤ 4000000000000000000
theorem curS_nil : CurS fNil := fun _ => show (0 ≤ sa0.st ∧ sa0.st ≤ 5) ∧ -4000000000000000000 ≤ sa0.since ∧ sa0.since ≤ 4000000000000000000 by decide
theorem CurS.put {F : ByteArray → Option Sa} (h : CurS F) {x : Ev} {k : ByteArray} (hx : EvOk x) : CurS (fPut F k (nextS x)) := fun v => by
  by_cases e : v = k
  · subst e
    rw [fPut_same]
    have h1 := nextS_st x
    have h2 := nextS_since x
    have h3 := hx.1
    show (0 ≤ (nextS x).st ∧ (nextS x).st ≤ 5) ∧ -4000000000000000000 ≤ (nextS x).since ∧ (nextS x).since ≤ 4000000000000000000
    rw [h2]
    exact ⟨⟨by omega, by omega⟩, h3⟩
  · rw [fPut_other _ _ e]; exact h v
theorem blkRow {w : World} {g : Nat} {T : TypeId} {cs : List Value} (hb : Blk w g T cs) (hl : cs.length = 6) : w.ownsRow 0 T 1 (.slice (some ⟨g, 0, none⟩) 6 6) 6 cs :=
  ⟨by omega, .inr ⟨g, 6, cs.toArray, rfl, Nat.zero_le _, hb, Nat.le_refl _, by unfold maxLen; omega, by simp [hl], by simp [← hl]⟩⟩
theorem rowBlk {base : Nat} {T : TypeId} {g : Nat} {xs : List Value} {w : World} (h : RowK base T 1 6 6 g xs w) : Blk w g T xs := by
  rcases h.2 with ⟨h1, _⟩ | ⟨g', cap, cur, hv, _, hh, _, _, hs, ht⟩
  · cases h1
  · injection hv with h1 _ h3
    injection h1 with h1
    injection h1 with h1 _ _
    subst h1 h3
    rw [List.take_of_length_le (by rw [Array.length_toList]; omega)] at ht
    subst ht
    unfold Blk
    rw [Array.toArray_toList]; exact hh
section
variable {P : Program} {c : Cx} {ops : Array Oper} {Q : Exit → Act → World → Prop} {rest : List Oper} {S : List (Nat × Value)} {K : World → Prop} {L : List (Nat × TypeId × List Value)} {O : List Own} {X X' : List (World → Prop)} {w w' : World}
variable {d : Nat} {ty : TypeId} {pos : String} {aft : Array Edge}
theorem Mem.famed {g : Nat} {T : TypeId} {cs : List Value} (h : Mem c K L O X w) (hg : c.w0.heap.size ≤ g) (hb : Blk w g T cs) (hgr : w.grownBy w' (some g)) (hL : L.all (fun x => x.2.1 != T) = true) (hO : O.all (fun r => r.e != T) = true) (hX : ∀ A ∈ X', A w' ∧ Lasts2 c.w0.heap.size c.row c.Tt A) : Mem c K L O X' w' := by
  have hne : ∀ (k : Nat) (cs : Array Value) (T2 : TypeId), T2 ≠ T → w.heap[k]? = some (.cells cs T2 (0, 0)) → k ≠ g := fun k cs T2 h2 hk e => by
    subst e
    unfold Blk at hb
    rw [hb] at hk
    injection hk with hk
    injection hk with _ hk _
    exact h2 hk.symm
  refine ⟨grow_own h.g hgr (fun k e => by cases e; exact hg), h.kk.st _ _ _ hg hgr h.k, fun x hx => ⟨(h.b x hx).1, (h.b x hx).2.grown hgr (fun e => hne _ _ _ (by have := List.all_eq_true.1 hL x hx; simpa using this) (h.b x hx).2 (Option.some.inj e))⟩, h.nd, fun s hs => ?_, h.od, h.oo, fun A hA => (hX A hA).1, h.kk, fun A hA => (hX A hA).2, h.rs⟩
  refine (h.o s hs).kept hgr ?_
  cases hv : s.v.ownBlock with
  | none => exact .inl rfl
  | some k =>
    refine .inr (fun e => ?_)
    have e2 : k = g := by injection e
    rcases (h.o s hs).2 with ⟨hn, _⟩ | ⟨g', cap, cur, hn, _, hh, _⟩
    · rw [hn] at hv; cases hv
    · rw [hn] at hv
      have e3 : g' = k := by injection hv
      exact hne _ _ _ (by have := List.all_eq_true.1 hO s hs; simpa using this) hh (e3.trans e2)
/-- A block that a call has made is known from then on. -/
theorem Mem.gain {g : Nat} {T : TypeId} {cs : List Value} (h : Mem c K L O X w) (hgr : w.grownBy w' none) (hN : w.heap.size ≤ g) (hb : Blk w' g T cs) : Mem c K ((g, T, cs) :: L) O X w' := by
  have h2 := h.grow hgr
  refine ⟨h2.g, h2.k, fun x hx => ?_, List.Pairwise.cons (fun y hy e => by have h3 := (h.b y hy).2.lt; have e2 : g = y.1 := e; omega) h.nd, h2.o, fun r hr x hx => ?_, h.oo, h2.x, h.kk, h.l, h.rs⟩
  · rcases List.mem_cons.1 hx with rfl | hx
    · exact ⟨Nat.le_trans h.g.size hN, hb⟩
    · exact h2.b x hx
  · rcases List.mem_cons.1 hx with rfl | hx
    · intro e
      have := ((h.o r hr).lt g e).2
      omega
    · exact h.od r hr x hx
/-- A number of one of the blocks grows by a call. -/
theorem wl_famAdd {f : FuncId} {x : Operand} {ags : List Operand} {ats : Array TypeId} {vs fs cs : List Value} {T : TypeId} {p : PMap} {G : ByteArray → Int → Int} {k : ByteArray} {g : Nat} {j n : Int} (i : Nat) (hi : X[i]? = some (Fam T c.w0.heap.size p G)) (hp : p k = some (some g)) (hinj : Inj p) (hL : L.all (fun x => x.2.1 != T) = true) (hO : O.all (fun r => r.e != T) = true) (hT : c.Tt.contains T = true)
    (hx : rd S x = some (.func (.func f) fs.toArray cs.toArray)) (hf : callableB P f = true) (ha : evArgs S ags = some vs) (hd : Nat.ble (d + 1) c.n = true)
    (hC : ∀ w, Mem c K L O X w → Blk w g T (six (G k)) → Calls P f (fs ++ vs ++ cs).toArray w (fun e w' => e = .returned (.tuple #[]) ∧ Blk w' g T (six (fun i => if i = j then G k i + n else G k i)) ∧ w.grownBy w' (some g)))
    (hX : ∀ A ∈ X', (∀ w w', c.w0.heap.size ≤ g → w.grownBy w' (some g) → A w → A w') ∧ A ∈ X)
    (h : WL P c ops Q rest ((d, .tuple #[]) :: S) K L O (Fam T c.w0.heap.size p (gPut G k j n) :: X')) :
    WL P c ops Q (⟨some d, .call ⟨.value x, ags.toArray, ats⟩, ty, pos, aft, none⟩ :: rest) S K L O X :=
  wl_callG (γ := Unit) (val := fun _ => .tuple #[]) (φ := fun _ => True) (K' := fun _ => K) (L' := fun _ => L) (O' := fun _ => O) (X' := fun _ => Fam T c.w0.heap.size p (gPut G k j n) :: X') hx hf ha hd (fun w hm => by
    have hfam : Fam T c.w0.heap.size p G w := hm.fact i hi
    obtain ⟨hN, hb⟩ := hfam k g hp
    refine (hC w hm hb).mono fun e w' ⟨he, hb', hg⟩ => ⟨(), he, trivial, hm.famed hN hb hg hL hO fun A hA => ?_⟩
    rcases List.mem_cons.1 hA with rfl | hA
    · exact ⟨hfam.added hinj hp hb' hg, Fam.lasts2 hT⟩
    · exact ⟨(hX A hA).1 _ _ hN hg (hm.x A (hX A hA).2), hm.l A (hX A hA).2⟩) (fun _ _ => h)
/-- A new block, beside a family and two maps. -/
theorem wl_boxN {α β : Type} {enc1 : α → Value} {enc2 : β → Value} {f1 : ByteArray → Option α} {f2 : ByteArray → Option β} {m1 m2 M1 M2 M : Nat} {T : TypeId} {p : PMap} {G : ByteArray → Int → Int} {t : TypeId} {x : Operand} {v : Value} {cs : List Value} (i i1 i2 : Nat) (hi : X[i]? = some (Fam T M p G)) (hi1 : X[i1]? = some (MapF enc1 M1 m1 f1)) (hi2 : X[i2]? = some (MapF enc2 M2 m2 f2)) (hx : rd S x = some v) (hcs : v.cells = cs.toArray) (hd : Nat.ble (d + 1) c.n = true)
    (h : ∀ g, (∀ k, p k ≠ some (some g)) → g ≠ m1 → g ≠ m2 → WL P c ops Q rest ((d, .pointer (some ⟨g, 0, none⟩)) :: S) K ((g, t, cs) :: L) O X) : WL P c ops Q (⟨some d, .box t x, ty, pos, aft, none⟩ :: rest) S K L O X := by
  intro a w ha hm
  refine wpList_plain rfl fun K' hK => ?_
  unfold Oper.wp
  have : (execOp a.eval ⟨some d, .box t x, ty, pos, aft, none⟩).run P w = .ok (.value (.pointer (some ⟨w.heap.size, 0, none⟩))) (w.alloc (.cells cs.toArray t)) := by
    simp [execOp, ha.eval hx, Instr.box, newVar, newRow, hcs]
  rw [this]
  have h1 : m1 < w.heap.size := MapF.lt (hm.fact i1 hi1)
  have h2 : m2 < w.heap.size := MapF.lt (hm.fact i2 hi2)
  have h3 : Fam T M p G w := hm.fact i hi
  exact hK _ _ (h w.heap.size (fun k e => by have := (h3 k _ e).2.lt; omega) (by omega) (by omega) _ _ (ha.put hd _) (hm.new t cs))
/-- .. comes into the family. -/
theorem nx_fam {e : Exit} {T : TypeId} {p : PMap} {G : ByteArray → Int → Int} {g : Nat} {k : ByteArray} (i j : Nat) (hi : L[i]? = some (g, T, six (G k))) (hj : X[j]? = some (Fam T c.w0.heap.size p G)) (hT : c.Tt.contains T = true) (h : Nx c Q e S K L O (Fam T c.w0.heap.size (fPut p k (some g)) G :: X)) : Nx c Q e S K L O X := fun a w ha hm =>
  h a w ha (hm.also (Fam.lasts2 hT) ((show Fam T c.w0.heap.size p G w from hm.fact j hj).put (hm.b _ (List.mem_of_getElem? hi)).1 (hm.b _ (List.mem_of_getElem? hi)).2))
theorem gw_famNil {code : Code} {T : TypeId} {G : ByteArray → Int → Int} (hT : c.Tt.contains T = true) (h : Gw P c Q code S K L O (Fam T c.w0.heap.size fNil G :: X)) : Gw P c Q code S K L O X := fun a w ha hm =>
  h a w ha (hm.also (Fam.lasts2 hT) (fun _ _ hk => by cases hk))
end
end Go.Proofs.YtdoooppeiphefaaGreatDoor
namespace Go.Proofs.YtdoooppeiphefaaGreatDoor
open Go.RowKit
theorem b_ne_selfL (a : ByteArray) : (!(a.toList == a.toList)) = false := by simp
theorem nanL (a : ByteArray) (w : World) : Calls Tryz.prog 224 #[.string a] w (fun e w' => e = .returned (.bool false) ∧ w.grownBy w' none) := by
 refine gw_enter ⟨6, w, none, []⟩ Tryz.func224 rfl Tryz.ntmps224 rfl (mem0 (X := []) allF_nil allL_nil) ?_
 refine sr_ (sg_ rfl (nn_ (sr_ (mv_ rfl (mv_ rfl (wl_ov (ov_sneq rfl rfl) rfl ?_))))))
 refine wl_set 5 (v' := .bool false) rfl (congrArg Value.bool (b_ne_selfL a)) ?_
 refine sg_ rfl (nn_ ?_)
 refine gw_ret ?_
 refine nx_ret1 rfl rfl fun wx hm => ?_
 exact ⟨rfl, hm.g⟩
theorem cmpL (a b : ByteArray) (w : World) : Calls Tryz.prog 120 #[.string a, .string b] w (fun e w' => e = .returned (.int .i64 (cmpS a b)) ∧ w.grownBy w' none) := by
 refine gw_enter ⟨20, w, none, []⟩ Tryz.func120 rfl Tryz.ntmps120 rfl (mem0 (X := []) allF_nil allL_nil) ?_
 refine sr_ (sg_ rfl (nn_ (sr_ (mv_ rfl ?_))))
 refine wl_callv rfl cb224 rfl rfl (fun wx hm => (nanL _ wx)) ?_
 refine sg_ rfl (nn_ (sr_ (mv_ rfl ?_)))
 refine wl_callv rfl cb224 rfl rfl (fun wx hm => (nanL _ wx)) ?_
 refine sg_ rfl (nn_ (gw_seq (sr_ (mv_ rfl (nn_ (cf_ rfl (gw_skip (nx_then (gw_seq (gw_seq ?_))))))))))
 refine gw_region (mv_ rfl (nn_ (cf_ rfl (gw_skip (nx_then (gw_seq (sr_ (mv_ rfl (mv_ rfl ?_)))))))))
 refine wl_ov (ov_slss rfl rfl) rfl ?_
 refine nn_ ?_
 refine gw_cond rfl (fun hh => ?_) (fun hh => ?_)
 ·have h1 : (Op.bytesLess a.toList b.toList) = true := by simpa using hh
  clear hh
  refine sr_ (sg_ rfl ?_)
  refine wl_set 4 (v' := .int .i64 (-1)) rfl rfl ?_
  refine nn_ ?_
  refine gw_ret ?_
  refine nx_then_ret ?_
  refine nx_ret1 rfl rfl fun wx hm => ?_
  refine ⟨?_, hm.g⟩
  unfold cmpS; rw [if_pos h1]
 have h1 : (Op.bytesLess a.toList b.toList) = false := by simpa using hh
 clear hh
 refine gw_skip (nx_then (gw_seq (sr_ (mv_ rfl (mv_ rfl ?_)))))
 refine wl_ov (ov_sgtr rfl rfl) rfl ?_
 refine nn_ ?_
 refine gw_cond rfl (fun hh => ?_) (fun hh => ?_)
 ·have h2 : (Op.bytesLess a.toList b.toList || a.toList == b.toList) = false := by simpa only [Bool.not_eq_true', Bool.not_eq_false'] using hh
  clear hh
  refine sr_ (sg_ rfl (nn_ ?_))
  refine gw_ret ?_
  refine nx_then_ret ?_
  refine nx_ret1 rfl rfl fun wx hm => ?_
  refine ⟨?_, hm.g⟩
  unfold cmpS; rw [if_neg (by rw [h1]; decide), if_pos h2]
 have h2 : (Op.bytesLess a.toList b.toList || a.toList == b.toList) = true := by simpa only [Bool.not_eq_true', Bool.not_eq_false'] using hh
 clear hh
 refine gw_skip (nx_then (sr_ (sg_ rfl (nn_ ?_))))
 refine gw_ret ?_
 refine nx_ret1 rfl rfl fun wx hm => ?_
 refine ⟨?_, hm.g⟩
 unfold cmpS; rw [if_neg (by rw [h1]; decide), if_neg (by rw [h2]; decide)]
theorem hasL1 (gk : Nat) (w : World) (hk : Blk w gk 9 [.string ⟨#[115]⟩]) : Calls Tryz.prog 296 #[.agg #[.string ⟨#[115]⟩, .int .i64 0, .int .i64 0, .int .i64 0, .int .i64 0, .int .i64 0, .int .i64 0, .int .i64 0, .int .i64 0, .int .i64 0, .int .i64 0, .int .i64 0, .int .i64 0, .int .i64 0, .int .i64 0], .pointer (some ⟨gk, 0, none⟩)] w (fun e w' => e = .returned (.bool true) ∧ w.grownBy w' none) := by
 refine gw_enter ⟨8, w, none, []⟩ Tryz.func296 rfl Tryz.ntmps296 rfl (mem0 (X := [BlkOld w.heap.size none gk 9 [.string ⟨#[115]⟩]]) (allF_cons hk.old allF_nil) (allL_cons BlkOld.lasts allL_nil)) ?_
 refine sr_ ?_
 refine wl_box rfl rfl rfl fun g1 => ?_
 refine sg_ rfl (nn_ (sr_ (fd_ fo156_0 rfl rfl (lk_ sc9 0 rfl rfl rfl ?_))))
 refine wl_ov (ov_load (v := .string ⟨#[115]⟩) sc9 rfl (fun _ hm => (hm.fact 0 rfl).2) rfl) rfl ?_
 refine wl_ov (ov_seql rfl rfl) rfl ?_
 refine wl_set 7 (v' := .bool true) rfl (congrArg Value.bool (by decide +kernel)) ?_
 refine sg_ rfl (nn_ ?_)
 refine gw_ret ?_
 refine nx_ret1 rfl rfl fun wx hm => ?_
 exact ⟨rfl, hm.g⟩
theorem ixL (gs : Nat) (gk : Nat) (w : World) (hbs : Blk w gs 156 [.string ⟨#[115]⟩, .int .i64 0, .int .i64 0, .int .i64 0, .int .i64 0, .int .i64 0, .int .i64 0, .int .i64 0, .int .i64 0, .int .i64 0, .int .i64 0, .int .i64 0, .int .i64 0, .int .i64 0, .int .i64 0]) (hk : Blk w gk 9 [.string ⟨#[115]⟩]) : Calls Tryz.prog 186 #[.slice (some ⟨gs, 0, none⟩) 1 1, .func (.func 296) #[] #[.pointer (some ⟨gk, 0, none⟩)]] w (fun e w' => e = .returned (.int .i64 0) ∧ w.grownBy w' none) := by
 refine gw_enter ⟨19, w, none, []⟩ Tryz.func186 rfl Tryz.ntmps186 rfl (mem0 (X := [BlkOld w.heap.size none gs 156 [.string ⟨#[115]⟩, .int .i64 0, .int .i64 0, .int .i64 0, .int .i64 0, .int .i64 0, .int .i64 0, .int .i64 0, .int .i64 0, .int .i64 0, .int .i64 0, .int .i64 0, .int .i64 0, .int .i64 0, .int .i64 0], BlkOld w.heap.size none gk 9 [.string ⟨#[115]⟩]]) (allF_cons hbs.old (allF_cons hk.old allF_nil)) (allL_cons BlkOld.lasts (allL_cons BlkOld.lasts allL_nil))) ?_
 refine sr_ (sg_ rfl (nn_ (gw_seq (sr_ (mv_ rfl (wl_ov (ov_len es26 rfl) rfl ?_))))))
 refine wl_set 7 (v' := .int .i64 1) rfl rfl ?_
 refine mv_ rfl (nn_ (gw_block ?_))
 refine gw_rounds 4 ?_
 refine gr_next ?_
 refine sr_ (wl_ov (ov_lss rfl rfl) rfl ?_)
 refine wl_set 9 (v' := .bool true) rfl (congrArg Value.bool (by decide)) ?_
 refine nn_ (gw_seq (ct_ rfl (gw_skip (nx_then (gw_seq (gw_block (sr_ (mv_ rfl (sg_ rfl (nn_ ?_))))))))))
 refine sr_ (mv_ rfl (mv_ rfl (mv_ rfl ?_)))
 refine wl_ov (ov_index (j := 0) es26 rfl rfl (by decide)) rfl ?_
 refine wl_ov (ov_loads (vs := [.string ⟨#[115]⟩, .int .i64 0, .int .i64 0, .int .i64 0, .int .i64 0, .int .i64 0, .int .i64 0, .int .i64 0, .int .i64 0, .int .i64 0, .int .i64 0, .int .i64 0, .int .i64 0, .int .i64 0, .int .i64 0]) rz156 rfl (fun _ hm => (hm.fact 0 rfl).2) rfl rfl) rfl ?_
 refine wl_callv rfl cb296 rfl rfl (fun wx hm => (hasL1 gk wx (hm.fact 1 rfl).2)) ?_
 refine nn_ (ct_ rfl (sr_ (mv_ rfl (sg_ rfl (nn_ ?_)))))
 refine gw_ret ?_
 refine nx_blk_ret (nx_then_ret (nx_then_ret (nx_blk_ret (nx_then_ret ?_))))
 refine nx_ret1 rfl rfl fun wx hm => ?_
 exact ⟨rfl, hm.g⟩
theorem cfL (gs : Nat) (gk : Nat) (w : World) (hbs : Blk w gs 156 [.string ⟨#[115]⟩, .int .i64 0, .int .i64 0, .int .i64 0, .int .i64 0, .int .i64 0, .int .i64 0, .int .i64 0, .int .i64 0, .int .i64 0, .int .i64 0, .int .i64 0, .int .i64 0, .int .i64 0, .int .i64 0]) (hk : Blk w gk 9 [.string ⟨#[115]⟩]) : Calls Tryz.prog 295 #[.slice (some ⟨gs, 0, none⟩) 1 1, .func (.func 296) #[] #[.pointer (some ⟨gk, 0, none⟩)]] w (fun e w' => e = .returned (.bool true) ∧ w.grownBy w' none) := by
 refine gw_enter ⟨9, w, none, []⟩ Tryz.func295 rfl Tryz.ntmps295 rfl (mem0 (X := [BlkOld w.heap.size none gs 156 [.string ⟨#[115]⟩, .int .i64 0, .int .i64 0, .int .i64 0, .int .i64 0, .int .i64 0, .int .i64 0, .int .i64 0, .int .i64 0, .int .i64 0, .int .i64 0, .int .i64 0, .int .i64 0, .int .i64 0, .int .i64 0], BlkOld w.heap.size none gk 9 [.string ⟨#[115]⟩]]) (allF_cons hbs.old (allF_cons hk.old allF_nil)) (allL_cons BlkOld.lasts (allL_cons BlkOld.lasts allL_nil))) ?_
 refine sr_ (sg_ rfl (nn_ (sr_ (mv_ rfl (mv_ rfl ?_)))))
 refine wl_callv rfl cb186 rfl rfl (fun wx hm => (ixL gs gk wx (hm.fact 0 rfl).2 (hm.fact 1 rfl).2)) ?_
 refine wl_ov (ov_geq rfl rfl) rfl ?_
 refine wl_set 8 (v' := .bool true) rfl (congrArg Value.bool (by decide)) ?_
 refine sg_ rfl (nn_ ?_)
 refine gw_ret ?_
 refine nx_ret1 rfl rfl fun wx hm => ?_
 exact ⟨rfl, hm.g⟩
theorem hasStL (gs : Nat) (gc : Nat) (gv : Nat) (w : World) (hbs : Blk w gs 156 [.string ⟨#[115]⟩, .int .i64 0, .int .i64 0, .int .i64 0, .int .i64 0, .int .i64 0, .int .i64 0, .int .i64 0, .int .i64 0, .int .i64 0, .int .i64 0, .int .i64 0, .int .i64 0, .int .i64 0, .int .i64 0]) (hbc : Blk w gc 158 [.string ⟨#[99]⟩, .string ⟨#[]⟩]) (hbv : Blk w gv 69 [.string ⟨#[118]⟩, .string ⟨#[99]⟩]) : Calls Tryz.prog 230 #[.agg #[.slice (some ⟨gs, 0, none⟩) 1 1, .slice (some ⟨gc, 0, none⟩) 1 1, .slice (some ⟨gv, 0, none⟩) 1 1, .slice none 0 0], .string ⟨#[115]⟩] w (fun e w' => e = .returned (.bool true) ∧ w.grownBy w' none) := by
 refine gw_enter ⟨9, w, none, []⟩ Tryz.func230 rfl Tryz.ntmps230 rfl (mem0 (X := [BlkOld w.heap.size none gs 156 [.string ⟨#[115]⟩, .int .i64 0, .int .i64 0, .int .i64 0, .int .i64 0, .int .i64 0, .int .i64 0, .int .i64 0, .int .i64 0, .int .i64 0, .int .i64 0, .int .i64 0, .int .i64 0, .int .i64 0, .int .i64 0], BlkOld w.heap.size none gc 158 [.string ⟨#[99]⟩, .string ⟨#[]⟩], BlkOld w.heap.size none gv 69 [.string ⟨#[118]⟩, .string ⟨#[99]⟩]]) (allF_cons hbs.old (allF_cons hbc.old (allF_cons hbv.old allF_nil))) (allL_cons BlkOld.lasts (allL_cons BlkOld.lasts (allL_cons BlkOld.lasts allL_nil)))) ?_
 refine sr_ ?_
 refine wl_box rfl rfl rfl fun g1 => ?_
 refine wl_box rfl rfl rfl fun g2 => ?_
 refine sg_ rfl (nn_ (sr_ (fd_ fo31_0 rfl rfl (lk_ sc26 1 rfl rfl rfl (wl_ov (ov_makeFunc rfl rfl) rfl ?_)))))
 refine wl_callv rfl cb295 rfl rfl (fun wx hm => (cfL gs _ wx (hm.fact 0 rfl).2 (hm.blkI 0 rfl))) ?_
 refine sg_ rfl (nn_ ?_)
 refine gw_ret ?_
 refine nx_ret1 rfl rfl fun wx hm => ?_
 exact ⟨rfl, hm.g⟩
theorem vL1 (w : World) : Calls Tryz.prog 168 #[.agg #[.string ⟨#[118]⟩, .string ⟨#[99]⟩], .string ⟨#[118]⟩] w (fun e w' => e = .returned (.int .i64 0) ∧ w.grownBy w' none) := by
 refine gw_enter ⟨9, w, none, []⟩ Tryz.func168 rfl Tryz.ntmps168 rfl (mem0 (X := []) allF_nil allL_nil) ?_
 refine sr_ ?_
 refine wl_box rfl rfl rfl fun g1 => ?_
 refine sg_ rfl (nn_ (sr_ (fd_ fo69_0 rfl rfl (lk_ sc9 0 rfl rfl rfl (mv_ rfl ?_)))))
 refine wl_callv (v := .int .i64 0) rfl cb120 rfl rfl (fun wx hm => (by have h := cmpL ⟨#[118]⟩ ⟨#[118]⟩ wx; rw [show cmpS ⟨#[118]⟩ ⟨#[118]⟩ = 0 by decide +kernel] at h; exact h)) ?_
 refine sg_ rfl (nn_ ?_)
 refine gw_ret ?_
 refine nx_ret1 rfl rfl fun wx hm => ?_
 exact ⟨rfl, hm.g⟩
theorem bsL (gv : Nat) (w : World) (hbv : Blk w gv 69 [.string ⟨#[118]⟩, .string ⟨#[99]⟩]) : Calls Tryz.prog 167 #[.slice (some ⟨gv, 0, none⟩) 1 1, .string ⟨#[118]⟩, .func (.func 168) #[] #[]] w (fun e w' => e = .returned (.tuple #[.int .i64 0, .bool true]) ∧ w.grownBy w' none) := by
 refine gw_enter ⟨49, w, none, []⟩ Tryz.func167 rfl Tryz.ntmps167 rfl (mem0 (X := [BlkOld w.heap.size none gv 69 [.string ⟨#[118]⟩, .string ⟨#[99]⟩]]) (allF_cons hbv.old allF_nil) (allL_cons BlkOld.lasts allL_nil)) ?_
 refine sr_ (sg_ rfl (sg_ rfl (nn_ (sr_ (mv_ rfl (wl_ov (ov_len es28 rfl) rfl ?_))))))
 refine wl_set 13 (v' := .int .i64 1) rfl rfl ?_
 refine sg_ rfl (nn_ (sr_ (mv_ rfl (sg_ rfl (sg_ rfl (nn_ (gw_seq (gw_block ?_))))))))
 refine gw_rounds 4 ?_
 refine gr_next ?_
 refine gw_seq (sr_ (mv_ rfl (mv_ rfl (wl_ov (ov_lss rfl rfl) rfl ?_))))
 refine wl_set 17 (v' := .bool true) rfl (congrArg Value.bool (by decide)) ?_
 refine nn_ (ct_ rfl (gw_skip (nx_then (gw_block (sr_ (mv_ rfl (mv_ rfl (ad_ rfl rfl ?_))))))))
 refine wl_set 20 (v' := .int .i64 1) rfl rfl ?_
 refine wl_ov (ov_u64 (a := 1) (by kernel_rfl) (by kernel_rfl) rfl (by omega)) rfl ?_
 refine wl_ov (ov_shru1 (a := 1) rfl rfl) rfl ?_
 refine wl_ov (ov_i64 (a := 1 / 2) (by kernel_rfl) (by kernel_rfl) rfl (by omega)) rfl ?_
 refine wl_set 23 (v' := .int .i64 0) rfl rfl ?_
 refine sg_ rfl (nn_ (sr_ (mv_ rfl (mv_ rfl (mv_ rfl ?_)))))
 refine wl_ov (ov_index (j := 0) es28 rfl rfl (by decide)) rfl ?_
 refine wl_ov (ov_loads (vs := [.string ⟨#[118]⟩, .string ⟨#[99]⟩]) rz69 rfl (fun _ hm => (hm.fact 0 rfl).2) rfl rfl) rfl ?_
 refine mv_ rfl ?_
 refine wl_callv rfl cb168 rfl rfl (fun wx hm => (vL1 wx)) ?_
 refine wl_ov (ov_lss rfl rfl) rfl ?_
 refine wl_set 31 (v' := .bool false) rfl (congrArg Value.bool (by decide)) ?_
 refine nn_ (cf_ rfl (gw_region (mv_ rfl (sg_ rfl (wl_nil (nx_blk_nrm ?_))))))
 refine nx_next ?_
 refine gr_next ?_
 refine gw_seq (sr_ (mv_ rfl (mv_ rfl (wl_ov (ov_lss rfl rfl) rfl ?_))))
 refine wl_set 17 (v' := .bool false) rfl (congrArg Value.bool (by decide)) ?_
 refine nn_ (cf_ rfl ?_)
 refine gw_exit ?_
 refine nx_then_exit (nx_then_exit ?_)
 refine nx_blk_here ?_
 refine nx_then (sr_ (mv_ rfl (mv_ rfl (mv_ rfl (wl_ov (ov_lss rfl rfl) rfl ?_)))))
 refine wl_set 38 (v' := .bool true) rfl (congrArg Value.bool (by decide)) ?_
 refine mv_ rfl (wl_guard_on rfl rfl rfl (mv_ rfl (wl_guard_on rfl rfl rfl (mv_ rfl (wl_guard_on rfl rfl rfl (mv_ rfl (wl_guard_on rfl rfl rfl ?_)))))))
 refine wl_ov (ov_index (j := 0) es28 rfl rfl (by decide)) rfl ?_
 refine wl_guard_on rfl rfl rfl ?_
 refine wl_ov (ov_loads (vs := [.string ⟨#[118]⟩, .string ⟨#[99]⟩]) rz69 rfl (fun _ hm => (hm.fact 0 rfl).2) rfl rfl) rfl ?_
 refine wl_guard_on rfl rfl rfl (mv_ rfl (wl_guard_on rfl rfl rfl ?_))
 refine wl_callv rfl cb168 rfl rfl (fun wx hm => (vL1 wx)) ?_
 refine wl_guard_on rfl rfl rfl (wl_ov (ov_eql rfl rfl) rfl ?_)
 refine wl_set 47 (v' := .bool true) rfl (congrArg Value.bool (by decide)) ?_
 refine pt_ rfl rfl (sg_ rfl (sg_ rfl (nn_ ?_)))
 refine gw_ret ?_
 refine nx_ret2 rfl rfl rfl fun wx hm => ?_
 exact ⟨rfl, hm.g⟩
theorem vehL (gs : Nat) (gc : Nat) (gv : Nat) (w : World) (hbs : Blk w gs 156 [.string ⟨#[115]⟩, .int .i64 0, .int .i64 0, .int .i64 0, .int .i64 0, .int .i64 0, .int .i64 0, .int .i64 0, .int .i64 0, .int .i64 0, .int .i64 0, .int .i64 0, .int .i64 0, .int .i64 0, .int .i64 0]) (hbc : Blk w gc 158 [.string ⟨#[99]⟩, .string ⟨#[]⟩]) (hbv : Blk w gv 69 [.string ⟨#[118]⟩, .string ⟨#[99]⟩]) : Calls Tryz.prog 68 #[.agg #[.slice (some ⟨gs, 0, none⟩) 1 1, .slice (some ⟨gc, 0, none⟩) 1 1, .slice (some ⟨gv, 0, none⟩) 1 1, .slice none 0 0], .string ⟨#[118]⟩] w (fun e w' => e = .returned (.int .i64 0) ∧ w.grownBy w' none) := by
 refine gw_enter ⟨17, w, none, []⟩ Tryz.func68 rfl Tryz.ntmps68 rfl (mem0 (X := [BlkOld w.heap.size none gs 156 [.string ⟨#[115]⟩, .int .i64 0, .int .i64 0, .int .i64 0, .int .i64 0, .int .i64 0, .int .i64 0, .int .i64 0, .int .i64 0, .int .i64 0, .int .i64 0, .int .i64 0, .int .i64 0, .int .i64 0, .int .i64 0], BlkOld w.heap.size none gc 158 [.string ⟨#[99]⟩, .string ⟨#[]⟩], BlkOld w.heap.size none gv 69 [.string ⟨#[118]⟩, .string ⟨#[99]⟩]]) (allF_cons hbs.old (allF_cons hbc.old (allF_cons hbv.old allF_nil))) (allL_cons BlkOld.lasts (allL_cons BlkOld.lasts (allL_cons BlkOld.lasts allL_nil)))) ?_
 refine sr_ ?_
 refine wl_box rfl rfl rfl fun g1 => ?_
 refine sg_ rfl (nn_ (sr_ (fd_ fo31_2 rfl rfl (lk_ sc28 0 rfl rfl rfl (mv_ rfl ?_)))))
 refine wl_callv rfl cb167 rfl rfl (fun wx hm => (bsL gv wx (hm.fact 2 rfl).2)) ?_
 refine mv_ rfl (wl_ov (ov_extract rfl rfl) rfl (wl_ov (ov_extract rfl rfl) rfl (sg_ rfl (sg_ rfl (nn_ (gw_seq (sr_ (mv_ rfl (wl_ov (ov_un_not rfl) rfl ?_)))))))))
 refine wl_set 15 (v' := .bool false) rfl (congrArg Value.bool (by decide)) ?_
 refine nn_ (cf_ rfl (gw_skip (nx_then (sr_ (mv_ rfl (sg_ rfl (nn_ ?_)))))))
 refine gw_ret ?_
 refine nx_ret1 rfl rfl fun wx hm => ?_
 exact ⟨rfl, hm.g⟩
theorem oneS_ok : ∀ x ∈ [(⟨⟨#[115]⟩, [0, 0, 0, 0, 0, 0, 0, 0, 0, 0, 0, 0, 0, 0]⟩ : St)], StOk x := fun x hx => by
  rw [List.mem_singleton.1 hx]; exact ⟨rfl, by decide, by decide⟩
theorem oneC_ok : ∀ x ∈ [(⟨⟨#[99]⟩, ⟨#[]⟩⟩ : Cs)], CsOk x := fun x hx => by
  rw [List.mem_singleton.1 hx]; exact ⟨by decide, by decide⟩
theorem oneS_zero : stationsE [(⟨⟨#[115]⟩, [0, 0, 0, 0, 0, 0, 0, 0, 0, 0, 0, 0, 0, 0]⟩ : St)] = 0 := by decide +kernel
theorem oneC_zero : classesE [(⟨⟨#[99]⟩, ⟨#[]⟩⟩ : Cs)] = 0 := by decide +kernel
theorem oneC_ix : ixP (csP ⟨#[99]⟩) [(⟨⟨#[99]⟩, ⟨#[]⟩⟩ : Cs)] 0 = 0 := by decide +kernel
theorem slS {w : World} {g : Nat} (h : Blk w g 156 [.string ⟨#[115]⟩, .int .i64 0, .int .i64 0, .int .i64 0, .int .i64 0, .int .i64 0, .int .i64 0, .int .i64 0, .int .i64 0, .int .i64 0, .int .i64 0, .int .i64 0, .int .i64 0, .int .i64 0, .int .i64 0]) : SlT stEnc 15 156 w (some ⟨g, 0, none⟩) 1 [(⟨⟨#[115]⟩, [0, 0, 0, 0, 0, 0, 0, 0, 0, 0, 0, 0, 0, 0]⟩ : St)] := ⟨rfl, fun _ => ⟨g, 0, _, _, rfl, h, fun i x hx j v hv => by
  match i, hx with
  | 0, hx =>
    simp only [List.getElem?_cons_zero, Option.some.injEq] at hx
    subst hx
    rw [show 0 + 0 * 15 + j = j by omega, List.getElem?_toArray]; exact hv
  | i + 1, hx => simp at hx⟩⟩
theorem platesL (gs : Nat) (gc : Nat) (gv : Nat) (w : World) (hbs : Blk w gs 156 [.string ⟨#[115]⟩, .int .i64 0, .int .i64 0, .int .i64 0, .int .i64 0, .int .i64 0, .int .i64 0, .int .i64 0, .int .i64 0, .int .i64 0, .int .i64 0, .int .i64 0, .int .i64 0, .int .i64 0, .int .i64 0]) (hbc : Blk w gc 158 [.string ⟨#[99]⟩, .string ⟨#[]⟩]) (hbv : Blk w gv 69 [.string ⟨#[118]⟩, .string ⟨#[99]⟩]) : Calls Tryz.prog 228 #[.agg #[.slice (some ⟨gs, 0, none⟩) 1 1, .slice (some ⟨gc, 0, none⟩) 1 1, .slice (some ⟨gv, 0, none⟩) 1 1, .slice none 0 0]] w (fun e w' => e = .returned (.int .i64 0) ∧ w.grownBy w' none) := by
 refine gw_enter ⟨97, w, none, []⟩ Tryz.func228 rfl Tryz.ntmps228 rfl (mem0 (X := [BlkOld w.heap.size none gs 156 [.string ⟨#[115]⟩, .int .i64 0, .int .i64 0, .int .i64 0, .int .i64 0, .int .i64 0, .int .i64 0, .int .i64 0, .int .i64 0, .int .i64 0, .int .i64 0, .int .i64 0, .int .i64 0, .int .i64 0, .int .i64 0], BlkOld w.heap.size none gc 158 [.string ⟨#[99]⟩, .string ⟨#[]⟩], BlkOld w.heap.size none gv 69 [.string ⟨#[118]⟩, .string ⟨#[99]⟩]]) (allF_cons hbs.old (allF_cons hbc.old (allF_cons hbv.old allF_nil))) (allL_cons BlkOld.lasts (allL_cons BlkOld.lasts (allL_cons BlkOld.lasts allL_nil)))) ?_
 refine sr_ ?_
 refine wl_box rfl rfl rfl fun g1 => ?_
 refine sg_ rfl (nn_ (gw_seq (sr_ (fd_ fo31_3 rfl rfl (lk_ sc29 0 rfl rfl rfl (wl_ov (ov_len es29 rfl) rfl ?_))))))
 refine wl_set 10 (v' := .int .i64 0) rfl rfl ?_
 refine wl_ov (ov_gtr rfl rfl) rfl ?_
 refine wl_set 11 (v' := .bool false) rfl (congrArg Value.bool (by decide)) ?_
 refine nn_ (cf_ rfl (gw_skip (nx_then (gw_seq (sr_ (fd_ fo31_3 rfl rfl (lk_ sc29 0 rfl rfl rfl (wl_ov (ov_len es29 rfl) rfl ?_))))))))
 refine wl_set 14 (v' := .int .i64 0) rfl rfl ?_
 refine mv_ rfl (nn_ (gw_block ?_))
 refine gw_rounds 4 ?_
 refine gr_next ?_
 refine sr_ (wl_ov (ov_lss rfl rfl) rfl ?_)
 refine wl_set 16 (v' := .bool false) rfl (congrArg Value.bool (by decide)) ?_
 refine nn_ (gw_seq (cf_ rfl ?_))
 refine gw_exit ?_
 refine nx_then_exit (nx_then_exit ?_)
 refine nx_blk_here ?_
 refine nx_then (sr_ (sg_ rfl (nn_ ?_)))
 refine gw_ret ?_
 refine nx_ret1 rfl rfl fun wx hm => ?_
 exact ⟨rfl, hm.g⟩
theorem fleetL (gs : Nat) (gc : Nat) (gv : Nat) (w : World) (hbs : Blk w gs 156 [.string ⟨#[115]⟩, .int .i64 0, .int .i64 0, .int .i64 0, .int .i64 0, .int .i64 0, .int .i64 0, .int .i64 0, .int .i64 0, .int .i64 0, .int .i64 0, .int .i64 0, .int .i64 0, .int .i64 0, .int .i64 0]) (hbc : Blk w gc 158 [.string ⟨#[99]⟩, .string ⟨#[]⟩]) (hbv : Blk w gv 69 [.string ⟨#[118]⟩, .string ⟨#[99]⟩]) : Calls Tryz.prog 121 #[.agg #[.slice (some ⟨gs, 0, none⟩) 1 1, .slice (some ⟨gc, 0, none⟩) 1 1, .slice (some ⟨gv, 0, none⟩) 1 1, .slice none 0 0]] w (fun e w' => e = .returned (.int .i64 0) ∧ w.grownBy w' none) := by
 refine gw_enter ⟨60, w, none, []⟩ Tryz.func121 rfl Tryz.ntmps121 rfl (mem0 (X := [BlkOld w.heap.size none gs 156 [.string ⟨#[115]⟩, .int .i64 0, .int .i64 0, .int .i64 0, .int .i64 0, .int .i64 0, .int .i64 0, .int .i64 0, .int .i64 0, .int .i64 0, .int .i64 0, .int .i64 0, .int .i64 0, .int .i64 0, .int .i64 0], BlkOld w.heap.size none gc 158 [.string ⟨#[99]⟩, .string ⟨#[]⟩], BlkOld w.heap.size none gv 69 [.string ⟨#[118]⟩, .string ⟨#[99]⟩]]) (allF_cons hbs.old (allF_cons hbc.old (allF_cons hbv.old allF_nil))) (allL_cons BlkOld.lasts (allL_cons BlkOld.lasts (allL_cons BlkOld.lasts allL_nil)))) ?_
 refine sr_ ?_
 refine wl_box rfl rfl rfl fun g1 => ?_
 refine sg_ rfl (nn_ (gw_seq (gw_seq ?_)))
 refine gd (fun wz => Blk wz g1 31 [.slice (some ⟨gs, 0, none⟩) 1 1, .slice (some ⟨gc, 0, none⟩) 1 1, .slice (some ⟨gv, 0, none⟩) 1 1, .slice none 0 0] ∧ (BlkOld w.heap.size none gs 156 [.string ⟨#[115]⟩, .int .i64 0, .int .i64 0, .int .i64 0, .int .i64 0, .int .i64 0, .int .i64 0, .int .i64 0, .int .i64 0, .int .i64 0, .int .i64 0, .int .i64 0, .int .i64 0, .int .i64 0, .int .i64 0]) wz ∧ (BlkOld w.heap.size none gc 158 [.string ⟨#[99]⟩, .string ⟨#[]⟩]) wz ∧ (BlkOld w.heap.size none gv 69 [.string ⟨#[118]⟩, .string ⟨#[99]⟩]) wz ∧ True) mixed (fun _ hm => ⟨hm.bl 0, hm.fa 0, hm.fa 1, hm.fa 2, trivial⟩) fun z => ?_
 refine wt 0 14 1 rfl z (ov_field fo31_0 rfl rfl) ?_
 refine wt 1 14 3 rfl z (ov_load sc26 rfl (fun _ hm => hm.1) rfl) ?_
 refine wt 3 14 11 rfl z (ov_field fo31_1 rfl rfl) ?_
 refine wt 4 14 27 rfl z (ov_load sc27 rfl (fun _ hm => hm.1) rfl) ?_
 refine wt 6 14 91 rfl z (ov_field fo31_2 rfl rfl) ?_
 refine wt 7 14 219 rfl z (ov_load sc28 rfl (fun _ hm => hm.1) rfl) ?_
 refine wt 8 14 475 rfl z (ov_len es28 rfl) ?_
 refine wa_set 14 (v' := .int .i64 1) rfl rfl ?_
 refine wt 9 14 987 rfl z (ov_gtr rfl rfl) ?_
 refine wa_set 15 (v' := .bool false) rfl (congrArg Value.bool (by decide)) ?_
 refine wa1 2 rfl ?_
 refine wl_callv (v := .int .i64 0) rfl cb225 rfl rfl (fun wx hm => (by have h := checkStations_any [(⟨⟨#[115]⟩, [0, 0, 0, 0, 0, 0, 0, 0, 0, 0, 0, 0, 0, 0]⟩ : St)] _ 1 1 wx (slS (hm.fact 0 rfl).2) oneS_ok (by omega); rw [oneS_zero] at h; exact h)) ?_
 refine wl_nil ?_
 refine nw 14 991 (fun _ hm => ⟨hm.bl 0, hm.fa 0, hm.fa 1, hm.fa 2, trivial⟩) fun z => ?_
 refine wa1 5 rfl ?_
 refine wl_callv (v := .int .i64 0) rfl cb226 rfl rfl (fun wx hm => (by have h := checkClasses_any [(⟨⟨#[99]⟩, ⟨#[]⟩⟩ : Cs)] _ 1 1 wx (SlT.ofBlk (l := [(⟨⟨#[99]⟩, ⟨#[]⟩⟩ : Cs)]) cs_len (hm.fact 1 rfl).2) oneC_ok (by omega); rw [oneC_zero] at h; exact h)) ?_
 refine wl_nil ?_
 refine nw 14 1023 (fun _ hm => ⟨hm.bl 0, hm.fa 0, hm.fa 1, hm.fa 2, trivial⟩) fun z => ?_
 refine wa1 10 rfl ?_
 refine wl_callw (v := .int .i64 0) rfl cb67 rfl rfl (fun wx hm => (by have h := when_any false 2 wx; rw [show whenE false 2 = 0 by decide +kernel] at h; exact h)) ?_
 refine wl_nil ?_
 refine nw 14 2047 (fun _ hm => ⟨hm.bl 0, hm.fa 0, hm.fa 1, hm.fa 2, trivial⟩) fun z => ?_
 refine wa1 11 rfl ?_
 refine wl_buildSlice (e := 33) (cs := [.int .i64 0, .int .i64 0, .int .i64 0]) rfl (by kernel_rfl) rfl fun g2 => ?_
 refine wl_nil ?_
 refine nw 14 4095 (fun _ hm => ⟨hm.bl 1, hm.fa 0, hm.fa 1, hm.fa 2, trivial⟩) fun z => ?_
 refine wa1 12 rfl ?_
 refine wl_callw (v := .int .i64 0) rfl cb66 rfl rfl (fun wx hm => (by have h := first_any [0, 0, 0] g2 3 _ wx (hm.blkI 0 rfl) (by simp); rw [show firstE [0, 0, 0] = 0 by decide] at h; exact h)) ?_
 refine wl_nil ?_
 refine nw 14 8191 (fun _ hm => ⟨hm.bl 1, hm.fa 0, hm.fa 1, hm.fa 2, trivial⟩) fun z => ?_
 refine wt 13 14 16383 rfl z (ov_assign rfl) ?_
 refine wa_done (by kernel_rfl) ?_
 refine nx_then (sr_ (mv_ rfl (wl_ov (ov_neq rfl rfl) rfl ?_)))
 refine wl_set 20 (v' := .bool false) rfl (congrArg Value.bool (by decide)) ?_
 refine nn_ (cf_ rfl (gw_skip (nx_then (gw_seq (sr_ (fd_ fo31_2 rfl rfl (lk_ sc28 1 rfl rfl rfl (wl_ov (ov_len es28 rfl) rfl ?_))))))))
 refine wl_set 24 (v' := .int .i64 1) rfl rfl ?_
 refine mv_ rfl (nn_ (gw_block ?_))
 refine gw_rounds 4 ?_
 refine gr_next ?_
 refine sr_ (wl_ov (ov_lss rfl rfl) rfl ?_)
 refine wl_set 26 (v' := .bool true) rfl (congrArg Value.bool (by decide)) ?_
 refine nn_ (gw_seq (ct_ rfl (gw_skip (nx_then (gw_seq (gw_block (sr_ (mv_ rfl ?_))))))))
 refine wl_ov (ov_index (j := 0) es28 rfl rfl (by decide)) rfl ?_
 refine wl_ov (ov_loads (vs := [.string ⟨#[118]⟩, .string ⟨#[99]⟩]) rz69 rfl (fun _ hm => (hm.fact 2 rfl).2) rfl rfl) rfl ?_
 refine wl_alloc zc69 rfl fun g3 => ?_
 refine sg_ rfl ?_
 refine wl_stores (cs' := [.string ⟨#[118]⟩, .string ⟨#[99]⟩]) 0 rz69 rfl rfl rfl rfl rfl rfl rfl rfl ?_
 refine nn_ (gw_block (sr_ (fd_ fo69_0 rfl rfl (lk_ sc9 0 rfl rfl rfl ?_))))
 refine wl_callw (v := .bool true) rfl cb112 rfl rfl (fun wx hm => (by have h := isKey_any ⟨#[118]⟩ wx (by decide); rw [show keyB ⟨#[118]⟩ = true by decide +kernel] at h; exact h)) ?_
 refine wl_ov (ov_un_not rfl) rfl ?_
 refine wl_set 34 (v' := .bool false) rfl (congrArg Value.bool (by decide)) ?_
 refine sg_ rfl (nn_ (cf_ rfl (gw_seq ?_)))
 refine gd (fun wz => Blk wz g3 69 [.string ⟨#[118]⟩, .string ⟨#[99]⟩] ∧ Blk wz g2 33 [.int .i64 0, .int .i64 0, .int .i64 0] ∧ Blk wz g1 31 [.slice (some ⟨gs, 0, none⟩) 1 1, .slice (some ⟨gc, 0, none⟩) 1 1, .slice (some ⟨gv, 0, none⟩) 1 1, .slice none 0 0] ∧ (BlkOld w.heap.size none gs 156 [.string ⟨#[115]⟩, .int .i64 0, .int .i64 0, .int .i64 0, .int .i64 0, .int .i64 0, .int .i64 0, .int .i64 0, .int .i64 0, .int .i64 0, .int .i64 0, .int .i64 0, .int .i64 0, .int .i64 0, .int .i64 0]) wz ∧ (BlkOld w.heap.size none gc 158 [.string ⟨#[99]⟩, .string ⟨#[]⟩]) wz ∧ (BlkOld w.heap.size none gv 69 [.string ⟨#[118]⟩, .string ⟨#[99]⟩]) wz ∧ True) mixed (fun _ hm => ⟨hm.bl 0, hm.bl 1, hm.bl 2, hm.fa 0, hm.fa 1, hm.fa 2, trivial⟩) fun z => ?_
 refine wt 0 15 1 rfl z (ov_move rfl) ?_
 refine wt 1 15 3 rfl z (ov_gtr rfl rfl) ?_
 refine wa_set 37 (v' := .bool false) rfl (congrArg Value.bool (by decide)) ?_
 refine wt 2 15 7 rfl z (ov_move rfl) ?_
 refine wtf 3 15 15 rfl rfl rfl z ?_
 refine wtf 4 15 31 rfl rfl rfl z ?_
 refine wtf 5 15 63 rfl rfl rfl z ?_
 refine wtf 6 15 127 rfl rfl rfl z ?_
 refine wtf 7 15 255 rfl rfl rfl z ?_
 refine wtf 8 15 511 rfl rfl rfl z ?_
 refine wtf 9 15 1023 rfl rfl rfl z ?_
 refine wtf 10 15 2047 rfl rfl rfl z ?_
 refine wtf 11 15 4095 rfl rfl rfl z ?_
 refine wtf 12 15 8191 rfl rfl rfl z ?_
 refine wt 13 15 16383 rfl z (ov_pick_f rfl rfl) ?_
 refine wt 14 15 32767 rfl z (ov_assign rfl) ?_
 refine wa_done (by kernel_rfl) ?_
 refine nx_then (cf_ rfl (sr_ (fd_ fo31_1 rfl rfl (lk_ sc27 2 rfl rfl rfl (fd_ fo69_1 rfl rfl (lk_ sc9 0 rfl rfl rfl ?_))))))
 refine wl_callv (v := .int .i64 0) rfl cb227 rfl rfl (fun wx hm => (by have h := classAt_any [(⟨⟨#[99]⟩, ⟨#[]⟩⟩ : Cs)] _ 1 1 ⟨#[99]⟩ wx (SlT.ofBlk (l := [(⟨⟨#[99]⟩, ⟨#[]⟩⟩ : Cs)]) cs_len (hm.fact 1 rfl).2) (by omega); rw [oneC_ix] at h; exact h)) ?_
 refine wl_ov (ov_lss rfl rfl) rfl ?_
 refine wl_set 56 (v' := .bool false) rfl (congrArg Value.bool (by decide)) ?_
 refine sg_ rfl (nn_ (cf_ rfl (gw_skip (nx_blk_nrm (nx_blk_nrm (nx_then (gw_region (ad_ rfl rfl ?_))))))))
 refine wl_set 57 (v' := .int .i64 1) rfl rfl ?_
 refine mv_ rfl (wl_nil ?_)
 refine nx_next ?_
 refine gr_next ?_
 refine sr_ (wl_ov (ov_lss rfl rfl) rfl ?_)
 refine wl_set 26 (v' := .bool false) rfl (congrArg Value.bool (by decide)) ?_
 refine nn_ (gw_seq (cf_ rfl ?_))
 refine gw_exit ?_
 refine nx_then_exit (nx_then_exit ?_)
 refine nx_blk_here ?_
 refine nx_then (sr_ ?_)
 refine wl_ov (ov_loads rz31 rfl (fun _ hm => hm.blkI 2 rfl) rfl rfl) rfl ?_
 refine wl_callv rfl cb228 rfl rfl (fun wx hm => (platesL gs gc gv wx (hm.fact 0 rfl).2 (hm.fact 1 rfl).2 (hm.fact 2 rfl).2)) ?_
 refine sg_ rfl (nn_ ?_)
 refine gw_ret ?_
 refine nx_ret1 rfl rfl fun wx hm => ?_
 exact ⟨rfl, hm.g⟩
theorem momL (w : World) : Calls Tryz.prog 229 #[.int .i64 5] w (fun e w' => e = .returned (.bool true) ∧ w.grownBy w' none) := by
 refine gw_enter ⟨5, w, none, []⟩ Tryz.func229 rfl Tryz.ntmps229 rfl (mem0 (X := []) allF_nil allL_nil) ?_
 refine sr_ (sg_ rfl (nn_ (sr_ (mv_ rfl ?_))))
 refine wl_callw (v := .bool true) rfl cb169 rfl rfl (fun wx hm => (by have h := in_any 5 0 5761439 wx; rw [show inB 5 0 5761439 = true by decide +kernel] at h; exact h)) ?_
 refine sg_ rfl (nn_ ?_)
 refine gw_ret ?_
 refine nx_ret1 rfl rfl fun wx hm => ?_
 exact ⟨rfl, hm.g⟩
theorem logL (gs : Nat) (gc : Nat) (gv : Nat) (ge : Nat) (w : World) (hbs : Blk w gs 156 [.string ⟨#[115]⟩, .int .i64 0, .int .i64 0, .int .i64 0, .int .i64 0, .int .i64 0, .int .i64 0, .int .i64 0, .int .i64 0, .int .i64 0, .int .i64 0, .int .i64 0, .int .i64 0, .int .i64 0, .int .i64 0]) (hbc : Blk w gc 158 [.string ⟨#[99]⟩, .string ⟨#[]⟩]) (hbv : Blk w gv 69 [.string ⟨#[118]⟩, .string ⟨#[99]⟩]) (hbe : Blk w ge 105 [.int .i64 5, .string ⟨#[118]⟩, .string ⟨#[115]⟩, .int .i64 1, .string ⟨#[]⟩]) : Calls Tryz.prog 122 #[.agg #[.slice (some ⟨gs, 0, none⟩) 1 1, .slice (some ⟨gc, 0, none⟩) 1 1, .slice (some ⟨gv, 0, none⟩) 1 1, .slice none 0 0], .slice (some ⟨ge, 0, none⟩) 1 1] w (fun e w' => e = .returned (.int .i64 0) ∧ w.grownBy w' none) := by
 refine gw_enter ⟨81, w, none, []⟩ Tryz.func122 rfl Tryz.ntmps122 rfl (mem0 (X := [BlkOld w.heap.size none gs 156 [.string ⟨#[115]⟩, .int .i64 0, .int .i64 0, .int .i64 0, .int .i64 0, .int .i64 0, .int .i64 0, .int .i64 0, .int .i64 0, .int .i64 0, .int .i64 0, .int .i64 0, .int .i64 0, .int .i64 0, .int .i64 0], BlkOld w.heap.size none gc 158 [.string ⟨#[99]⟩, .string ⟨#[]⟩], BlkOld w.heap.size none gv 69 [.string ⟨#[118]⟩, .string ⟨#[99]⟩], BlkOld w.heap.size none ge 105 [.int .i64 5, .string ⟨#[118]⟩, .string ⟨#[115]⟩, .int .i64 1, .string ⟨#[]⟩]]) (allF_cons hbs.old (allF_cons hbc.old (allF_cons hbv.old (allF_cons hbe.old allF_nil)))) (allL_cons BlkOld.lasts (allL_cons BlkOld.lasts (allL_cons BlkOld.lasts (allL_cons BlkOld.lasts allL_nil))))) ?_
 refine sr_ ?_
 refine wl_box rfl rfl rfl fun g1 => ?_
 refine sg_ rfl (nn_ (gw_seq (sr_ (mv_ rfl (wl_ov (ov_len es32 rfl) rfl ?_)))))
 refine wl_set 9 (v' := .int .i64 1) rfl rfl ?_
 refine wl_ov (ov_gtr rfl rfl) rfl ?_
 refine wl_set 10 (v' := .bool false) rfl (congrArg Value.bool (by decide)) ?_
 refine nn_ (cf_ rfl (gw_skip (nx_then (gw_seq (sr_ (mv_ rfl (wl_ov (ov_len es32 rfl) rfl ?_)))))))
 refine wl_set 12 (v' := .int .i64 1) rfl rfl ?_
 refine mv_ rfl (nn_ (gw_block ?_))
 refine gw_rounds 4 ?_
 refine gr_next ?_
 refine sr_ (wl_ov (ov_lss rfl rfl) rfl ?_)
 refine wl_set 14 (v' := .bool true) rfl (congrArg Value.bool (by decide)) ?_
 refine nn_ (gw_seq (ct_ rfl (gw_skip (nx_then (gw_seq (gw_block (sr_ (mv_ rfl ?_))))))))
 refine wl_ov (ov_index (j := 0) es32 rfl rfl (by decide)) rfl ?_
 refine wl_ov (ov_loads (vs := [.int .i64 5, .string ⟨#[118]⟩, .string ⟨#[115]⟩, .int .i64 1, .string ⟨#[]⟩]) rz105 rfl (fun _ hm => (hm.fact 3 rfl).2) rfl rfl) rfl ?_
 refine wl_alloc zc105 rfl fun g2 => ?_
 refine sg_ rfl ?_
 refine wl_stores (cs' := [.int .i64 5, .string ⟨#[118]⟩, .string ⟨#[115]⟩, .int .i64 1, .string ⟨#[]⟩]) 0 rz105 rfl rfl rfl rfl rfl rfl rfl rfl ?_
 refine nn_ (sr_ (fd_ fo105_3 rfl rfl (lk_ sc3 0 rfl rfl rfl (wl_ov (ov_eql rfl rfl) rfl ?_))))
 refine wl_set 20 (v' := .bool false) rfl (congrArg Value.bool (by decide)) ?_
 refine sg_ rfl (nn_ (gw_block (sr_ (fd_ fo105_0 rfl rfl (lk_ sc3 0 rfl rfl rfl ?_)))))
 refine wl_callv rfl cb229 rfl rfl (fun wx hm => (momL wx)) ?_
 refine wl_ov (ov_un_not rfl) rfl ?_
 refine wl_set 25 (v' := .bool false) rfl (congrArg Value.bool (by decide)) ?_
 refine sg_ rfl (nn_ (cf_ rfl (sr_ ?_)))
 refine wl_ov (ov_loads rz31 rfl (fun _ hm => hm.blkI 1 rfl) rfl rfl) rfl ?_
 refine fd_ fo105_1 rfl rfl (lk_ sc9 0 rfl rfl rfl ?_)
 refine wl_callv rfl cb68 rfl rfl (fun wx hm => (vehL gs gc gv wx (hm.fact 0 rfl).2 (hm.fact 1 rfl).2 (hm.fact 2 rfl).2)) ?_
 refine wl_ov (ov_lss rfl rfl) rfl ?_
 refine wl_set 31 (v' := .bool false) rfl (congrArg Value.bool (by decide)) ?_
 refine mv_ rfl (wl_guard_on rfl rfl rfl ?_)
 refine wl_ov (ov_loads rz31 rfl (fun _ hm => hm.blkI 1 rfl) rfl rfl) rfl ?_
 refine wl_guard_on rfl rfl rfl (fd_ fo105_2 rfl rfl (wl_guard_on rfl rfl rfl (lk_ sc9 0 rfl rfl rfl (wl_guard_on rfl rfl rfl ?_))))
 refine wl_callv rfl cb230 rfl rfl (fun wx hm => (hasStL gs gc gv wx (hm.fact 0 rfl).2 (hm.fact 1 rfl).2 (hm.fact 2 rfl).2)) ?_
 refine wl_guard_on rfl rfl rfl (wl_ov (ov_un_not rfl) rfl ?_)
 refine wl_set 37 (v' := .bool false) rfl (congrArg Value.bool (by decide)) ?_
 refine pf_ rfl rfl (sg_ rfl (nn_ (cf_ rfl (sr_ (fd_ fo105_3 rfl rfl (lk_ sc3 0 rfl rfl rfl ?_))))))
 refine wl_callw (v := .bool true) rfl cb169 rfl rfl (fun wx hm => (by have h := in_any 1 1 8 wx; rw [show inB 1 1 8 = true by decide +kernel] at h; exact h)) ?_
 refine wl_ov (ov_un_not rfl) rfl ?_
 refine wl_set 43 (v' := .bool false) rfl (congrArg Value.bool (by decide)) ?_
 refine sg_ rfl (nn_ (cf_ rfl (sr_ (fd_ fo105_4 rfl rfl (lk_ sc9 0 rfl rfl rfl (wl_ov (ov_sneq rfl rfl) rfl ?_))))))
 refine wl_set 47 (v' := .bool false) rfl (congrArg Value.bool (by decide +kernel)) ?_
 refine mv_ rfl (goff rfl rfl rfl (goff rfl rfl rfl (pf_ rfl rfl (sg_ rfl (nn_ (cf_ rfl (sr_ (mv_ rfl (mv_ rfl (goff rfl rfl rfl (goff rfl rfl rfl ?_)))))))))))
 refine goff rfl rfl rfl (goff rfl rfl rfl (goff rfl rfl rfl (pf_ rfl rfl (sg_ rfl (nn_ (cf_ rfl (sr_ (fd_ fo105_4 rfl rfl (lk_ sc9 0 rfl rfl rfl (fd_ fo105_2 rfl rfl (lk_ sc9 0 rfl rfl rfl ?_)))))))))))
 refine wl_ov (ov_seql rfl rfl) rfl ?_
 refine wl_set 66 (v' := .bool false) rfl (congrArg Value.bool (by decide +kernel)) ?_
 refine sg_ rfl (nn_ (cf_ rfl (gw_seq ?_)))
 refine gd (fun wz => Blk wz g2 105 [.int .i64 5, .string ⟨#[118]⟩, .string ⟨#[115]⟩, .int .i64 1, .string ⟨#[]⟩] ∧ Blk wz g1 31 [.slice (some ⟨gs, 0, none⟩) 1 1, .slice (some ⟨gc, 0, none⟩) 1 1, .slice (some ⟨gv, 0, none⟩) 1 1, .slice none 0 0] ∧ (BlkOld w.heap.size none gs 156 [.string ⟨#[115]⟩, .int .i64 0, .int .i64 0, .int .i64 0, .int .i64 0, .int .i64 0, .int .i64 0, .int .i64 0, .int .i64 0, .int .i64 0, .int .i64 0, .int .i64 0, .int .i64 0, .int .i64 0, .int .i64 0]) wz ∧ (BlkOld w.heap.size none gc 158 [.string ⟨#[99]⟩, .string ⟨#[]⟩]) wz ∧ (BlkOld w.heap.size none gv 69 [.string ⟨#[118]⟩, .string ⟨#[99]⟩]) wz ∧ (BlkOld w.heap.size none ge 105 [.int .i64 5, .string ⟨#[118]⟩, .string ⟨#[115]⟩, .int .i64 1, .string ⟨#[]⟩]) wz ∧ True) mixed (fun _ hm => ⟨hm.bl 0, hm.bl 1, hm.fa 0, hm.fa 1, hm.fa 2, hm.fa 3, trivial⟩) fun z => ?_
 refine wt 0 13 1 rfl z (ov_move rfl) ?_
 refine wt 1 13 3 rfl z (ov_gtr rfl rfl) ?_
 refine wa_set 69 (v' := .bool false) rfl (congrArg Value.bool (by decide)) ?_
 refine wt 2 13 7 rfl z (ov_move rfl) ?_
 refine wtf 3 13 15 rfl rfl rfl z ?_
 refine wtf 4 13 31 rfl rfl rfl z ?_
 refine wtf 5 13 63 rfl rfl rfl z ?_
 refine wtf 6 13 127 rfl rfl rfl z ?_
 refine wtf 7 13 255 rfl rfl rfl z ?_
 refine wtf 8 13 511 rfl rfl rfl z ?_
 refine wtf 9 13 1023 rfl rfl rfl z ?_
 refine wtf 10 13 2047 rfl rfl rfl z ?_
 refine wt 11 13 4095 rfl z (ov_pick_f rfl rfl) ?_
 refine wt 12 13 8191 rfl z (ov_assign rfl) ?_
 refine wa_done (by kernel_rfl) ?_
 refine nx_then (cf_ rfl (gw_skip (nx_blk_nrm (nx_blk_nrm (nx_then (gw_region (ad_ rfl rfl ?_)))))))
 refine wl_set 80 (v' := .int .i64 1) rfl rfl ?_
 refine mv_ rfl (wl_nil ?_)
 refine nx_next ?_
 refine gr_next ?_
 refine sr_ (wl_ov (ov_lss rfl rfl) rfl ?_)
 refine wl_set 14 (v' := .bool false) rfl (congrArg Value.bool (by decide)) ?_
 refine nn_ (gw_seq (cf_ rfl ?_))
 refine gw_exit ?_
 refine nx_then_exit (nx_then_exit ?_)
 refine nx_blk_here ?_
 refine nx_then (sr_ (sg_ rfl (nn_ ?_)))
 refine gw_ret ?_
 refine nx_ret1 rfl rfl fun wx hm => ?_
 exact ⟨rfl, hm.g⟩
theorem checkL (gs : Nat) (gc : Nat) (gv : Nat) (ge : Nat) (w : World) (hbs : Blk w gs 156 [.string ⟨#[115]⟩, .int .i64 0, .int .i64 0, .int .i64 0, .int .i64 0, .int .i64 0, .int .i64 0, .int .i64 0, .int .i64 0, .int .i64 0, .int .i64 0, .int .i64 0, .int .i64 0, .int .i64 0, .int .i64 0]) (hbc : Blk w gc 158 [.string ⟨#[99]⟩, .string ⟨#[]⟩]) (hbv : Blk w gv 69 [.string ⟨#[118]⟩, .string ⟨#[99]⟩]) (hbe : Blk w ge 105 [.int .i64 5, .string ⟨#[118]⟩, .string ⟨#[115]⟩, .int .i64 1, .string ⟨#[]⟩]) : Calls Tryz.prog 42 #[.agg #[.slice (some ⟨gs, 0, none⟩) 1 1, .slice (some ⟨gc, 0, none⟩) 1 1, .slice (some ⟨gv, 0, none⟩) 1 1, .slice none 0 0], .slice (some ⟨ge, 0, none⟩) 1 1] w (fun e w' => e = .returned (.int .i64 0) ∧ w.grownBy w' none) := by
 refine gw_enter ⟨14, w, none, []⟩ Tryz.func42 rfl Tryz.ntmps42 rfl (mem0 (X := [BlkOld w.heap.size none gs 156 [.string ⟨#[115]⟩, .int .i64 0, .int .i64 0, .int .i64 0, .int .i64 0, .int .i64 0, .int .i64 0, .int .i64 0, .int .i64 0, .int .i64 0, .int .i64 0, .int .i64 0, .int .i64 0, .int .i64 0, .int .i64 0], BlkOld w.heap.size none gc 158 [.string ⟨#[99]⟩, .string ⟨#[]⟩], BlkOld w.heap.size none gv 69 [.string ⟨#[118]⟩, .string ⟨#[99]⟩], BlkOld w.heap.size none ge 105 [.int .i64 5, .string ⟨#[118]⟩, .string ⟨#[115]⟩, .int .i64 1, .string ⟨#[]⟩]]) (allF_cons hbs.old (allF_cons hbc.old (allF_cons hbv.old (allF_cons hbe.old allF_nil)))) (allL_cons BlkOld.lasts (allL_cons BlkOld.lasts (allL_cons BlkOld.lasts (allL_cons BlkOld.lasts allL_nil))))) ?_
 refine sr_ ?_
 refine wl_box rfl rfl rfl fun g1 => ?_
 refine sg_ rfl (nn_ (gw_seq (sr_ ?_)))
 refine wl_ov (ov_loads rz31 rfl (fun _ hm => hm.blkI 0 rfl) rfl rfl) rfl ?_
 refine wl_callv rfl cb121 rfl rfl (fun wx hm => (fleetL gs gc gv wx (hm.fact 0 rfl).2 (hm.fact 1 rfl).2 (hm.fact 2 rfl).2)) ?_
 refine sg_ rfl (nn_ (sr_ (mv_ rfl (wl_ov (ov_neq rfl rfl) rfl ?_))))
 refine wl_set 9 (v' := .bool false) rfl (congrArg Value.bool (by decide)) ?_
 refine nn_ (cf_ rfl (gw_skip (nx_then (sr_ ?_))))
 refine wl_ov (ov_loads rz31 rfl (fun _ hm => hm.blkI 0 rfl) rfl rfl) rfl ?_
 refine mv_ rfl ?_
 refine wl_callv rfl cb122 rfl rfl (fun wx hm => (logL gs gc gv ge wx (hm.fact 0 rfl).2 (hm.fact 1 rfl).2 (hm.fact 2 rfl).2 (hm.fact 3 rfl).2)) ?_
 refine sg_ rfl (nn_ ?_)
 refine gw_ret ?_
 refine nx_ret1 rfl rfl fun wx hm => ?_
 exact ⟨rfl, hm.g⟩
theorem followL (w : World) : Calls Tryz.prog 72 #[.agg #[.int .i64 0, .string ⟨#[]⟩, .int .i64 0], .agg #[.int .i64 5, .string ⟨#[118]⟩, .string ⟨#[115]⟩, .int .i64 1, .string ⟨#[]⟩]] w (fun e w' => e = .returned (.tuple #[.agg #[.int .i64 1, .string ⟨#[115]⟩, .int .i64 5], .bool true]) ∧ w.grownBy w' none) := by
 refine gw_enter ⟨74, w, none, []⟩ Tryz.func72 rfl Tryz.ntmps72 rfl (mem0 (X := []) allF_nil allL_nil) ?_
 refine sr_ ?_
 refine wl_box rfl rfl rfl fun g1 => ?_
 refine wl_box rfl rfl rfl fun g2 => ?_
 refine wl_alloc zc142 rfl fun g3 => ?_
 refine sg_ rfl (nn_ (sr_ (fd_ fo142_1 rfl rfl (lk_ sc9 2 rfl rfl rfl (fd_ fo105_2 rfl rfl (lk_ sc9 1 rfl rfl rfl (wl_ov (ov_seql rfl rfl) rfl ?_)))))))
 refine wl_set 15 (v' := .bool false) rfl (congrArg Value.bool (by decide +kernel)) ?_
 refine sg_ rfl (nn_ (sr_ (fd_ fo142_0 rfl rfl (lk_ sc3 2 rfl rfl rfl (wl_ov (ov_eql rfl rfl) rfl ?_)))))
 refine wl_set 18 (v' := .bool false) rfl (congrArg Value.bool (by decide)) ?_
 refine mv_ rfl (goff rfl rfl rfl (pf_ rfl rfl (sg_ rfl (nn_ (gw_seq ?_)))))
 refine gd (fun wz => Blk wz g3 142 [.int .i64 0, .string ⟨#[]⟩, .int .i64 0] ∧ Blk wz g2 105 [.int .i64 5, .string ⟨#[118]⟩, .string ⟨#[115]⟩, .int .i64 1, .string ⟨#[]⟩] ∧ Blk wz g1 142 [.int .i64 0, .string ⟨#[]⟩, .int .i64 0] ∧ True) mixed (fun _ hm => ⟨hm.bl 0, hm.bl 1, hm.bl 2, trivial⟩) fun z => ?_
 refine wt 0 5 1 rfl z (ov_field fo105_2 rfl rfl) ?_
 refine wt 1 5 3 rfl z (ov_load sc9 rfl (fun _ hm => hm.2.1) rfl) ?_
 refine wt 2 5 7 rfl z (ov_assign rfl) ?_
 refine wt 3 5 15 rfl z (ov_assign rfl) ?_
 refine wt 4 5 31 rfl z (ov_assign rfl) ?_
 refine wa_done (by kernel_rfl) ?_
 refine nx_then (gw_seq (sr_ (fd_ fo105_3 rfl rfl (lk_ sc3 1 rfl rfl rfl (nn_ (gw_block (sr_ (wl_ov (ov_eql rfl rfl) rfl ?_))))))))
 refine wl_set 27 (v' := .bool true) rfl (congrArg Value.bool (by decide)) ?_
 refine sg_ rfl (nn_ (ct_ rfl ?_))
 refine gd (fun wz => Blk wz g3 142 [.int .i64 0, .string ⟨#[]⟩, .int .i64 0] ∧ Blk wz g2 105 [.int .i64 5, .string ⟨#[118]⟩, .string ⟨#[115]⟩, .int .i64 1, .string ⟨#[]⟩] ∧ Blk wz g1 142 [.int .i64 0, .string ⟨#[]⟩, .int .i64 0] ∧ True) mixed (fun _ hm => ⟨hm.bl 0, hm.bl 1, hm.bl 2, trivial⟩) fun z => ?_
 refine wt 0 5 1 rfl z (ov_field fo142_0 rfl rfl) ?_
 refine wt 1 5 3 rfl z (ov_load sc3 rfl (fun _ hm => hm.2.2.1) rfl) ?_
 refine wt 2 5 7 rfl z (ov_eql rfl rfl) ?_
 refine wa_set 30 (v' := .bool true) rfl (congrArg Value.bool (by decide)) ?_
 refine wt 3 5 15 rfl z (ov_assign rfl) ?_
 refine wt 4 5 31 rfl z (ov_assign rfl) ?_
 refine wa_done (by kernel_rfl) ?_
 refine nx_blk_nrm (nx_then (gw_seq (sr_ (mv_ rfl (wl_ov (ov_un_not rfl) rfl ?_)))))
 refine wl_set 67 (v' := .bool false) rfl (congrArg Value.bool (by decide)) ?_
 refine nn_ (cf_ rfl (gw_skip (nx_then (sr_ (mv_ rfl (mv_ rfl (fd_ fo105_0 rfl rfl (lk_ sc3 1 rfl rfl rfl ?_))))))))
 refine wl_ov (ov_build (cs := [.int .i64 1, .string ⟨#[115]⟩, .int .i64 5]) rfl (by kernel_rfl)) rfl ?_
 refine wl_stores (cs' := [.int .i64 1, .string ⟨#[115]⟩, .int .i64 5]) 0 rz142 rfl rfl rfl rfl rfl rfl rfl rfl ?_
 refine sg_ rfl (nn_ ?_)
 refine gw_ret ?_
 refine nx_retct 0 rfl rz142 rfl rfl rfl rfl fun wx hm => ?_
 exact ⟨rfl, hm.g⟩
theorem statesL (ge : Nat) (w : World) (hbe : Blk w ge 105 [.int .i64 5, .string ⟨#[118]⟩, .string ⟨#[115]⟩, .int .i64 1, .string ⟨#[]⟩]) : Calls Tryz.prog 174 #[.slice (some ⟨ge, 0, none⟩) 1 1, .int .i64 7] w (fun e w' => ∃ g, e = .returned (.map (some g)) ∧ MapAt g #[⟨.string ⟨#[118]⟩, .agg #[.int .i64 1, .string ⟨#[115]⟩, .int .i64 5], 0⟩] 1 w' ∧ w.grownBy w' none) := by
 refine gw_enter ⟨33, w, none, []⟩ Tryz.func174 rfl Tryz.ntmps174 rfl (mem0 (X := [BlkOld w.heap.size none ge 105 [.int .i64 5, .string ⟨#[118]⟩, .string ⟨#[115]⟩, .int .i64 1, .string ⟨#[]⟩]]) (allF_cons hbe.old allF_nil) (allL_cons BlkOld.lasts allL_nil)) ?_
 refine sr_ (sg_ rfl (nn_ (sr_ ?_)))
 refine wl_makeMap rfl fun g1 => ?_
 refine sg_ rfl (nn_ (gw_seq (sr_ (mv_ rfl (wl_ov (ov_len es32 rfl) rfl ?_)))))
 refine wl_set 10 (v' := .int .i64 1) rfl rfl ?_
 refine mv_ rfl (nn_ (gw_block ?_))
 refine gw_rounds 4 ?_
 refine gr_next ?_
 refine sr_ (wl_ov (ov_lss rfl rfl) rfl ?_)
 refine wl_set 12 (v' := .bool true) rfl (congrArg Value.bool (by decide)) ?_
 refine nn_ (gw_seq (ct_ rfl (gw_skip (nx_then (gw_seq (gw_block (sr_ ?_)))))))
 refine wl_ov (ov_index (j := 0) es32 rfl rfl (by decide)) rfl ?_
 refine wl_ov (ov_loads (vs := [.int .i64 5, .string ⟨#[118]⟩, .string ⟨#[115]⟩, .int .i64 1, .string ⟨#[]⟩]) rz105 rfl (fun _ hm => (hm.fact 1 rfl).2) rfl rfl) rfl ?_
 refine wl_alloc zc105 rfl fun g2 => ?_
 refine wl_stores (cs' := [.int .i64 5, .string ⟨#[118]⟩, .string ⟨#[115]⟩, .int .i64 1, .string ⟨#[]⟩]) 0 rz105 rfl rfl rfl rfl rfl rfl rfl rfl ?_
 refine nn_ (gw_seq (sr_ (fd_ fo105_0 rfl rfl (lk_ sc3 0 rfl rfl rfl (mv_ rfl ?_)))))
 refine wl_ov (ov_gtr rfl rfl) rfl ?_
 refine wl_set 18 (v' := .bool false) rfl (congrArg Value.bool (by decide)) ?_
 refine nn_ (cf_ rfl (gw_skip (nx_then ?_)))
 refine gd (fun wz => Blk wz g2 105 [.int .i64 5, .string ⟨#[118]⟩, .string ⟨#[115]⟩, .int .i64 1, .string ⟨#[]⟩] ∧ (BlkOld w.heap.size none ge 105 [.int .i64 5, .string ⟨#[118]⟩, .string ⟨#[115]⟩, .int .i64 1, .string ⟨#[]⟩]) wz ∧ True) mixed (fun _ hm => ⟨hm.bl 0, hm.fa 1, trivial⟩) fun z => ?_
 refine wt 0 13 1 rfl z (ov_move rfl) ?_
 refine wt 1 13 3 rfl z (ov_field fo105_1 rfl rfl) ?_
 refine wt 2 13 7 rfl z (ov_load sc9 rfl (fun _ hm => hm.1) rfl) ?_
 refine wt 3 13 15 rfl z (ov_move rfl) ?_
 refine wt 4 13 31 rfl z (ov_field fo105_1 rfl rfl) ?_
 refine wt 5 13 63 rfl z (ov_load sc9 rfl (fun _ hm => hm.1) rfl) ?_
 refine wt 7 13 191 rfl z (ov_loads rz105 rfl (fun _ hm => hm.1) rfl rfl) ?_
 refine wa1 6 rfl ?_
 refine wl_ov (ov_lookup0 (k := 9) (e := 142) (z := .agg #[.int .i64 0, .string ⟨#[]⟩, .int .i64 0]) (by kernel_rfl) (by kernel_rfl) (by kernel_rfl) rfl rfl (fun _ hm => (hm.fact 0 rfl).2) (by kernel_rfl)) rfl ?_
 refine wl_nil ?_
 refine nw 13 255 (fun _ hm => ⟨hm.bl 0, hm.fa 1, trivial⟩) fun z => ?_
 refine wa1 8 rfl ?_
 refine wl_callv rfl cb72 rfl rfl (fun wx hm => (followL wx)) ?_
 refine wl_nil ?_
 refine nw 13 511 (fun _ hm => ⟨hm.bl 0, hm.fa 1, trivial⟩) fun z => ?_
 refine wt 9 13 1023 rfl z (ov_move rfl) ?_
 refine wt 10 13 2047 rfl z (ov_extract rfl rfl) ?_
 refine wt 11 13 4095 rfl z (ov_extract rfl rfl) ?_
 refine wa1 12 rfl ?_
 refine wl_mapPush (k := 9) (e := 142) (X' := [BlkOld w.heap.size none ge 105 [.int .i64 5, .string ⟨#[118]⟩, .string ⟨#[115]⟩, .int .i64 1, .string ⟨#[]⟩]]) 0 (by kernel_rfl) (by kernel_rfl) rfl rfl rfl rfl (by kernel_rfl) (far_cons (i := 1) BlkOld.far rfl far_nil) ?_
 refine wl_nil ?_
 refine nw 13 8191 (fun _ hm => ⟨hm.bl 0, hm.fa 1, trivial⟩) fun z => ?_
 refine wa_done (by kernel_rfl) ?_
 refine nx_blk_nrm (nx_then (gw_region (ad_ rfl rfl ?_)))
 refine wl_set 31 (v' := .int .i64 1) rfl rfl ?_
 refine mv_ rfl (wl_nil ?_)
 refine nx_next ?_
 refine gr_next ?_
 refine sr_ (wl_ov (ov_lss rfl rfl) rfl ?_)
 refine wl_set 12 (v' := .bool false) rfl (congrArg Value.bool (by decide)) ?_
 refine nn_ (gw_seq (cf_ rfl ?_))
 refine gw_exit ?_
 refine nx_then_exit (nx_then_exit ?_)
 refine nx_blk_here ?_
 refine nx_then (sr_ (mv_ rfl (sg_ rfl (nn_ ?_))))
 refine gw_ret ?_
 refine nx_ret1 rfl rfl fun wx hm => ?_
 exact ⟨g1, rfl, ((hm.fact 0 rfl)).2, hm.g⟩
theorem stateL (gs : Nat) (gc : Nat) (gv : Nat) (ge : Nat) (w : World) (hbs : Blk w gs 156 [.string ⟨#[115]⟩, .int .i64 0, .int .i64 0, .int .i64 0, .int .i64 0, .int .i64 0, .int .i64 0, .int .i64 0, .int .i64 0, .int .i64 0, .int .i64 0, .int .i64 0, .int .i64 0, .int .i64 0, .int .i64 0]) (hbc : Blk w gc 158 [.string ⟨#[99]⟩, .string ⟨#[]⟩]) (hbv : Blk w gv 69 [.string ⟨#[118]⟩, .string ⟨#[99]⟩]) (hbe : Blk w ge 105 [.int .i64 5, .string ⟨#[118]⟩, .string ⟨#[115]⟩, .int .i64 1, .string ⟨#[]⟩]) : Calls Tryz.prog 78 #[.agg #[.slice (some ⟨gs, 0, none⟩) 1 1, .slice (some ⟨gc, 0, none⟩) 1 1, .slice (some ⟨gv, 0, none⟩) 1 1, .slice none 0 0], .slice (some ⟨ge, 0, none⟩) 1 1, .string ⟨#[118]⟩, .int .i64 7] w (fun e w' => e = .returned (.tuple #[.agg #[.int .i64 1, .string ⟨#[115]⟩, .int .i64 5], .int .i64 0]) ∧ w.grownBy w' none) := by
 refine gw_enter ⟨37, w, none, []⟩ Tryz.func78 rfl Tryz.ntmps78 rfl (mem0 (X := [BlkOld w.heap.size none gs 156 [.string ⟨#[115]⟩, .int .i64 0, .int .i64 0, .int .i64 0, .int .i64 0, .int .i64 0, .int .i64 0, .int .i64 0, .int .i64 0, .int .i64 0, .int .i64 0, .int .i64 0, .int .i64 0, .int .i64 0, .int .i64 0], BlkOld w.heap.size none gc 158 [.string ⟨#[99]⟩, .string ⟨#[]⟩], BlkOld w.heap.size none gv 69 [.string ⟨#[118]⟩, .string ⟨#[99]⟩], BlkOld w.heap.size none ge 105 [.int .i64 5, .string ⟨#[118]⟩, .string ⟨#[115]⟩, .int .i64 1, .string ⟨#[]⟩]]) (allF_cons hbs.old (allF_cons hbc.old (allF_cons hbv.old (allF_cons hbe.old allF_nil)))) (allL_cons BlkOld.lasts (allL_cons BlkOld.lasts (allL_cons BlkOld.lasts (allL_cons BlkOld.lasts allL_nil))))) ?_
 refine sr_ ?_
 refine wl_box rfl rfl rfl fun g1 => ?_
 refine wl_alloc zc142 rfl fun g2 => ?_
 refine sg_ rfl (nn_ (gw_seq (sr_ ?_)))
 refine wl_ov (ov_loads rz31 rfl (fun _ hm => hm.blkI 1 rfl) rfl rfl) rfl ?_
 refine mv_ rfl ?_
 refine wl_callv rfl cb42 rfl rfl (fun wx hm => (checkL gs gc gv ge wx (hm.fact 0 rfl).2 (hm.fact 1 rfl).2 (hm.fact 2 rfl).2 (hm.fact 3 rfl).2)) ?_
 refine sg_ rfl (nn_ (sr_ (mv_ rfl (wl_ov (ov_neq rfl rfl) rfl ?_))))
 refine wl_set 16 (v' := .bool false) rfl (congrArg Value.bool (by decide)) ?_
 refine nn_ (cf_ rfl (gw_skip (nx_then (gw_seq (sr_ ?_)))))
 refine wl_ov (ov_loads rz31 rfl (fun _ hm => hm.blkI 1 rfl) rfl rfl) rfl ?_
 refine mv_ rfl ?_
 refine wl_callv rfl cb68 rfl rfl (fun wx hm => (vehL gs gc gv wx (hm.fact 0 rfl).2 (hm.fact 1 rfl).2 (hm.fact 2 rfl).2)) ?_
 refine wl_ov (ov_lss rfl rfl) rfl ?_
 refine wl_set 22 (v' := .bool false) rfl (congrArg Value.bool (by decide)) ?_
 refine wl_callw (v := .int .i64 0) rfl cb67 rfl rfl (fun wx hm => (by have h := when_any false 8 wx; rw [show whenE false 8 = 0 by decide +kernel] at h; exact h)) ?_
 refine mv_ rfl ?_
 refine wl_callw (v := .int .i64 0) rfl cb173 rfl rfl (fun wx hm => (by have h := moment_any 7 wx; rw [show momentE 7 = 0 by decide +kernel] at h; exact h)) ?_
 refine wl_buildSlice (e := 33) (cs := [.int .i64 0, .int .i64 0]) rfl (by kernel_rfl) rfl fun g3 => ?_
 refine wl_callw (v := .int .i64 0) rfl cb66 rfl rfl (fun wx hm => (by have h := first_any [0, 0] g3 2 _ wx (hm.blkI 0 rfl) (by simp); rw [show firstE [0, 0] = 0 by decide] at h; exact h)) ?_
 refine sg_ rfl (nn_ (sr_ (mv_ rfl (wl_ov (ov_neq rfl rfl) rfl ?_))))
 refine wl_set 29 (v' := .bool false) rfl (congrArg Value.bool (by decide)) ?_
 refine nn_ (cf_ rfl (gw_skip (nx_then (sr_ (mv_ rfl (mv_ rfl ?_))))))
 refine wl_callx (γ := Nat) (val := (fun g => .map (some g))) (φ := (fun g => True)) (Y := (fun g => fun wy => OwnMap 0 g #[⟨.string ⟨#[118]⟩, .agg #[.int .i64 1, .string ⟨#[115]⟩, .int .i64 5], 0⟩] 1 wy)) rfl cb174 rfl rfl (fun wx hm => (statesL ge wx (hm.fact 3 rfl).2).mono fun _ _ ⟨g, he, hm2, hg⟩ => ⟨g, he, trivial, hg, ⟨Nat.zero_le _, hm2⟩⟩) (fun _ => OwnMap.lasts2) ?_
 rintro gm hphi
 clear hphi
 refine mv_ rfl ?_
 refine wl_ov (ov_lookup (k := 9) (e := 142) (i := 0) (v := .agg #[.int .i64 1, .string ⟨#[115]⟩, .int .i64 5]) (by kernel_rfl) (by kernel_rfl) rfl rfl (fun _ hm => (hm.fact 0 rfl).2) (by kernel_rfl)) rfl ?_
 refine wl_stores (cs' := [.int .i64 1, .string ⟨#[115]⟩, .int .i64 5]) 1 rz142 rfl rfl rfl rfl rfl rfl rfl rfl ?_
 refine sg_ rfl (nn_ ?_)
 refine gw_ret ?_
 refine nx_retct 1 rfl rz142 rfl rfl rfl rfl fun wx hm => ?_
 exact ⟨rfl, hm.g⟩
set_option maxRecDepth 100000 in
theorem same_state_eql (x0 : Int) (x1 : ByteArray) (x2 : Int) (w : World) : (binOp .eql 142 (.agg #[.int .i64 x0, .string x1, .int .i64 x2]) (.agg #[.int .i64 x0, .string x1, .int .i64 x2])).run Tryz.prog w = .ok (.bool true) w := by
  have hS : Tryz.prog.underlying 142 = some (.struct (Tryz.prog.fieldsOf 142)) := by kernel_rfl
  have hp : Tryz.prog.stoodInHeld 142 = false := by kernel_rfl
  rw [run_eql_struct, show (10000 : Nat) = 9999 + 1 from rfl, run_equalIn_agg w 9999 142 _ _ hS hp]
  simp only [Program.fieldsOf, Tryz.underlying142]
  have u3 := Tryz.underlying3
  have u9 := Tryz.underlying9
  clear hS hp
  go_simp
theorem guard_state : Tryz.prog.eqGuardType Tryz.prog.depth 142 = false := by kernel_rfl
theorem lots_any (w : World) : Calls Tryz.prog 24 #[] w (fun e w' => e = .returned (.bool true) ∧ w.grownBy w' none) := by
 refine gw_enter ⟨25, w, none, []⟩ Tryz.func24 rfl Tryz.ntmps24 rfl (mem0 (X := []) allF_nil allL_nil) ?_
 refine sr_ (sg_ rfl (nn_ (sr_ ?_)))
 refine wl_ov (ov_build (cs := [.string ⟨#[115]⟩, .int .i64 0, .int .i64 0, .int .i64 0, .int .i64 0, .int .i64 0, .int .i64 0, .int .i64 0, .int .i64 0, .int .i64 0, .int .i64 0, .int .i64 0, .int .i64 0, .int .i64 0, .int .i64 0]) rfl (by kernel_rfl)) rfl ?_
 refine wl_buildSlice (e := 156) (cs := [.string ⟨#[115]⟩, .int .i64 0, .int .i64 0, .int .i64 0, .int .i64 0, .int .i64 0, .int .i64 0, .int .i64 0, .int .i64 0, .int .i64 0, .int .i64 0, .int .i64 0, .int .i64 0, .int .i64 0, .int .i64 0]) rfl (by kernel_rfl) rfl fun g1 => ?_
 refine wl_ov (ov_build (cs := [.string ⟨#[99]⟩, .string ⟨#[]⟩]) rfl (by kernel_rfl)) rfl ?_
 refine wl_buildSlice (e := 158) (cs := [.string ⟨#[99]⟩, .string ⟨#[]⟩]) rfl (by kernel_rfl) rfl fun g2 => ?_
 refine wl_ov (ov_build (cs := [.string ⟨#[118]⟩, .string ⟨#[99]⟩]) rfl (by kernel_rfl)) rfl ?_
 refine wl_buildSlice (e := 69) (cs := [.string ⟨#[118]⟩, .string ⟨#[99]⟩]) rfl (by kernel_rfl) rfl fun g3 => ?_
 refine wl_ov (ov_build (cs := [.slice (some ⟨g1, 0, none⟩) 1 1, .slice (some ⟨g2, 0, none⟩) 1 1, .slice (some ⟨g3, 0, none⟩) 1 1, .slice none 0 0]) rfl (by kernel_rfl)) rfl ?_
 refine wl_alloc zc31 rfl fun g4 => ?_
 refine wl_stores (cs' := [.slice (some ⟨g1, 0, none⟩) 1 1, .slice (some ⟨g2, 0, none⟩) 1 1, .slice (some ⟨g3, 0, none⟩) 1 1, .slice none 0 0]) 0 rz31 rfl rfl rfl rfl rfl rfl rfl rfl ?_
 refine nn_ (sr_ ?_)
 refine wl_ov (ov_loads rz31 rfl (fun _ hm => hm.blkI 0 rfl) rfl rfl) rfl ?_
 refine wl_ov (ov_build (cs := [.int .i64 5, .string ⟨#[118]⟩, .string ⟨#[115]⟩, .int .i64 1, .string ⟨#[]⟩]) rfl (by kernel_rfl)) rfl ?_
 refine wl_buildSlice (e := 105) (cs := [.int .i64 5, .string ⟨#[118]⟩, .string ⟨#[115]⟩, .int .i64 1, .string ⟨#[]⟩]) rfl (by kernel_rfl) rfl fun g5 => ?_
 refine wl_callv rfl cb78 rfl rfl (fun wx hm => (stateL g1 g2 g3 g5 wx (hm.blkI 4 rfl) (hm.blkI 3 rfl) (hm.blkI 2 rfl) (hm.blkI 0 rfl))) ?_
 refine mv_ rfl (wl_ov (ov_extract rfl rfl) rfl (wl_ov (ov_extract rfl rfl) rfl ?_))
 refine wl_alloc zc142 rfl fun g6 => ?_
 refine wl_stores (cs' := [.int .i64 1, .string ⟨#[115]⟩, .int .i64 5]) 0 rz142 rfl rfl rfl rfl rfl rfl rfl rfl ?_
 refine sg_ rfl (nn_ (sr_ (mv_ rfl (wl_ov (ov_eql rfl rfl) rfl ?_))))
 refine wl_set 19 (v' := .bool true) rfl (congrArg Value.bool (by decide)) ?_
 refine mv_ rfl (wl_guard_on rfl rfl rfl ?_)
 refine wl_ov (ov_loads rz142 rfl (fun _ hm => hm.blkI 0 rfl) rfl rfl) rfl ?_
 refine wl_guard_on rfl rfl rfl ?_
 refine wl_ov (ov_build (cs := [.int .i64 1, .string ⟨#[115]⟩, .int .i64 5]) rfl (by kernel_rfl)) rfl ?_
 refine wl_guard_on rfl rfl rfl ?_
 refine wl_ov (ov_bin rfl rfl (cmp_agg guard_state (fun wx => same_state_eql 1 ⟨#[115]⟩ 5 wx))) rfl ?_
 refine pt_ rfl rfl (sg_ rfl (nn_ ?_))
 refine gw_ret ?_
 refine nx_ret1 rfl rfl fun wx hm => ?_
 exact ⟨rfl, hm.g⟩
end Go.Proofs.YtdoooppeiphefaaGreatDoor
