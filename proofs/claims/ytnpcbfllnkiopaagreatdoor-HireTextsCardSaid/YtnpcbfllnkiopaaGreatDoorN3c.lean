/- Several texts as one: Htb Rdk Htc Buk Htd Tl Cp Fl Fv Cells Lst Ev Tw Aw Cl Sl Sk Stc Ta Fw Fx Fz Gf Gb Gst Lop LopA LopB Win LopC Sq Fq Sn Ix Sr Gg Eg Clr Cv Hte Gt Gr -/
import Derived.Test.YtnpcbfllnkiopaaGreatDoorN3b
import Derived.Test.YtnpcbfllnkiopaaGreatDoorN3a
import Derived.Lib.OthersKept
import Derived.Deep.LoopGhost
import Derived.Deep.DeepCutAuto
import Derived.Laws.AppendOwnNone
import Derived.Test.YtnpcbfllnkiopaaGreatDoorProg
import Derived.Ground.NamesProg
import Derived.Shelf.Small.Bits
import Derived.Shelf.Small.Strs
import Derived.StillTailTactics
import Derived.OneCell
import Derived.IntWalk
set_option maxRecDepth 100000
set_option maxHeartbeats 4000000
namespace Go.Proofs.YtnpcbfllnkiopaaGreatDoor
open Go.RowKit
def hrk (st : Option Hr) : ByteArray := match st with | none => ⟨#[]⟩ | some h => h.key
def hrd (st : Option Hr) : ByteArray := match st with | none => ⟨#[]⟩ | some h => h.driver
def hrf (st : Option Hr) : Int := match st with | none => 0 | some h => h.fr
def hrt (st : Option Hr) : Int := match st with | none => 0 | some h => h.to_
def hrls (st : Option Hr) : List Lg := match st with | none => [] | some h => h.legs
/-- The blocks and the row that hold a state. -/
def hrL (gf gh gr : Nat) (st : Option Hr) (v : Value) : List (Nat × TypeId × List Value) := [(gf, 4, [.bool st.isNone]), (gh, 45, [.string (hrk st), .string (hrd st), .int .i64 (hrf st), .int .i64 (hrt st), v]), (gr, 45, [.string ⟨#[]⟩, .string ⟨#[]⟩, .int .i64 0, .int .i64 0, .slice none 0 0])]
def hrO (st : Option Hr) (v : Value) : List Own := [⟨v, 128, 9, (hrls st).length, (hrls st).flatMap lgEnc⟩]
theorem stp_leg {t : ByteArray} {h : Hr} (hb : (!wdB t) = false) : (hStep t (some h)).2 = (hLeg (wdL t)).isSome ∧ ∀ g, hLeg (wdL t) = some g → (hStep t (some h)).1 = some (hPush h g) := by
  have h1 := hNew_leg (x := h) hb
  cases hl : hLeg (wdL t) with
  | none => rw [hl] at h1; rw [hStep_no h1]; exact ⟨rfl, fun g e => by cases e⟩
  | some g => rw [hl] at h1; rw [hStep_yes (x := hPush h g) h1]; exact ⟨rfl, fun g' e => by cases e; rfl⟩
theorem stp_wd {t : ByteArray} {st : Option Hr} (h : (!wdB t) = true) : (hStep t st).2 = false := by rw [hStep_no (hNew_wd h)]
theorem stp_hd {t : ByteArray} (hb : (!wdB t) = false) (h : hHd (wdL t) = none) : (hStep t none).2 = false := by rw [hStep_no ((hNew_hd hb).trans h)]
theorem stp_hd_yes {t : ByteArray} {x : Hr} (hb : (!wdB t) = false) (h : hHd (wdL t) = some x) : hStep t none = (some x, true) := hStep_yes ((hNew_hd hb).trans h)
theorem hd_yes {a0 a1 a2 a3 a4 : ByteArray} (h1 : eqS a0 hireW = true) (h2 : [a3, a4].all numB = true) : hHd [a0, a1, a2, a3, a4] = some ⟨a1, a2, numV a3, numV a4, []⟩ := if_pos (by rw [h1, h2]; rfl)
theorem hd_no {a0 a1 a2 a3 a4 : ByteArray} (h2 : [a3, a4].all numB = false) : hHd [a0, a1, a2, a3, a4] = none := if_neg (by rw [h2, Bool.and_false]; decide)
theorem hRead_none (t : ByteArray) (w0 w : World) (gf gh gr : Nat) (v : Value) (hts : t.size ≤ 1000000) (hm : Mem ⟨0, w0, none, [9, 3]⟩ (fun _ => True) [(gf, 4, [.bool true]), (gh, 45, [.string ⟨#[]⟩, .string ⟨#[]⟩, .int .i64 0, .int .i64 0, v]), (gr, 45, [.string ⟨#[]⟩, .string ⟨#[]⟩, .int .i64 0, .int .i64 0, .slice none 0 0])] [⟨v, 128, 9, 0, []⟩] [TxtO w0.heap.size none] w) :
  Calls Tryz.prog 91 #[.string t, .pointer (some ⟨gf, 0, none⟩), .pointer (some ⟨gh, 0, none⟩)] w (fun e w' => ∃ (v' : Value) (st' : Option Hr), e = .returned (.bool (hStep t none).2) ∧ ((hStep t none).2 = true → st' = (hStep t none).1) ∧ Mem ⟨0, w0, none, [9, 3]⟩ (fun _ => True) (hrL gf gh gr st' v') (hrO st' v') [TxtO w0.heap.size none] w') := by
 refine gw_enter ⟨64, w0, none, [9, 3]⟩ Tryz.func91 rfl Tryz.ntmps91 rfl hm.cx ?_
 refine sr_ ?_
 by_cases h5 : (wdL t).length = 5
 ·obtain ⟨a0, a1, a2, a3, a4, hw⟩ := list5 h5
  have hwz := wdL_sz t
  rw [hw] at hwz
  have za0 : a0.size ≤ 1000000 := Nat.le_trans (hwz a0 (by simp)) hts
  have za1 : a1.size ≤ 1000000 := Nat.le_trans (hwz a1 (by simp)) hts
  have za2 : a2.size ≤ 1000000 := Nat.le_trans (hwz a2 (by simp)) hts
  have za3 : a3.size ≤ 1000000 := Nat.le_trans (hwz a3 (by simp)) hts
  have za4 : a4.size ≤ 1000000 := Nat.le_trans (hwz a4 (by simp)) hts
  refine sg_ rfl (nn_ (sr_ (mv_ rfl ?_)))
  refine wl_callx (γ := Nat × Nat) (val := (fun g => .tuple #[.slice (some ⟨g.1, 0, none⟩) g.2 g.2, .bool (wdB t)])) (φ := (fun g => g.2 = 5)) (Y := (fun g => fun wy => SlT sgEnc 1 9 wy (some ⟨g.1, 0, none⟩) g.2 ([a0, a1, a2, a3, a4]))) rfl cb68 rfl rfl (fun wx hm => (words_any t wx (hm.fact 0 rfl).1 hts).mono fun _ _ ⟨gw, k, he, h1, h2, hg⟩ => ⟨(gw, k), he, by have h := h1.len; rw [hw] at h; exact h.symm, hg, by rw [hw] at h1; exact h1⟩) (fun _ => SlT.lasts2 rfl) ?_
  rintro ⟨gw, kw⟩ hkw
  dsimp only at hkw ⊢
  subst hkw
  refine mv_ rfl (wl_ov (ov_extract rfl rfl) rfl (wl_ov (ov_extract rfl rfl) rfl (sg_ rfl (sg_ rfl (nn_ (gw_seq (sr_ (mv_ rfl (wl_ov (ov_un_not rfl) rfl (nn_ ?_))))))))))
  rcases Bool.eq_false_or_eq_true (!(wdB t)) with h1 | h1
  ·refine gw_set 16 rfl (congrArg Value.bool h1) ?_
   refine ct_ rfl (sr_ (sg_ rfl (nn_ ?_)))
   refine gw_ret ?_
   refine nx_then_ret ?_
   refine nx_ret1 rfl rfl fun wx hm => ?_
   exact ⟨v, none, by rw [stp_wd h1], (fun h => absurd h (by rw [stp_wd h1]; decide)), (hm.pick [0, 1, 2] [0] [1] rfl rfl).cx⟩
  refine gw_set 16 rfl (congrArg Value.bool h1) ?_
  refine cf_ rfl (gw_skip (nx_then (gw_seq (sr_ (lk_ sc4 0 rfl rfl rfl (wl_ov (ov_un_not rfl) rfl ?_))))))
  refine wl_set 18 (v' := .bool false) rfl (congrArg Value.bool (by decide)) ?_
  refine nn_ (cf_ rfl (gw_skip (nx_then (sr_ ?_))))
  refine wl_store 0 sc4 rfl rfl rfl rfl rfl rfl ?_
  refine nn_ (gw_seq (sr_ (mv_ rfl ?_)))
  refine wl_ov (ov_index (j := 0) es112 rfl rfl (by omega)) rfl ?_
  refine wl_ov (ov_elem1 (k := 0) (v := .string a0) sc9 rfl (fun _ hm => (hm.fact 0 rfl)) (show ([a0, a1, a2, a3, a4] : List ByteArray)[0]? = some a0 from rfl) rfl rfl) rfl ?_
  refine wl_ov (ov_sneq rfl rfl) rfl (mv_ rfl ?_)
  rcases Bool.eq_false_or_eq_true (!(a0.toList == (⟨#[104, 105, 114, 101]⟩ : ByteArray).toList)) with h2 | h2
  ·refine wl_set 35 rfl (congrArg Value.bool h2) ?_
   have hN : (hStep t none).2 = false := stp_hd h1 (hHd_first hw (not_t h2))
   refine goff rfl rfl rfl (goff rfl rfl rfl (goff rfl rfl rfl (pt_ rfl rfl (nn_ (ct_ rfl (sr_ (sg_ rfl (nn_ ?_))))))))
   refine gw_ret ?_
   refine nx_then_ret ?_
   refine nx_ret1 rfl rfl fun wx hm => ?_
   exact ⟨v, (some zeroHr), by rw [hN], (fun h => absurd h (by rw [hN]; decide)), (hm.pick [0, 1, 2] [0] [1] rfl rfl).cx⟩
  refine wl_set 35 rfl (congrArg Value.bool h2) ?_
  have hq : eqS a0 hireW = true := not_f h2
  obtain ⟨NB, hNB⟩ : ∃ z, z = [a3, a4].all numB := ⟨_, rfl⟩
  refine wl_guard_on rfl rfl rfl (mv_ rfl (wl_guard_on rfl rfl rfl (wl_ov (ov_len es112 rfl) rfl ?_)))
  refine wl_set 37 (v' := .int .i64 5) rfl rfl ?_
  refine wl_guard_on rfl rfl rfl (wl_ov (ov_neq rfl rfl) rfl ?_)
  refine wl_set 38 (v' := .bool false) rfl (congrArg Value.bool (by decide)) ?_
  refine pf_ rfl rfl (nn_ (cf_ rfl (gw_skip (nx_then (sr_ (mv_ rfl ?_))))))
  refine wl_ov (ov_sliceLo (lo := 3) es112 rfl rfl rfl (by omega)) rfl ?_
  refine wl_callx (γ := Option Addr × Nat × Nat) (val := (fun g => .tuple #[.slice g.1 g.2.1 g.2.2, .bool NB])) (φ := (fun g => True)) (Y := (fun g => fun wy => IfT NB (SlT tiEnc 1 3 wy g.1 g.2.1 [numV a3, numV a4] ∧ g.2.1 = 5 - 3))) rfl cb69 rfl rfl (fun wx hm => (by have h := numbers_any [a3, a4] (if 5 = 3 then (some ⟨gw, 0, none⟩) else Option.map (fun a : Addr => a.add (3 * 1)) (some ⟨gw, 0, none⟩)) (5 - 3) (5 - 3) wx (hm.fact 1 rfl).1 (SlT.dropS (c := 5) (hm.fact 0 rfl) 3 (by omega) (by omega)) (by omega) (fun x hx => by simp only [List.mem_cons, List.not_mem_nil, or_false] at hx; rcases hx with rfl | rfl <;> assumption); rw [← hNB] at h; exact h.mono fun _ _ ⟨A2, k, c2, he, h1, hg⟩ => ⟨(A2, k, c2), he, trivial, hg, h1⟩)) (fun _ => (SlT.lasts2 rfl).ift) ?_
  rintro ⟨nA, nk, nc⟩ hphi
  dsimp only
  clear hphi
  refine mv_ rfl (wl_ov (ov_extract rfl rfl) rfl (wl_ov (ov_extract rfl rfl) rfl (sg_ rfl (sg_ rfl (nn_ (gw_seq (sr_ (mv_ rfl (nn_ ?_)))))))))
  refine gw_cond rfl (fun hh => ?_) (fun hh => ?_)
  ·have hn : NB = true := by simpa using hh
   clear hh
   subst hn
   have hN := stp_hd_yes h1 (hw ▸ hd_yes hq hNB.symm)
   refine gw_look (R := nk = 2) (fun wx hm => ((hm.fact 0 rfl) rfl).2) ?_
   rintro rfl
   refine gw_look (R := ∃ b o, nA = some ⟨b, o, none⟩) (fun wx hm => by obtain ⟨b, off, hA, _, _⟩ := SlT.get ((hm.fact 0 rfl) rfl).1 (by omega); exact ⟨b, off, hA⟩) ?_
   rintro ⟨bn, on, rfl⟩
   refine gd (fun wz => Blk wz gf 4 [.bool false] ∧ Blk wz gr 45 [.string ⟨#[]⟩, .string ⟨#[]⟩, .int .i64 0, .int .i64 0, .slice none 0 0] ∧ (fun wy => IfT true (SlT tiEnc 1 3 wy (some ⟨bn, on, none⟩) 2 [numV a3, numV a4] ∧ 2 = 5 - 3)) wz ∧ (fun wy => SlT sgEnc 1 9 wy (some ⟨gw, 0, none⟩) 5 ([a0, a1, a2, a3, a4])) wz ∧ (TxtO w0.heap.size none) wz ∧ True) mixed (fun _ hm => ⟨hm.bl 0, hm.bl 2, hm.fa 0, hm.fa 1, hm.fa 2, trivial⟩) fun z => ?_
   refine wt 0 19 1 rfl z (ov_move rfl) ?_
   refine wt 1 19 3 rfl z (ov_index (j := 1) es112 rfl rfl (by omega)) ?_
   refine wt 2 19 7 rfl z (ov_elem1 (k := 0) (v := .string a1) sc9 rfl (fun _ hm => (hm.2.2.2.1)) (show ([a0, a1, a2, a3, a4] : List ByteArray)[1]? = some a1 from rfl) rfl rfl) ?_
   refine wt 3 19 15 rfl z (ov_move rfl) ?_
   refine wt 4 19 31 rfl z (ov_index (j := 2) es112 rfl rfl (by omega)) ?_
   refine wt 5 19 63 rfl z (ov_elem1 (k := 0) (v := .string a2) sc9 rfl (fun _ hm => (hm.2.2.2.1)) (show ([a0, a1, a2, a3, a4] : List ByteArray)[2]? = some a2 from rfl) rfl rfl) ?_
   refine wt 6 19 127 rfl z (ov_move rfl) ?_
   refine wt 7 19 255 rfl z (ov_index (j := 0) es22 rfl rfl (by omega)) ?_
   refine wt 8 19 511 rfl z (ov_elem1 (k := 0) (v := .int .i64 (numV a3)) sc3 rfl (fun _ hm => ((hm.2.2.1) rfl).1) (show ([numV a3, numV a4] : List Int)[0]? = some (numV a3) from rfl) rfl rfl) ?_
   refine wt 9 19 1023 rfl z (ov_move rfl) ?_
   refine wt 10 19 2047 rfl z (ov_index (j := 1) es22 rfl rfl (by omega)) ?_
   refine wt 11 19 4095 rfl z (ov_elem1 (k := 0) (v := .int .i64 (numV a4)) sc3 rfl (fun _ hm => ((hm.2.2.1) rfl).1) (show ([numV a3, numV a4] : List Int)[1]? = some (numV a4) from rfl) rfl rfl) ?_
   refine wt 12 19 8191 rfl z (ov_build (cs := [.int .i64 (numV a3), .int .i64 (numV a4)]) rfl (by kernel_rfl)) ?_
   refine wt 13 19 16383 rfl z (ov_field fo45_0 rfl rfl) ?_
   refine wa1 14 rfl ?_
   refine wl_store 1 sc9 rfl rfl rfl rfl rfl rfl ?_
   refine wl_nil ?_
   refine nw 19 32767 (fun _ hm => ⟨hm.bl 0, hm.bl 2, hm.fa 0, hm.fa 1, hm.fa 2, trivial⟩) fun z => ?_
   refine wt 15 19 65535 rfl z (ov_field fo45_1 rfl rfl) ?_
   refine wa1 16 rfl ?_
   refine wl_store 1 sc9 rfl rfl rfl rfl rfl rfl ?_
   refine wl_nil ?_
   refine nw 19 131071 (fun _ hm => ⟨hm.bl 0, hm.bl 2, hm.fa 0, hm.fa 1, hm.fa 2, trivial⟩) fun z => ?_
   refine wt 17 19 262143 rfl z (ov_field fo45_2 rfl rfl) ?_
   refine wa1 18 rfl ?_
   refine wl_stores (cs' := [.string a1, .string a2, .int .i64 (numV a3), .int .i64 (numV a4), v]) 1 rz42 rfl rfl rfl rfl rfl rfl rfl rfl ?_
   refine wl_nil ?_
   refine nw 19 524287 (fun _ hm => ⟨hm.bl 0, hm.bl 2, hm.fa 0, hm.fa 1, hm.fa 2, trivial⟩) fun z => ?_
   refine wa_done (by kernel_rfl) ?_
   refine nx_then (sr_ (mv_ rfl (sg_ rfl (nn_ ?_))))
   refine gw_ret ?_
   refine nx_ret1 rfl rfl fun wx hm => ?_
   exact ⟨v, some ⟨a1, a2, numV a3, numV a4, []⟩, by rw [hN], (fun _ => by rw [hN]), (hm.pick [0, 1, 2] [0] [2] rfl rfl).cx⟩
  have hn : NB = false := by simpa using hh
  clear hh
  refine gw_skip (nx_then (sr_ ?_))
  subst hn
  have hN : (hStep t none).2 = false := stp_hd h1 (hw ▸ hd_no hNB.symm)
  refine mv_ rfl (sg_ rfl (nn_ ?_))
  refine gw_ret ?_
  refine nx_ret1 rfl rfl fun wx hm => ?_
  exact ⟨v, (some zeroHr), by rw [hN], (fun h => absurd h (by rw [hN]; decide)), (hm.pick [0, 1, 2] [0] [2] rfl rfl).cx⟩
 refine sg_ rfl (nn_ (sr_ (mv_ rfl ?_)))
 refine wl_callx (γ := Nat × Nat) (val := (fun g => .tuple #[.slice (some ⟨g.1, 0, none⟩) g.2 g.2, .bool (wdB t)])) (φ := (fun g => g.2 = (wdL t).length ∧ 1 ≤ g.2 ∧ g.2 ≤ t.size + 1)) (Y := (fun g => fun wy => SlT sgEnc 1 9 wy (some ⟨g.1, 0, none⟩) g.2 (wdL t))) rfl cb68 rfl rfl (fun wx hm => (words_any t wx (hm.fact 0 rfl).1 hts).mono fun _ _ ⟨gw, k, he, h1, h2, hg⟩ => ⟨(gw, k), he, ⟨h1.len.symm, h2⟩, hg, h1⟩) (fun _ => SlT.lasts2 rfl) ?_
 rintro ⟨gw, kw⟩ hkw
 dsimp only at hkw ⊢
 refine mv_ rfl (wl_ov (ov_extract rfl rfl) rfl (wl_ov (ov_extract rfl rfl) rfl (sg_ rfl (sg_ rfl (nn_ (gw_seq (sr_ (mv_ rfl (wl_ov (ov_un_not rfl) rfl (nn_ ?_))))))))))
 rcases Bool.eq_false_or_eq_true (!(wdB t)) with h1 | h1
 ·refine gw_set 16 rfl (congrArg Value.bool h1) ?_
  refine ct_ rfl (sr_ (sg_ rfl (nn_ ?_)))
  refine gw_ret ?_
  refine nx_then_ret ?_
  refine nx_ret1 rfl rfl fun wx hm => ?_
  exact ⟨v, none, by rw [stp_wd h1], (fun h => absurd h (by rw [stp_wd h1]; decide)), (hm.pick [0, 1, 2] [0] [1] rfl rfl).cx⟩
 refine gw_set 16 rfl (congrArg Value.bool h1) ?_
 obtain ⟨hkl, hk1, _⟩ := hkw
 have hk5 : ¬ ((kw : Nat) : Int) = 5 := by omega
 have hN : (hStep t none).2 = false := stp_hd h1 (hHd_len h5)
 obtain ⟨a0, hx0⟩ : ∃ x, (wdL t)[0]? = some x := ⟨_, List.getElem?_eq_getElem (by omega)⟩
 refine cf_ rfl (gw_skip (nx_then (gw_seq (sr_ (lk_ sc4 0 rfl rfl rfl (wl_ov (ov_un_not rfl) rfl ?_))))))
 refine wl_set 18 (v' := .bool false) rfl (congrArg Value.bool (by decide)) ?_
 refine nn_ (cf_ rfl (gw_skip (nx_then (sr_ ?_))))
 refine wl_store 0 sc4 rfl rfl rfl rfl rfl rfl ?_
 refine nn_ (gw_seq (sr_ (mv_ rfl ?_)))
 refine wl_ov (ov_index (j := 0) es112 rfl rfl (by omega)) rfl ?_
 refine wl_ov (ov_elem1 (k := 0) (v := .string a0) sc9 rfl (fun _ hm => (hm.fact 0 rfl)) hx0 rfl rfl) rfl ?_
 refine wl_ov (ov_sneq rfl rfl) rfl (mv_ rfl ?_)
 rcases Bool.eq_false_or_eq_true (!(a0.toList == (⟨#[104, 105, 114, 101]⟩ : ByteArray).toList)) with hq | hq
 ·refine wl_set 35 rfl (congrArg Value.bool hq) ?_
  refine goff rfl rfl rfl (goff rfl rfl rfl (goff rfl rfl rfl (pt_ rfl rfl (nn_ (ct_ rfl (sr_ (sg_ rfl (nn_ ?_))))))))
  refine gw_ret ?_
  refine nx_then_ret ?_
  refine nx_ret1 rfl rfl fun wx hm => ?_
  exact ⟨v, (some zeroHr), by rw [hN], (fun h => absurd h (by rw [hN]; decide)), (hm.pick [0, 1, 2] [0] [1] rfl rfl).cx⟩
 refine wl_set 35 rfl (congrArg Value.bool hq) ?_
 refine wl_guard_on rfl rfl rfl (mv_ rfl (wl_guard_on rfl rfl rfl (wl_ov (ov_len es112 rfl) rfl (wl_guard_on rfl rfl rfl (wl_ov (ov_neq rfl rfl) rfl (pf_ rfl rfl (nn_ ?_)))))))
 refine gw_set 39 (v' := .bool true) rfl (congrArg Value.bool (by rw [decide_eq_false hk5]; rfl)) ?_
 refine ct_ rfl (sr_ (sg_ rfl (nn_ ?_)))
 refine gw_ret ?_
 refine nx_then_ret ?_
 refine nx_ret1 rfl rfl fun wx hm => ?_
 exact ⟨v, (some zeroHr), by rw [hN], (fun h => absurd h (by rw [hN]; decide)), (hm.pick [0, 1, 2] [0] [1] rfl rfl).cx⟩
theorem hRref_none (t : ByteArray) (w0 w : World) (gf gh gr : Nat) (v : Value) (hts : t.size ≤ 1000000) (hm : Mem ⟨0, w0, none, [9, 3]⟩ (fun _ => True) [(gf, 4, [.bool true]), (gh, 45, [.string ⟨#[]⟩, .string ⟨#[]⟩, .int .i64 0, .int .i64 0, v]), (gr, 45, [.string ⟨#[]⟩, .string ⟨#[]⟩, .int .i64 0, .int .i64 0, .slice none 0 0])] [⟨v, 128, 9, 0, []⟩] [TxtO w0.heap.size none] w) :
  Calls Tryz.prog 93 #[.string t, .pointer (some ⟨gf, 0, none⟩), .pointer (some ⟨gh, 0, none⟩)] w (fun e w' => ∃ (v' : Value) (st' : Option Hr), e = .returned (.bool (hStep t none).2) ∧ ((hStep t none).2 = true → st' = (hStep t none).1) ∧ Mem ⟨0, w0, none, [9, 3]⟩ (fun _ => True) (hrL gf gh gr st' v') (hrO st' v') [TxtO w0.heap.size none] w') := by
 refine gw_enter ⟨99, w0, none, [9, 3]⟩ Tryz.func93 rfl Tryz.ntmps93 rfl hm.cx ?_
 refine sr_ ?_
 by_cases h5 : (wdL t).length = 5
 ·obtain ⟨a0, a1, a2, a3, a4, hw⟩ := list5 h5
  have hwz := wdL_sz t
  rw [hw] at hwz
  have za0 : a0.size ≤ 1000000 := Nat.le_trans (hwz a0 (by simp)) hts
  have za1 : a1.size ≤ 1000000 := Nat.le_trans (hwz a1 (by simp)) hts
  have za2 : a2.size ≤ 1000000 := Nat.le_trans (hwz a2 (by simp)) hts
  have za3 : a3.size ≤ 1000000 := Nat.le_trans (hwz a3 (by simp)) hts
  have za4 : a4.size ≤ 1000000 := Nat.le_trans (hwz a4 (by simp)) hts
  refine sg_ rfl (nn_ (sr_ (mv_ rfl ?_)))
  refine wl_callx (γ := Nat × Nat) (val := (fun g => .tuple #[.slice (some ⟨g.1, 0, none⟩) g.2 g.2, .bool (wdB t)])) (φ := (fun g => g.2 = 5)) (Y := (fun g => fun wy => SlT sgEnc 1 9 wy (some ⟨g.1, 0, none⟩) g.2 ([a0, a1, a2, a3, a4]))) rfl cb72 rfl rfl (fun wx hm => (rwords_any t wx (hm.fact 0 rfl).1 hts).mono fun _ _ ⟨gw, k, he, h1, h2, hg⟩ => ⟨(gw, k), he, by have h := h1.len; rw [hw] at h; exact h.symm, hg, by rw [hw] at h1; exact h1⟩) (fun _ => SlT.lasts2 rfl) ?_
  rintro ⟨gw, kw⟩ hkw
  dsimp only at hkw ⊢
  subst hkw
  refine mv_ rfl (wl_ov (ov_extract rfl rfl) rfl (wl_ov (ov_extract rfl rfl) rfl (sg_ rfl (sg_ rfl (nn_ (gw_seq (sr_ (mv_ rfl (wl_ov (ov_un_not rfl) rfl (nn_ ?_))))))))))
  rcases Bool.eq_false_or_eq_true (!(wdB t)) with h1 | h1
  ·refine gw_set 16 rfl (congrArg Value.bool h1) ?_
   refine ct_ rfl (sr_ (sg_ rfl (nn_ ?_)))
   refine gw_ret ?_
   refine nx_then_ret ?_
   refine nx_ret1 rfl rfl fun wx hm => ?_
   exact ⟨v, none, by rw [stp_wd h1], (fun h => absurd h (by rw [stp_wd h1]; decide)), (hm.pick [0, 1, 2] [0] [1] rfl rfl).cx⟩
  refine gw_set 16 rfl (congrArg Value.bool h1) ?_
  refine cf_ rfl (gw_skip (nx_then (gw_seq (sr_ (lk_ sc4 0 rfl rfl rfl (nn_ (ct_ rfl (sr_ ?_))))))))
  refine wl_store 0 sc4 rfl rfl rfl rfl rfl rfl ?_
  refine nn_ (gw_seq (sr_ (mv_ rfl (wl_ov (ov_len es112 rfl) rfl ?_))))
  refine wl_set 19 (v' := .int .i64 5) rfl rfl ?_
  refine wl_ov (ov_neq rfl rfl) rfl ?_
  refine wl_set 20 (v' := .bool false) rfl (congrArg Value.bool (by decide)) ?_
  refine mv_ rfl (wl_guard_on rfl rfl rfl (mv_ rfl (wl_guard_on rfl rfl rfl ?_)))
  refine wl_ov (ov_index (j := 0) es112 rfl rfl (by omega)) rfl ?_
  refine wl_guard_on rfl rfl rfl ?_
  refine wl_ov (ov_elem1 (k := 0) (v := .string a0) sc9 rfl (fun _ hm => (hm.fact 0 rfl)) (show ([a0, a1, a2, a3, a4] : List ByteArray)[0]? = some a0 from rfl) rfl rfl) rfl ?_
  refine wl_guard_on rfl rfl rfl (wl_ov (ov_sneq rfl rfl) rfl (pf_ rfl rfl (nn_ ?_)))
  rcases Bool.eq_false_or_eq_true (!(a0.toList == (⟨#[104, 105, 114, 101]⟩ : ByteArray).toList)) with h2 | h2
  ·refine gw_set 26 rfl (congrArg Value.bool h2) ?_
   have hN : (hStep t none).2 = false := stp_hd h1 (hHd_first hw (not_t h2))
   refine ct_ rfl (sr_ (sg_ rfl (nn_ ?_)))
   refine gw_ret ?_
   refine nx_then_ret (nx_then_ret ?_)
   refine nx_ret1 rfl rfl fun wx hm => ?_
   exact ⟨v, (some zeroHr), by rw [hN], (fun h => absurd h (by rw [hN]; decide)), (hm.pick [0, 1, 2] [0] [1] rfl rfl).cx⟩
  refine gw_set 26 rfl (congrArg Value.bool h2) ?_
  have hq : eqS a0 hireW = true := not_f h2
  obtain ⟨NB, hNB⟩ : ∃ z, z = [a3, a4].all numB := ⟨_, rfl⟩
  refine cf_ rfl (gw_skip (nx_then (sr_ (mv_ rfl ?_))))
  refine wl_ov (ov_sliceLo (lo := 3) es112 rfl rfl rfl (by omega)) rfl ?_
  refine wl_callx (γ := Option Addr × Nat × Nat) (val := (fun g => .tuple #[.slice g.1 g.2.1 g.2.2, .bool NB])) (φ := (fun g => True)) (Y := (fun g => fun wy => IfT NB (SlT tiEnc 1 3 wy g.1 g.2.1 [numV a3, numV a4] ∧ g.2.1 = 5 - 3))) rfl cb73 rfl rfl (fun wx hm => (by have h := rnumbers_any [a3, a4] (if 5 = 3 then (some ⟨gw, 0, none⟩) else Option.map (fun a : Addr => a.add (3 * 1)) (some ⟨gw, 0, none⟩)) (5 - 3) (5 - 3) wx (hm.fact 1 rfl).1 (SlT.dropS (c := 5) (hm.fact 0 rfl) 3 (by omega) (by omega)) (by omega) (fun x hx => by simp only [List.mem_cons, List.not_mem_nil, or_false] at hx; rcases hx with rfl | rfl <;> assumption); rw [← hNB] at h; exact h.mono fun _ _ ⟨A2, k, c2, he, h1, hg⟩ => ⟨(A2, k, c2), he, trivial, hg, h1⟩)) (fun _ => (SlT.lasts2 rfl).ift) ?_
  rintro ⟨nA, nk, nc⟩ hphi
  dsimp only
  clear hphi
  refine mv_ rfl (wl_ov (ov_extract rfl rfl) rfl (wl_ov (ov_extract rfl rfl) rfl (sg_ rfl (sg_ rfl (nn_ (gw_seq (sr_ (mv_ rfl (nn_ ?_)))))))))
  refine gw_cond rfl (fun hh => ?_) (fun hh => ?_)
  ·have hn : NB = true := by simpa using hh
   clear hh
   subst hn
   have hN := stp_hd_yes h1 (hw ▸ hd_yes hq hNB.symm)
   refine gw_look (R := nk = 2) (fun wx hm => ((hm.fact 0 rfl) rfl).2) ?_
   rintro rfl
   refine gw_look (R := ∃ b o, nA = some ⟨b, o, none⟩) (fun wx hm => by obtain ⟨b, off, hA, _, _⟩ := SlT.get ((hm.fact 0 rfl) rfl).1 (by omega); exact ⟨b, off, hA⟩) ?_
   rintro ⟨bn, on, rfl⟩
   refine gw_nilOwn 128 9 ?_
   refine gd (fun wz => Blk wz gf 4 [.bool false] ∧ Blk wz gr 45 [.string ⟨#[]⟩, .string ⟨#[]⟩, .int .i64 0, .int .i64 0, .slice none 0 0] ∧ (fun wy => IfT true (SlT tiEnc 1 3 wy (some ⟨bn, on, none⟩) 2 [numV a3, numV a4] ∧ 2 = 5 - 3)) wz ∧ (fun wy => SlT sgEnc 1 9 wy (some ⟨gw, 0, none⟩) 5 ([a0, a1, a2, a3, a4])) wz ∧ (TxtO w0.heap.size none) wz ∧ True) mixed (fun _ hm => ⟨hm.bl 0, hm.bl 2, hm.fa 0, hm.fa 1, hm.fa 2, trivial⟩) fun z => ?_
   refine wt 0 23 1 rfl z (ov_move rfl) ?_
   refine wt 1 23 3 rfl z (ov_index (j := 1) es112 rfl rfl (by omega)) ?_
   refine wt 2 23 7 rfl z (ov_elem1 (k := 0) (v := .string a1) sc9 rfl (fun _ hm => (hm.2.2.2.1)) (show ([a0, a1, a2, a3, a4] : List ByteArray)[1]? = some a1 from rfl) rfl rfl) ?_
   refine wt 3 23 15 rfl z (ov_move rfl) ?_
   refine wt 4 23 31 rfl z (ov_index (j := 2) es112 rfl rfl (by omega)) ?_
   refine wt 5 23 63 rfl z (ov_elem1 (k := 0) (v := .string a2) sc9 rfl (fun _ hm => (hm.2.2.2.1)) (show ([a0, a1, a2, a3, a4] : List ByteArray)[2]? = some a2 from rfl) rfl rfl) ?_
   refine wt 6 23 127 rfl z (ov_move rfl) ?_
   refine wt 7 23 255 rfl z (ov_index (j := 0) es22 rfl rfl (by omega)) ?_
   refine wt 8 23 511 rfl z (ov_elem1 (k := 0) (v := .int .i64 (numV a3)) sc3 rfl (fun _ hm => ((hm.2.2.1) rfl).1) (show ([numV a3, numV a4] : List Int)[0]? = some (numV a3) from rfl) rfl rfl) ?_
   refine wt 9 23 1023 rfl z (ov_move rfl) ?_
   refine wt 10 23 2047 rfl z (ov_index (j := 1) es22 rfl rfl (by omega)) ?_
   refine wt 11 23 4095 rfl z (ov_elem1 (k := 0) (v := .int .i64 (numV a4)) sc3 rfl (fun _ hm => ((hm.2.2.1) rfl).1) (show ([numV a3, numV a4] : List Int)[1]? = some (numV a4) from rfl) rfl rfl) ?_
   refine wa1 12 rfl ?_
   refine wl_stores (cs' := [.string ⟨#[]⟩, .string ⟨#[]⟩, .int .i64 0, .int .i64 0, .slice none 0 0]) 1 rz45 rfl rfl rfl rfl rfl rfl rfl rfl ?_
   refine wl_nil ?_
   refine nw 23 8191 (fun _ hm => ⟨hm.bl 0, hm.bl 2, hm.fa 0, hm.fa 1, hm.fa 2, trivial⟩) fun z => ?_
   refine wt 13 23 16383 rfl z (ov_field fo45_0 rfl rfl) ?_
   refine wa1 14 rfl ?_
   refine wl_store 1 sc9 rfl rfl rfl rfl rfl rfl ?_
   refine wl_nil ?_
   refine nw 23 32767 (fun _ hm => ⟨hm.bl 0, hm.bl 2, hm.fa 0, hm.fa 1, hm.fa 2, trivial⟩) fun z => ?_
   refine wt 15 23 65535 rfl z (ov_field fo45_1 rfl rfl) ?_
   refine wa1 16 rfl ?_
   refine wl_store 1 sc9 rfl rfl rfl rfl rfl rfl ?_
   refine wl_nil ?_
   refine nw 23 131071 (fun _ hm => ⟨hm.bl 0, hm.bl 2, hm.fa 0, hm.fa 1, hm.fa 2, trivial⟩) fun z => ?_
   refine wt 17 23 262143 rfl z (ov_field fo45_2 rfl rfl) ?_
   refine wt 18 23 524287 rfl z (ov_field fo42_0 rfl rfl) ?_
   refine wa1 19 rfl ?_
   refine wl_store 1 sc3 rfl rfl rfl rfl rfl rfl ?_
   refine wl_nil ?_
   refine nw 23 1048575 (fun _ hm => ⟨hm.bl 0, hm.bl 2, hm.fa 0, hm.fa 1, hm.fa 2, trivial⟩) fun z => ?_
   refine wt 20 23 2097151 rfl z (ov_field fo45_2 rfl rfl) ?_
   refine wt 21 23 4194303 rfl z (ov_field fo42_1 rfl rfl) ?_
   refine wa1 22 rfl ?_
   refine wl_store 1 sc3 rfl rfl rfl rfl rfl rfl ?_
   refine wl_nil ?_
   refine nw 23 8388607 (fun _ hm => ⟨hm.bl 0, hm.bl 2, hm.fa 0, hm.fa 1, hm.fa 2, trivial⟩) fun z => ?_
   refine wa_done (by kernel_rfl) ?_
   refine nx_then (sr_ (mv_ rfl (sg_ rfl (nn_ ?_))))
   refine gw_ret ?_
   refine nx_then_ret ?_
   refine nx_ret1 rfl rfl fun wx hm => ?_
   exact ⟨.slice none 0 0, some ⟨a1, a2, numV a3, numV a4, []⟩, by rw [hN], (fun _ => by rw [hN]), (hm.pick [0, 1, 2] [0] [2] rfl rfl).cx⟩
  have hn : NB = false := by simpa using hh
  clear hh
  refine gw_skip (nx_then (sr_ ?_))
  subst hn
  have hN : (hStep t none).2 = false := stp_hd h1 (hw ▸ hd_no hNB.symm)
  refine mv_ rfl (sg_ rfl (nn_ ?_))
  refine gw_ret ?_
  refine nx_then_ret ?_
  refine nx_ret1 rfl rfl fun wx hm => ?_
  exact ⟨v, (some zeroHr), by rw [hN], (fun h => absurd h (by rw [hN]; decide)), (hm.pick [0, 1, 2] [0] [2] rfl rfl).cx⟩
 refine sg_ rfl (nn_ (sr_ (mv_ rfl ?_)))
 refine wl_callx (γ := Nat × Nat) (val := (fun g => .tuple #[.slice (some ⟨g.1, 0, none⟩) g.2 g.2, .bool (wdB t)])) (φ := (fun g => g.2 = (wdL t).length ∧ 1 ≤ g.2 ∧ g.2 ≤ t.size + 1)) (Y := (fun g => fun wy => SlT sgEnc 1 9 wy (some ⟨g.1, 0, none⟩) g.2 (wdL t))) rfl cb72 rfl rfl (fun wx hm => (rwords_any t wx (hm.fact 0 rfl).1 hts).mono fun _ _ ⟨gw, k, he, h1, h2, hg⟩ => ⟨(gw, k), he, ⟨h1.len.symm, h2⟩, hg, h1⟩) (fun _ => SlT.lasts2 rfl) ?_
 rintro ⟨gw, kw⟩ hkw
 dsimp only at hkw ⊢
 refine mv_ rfl (wl_ov (ov_extract rfl rfl) rfl (wl_ov (ov_extract rfl rfl) rfl (sg_ rfl (sg_ rfl (nn_ (gw_seq (sr_ (mv_ rfl (wl_ov (ov_un_not rfl) rfl (nn_ ?_))))))))))
 rcases Bool.eq_false_or_eq_true (!(wdB t)) with h1 | h1
 ·refine gw_set 16 rfl (congrArg Value.bool h1) ?_
  refine ct_ rfl (sr_ (sg_ rfl (nn_ ?_)))
  refine gw_ret ?_
  refine nx_then_ret ?_
  refine nx_ret1 rfl rfl fun wx hm => ?_
  exact ⟨v, none, by rw [stp_wd h1], (fun h => absurd h (by rw [stp_wd h1]; decide)), (hm.pick [0, 1, 2] [0] [1] rfl rfl).cx⟩
 refine gw_set 16 rfl (congrArg Value.bool h1) ?_
 obtain ⟨hkl, hk1, _⟩ := hkw
 have hk5 : ¬ ((kw : Nat) : Int) = 5 := by omega
 have hN : (hStep t none).2 = false := stp_hd h1 (hHd_len h5)
 obtain ⟨a0, hx0⟩ : ∃ x, (wdL t)[0]? = some x := ⟨_, List.getElem?_eq_getElem (by omega)⟩
 refine cf_ rfl (gw_skip (nx_then (gw_seq (sr_ (lk_ sc4 0 rfl rfl rfl (nn_ (ct_ rfl (sr_ ?_))))))))
 refine wl_store 0 sc4 rfl rfl rfl rfl rfl rfl ?_
 refine nn_ (gw_seq (sr_ (mv_ rfl (wl_ov (ov_len es112 rfl) rfl (wl_ov (ov_neq rfl rfl) rfl (mv_ rfl ?_))))))
 refine wl_set 21 (v' := .bool true) rfl (congrArg Value.bool (by rw [decide_eq_false hk5]; rfl)) ?_
 refine goff rfl rfl rfl (goff rfl rfl rfl (goff rfl rfl rfl (goff rfl rfl rfl (pt_ rfl rfl (nn_ (ct_ rfl (sr_ (sg_ rfl (nn_ ?_)))))))))
 refine gw_ret ?_
 refine nx_then_ret (nx_then_ret ?_)
 refine nx_ret1 rfl rfl fun wx hm => ?_
 exact ⟨v, (some zeroHr), by rw [hN], (fun h => absurd h (by rw [hN]; decide)), (hm.pick [0, 1, 2] [0] [1] rfl rfl).cx⟩
theorem hRead_some (t : ByteArray) (w0 w : World) (gf gh gr : Nat) (v : Value) (k d : ByteArray) (f t2 : Int) (ls : List Lg) (hts : t.size ≤ 1000000) (hls : ls.length ≤ 1000000) (hm : Mem ⟨0, w0, none, [9, 3]⟩ (fun _ => True) [(gf, 4, [.bool false]), (gh, 45, [.string k, .string d, .int .i64 f, .int .i64 t2, v]), (gr, 45, [.string ⟨#[]⟩, .string ⟨#[]⟩, .int .i64 0, .int .i64 0, .slice none 0 0])] [⟨v, 128, 9, ls.length, ls.flatMap lgEnc⟩] [TxtO w0.heap.size none] w) :
  Calls Tryz.prog 91 #[.string t, .pointer (some ⟨gf, 0, none⟩), .pointer (some ⟨gh, 0, none⟩)] w (fun e w' => ∃ (v' : Value) (st' : Option Hr), e = .returned (.bool (hStep t (some (⟨k, d, f, t2, ls⟩ : Hr))).2) ∧ ((hStep t (some (⟨k, d, f, t2, ls⟩ : Hr))).2 = true → st' = (hStep t (some (⟨k, d, f, t2, ls⟩ : Hr))).1) ∧ Mem ⟨0, w0, none, [9, 3]⟩ (fun _ => True) (hrL gf gh gr st' v') (hrO st' v') [TxtO w0.heap.size none] w') := by
 refine gw_enter ⟨64, w0, none, [9, 3]⟩ Tryz.func91 rfl Tryz.ntmps91 rfl hm.cx ?_
 refine sr_ (sg_ rfl (nn_ (sr_ (mv_ rfl ?_))))
 refine wl_callx (γ := Nat × Nat) (val := (fun g => .tuple #[.slice (some ⟨g.1, 0, none⟩) g.2 g.2, .bool (wdB t)])) (φ := (fun g => g.2 = (wdL t).length ∧ 1 ≤ g.2 ∧ g.2 ≤ t.size + 1)) (Y := (fun g => fun wy => SlT sgEnc 1 9 wy (some ⟨g.1, 0, none⟩) g.2 (wdL t))) rfl cb68 rfl rfl (fun wx hm => (words_any t wx (hm.fact 0 rfl).1 hts).mono fun _ _ ⟨gw, k, he, h1, h2, hg⟩ => ⟨(gw, k), he, ⟨h1.len.symm, h2⟩, hg, h1⟩) (fun _ => SlT.lasts2 rfl) ?_
 rintro ⟨gw, kw⟩ hkw
 dsimp only at hkw ⊢
 obtain ⟨hkl, hk1, hk2⟩ := hkw
 refine mv_ rfl (wl_ov (ov_extract rfl rfl) rfl (wl_ov (ov_extract rfl rfl) rfl (sg_ rfl (sg_ rfl (nn_ (gw_seq (sr_ (mv_ rfl (wl_ov (ov_un_not rfl) rfl (nn_ ?_))))))))))
 rcases Bool.eq_false_or_eq_true (!(wdB t)) with h1 | h1
 ·refine gw_set 16 rfl (congrArg Value.bool h1) ?_
  refine ct_ rfl (sr_ (sg_ rfl (nn_ ?_)))
  refine gw_ret ?_
  refine nx_then_ret ?_
  refine nx_ret1 rfl rfl fun wx hm => ?_
  exact ⟨v, (some (⟨k, d, f, t2, ls⟩ : Hr)), by rw [stp_wd h1], (fun h => absurd h (by rw [stp_wd h1]; decide)), (hm.pick [0, 1, 2] [0] [1] rfl rfl).cx⟩
 refine gw_set 16 rfl (congrArg Value.bool h1) ?_
 obtain ⟨hS1, hS2⟩ := stp_leg (h := (⟨k, d, f, t2, ls⟩ : Hr)) h1
 obtain ⟨IS, hIS⟩ : ∃ z, z = (hLeg (wdL t)).isSome := ⟨_, rfl⟩
 rw [← hIS] at hS1
 refine cf_ rfl (gw_skip (nx_then (gw_seq (sr_ (lk_ sc4 0 rfl rfl rfl (wl_ov (ov_un_not rfl) rfl ?_))))))
 refine wl_set 18 (v' := .bool true) rfl (congrArg Value.bool (by decide)) ?_
 refine nn_ (ct_ rfl (sr_ (mv_ rfl ?_)))
 refine wl_callx (γ := ByteArray × Int × ByteArray × Int × Int × Int × ByteArray × Int × Int) (val := (fun g => .tuple #[.agg #[.string g.1, .int .i64 g.2.1, .string g.2.2.1, .int .i64 g.2.2.2.1, .int .i64 g.2.2.2.2.1, .int .i64 g.2.2.2.2.2.1, .string g.2.2.2.2.2.2.1, .int .i64 g.2.2.2.2.2.2.2.1, .int .i64 g.2.2.2.2.2.2.2.2], .bool IS])) (φ := (fun g => ∀ y, hLeg (wdL t) = some y → y = (⟨g.1, ⟨g.2.1, g.2.2.1, g.2.2.2.1, g.2.2.2.2.1⟩, ⟨g.2.2.2.2.2.1, g.2.2.2.2.2.2.1, g.2.2.2.2.2.2.2.1, g.2.2.2.2.2.2.2.2⟩⟩ : Lg))) (Y := (fun g => fun _ => True)) rfl cb92 rfl rfl (fun wx hm => (by have h := leg_w (wdL t) (some ⟨gw, 0, none⟩) kw wx (hm.fact 1 rfl).1 (hm.fact 0 rfl) hk1 (fun x hx => Nat.le_trans (wdL_sz t x hx) hts); rw [← hIS] at h; exact h.mono fun _ _ ⟨x0, x1, x2, x3, x4, x5, x6, x7, x8, he, h1, hg⟩ => ⟨(x0, x1, x2, x3, x4, x5, x6, x7, x8), he, h1, hg, trivial⟩)) (fun _ => Lasts2.true_) ?_
 rintro ⟨x0, x1, x2, x3, x4, x5, x6, x7, x8⟩ hg9
 dsimp only at hg9 ⊢
 refine wl_look (R := ∃ A cc, v = .slice A ls.length cc) (fun wx hm => own_slice (hm.ownI 0 rfl)) ?_
 rintro ⟨A, cc, rfl⟩
 refine mv_ rfl (wl_ov (ov_extract rfl rfl) rfl (wl_ov (ov_extract rfl rfl) rfl ?_))
 refine wl_alloc zc128 rfl fun g2 => ?_
 refine wl_stores (cs' := [.string x0, .int .i64 x1, .string x2, .int .i64 x3, .int .i64 x4, .int .i64 x5, .string x6, .int .i64 x7, .int .i64 x8]) 0 rz128 rfl rfl rfl rfl rfl rfl rfl rfl ?_
 refine sg_ rfl (nn_ (sr_ (fd_ fo45_3 rfl rfl (lk_ sc43 2 rfl rfl rfl ?_))))
 refine wl_ov (ov_loads rz128 rfl (fun _ hm => hm.blkI 0 rfl) rfl rfl) rfl ?_
 refine wl_buildSlice (e := 128) (cs := [.string x0, .int .i64 x1, .string x2, .int .i64 x3, .int .i64 x4, .int .i64 x5, .string x6, .int .i64 x7, .int .i64 x8]) rfl (by kernel_rfl) rfl fun g3 => ?_
 refine wl_append (news := [.string x0, .int .i64 x1, .string x2, .int .i64 x3, .int .i64 x4, .int .i64 x5, .string x6, .int .i64 x7, .int .i64 x8]) 0 0 ap43 rfl rfl rfl rfl rfl rfl rfl (by omega) (by unfold maxLen; omega) rfl rfl fun v2 hv => ?_
 refine wl_look (R := ∃ A cc, v2 = .slice A (ls.length + 1) cc) (fun wx hm => own_slice (hm.ownI 0 rfl)) ?_
 rintro ⟨A5, c5, rfl⟩
 refine fd_ fo45_3 rfl rfl ?_
 refine wl_store 3 sc43 rfl rfl rfl rfl rfl rfl ?_
 refine nn_ (sr_ (mv_ rfl (sg_ rfl (nn_ ?_))))
 refine gw_ret ?_
 refine nx_then_ret ?_
 rw [show ls.flatMap lgEnc ++ ([.string x0, .int .i64 x1, .string x2, .int .i64 x3, .int .i64 x4, .int .i64 x5, .string x6, .int .i64 x7, .int .i64 x8] : List Value) = (ls ++ [(⟨x0, ⟨x1, x2, x3, x4⟩, ⟨x5, x6, x7, x8⟩⟩ : Lg)]).flatMap lgEnc from by simp [lgEnc, rdCells]]
 refine nx_ret1 rfl rfl fun wx hm => ?_
 refine ⟨.slice A5 (ls.length + 1) c5, some ⟨k, d, f, t2, (ls ++ [(⟨x0, ⟨x1, x2, x3, x4⟩, ⟨x5, x6, x7, x8⟩⟩ : Lg)])⟩, by rw [hS1], (fun h => by
  rw [hS1, hIS] at h
  obtain ⟨g, hg⟩ := Option.isSome_iff_exists.1 h
  rw [hS2 g hg, hg9 g hg]; rfl), ?_⟩
 have e9 : (ls ++ [(⟨x0, ⟨x1, x2, x3, x4⟩, ⟨x5, x6, x7, x8⟩⟩ : Lg)]).length = ls.length + 1 := by simp
 show Mem ⟨0, w0, none, [9, 3]⟩ (fun _ => True) (hrL gf gh gr (some ⟨k, d, f, t2, (ls ++ [(⟨x0, ⟨x1, x2, x3, x4⟩, ⟨x5, x6, x7, x8⟩⟩ : Lg)])⟩) (.slice A5 (ls.length + 1) c5)) [⟨.slice A5 (ls.length + 1) c5, 128, 9, (ls ++ [(⟨x0, ⟨x1, x2, x3, x4⟩, ⟨x5, x6, x7, x8⟩⟩ : Lg)]).length, (ls ++ [(⟨x0, ⟨x1, x2, x3, x4⟩, ⟨x5, x6, x7, x8⟩⟩ : Lg)]).flatMap lgEnc⟩] [TxtO w0.heap.size none] _
 rw [e9]
 exact (hm.pick [2, 3, 4] [0] [2] rfl rfl).cx
theorem hRref_some (t : ByteArray) (w0 w : World) (gf gh gr : Nat) (v : Value) (k d : ByteArray) (f t2 : Int) (ls : List Lg) (hts : t.size ≤ 1000000) (hls : ls.length ≤ 1000000) (hm : Mem ⟨0, w0, none, [9, 3]⟩ (fun _ => True) [(gf, 4, [.bool false]), (gh, 45, [.string k, .string d, .int .i64 f, .int .i64 t2, v]), (gr, 45, [.string ⟨#[]⟩, .string ⟨#[]⟩, .int .i64 0, .int .i64 0, .slice none 0 0])] [⟨v, 128, 9, ls.length, ls.flatMap lgEnc⟩] [TxtO w0.heap.size none] w) :
  Calls Tryz.prog 93 #[.string t, .pointer (some ⟨gf, 0, none⟩), .pointer (some ⟨gh, 0, none⟩)] w (fun e w' => ∃ (v' : Value) (st' : Option Hr), e = .returned (.bool (hStep t (some (⟨k, d, f, t2, ls⟩ : Hr))).2) ∧ ((hStep t (some (⟨k, d, f, t2, ls⟩ : Hr))).2 = true → st' = (hStep t (some (⟨k, d, f, t2, ls⟩ : Hr))).1) ∧ Mem ⟨0, w0, none, [9, 3]⟩ (fun _ => True) (hrL gf gh gr st' v') (hrO st' v') [TxtO w0.heap.size none] w') := by
 refine gw_enter ⟨99, w0, none, [9, 3]⟩ Tryz.func93 rfl Tryz.ntmps93 rfl hm.cx ?_
 refine sr_ ?_
 by_cases h6 : (wdL t).length = 6
 ·obtain ⟨a0, a1, a2, a3, a4, a5, hw⟩ := list6 h6
  have hwz := wdL_sz t
  rw [hw] at hwz
  have za0 : a0.size ≤ 1000000 := Nat.le_trans (hwz a0 (by simp)) hts
  have za1 : a1.size ≤ 1000000 := Nat.le_trans (hwz a1 (by simp)) hts
  have za2 : a2.size ≤ 1000000 := Nat.le_trans (hwz a2 (by simp)) hts
  have za3 : a3.size ≤ 1000000 := Nat.le_trans (hwz a3 (by simp)) hts
  have za4 : a4.size ≤ 1000000 := Nat.le_trans (hwz a4 (by simp)) hts
  have za5 : a5.size ≤ 1000000 := Nat.le_trans (hwz a5 (by simp)) hts
  refine sg_ rfl (nn_ (sr_ (mv_ rfl ?_)))
  refine wl_callx (γ := Nat × Nat) (val := (fun g => .tuple #[.slice (some ⟨g.1, 0, none⟩) g.2 g.2, .bool (wdB t)])) (φ := (fun g => g.2 = 6)) (Y := (fun g => fun wy => SlT sgEnc 1 9 wy (some ⟨g.1, 0, none⟩) g.2 ([a0, a1, a2, a3, a4, a5]))) rfl cb72 rfl rfl (fun wx hm => (rwords_any t wx (hm.fact 0 rfl).1 hts).mono fun _ _ ⟨gw, k, he, h1, h2, hg⟩ => ⟨(gw, k), he, by have h := h1.len; rw [hw] at h; exact h.symm, hg, by rw [hw] at h1; exact h1⟩) (fun _ => SlT.lasts2 rfl) ?_
  rintro ⟨gw, kw⟩ hkw
  dsimp only at hkw ⊢
  subst hkw
  refine mv_ rfl (wl_ov (ov_extract rfl rfl) rfl (wl_ov (ov_extract rfl rfl) rfl (sg_ rfl (sg_ rfl (nn_ (gw_seq (sr_ (mv_ rfl (wl_ov (ov_un_not rfl) rfl (nn_ ?_))))))))))
  rcases Bool.eq_false_or_eq_true (!(wdB t)) with h1 | h1
  ·refine gw_set 16 rfl (congrArg Value.bool h1) ?_
   refine ct_ rfl (sr_ (sg_ rfl (nn_ ?_)))
   refine gw_ret ?_
   refine nx_then_ret ?_
   refine nx_ret1 rfl rfl fun wx hm => ?_
   exact ⟨v, (some (⟨k, d, f, t2, ls⟩ : Hr)), by rw [stp_wd h1], (fun h => absurd h (by rw [stp_wd h1]; decide)), (hm.pick [0, 1, 2] [0] [1] rfl rfl).cx⟩
  refine gw_set 16 rfl (congrArg Value.bool h1) ?_
  obtain ⟨hS1, hS2⟩ := stp_leg (h := (⟨k, d, f, t2, ls⟩ : Hr)) h1
  refine cf_ rfl (gw_skip (nx_then (gw_seq (sr_ (lk_ sc4 0 rfl rfl rfl (nn_ (cf_ rfl (gw_skip (nx_then (gw_seq (gw_seq ?_)))))))))))
  refine gw_region (mv_ rfl ?_)
  refine wl_ov (ov_index (j := 0) es112 rfl rfl (by omega)) rfl ?_
  refine wl_ov (ov_elem1 (k := 0) (v := .string a0) sc9 rfl (fun _ hm => (hm.fact 0 rfl)) (show ([a0, a1, a2, a3, a4, a5] : List ByteArray)[0]? = some a0 from rfl) rfl rfl) rfl ?_
  refine wl_ov (ov_sneq rfl rfl) rfl (mv_ rfl ?_)
  rcases Bool.eq_false_or_eq_true (!(a0.toList == (⟨#[108, 101, 103]⟩ : ByteArray).toList)) with h2 | h2
  ·refine wl_set 57 rfl (congrArg Value.bool h2) ?_
   rw [hLeg_first hw (not_t h2)] at hS1
   refine goff rfl rfl rfl (goff rfl rfl rfl (goff rfl rfl rfl (goff rfl rfl rfl (gnd rfl rfl rfl (gnd rfl rfl rfl (gnd rfl rfl rfl (goff rfl rfl rfl (pt_ rfl rfl (nn_ (ct_ rfl (sr_ ?_)))))))))))
   refine sg_ rfl (nn_ ?_)
   refine gw_ret ?_
   refine nx_then_ret ?_
   refine nx_ret1 rfl rfl fun wx hm => ?_
   exact ⟨v, (some (⟨k, d, f, t2, ls⟩ : Hr)), by rw [hS1]; rfl, (fun h => by rw [hS1] at h; cases h), (hm.pick [0, 1, 2] [0] [1] rfl rfl).cx⟩
  refine wl_set 57 rfl (congrArg Value.bool h2) ?_
  have hq : eqS a0 legW = true := not_f h2
  obtain ⟨NB, hNB⟩ : ∃ z, z = [a2, a4, a5].all numB := ⟨_, rfl⟩
  refine wl_guard_on rfl rfl rfl (mv_ rfl (wl_guard_on rfl rfl rfl (wl_ov (ov_len es112 rfl) rfl ?_)))
  refine wl_set 59 (v' := .int .i64 6) rfl rfl ?_
  refine wl_guard_on rfl rfl rfl (wl_ov (ov_neq rfl rfl) rfl ?_)
  refine wl_set 60 (v' := .bool false) rfl (congrArg Value.bool (by decide)) ?_
  refine wl_guard_on rfl rfl rfl (mv_ rfl (goff rfl rfl rfl (goff rfl rfl rfl (goff rfl rfl rfl (wl_guard_on rfl rfl rfl (pf_ rfl rfl (pf_ rfl rfl (nn_ (cf_ rfl (gw_skip (nx_then (gw_seq ?_))))))))))))
  refine gw_region (mv_ rfl ?_)
  refine wl_ov (ov_index (j := 1) es112 rfl rfl (by omega)) rfl ?_
  refine wl_ov (ov_elem1 (k := 0) (v := .string a1) sc9 rfl (fun _ hm => (hm.fact 0 rfl)) (show ([a0, a1, a2, a3, a4, a5] : List ByteArray)[1]? = some a1 from rfl) rfl rfl) rfl ?_
  refine wl_ov (ov_build (cs := [.int .i64 (-1), .string ⟨#[]⟩, .int .i64 0, .int .i64 0]) rfl (by kernel_rfl)) rfl ?_
  refine wl_ov (ov_build (cs := [.string a1, .int .i64 0, .string ⟨#[]⟩, .int .i64 0, .int .i64 0, .int .i64 (-1), .string ⟨#[]⟩, .int .i64 0, .int .i64 0]) rfl (by kernel_rfl)) rfl ?_
  refine wl_alloc zc128 rfl fun g1 => ?_
  refine wl_stores (cs' := [.string a1, .int .i64 0, .string ⟨#[]⟩, .int .i64 0, .int .i64 0, .int .i64 (-1), .string ⟨#[]⟩, .int .i64 0, .int .i64 0]) 0 rz128 rfl rfl rfl rfl rfl rfl rfl rfl ?_
  refine nn_ (gw_seq (sr_ (mv_ rfl ?_)))
  refine wl_ov (ov_sliceLH (lo := 2) (hi := 6) es112 rfl rfl rfl rfl rfl (by omega) (by omega)) rfl ?_
  refine wl_callx (γ := Int × ByteArray × Int × Int) (val := (fun g => .tuple #[.agg #[.int .i64 g.1, .string g.2.1, .int .i64 g.2.2.1, .int .i64 g.2.2.2], .bool NB])) (φ := (fun g => NB = true → (⟨g.1, g.2.1, g.2.2.1, g.2.2.2⟩ : Rd) = rdW a2 a3 a4 a5)) (Y := (fun g => fun _ => True)) rfl cb94 rfl rfl (fun wx hm => (by have h := rreading_w a2 a3 a4 a5 (if 6 = 2 then (some ⟨gw, 0, none⟩) else Option.map (fun a : Addr => a.add (2 * 1)) (some ⟨gw, 0, none⟩)) 4 wx (hm.fact 1 rfl).1 (SlT.between (c := 6) (hm.fact 0 rfl) 2 6 (by omega) (by omega) (by omega)) (by assumption) (by assumption) (by assumption); rw [← hNB] at h; exact h.mono fun _ _ ⟨y0, y1, y2, y3, he, h1, hg⟩ => ⟨(y0, y1, y2, y3), he, h1, hg, trivial⟩)) (fun _ => Lasts2.true_) ?_
  rintro ⟨y0, y1, y2, y3⟩ hrNB
  dsimp only at hrNB ⊢
  refine mv_ rfl (wl_ov (ov_extract rfl rfl) rfl (wl_ov (ov_extract rfl rfl) rfl (fd_ fo128_1 rfl rfl ?_)))
  refine wl_stores (cs' := [.string a1, .int .i64 y0, .string y1, .int .i64 y2, .int .i64 y3, .int .i64 (-1), .string ⟨#[]⟩, .int .i64 0, .int .i64 0]) 0 rz126 rfl rfl rfl rfl rfl rfl rfl rfl ?_
  refine sg_ rfl (nn_ (sr_ (mv_ rfl (mv_ rfl ?_))))
  rcases Bool.eq_false_or_eq_true NB with h3 | h3
  ·refine wl_set 80 rfl (congrArg Value.bool h3) ?_
   subst h3
   have e1 := hrNB rfl
   unfold rdW at e1
   injection e1 with e1 e2 e3 e4
   have hL : hLeg (wdL t) = some ⟨a1, ⟨y0, y1, y2, y3⟩, ⟨-1, ⟨#[]⟩, 0, 0⟩⟩ := by
    rw [hw]
    exact (leg6_yes hq hNB.symm).trans (by unfold rdW noRd; rw [e1, e2, e3, e4])
   rw [hL] at hS1
   refine wl_look (R := ∃ A cc, v = .slice A ls.length cc) (fun wx hm => own_slice (hm.ownI 0 rfl)) ?_
   rintro ⟨A, cc, rfl⟩
   refine wl_guard_on rfl rfl rfl (mv_ rfl (wl_guard_on rfl rfl rfl (wl_ov (ov_len es112 rfl) rfl ?_)))
   refine wl_set 82 (v' := .int .i64 6) rfl rfl ?_
   refine wl_guard_on rfl rfl rfl (wl_ov (ov_eql rfl rfl) rfl ?_)
   refine wl_set 83 (v' := .bool false) rfl (congrArg Value.bool (by decide)) ?_
   refine pt_ rfl rfl (nn_ (cf_ rfl (gw_skip (nx_then (sr_ (fd_ fo45_3 rfl rfl (lk_ sc43 2 rfl rfl rfl ?_)))))))
   refine wl_ov (ov_loads rz128 rfl (fun _ hm => hm.blkI 0 rfl) rfl rfl) rfl ?_
   refine wl_buildSlice (e := 128) (cs := [.string a1, .int .i64 y0, .string y1, .int .i64 y2, .int .i64 y3, .int .i64 (-1), .string ⟨#[]⟩, .int .i64 0, .int .i64 0]) rfl (by kernel_rfl) rfl fun g4 => ?_
   refine wl_append (news := [.string a1, .int .i64 y0, .string y1, .int .i64 y2, .int .i64 y3, .int .i64 (-1), .string ⟨#[]⟩, .int .i64 0, .int .i64 0]) 0 0 ap43 rfl rfl rfl rfl rfl rfl rfl (by omega) (by unfold maxLen; omega) rfl rfl fun v2 hv => ?_
   refine wl_look (R := ∃ A cc, v2 = .slice A (ls.length + 1) cc) (fun wx hm => own_slice (hm.ownI 0 rfl)) ?_
   rintro ⟨A5, c5, rfl⟩
   refine fd_ fo45_3 rfl rfl ?_
   refine wl_store 3 sc43 rfl rfl rfl rfl rfl rfl ?_
   refine nn_ (sr_ (mv_ rfl (sg_ rfl (nn_ ?_))))
   refine gw_ret ?_
   rw [show ls.flatMap lgEnc ++ ([.string a1, .int .i64 y0, .string y1, .int .i64 y2, .int .i64 y3, .int .i64 (-1), .string ⟨#[]⟩, .int .i64 0, .int .i64 0] : List Value) = (ls ++ [(⟨a1, ⟨y0, y1, y2, y3⟩, ⟨-1, ⟨#[]⟩, 0, 0⟩⟩ : Lg)]).flatMap lgEnc from by simp [lgEnc, rdCells]]
   refine nx_ret1 rfl rfl fun wx hm => ?_
   refine ⟨.slice A5 (ls.length + 1) c5, some ⟨k, d, f, t2, (ls ++ [(⟨a1, ⟨y0, y1, y2, y3⟩, ⟨-1, ⟨#[]⟩, 0, 0⟩⟩ : Lg)])⟩, by rw [hS1]; rfl, (fun _ => by rw [hS2 _ hL]; rfl), ?_⟩
   have e9 : (ls ++ [(⟨a1, ⟨y0, y1, y2, y3⟩, ⟨-1, ⟨#[]⟩, 0, 0⟩⟩ : Lg)]).length = ls.length + 1 := by simp
   show Mem ⟨0, w0, none, [9, 3]⟩ (fun _ => True) (hrL gf gh gr (some ⟨k, d, f, t2, (ls ++ [(⟨a1, ⟨y0, y1, y2, y3⟩, ⟨-1, ⟨#[]⟩, 0, 0⟩⟩ : Lg)])⟩) (.slice A5 (ls.length + 1) c5)) [⟨.slice A5 (ls.length + 1) c5, 128, 9, (ls ++ [(⟨a1, ⟨y0, y1, y2, y3⟩, ⟨-1, ⟨#[]⟩, 0, 0⟩⟩ : Lg)]).length, (ls ++ [(⟨a1, ⟨y0, y1, y2, y3⟩, ⟨-1, ⟨#[]⟩, 0, 0⟩⟩ : Lg)]).flatMap lgEnc⟩] [TxtO w0.heap.size none] _
   rw [e9]
   exact (hm.pick [2, 3, 4] [0] [2] rfl rfl).cx
  refine wl_set 80 rfl (congrArg Value.bool h3) ?_
  subst h3
  rw [hw, leg6_no hNB.symm] at hS1
  refine wl_look (R := ∃ A cc, v = .slice A ls.length cc) (fun wx hm => own_slice (hm.ownI 0 rfl)) ?_
  rintro ⟨A, cc, rfl⟩
  refine goff rfl rfl rfl (goff rfl rfl rfl (goff rfl rfl rfl (pf_ rfl rfl (nn_ (cf_ rfl (gw_skip (nx_then (sr_ (fd_ fo45_3 rfl rfl (lk_ sc43 2 rfl rfl rfl ?_))))))))))
  refine wl_ov (ov_loads rz128 rfl (fun _ hm => hm.blkI 0 rfl) rfl rfl) rfl ?_
  refine wl_buildSlice (e := 128) (cs := [.string a1, .int .i64 y0, .string y1, .int .i64 y2, .int .i64 y3, .int .i64 (-1), .string ⟨#[]⟩, .int .i64 0, .int .i64 0]) rfl (by kernel_rfl) rfl fun g3 => ?_
  refine wl_append (news := [.string a1, .int .i64 y0, .string y1, .int .i64 y2, .int .i64 y3, .int .i64 (-1), .string ⟨#[]⟩, .int .i64 0, .int .i64 0]) 0 0 ap43 rfl rfl rfl rfl rfl rfl rfl (by omega) (by unfold maxLen; omega) rfl rfl fun v2 hv => ?_
  refine wl_look (R := ∃ A cc, v2 = .slice A (ls.length + 1) cc) (fun wx hm => own_slice (hm.ownI 0 rfl)) ?_
  rintro ⟨A5, c5, rfl⟩
  refine fd_ fo45_3 rfl rfl ?_
  refine wl_store 3 sc43 rfl rfl rfl rfl rfl rfl ?_
  refine nn_ (sr_ (mv_ rfl (sg_ rfl (nn_ ?_))))
  refine gw_ret ?_
  rw [show ls.flatMap lgEnc ++ ([.string a1, .int .i64 y0, .string y1, .int .i64 y2, .int .i64 y3, .int .i64 (-1), .string ⟨#[]⟩, .int .i64 0, .int .i64 0] : List Value) = (ls ++ [(⟨a1, ⟨y0, y1, y2, y3⟩, ⟨-1, ⟨#[]⟩, 0, 0⟩⟩ : Lg)]).flatMap lgEnc from by simp [lgEnc, rdCells]]
  refine nx_ret1 rfl rfl fun wx hm => ?_
  refine ⟨.slice A5 (ls.length + 1) c5, some ⟨k, d, f, t2, (ls ++ [(⟨a1, ⟨y0, y1, y2, y3⟩, ⟨-1, ⟨#[]⟩, 0, 0⟩⟩ : Lg)])⟩, by rw [hS1]; rfl, (fun h => by rw [hS1] at h; cases h), ?_⟩
  have e9 : (ls ++ [(⟨a1, ⟨y0, y1, y2, y3⟩, ⟨-1, ⟨#[]⟩, 0, 0⟩⟩ : Lg)]).length = ls.length + 1 := by simp
  show Mem ⟨0, w0, none, [9, 3]⟩ (fun _ => True) (hrL gf gh gr (some ⟨k, d, f, t2, (ls ++ [(⟨a1, ⟨y0, y1, y2, y3⟩, ⟨-1, ⟨#[]⟩, 0, 0⟩⟩ : Lg)])⟩) (.slice A5 (ls.length + 1) c5)) [⟨.slice A5 (ls.length + 1) c5, 128, 9, (ls ++ [(⟨a1, ⟨y0, y1, y2, y3⟩, ⟨-1, ⟨#[]⟩, 0, 0⟩⟩ : Lg)]).length, (ls ++ [(⟨a1, ⟨y0, y1, y2, y3⟩, ⟨-1, ⟨#[]⟩, 0, 0⟩⟩ : Lg)]).flatMap lgEnc⟩] [TxtO w0.heap.size none] _
  rw [e9]
  exact (hm.pick [2, 3, 4] [0] [2] rfl rfl).cx
 by_cases h10 : (wdL t).length = 10
 ·obtain ⟨a0, a1, a2, a3, a4, a5, a6, a7, a8, a9, hw⟩ := list10 h10
  have hwz := wdL_sz t
  rw [hw] at hwz
  have za0 : a0.size ≤ 1000000 := Nat.le_trans (hwz a0 (by simp)) hts
  have za1 : a1.size ≤ 1000000 := Nat.le_trans (hwz a1 (by simp)) hts
  have za2 : a2.size ≤ 1000000 := Nat.le_trans (hwz a2 (by simp)) hts
  have za3 : a3.size ≤ 1000000 := Nat.le_trans (hwz a3 (by simp)) hts
  have za4 : a4.size ≤ 1000000 := Nat.le_trans (hwz a4 (by simp)) hts
  have za5 : a5.size ≤ 1000000 := Nat.le_trans (hwz a5 (by simp)) hts
  have za6 : a6.size ≤ 1000000 := Nat.le_trans (hwz a6 (by simp)) hts
  have za7 : a7.size ≤ 1000000 := Nat.le_trans (hwz a7 (by simp)) hts
  have za8 : a8.size ≤ 1000000 := Nat.le_trans (hwz a8 (by simp)) hts
  have za9 : a9.size ≤ 1000000 := Nat.le_trans (hwz a9 (by simp)) hts
  refine sg_ rfl (nn_ (sr_ (mv_ rfl ?_)))
  refine wl_callx (γ := Nat × Nat) (val := (fun g => .tuple #[.slice (some ⟨g.1, 0, none⟩) g.2 g.2, .bool (wdB t)])) (φ := (fun g => g.2 = 10)) (Y := (fun g => fun wy => SlT sgEnc 1 9 wy (some ⟨g.1, 0, none⟩) g.2 ([a0, a1, a2, a3, a4, a5, a6, a7, a8, a9]))) rfl cb72 rfl rfl (fun wx hm => (rwords_any t wx (hm.fact 0 rfl).1 hts).mono fun _ _ ⟨gw, k, he, h1, h2, hg⟩ => ⟨(gw, k), he, by have h := h1.len; rw [hw] at h; exact h.symm, hg, by rw [hw] at h1; exact h1⟩) (fun _ => SlT.lasts2 rfl) ?_
  rintro ⟨gw, kw⟩ hkw
  dsimp only at hkw ⊢
  subst hkw
  refine mv_ rfl (wl_ov (ov_extract rfl rfl) rfl (wl_ov (ov_extract rfl rfl) rfl (sg_ rfl (sg_ rfl (nn_ (gw_seq (sr_ (mv_ rfl (wl_ov (ov_un_not rfl) rfl (nn_ ?_))))))))))
  rcases Bool.eq_false_or_eq_true (!(wdB t)) with h1 | h1
  ·refine gw_set 16 rfl (congrArg Value.bool h1) ?_
   refine ct_ rfl (sr_ (sg_ rfl (nn_ ?_)))
   refine gw_ret ?_
   refine nx_then_ret ?_
   refine nx_ret1 rfl rfl fun wx hm => ?_
   exact ⟨v, (some (⟨k, d, f, t2, ls⟩ : Hr)), by rw [stp_wd h1], (fun h => absurd h (by rw [stp_wd h1]; decide)), (hm.pick [0, 1, 2] [0] [1] rfl rfl).cx⟩
  refine gw_set 16 rfl (congrArg Value.bool h1) ?_
  obtain ⟨hS1, hS2⟩ := stp_leg (h := (⟨k, d, f, t2, ls⟩ : Hr)) h1
  refine cf_ rfl (gw_skip (nx_then (gw_seq (sr_ (lk_ sc4 0 rfl rfl rfl (nn_ (cf_ rfl (gw_skip (nx_then (gw_seq (gw_seq ?_)))))))))))
  refine gw_region (mv_ rfl ?_)
  refine wl_ov (ov_index (j := 0) es112 rfl rfl (by omega)) rfl ?_
  refine wl_ov (ov_elem1 (k := 0) (v := .string a0) sc9 rfl (fun _ hm => (hm.fact 0 rfl)) (show ([a0, a1, a2, a3, a4, a5, a6, a7, a8, a9] : List ByteArray)[0]? = some a0 from rfl) rfl rfl) rfl ?_
  refine wl_ov (ov_sneq rfl rfl) rfl (mv_ rfl ?_)
  rcases Bool.eq_false_or_eq_true (!(a0.toList == (⟨#[108, 101, 103]⟩ : ByteArray).toList)) with h2 | h2
  ·refine wl_set 57 rfl (congrArg Value.bool h2) ?_
   rw [hLeg_first hw (not_t h2)] at hS1
   refine goff rfl rfl rfl (goff rfl rfl rfl (goff rfl rfl rfl (goff rfl rfl rfl (gnd rfl rfl rfl (gnd rfl rfl rfl (gnd rfl rfl rfl (goff rfl rfl rfl (pt_ rfl rfl (nn_ (ct_ rfl (sr_ ?_)))))))))))
   refine sg_ rfl (nn_ ?_)
   refine gw_ret ?_
   refine nx_then_ret ?_
   refine nx_ret1 rfl rfl fun wx hm => ?_
   exact ⟨v, (some (⟨k, d, f, t2, ls⟩ : Hr)), by rw [hS1]; rfl, (fun h => by rw [hS1] at h; cases h), (hm.pick [0, 1, 2] [0] [1] rfl rfl).cx⟩
  refine wl_set 57 rfl (congrArg Value.bool h2) ?_
  have hq : eqS a0 legW = true := not_f h2
  obtain ⟨NB, hNB⟩ : ∃ z, z = [a2, a4, a5].all numB := ⟨_, rfl⟩
  obtain ⟨NC, hNC⟩ : ∃ z, z = [a6, a8, a9].all numB := ⟨_, rfl⟩
  refine wl_guard_on rfl rfl rfl (mv_ rfl (wl_guard_on rfl rfl rfl (wl_ov (ov_len es112 rfl) rfl ?_)))
  refine wl_set 59 (v' := .int .i64 10) rfl rfl ?_
  refine wl_guard_on rfl rfl rfl (wl_ov (ov_neq rfl rfl) rfl ?_)
  refine wl_set 60 (v' := .bool true) rfl (congrArg Value.bool (by decide)) ?_
  refine wl_guard_on rfl rfl rfl (mv_ rfl (wl_guard_on rfl rfl rfl (mv_ rfl (wl_guard_on rfl rfl rfl (wl_ov (ov_len es112 rfl) rfl ?_)))))
  refine wl_set 63 (v' := .int .i64 10) rfl rfl ?_
  refine wl_guard_on rfl rfl rfl (wl_ov (ov_neq rfl rfl) rfl ?_)
  refine wl_set 64 (v' := .bool false) rfl (congrArg Value.bool (by decide)) ?_
  refine wl_guard_on rfl rfl rfl (pt_ rfl rfl (pf_ rfl rfl (nn_ (cf_ rfl (gw_skip (nx_then (sr_ (mv_ rfl ?_))))))))
  refine wl_ov (ov_index (j := 1) es112 rfl rfl (by omega)) rfl ?_
  refine wl_ov (ov_elem1 (k := 0) (v := .string a1) sc9 rfl (fun _ hm => (hm.fact 0 rfl)) (show ([a0, a1, a2, a3, a4, a5, a6, a7, a8, a9] : List ByteArray)[1]? = some a1 from rfl) rfl rfl) rfl ?_
  refine wl_ov (ov_build (cs := [.int .i64 (-1), .string ⟨#[]⟩, .int .i64 0, .int .i64 0]) rfl (by kernel_rfl)) rfl ?_
  refine wl_ov (ov_build (cs := [.string a1, .int .i64 0, .string ⟨#[]⟩, .int .i64 0, .int .i64 0, .int .i64 (-1), .string ⟨#[]⟩, .int .i64 0, .int .i64 0]) rfl (by kernel_rfl)) rfl ?_
  refine wl_alloc zc128 rfl fun g5 => ?_
  refine wl_stores (cs' := [.string a1, .int .i64 0, .string ⟨#[]⟩, .int .i64 0, .int .i64 0, .int .i64 (-1), .string ⟨#[]⟩, .int .i64 0, .int .i64 0]) 0 rz128 rfl rfl rfl rfl rfl rfl rfl rfl ?_
  refine nn_ (gw_seq (sr_ (mv_ rfl ?_)))
  refine wl_ov (ov_sliceLH (lo := 2) (hi := 6) es112 rfl rfl rfl rfl rfl (by omega) (by omega)) rfl ?_
  refine wl_callx (γ := Int × ByteArray × Int × Int) (val := (fun g => .tuple #[.agg #[.int .i64 g.1, .string g.2.1, .int .i64 g.2.2.1, .int .i64 g.2.2.2], .bool NB])) (φ := (fun g => NB = true → (⟨g.1, g.2.1, g.2.2.1, g.2.2.2⟩ : Rd) = rdW a2 a3 a4 a5)) (Y := (fun g => fun _ => True)) rfl cb94 rfl rfl (fun wx hm => (by have h := rreading_w a2 a3 a4 a5 (if 10 = 2 then (some ⟨gw, 0, none⟩) else Option.map (fun a : Addr => a.add (2 * 1)) (some ⟨gw, 0, none⟩)) 8 wx (hm.fact 1 rfl).1 (SlT.between (c := 10) (hm.fact 0 rfl) 2 6 (by omega) (by omega) (by omega)) (by assumption) (by assumption) (by assumption); rw [← hNB] at h; exact h.mono fun _ _ ⟨y0, y1, y2, y3, he, h1, hg⟩ => ⟨(y0, y1, y2, y3), he, h1, hg, trivial⟩)) (fun _ => Lasts2.true_) ?_
  rintro ⟨y0, y1, y2, y3⟩ hrNB
  dsimp only at hrNB ⊢
  refine mv_ rfl (wl_ov (ov_extract rfl rfl) rfl (wl_ov (ov_extract rfl rfl) rfl (fd_ fo128_1 rfl rfl ?_)))
  refine wl_stores (cs' := [.string a1, .int .i64 y0, .string y1, .int .i64 y2, .int .i64 y3, .int .i64 (-1), .string ⟨#[]⟩, .int .i64 0, .int .i64 0]) 0 rz126 rfl rfl rfl rfl rfl rfl rfl rfl ?_
  refine sg_ rfl (nn_ (sr_ (mv_ rfl (mv_ rfl ?_))))
  rcases Bool.eq_false_or_eq_true NB with h3 | h3
  ·refine wl_set 80 rfl (congrArg Value.bool h3) ?_
   subst h3
   have e1 := hrNB rfl
   unfold rdW at e1
   injection e1 with e1 e2 e3 e4
   refine wl_guard_on rfl rfl rfl (mv_ rfl (wl_guard_on rfl rfl rfl (wl_ov (ov_len es112 rfl) rfl ?_)))
   refine wl_set 82 (v' := .int .i64 10) rfl rfl ?_
   refine wl_guard_on rfl rfl rfl (wl_ov (ov_eql rfl rfl) rfl ?_)
   refine wl_set 83 (v' := .bool true) rfl (congrArg Value.bool (by decide)) ?_
   refine pt_ rfl rfl (nn_ (ct_ rfl (gw_region (mv_ rfl ?_))))
   refine wl_ov (ov_sliceLo (lo := 6) es112 rfl rfl rfl (by omega)) rfl ?_
   refine wl_callx (γ := Int × ByteArray × Int × Int) (val := (fun g => .tuple #[.agg #[.int .i64 g.1, .string g.2.1, .int .i64 g.2.2.1, .int .i64 g.2.2.2], .bool NC])) (φ := (fun g => NC = true → (⟨g.1, g.2.1, g.2.2.1, g.2.2.2⟩ : Rd) = rdW a6 a7 a8 a9)) (Y := (fun g => fun _ => True)) rfl cb94 rfl rfl (fun wx hm => (by have h := rreading_w a6 a7 a8 a9 (if 10 = 6 then (some ⟨gw, 0, none⟩) else Option.map (fun a : Addr => a.add (6 * 1)) (some ⟨gw, 0, none⟩)) 4 wx (hm.fact 2 rfl).1 (SlT.between (c := 10) (hm.fact 1 rfl) 6 10 (by omega) (by omega) (by omega)) (by assumption) (by assumption) (by assumption); rw [← hNC] at h; exact h.mono fun _ _ ⟨y0, y1, y2, y3, he, h1, hg⟩ => ⟨(y0, y1, y2, y3), he, h1, hg, trivial⟩)) (fun _ => Lasts2.true_) ?_
   rintro ⟨u0, u1, u2, u3⟩ hrNC
   dsimp only at hrNC ⊢
   by_cases h4 : NC = true
   ·subst h4
    have e5 := hrNC rfl
    unfold rdW at e5
    injection e5 with f1 f2 f3 f4
    have hL : hLeg (wdL t) = some ⟨a1, ⟨y0, y1, y2, y3⟩, ⟨u0, u1, u2, u3⟩⟩ := by
     rw [hw]
     exact (leg10_yes hq hNB.symm hNC.symm).trans (by unfold rdW; rw [e1, e2, e3, e4, f1, f2, f3, f4])
    rw [hL] at hS1
    refine wl_look (R := ∃ A cc, v = .slice A ls.length cc) (fun wx hm => own_slice (hm.ownI 0 rfl)) ?_
    rintro ⟨A, cc, rfl⟩
    refine mv_ rfl (wl_ov (ov_extract rfl rfl) rfl (wl_ov (ov_extract rfl rfl) rfl (fd_ fo128_2 rfl rfl ?_)))
    refine wl_stores (cs' := [.string a1, .int .i64 y0, .string y1, .int .i64 y2, .int .i64 y3, .int .i64 u0, .string u1, .int .i64 u2, .int .i64 u3]) 0 rz126 rfl rfl rfl rfl rfl rfl rfl rfl ?_
    refine sg_ rfl (nn_ (sr_ (fd_ fo45_3 rfl rfl (lk_ sc43 2 rfl rfl rfl ?_))))
    refine wl_ov (ov_loads rz128 rfl (fun _ hm => hm.blkI 0 rfl) rfl rfl) rfl ?_
    refine wl_buildSlice (e := 128) (cs := [.string a1, .int .i64 y0, .string y1, .int .i64 y2, .int .i64 y3, .int .i64 u0, .string u1, .int .i64 u2, .int .i64 u3]) rfl (by kernel_rfl) rfl fun g10 => ?_
    refine wl_append (news := [.string a1, .int .i64 y0, .string y1, .int .i64 y2, .int .i64 y3, .int .i64 u0, .string u1, .int .i64 u2, .int .i64 u3]) 0 0 ap43 rfl rfl rfl rfl rfl rfl rfl (by omega) (by unfold maxLen; omega) rfl rfl fun v2 hv => ?_
    refine wl_look (R := ∃ A cc, v2 = .slice A (ls.length + 1) cc) (fun wx hm => own_slice (hm.ownI 0 rfl)) ?_
    rintro ⟨A5, c5, rfl⟩
    refine fd_ fo45_3 rfl rfl ?_
    refine wl_store 3 sc43 rfl rfl rfl rfl rfl rfl ?_
    refine nn_ (sr_ (mv_ rfl (sg_ rfl (nn_ ?_))))
    refine gw_ret ?_
    rw [show ls.flatMap lgEnc ++ ([.string a1, .int .i64 y0, .string y1, .int .i64 y2, .int .i64 y3, .int .i64 u0, .string u1, .int .i64 u2, .int .i64 u3] : List Value) = (ls ++ [(⟨a1, ⟨y0, y1, y2, y3⟩, ⟨u0, u1, u2, u3⟩⟩ : Lg)]).flatMap lgEnc from by simp [lgEnc, rdCells]]
    refine nx_ret1 rfl rfl fun wx hm => ?_
    refine ⟨.slice A5 (ls.length + 1) c5, some ⟨k, d, f, t2, (ls ++ [(⟨a1, ⟨y0, y1, y2, y3⟩, ⟨u0, u1, u2, u3⟩⟩ : Lg)])⟩, by rw [hS1]; rfl, (fun _ => by rw [hS2 _ hL]; rfl), ?_⟩
    have e9 : (ls ++ [(⟨a1, ⟨y0, y1, y2, y3⟩, ⟨u0, u1, u2, u3⟩⟩ : Lg)]).length = ls.length + 1 := by simp
    show Mem ⟨0, w0, none, [9, 3]⟩ (fun _ => True) (hrL gf gh gr (some ⟨k, d, f, t2, (ls ++ [(⟨a1, ⟨y0, y1, y2, y3⟩, ⟨u0, u1, u2, u3⟩⟩ : Lg)])⟩) (.slice A5 (ls.length + 1) c5)) [⟨.slice A5 (ls.length + 1) c5, 128, 9, (ls ++ [(⟨a1, ⟨y0, y1, y2, y3⟩, ⟨u0, u1, u2, u3⟩⟩ : Lg)]).length, (ls ++ [(⟨a1, ⟨y0, y1, y2, y3⟩, ⟨u0, u1, u2, u3⟩⟩ : Lg)]).flatMap lgEnc⟩] [TxtO w0.heap.size none] _
    rw [e9]
    exact (hm.pick [2, 3, 4] [0] [3] rfl rfl).cx
   replace h4 : NC = false := by simpa using h4
   subst h4
   rw [hw, leg10_no2 hNC.symm] at hS1
   refine wl_look (R := ∃ A cc, v = .slice A ls.length cc) (fun wx hm => own_slice (hm.ownI 0 rfl)) ?_
   rintro ⟨A, cc, rfl⟩
   refine mv_ rfl (wl_ov (ov_extract rfl rfl) rfl (wl_ov (ov_extract rfl rfl) rfl (fd_ fo128_2 rfl rfl ?_)))
   refine wl_stores (cs' := [.string a1, .int .i64 y0, .string y1, .int .i64 y2, .int .i64 y3, .int .i64 u0, .string u1, .int .i64 u2, .int .i64 u3]) 0 rz126 rfl rfl rfl rfl rfl rfl rfl rfl ?_
   refine sg_ rfl (nn_ (sr_ (fd_ fo45_3 rfl rfl (lk_ sc43 2 rfl rfl rfl ?_))))
   refine wl_ov (ov_loads rz128 rfl (fun _ hm => hm.blkI 0 rfl) rfl rfl) rfl ?_
   refine wl_buildSlice (e := 128) (cs := [.string a1, .int .i64 y0, .string y1, .int .i64 y2, .int .i64 y3, .int .i64 u0, .string u1, .int .i64 u2, .int .i64 u3]) rfl (by kernel_rfl) rfl fun g9 => ?_
   refine wl_append (news := [.string a1, .int .i64 y0, .string y1, .int .i64 y2, .int .i64 y3, .int .i64 u0, .string u1, .int .i64 u2, .int .i64 u3]) 0 0 ap43 rfl rfl rfl rfl rfl rfl rfl (by omega) (by unfold maxLen; omega) rfl rfl fun v2 hv => ?_
   refine wl_look (R := ∃ A cc, v2 = .slice A (ls.length + 1) cc) (fun wx hm => own_slice (hm.ownI 0 rfl)) ?_
   rintro ⟨A5, c5, rfl⟩
   refine fd_ fo45_3 rfl rfl ?_
   refine wl_store 3 sc43 rfl rfl rfl rfl rfl rfl ?_
   refine nn_ (sr_ (mv_ rfl (sg_ rfl (nn_ ?_))))
   refine gw_ret ?_
   rw [show ls.flatMap lgEnc ++ ([.string a1, .int .i64 y0, .string y1, .int .i64 y2, .int .i64 y3, .int .i64 u0, .string u1, .int .i64 u2, .int .i64 u3] : List Value) = (ls ++ [(⟨a1, ⟨y0, y1, y2, y3⟩, ⟨u0, u1, u2, u3⟩⟩ : Lg)]).flatMap lgEnc from by simp [lgEnc, rdCells]]
   refine nx_ret1 rfl rfl fun wx hm => ?_
   refine ⟨.slice A5 (ls.length + 1) c5, some ⟨k, d, f, t2, (ls ++ [(⟨a1, ⟨y0, y1, y2, y3⟩, ⟨u0, u1, u2, u3⟩⟩ : Lg)])⟩, by rw [hS1]; rfl, (fun h => by rw [hS1] at h; cases h), ?_⟩
   have e9 : (ls ++ [(⟨a1, ⟨y0, y1, y2, y3⟩, ⟨u0, u1, u2, u3⟩⟩ : Lg)]).length = ls.length + 1 := by simp
   show Mem ⟨0, w0, none, [9, 3]⟩ (fun _ => True) (hrL gf gh gr (some ⟨k, d, f, t2, (ls ++ [(⟨a1, ⟨y0, y1, y2, y3⟩, ⟨u0, u1, u2, u3⟩⟩ : Lg)])⟩) (.slice A5 (ls.length + 1) c5)) [⟨.slice A5 (ls.length + 1) c5, 128, 9, (ls ++ [(⟨a1, ⟨y0, y1, y2, y3⟩, ⟨u0, u1, u2, u3⟩⟩ : Lg)]).length, (ls ++ [(⟨a1, ⟨y0, y1, y2, y3⟩, ⟨u0, u1, u2, u3⟩⟩ : Lg)]).flatMap lgEnc⟩] [TxtO w0.heap.size none] _
   rw [e9]
   exact (hm.pick [2, 3, 4] [0] [3] rfl rfl).cx
  refine wl_set 80 rfl (congrArg Value.bool h3) ?_
  subst h3
  rw [hw, leg10_no hNB.symm] at hS1
  refine wl_look (R := ∃ A cc, v = .slice A ls.length cc) (fun wx hm => own_slice (hm.ownI 0 rfl)) ?_
  rintro ⟨A, cc, rfl⟩
  refine goff rfl rfl rfl (goff rfl rfl rfl (goff rfl rfl rfl (pf_ rfl rfl (nn_ (cf_ rfl (gw_skip (nx_then (sr_ (fd_ fo45_3 rfl rfl (lk_ sc43 2 rfl rfl rfl ?_))))))))))
  refine wl_ov (ov_loads rz128 rfl (fun _ hm => hm.blkI 0 rfl) rfl rfl) rfl ?_
  refine wl_buildSlice (e := 128) (cs := [.string a1, .int .i64 y0, .string y1, .int .i64 y2, .int .i64 y3, .int .i64 (-1), .string ⟨#[]⟩, .int .i64 0, .int .i64 0]) rfl (by kernel_rfl) rfl fun g7 => ?_
  refine wl_append (news := [.string a1, .int .i64 y0, .string y1, .int .i64 y2, .int .i64 y3, .int .i64 (-1), .string ⟨#[]⟩, .int .i64 0, .int .i64 0]) 0 0 ap43 rfl rfl rfl rfl rfl rfl rfl (by omega) (by unfold maxLen; omega) rfl rfl fun v2 hv => ?_
  refine wl_look (R := ∃ A cc, v2 = .slice A (ls.length + 1) cc) (fun wx hm => own_slice (hm.ownI 0 rfl)) ?_
  rintro ⟨A5, c5, rfl⟩
  refine fd_ fo45_3 rfl rfl ?_
  refine wl_store 3 sc43 rfl rfl rfl rfl rfl rfl ?_
  refine nn_ (sr_ (mv_ rfl (sg_ rfl (nn_ ?_))))
  refine gw_ret ?_
  rw [show ls.flatMap lgEnc ++ ([.string a1, .int .i64 y0, .string y1, .int .i64 y2, .int .i64 y3, .int .i64 (-1), .string ⟨#[]⟩, .int .i64 0, .int .i64 0] : List Value) = (ls ++ [(⟨a1, ⟨y0, y1, y2, y3⟩, ⟨-1, ⟨#[]⟩, 0, 0⟩⟩ : Lg)]).flatMap lgEnc from by simp [lgEnc, rdCells]]
  refine nx_ret1 rfl rfl fun wx hm => ?_
  refine ⟨.slice A5 (ls.length + 1) c5, some ⟨k, d, f, t2, (ls ++ [(⟨a1, ⟨y0, y1, y2, y3⟩, ⟨-1, ⟨#[]⟩, 0, 0⟩⟩ : Lg)])⟩, by rw [hS1]; rfl, (fun h => by rw [hS1] at h; cases h), ?_⟩
  have e9 : (ls ++ [(⟨a1, ⟨y0, y1, y2, y3⟩, ⟨-1, ⟨#[]⟩, 0, 0⟩⟩ : Lg)]).length = ls.length + 1 := by simp
  show Mem ⟨0, w0, none, [9, 3]⟩ (fun _ => True) (hrL gf gh gr (some ⟨k, d, f, t2, (ls ++ [(⟨a1, ⟨y0, y1, y2, y3⟩, ⟨-1, ⟨#[]⟩, 0, 0⟩⟩ : Lg)])⟩) (.slice A5 (ls.length + 1) c5)) [⟨.slice A5 (ls.length + 1) c5, 128, 9, (ls ++ [(⟨a1, ⟨y0, y1, y2, y3⟩, ⟨-1, ⟨#[]⟩, 0, 0⟩⟩ : Lg)]).length, (ls ++ [(⟨a1, ⟨y0, y1, y2, y3⟩, ⟨-1, ⟨#[]⟩, 0, 0⟩⟩ : Lg)]).flatMap lgEnc⟩] [TxtO w0.heap.size none] _
  rw [e9]
  exact (hm.pick [2, 3, 4] [0] [2] rfl rfl).cx
 refine sg_ rfl (nn_ (sr_ (mv_ rfl ?_)))
 refine wl_callx (γ := Nat × Nat) (val := (fun g => .tuple #[.slice (some ⟨g.1, 0, none⟩) g.2 g.2, .bool (wdB t)])) (φ := (fun g => g.2 = (wdL t).length ∧ 1 ≤ g.2 ∧ g.2 ≤ t.size + 1)) (Y := (fun g => fun wy => SlT sgEnc 1 9 wy (some ⟨g.1, 0, none⟩) g.2 (wdL t))) rfl cb72 rfl rfl (fun wx hm => (rwords_any t wx (hm.fact 0 rfl).1 hts).mono fun _ _ ⟨gw, k, he, h1, h2, hg⟩ => ⟨(gw, k), he, ⟨h1.len.symm, h2⟩, hg, h1⟩) (fun _ => SlT.lasts2 rfl) ?_
 rintro ⟨gw, kw⟩ hkw
 dsimp only at hkw ⊢
 refine mv_ rfl (wl_ov (ov_extract rfl rfl) rfl (wl_ov (ov_extract rfl rfl) rfl (sg_ rfl (sg_ rfl (nn_ (gw_seq (sr_ (mv_ rfl (wl_ov (ov_un_not rfl) rfl (nn_ ?_))))))))))
 rcases Bool.eq_false_or_eq_true (!(wdB t)) with h1 | h1
 ·refine gw_set 16 rfl (congrArg Value.bool h1) ?_
  refine ct_ rfl (sr_ (sg_ rfl (nn_ ?_)))
  refine gw_ret ?_
  refine nx_then_ret ?_
  refine nx_ret1 rfl rfl fun wx hm => ?_
  exact ⟨v, (some (⟨k, d, f, t2, ls⟩ : Hr)), by rw [stp_wd h1], (fun h => absurd h (by rw [stp_wd h1]; decide)), (hm.pick [0, 1, 2] [0] [1] rfl rfl).cx⟩
 refine gw_set 16 rfl (congrArg Value.bool h1) ?_
 obtain ⟨hS1, hS2⟩ := stp_leg (h := (⟨k, d, f, t2, ls⟩ : Hr)) h1
 obtain ⟨hkl, hk1, hk2⟩ := hkw
 have hk6 : ¬ ((kw : Nat) : Int) = 6 := by omega
 have hk10 : ¬ ((kw : Nat) : Int) = 10 := by omega
 rw [hLeg_len h6 h10] at hS1
 obtain ⟨a0, hx0⟩ : ∃ x, (wdL t)[0]? = some x := ⟨_, List.getElem?_eq_getElem (by omega)⟩
 refine cf_ rfl (gw_skip (nx_then (gw_seq (sr_ (lk_ sc4 0 rfl rfl rfl (nn_ (cf_ rfl (gw_skip (nx_then (gw_seq (gw_seq ?_)))))))))))
 refine gw_region (mv_ rfl ?_)
 refine wl_ov (ov_index (j := 0) es112 rfl rfl (by omega)) rfl ?_
 refine wl_ov (ov_elem1 (k := 0) (v := .string a0) sc9 rfl (fun _ hm => (hm.fact 0 rfl)) hx0 rfl rfl) rfl ?_
 refine wl_ov (ov_sneq rfl rfl) rfl (mv_ rfl ?_)
 rcases Bool.eq_false_or_eq_true (!(a0.toList == (⟨#[108, 101, 103]⟩ : ByteArray).toList)) with hq | hq
 ·refine wl_set 57 rfl (congrArg Value.bool hq) ?_
  refine goff rfl rfl rfl (goff rfl rfl rfl (goff rfl rfl rfl (goff rfl rfl rfl (gnd rfl rfl rfl (gnd rfl rfl rfl (gnd rfl rfl rfl (goff rfl rfl rfl (pt_ rfl rfl (nn_ (ct_ rfl (sr_ ?_)))))))))))
  refine sg_ rfl (nn_ ?_)
  refine gw_ret ?_
  refine nx_then_ret ?_
  refine nx_ret1 rfl rfl fun wx hm => ?_
  exact ⟨v, (some (⟨k, d, f, t2, ls⟩ : Hr)), by rw [hS1]; rfl, (fun h => by rw [hS1] at h; cases h), (hm.pick [0, 1, 2] [0] [1] rfl rfl).cx⟩
 refine wl_set 57 rfl (congrArg Value.bool hq) ?_
 refine wl_guard_on rfl rfl rfl (mv_ rfl (wl_guard_on rfl rfl rfl (wl_ov (ov_len es112 rfl) rfl (wl_guard_on rfl rfl rfl (wl_ov (ov_neq rfl rfl) rfl (wl_guard_on rfl rfl rfl (mv_ rfl ?_)))))))
 refine wl_set 61 (v' := .bool true) rfl (congrArg Value.bool (by rw [decide_eq_false hk6]; rfl)) ?_
 refine wl_guard_on rfl rfl rfl (mv_ rfl (wl_guard_on rfl rfl rfl (wl_ov (ov_len es112 rfl) rfl (wl_guard_on rfl rfl rfl (wl_ov (ov_neq rfl rfl) rfl (wl_guard_on rfl rfl rfl (pt_ rfl rfl (pf_ rfl rfl (nn_ ?_)))))))))
 refine gw_set 66 (v' := .bool true) rfl (congrArg Value.bool (by rw [decide_eq_false hk10]; rfl)) ?_
 refine ct_ rfl (sr_ (sg_ rfl (nn_ ?_)))
 refine gw_ret ?_
 refine nx_then_ret ?_
 refine nx_ret1 rfl rfl fun wx hm => ?_
 exact ⟨v, (some (⟨k, d, f, t2, ls⟩ : Hr)), by rw [hS1]; rfl, (fun h => by rw [hS1] at h; cases h), (hm.pick [0, 1, 2] [0] [1] rfl rfl).cx⟩
theorem hRead1_w (t : ByteArray) (w0 w : World) (gf gh gr : Nat) (v : Value) (st : Option Hr) (hts : t.size ≤ 1000000) (hls_ : (hrls st).length ≤ 1000000) (hm : Mem ⟨0, w0, none, [9, 3]⟩ (fun _ => True) (hrL gf gh gr st v) (hrO st v) [TxtO w0.heap.size none] w) :
    Calls Tryz.prog 91 #[.string t, .pointer (some ⟨gf, 0, none⟩), .pointer (some ⟨gh, 0, none⟩)] w (fun e w' => ∃ (v' : Value) (st' : Option Hr), e = .returned (.bool (hStep t st).2) ∧ ((hStep t st).2 = true → st' = (hStep t st).1) ∧ Mem ⟨0, w0, none, [9, 3]⟩ (fun _ => True) (hrL gf gh gr st' v') (hrO st' v') [TxtO w0.heap.size none] w') := by
  cases st with
  | none => exact hRead_none t w0 w gf gh gr v hts hm
  | some h =>
    obtain ⟨k, d, f, t2, ls⟩ := h
    exact hRead_some t w0 w gf gh gr v k d f t2 ls hts hls_ hm
theorem hRref1_w (t : ByteArray) (w0 w : World) (gf gh gr : Nat) (v : Value) (st : Option Hr) (hts : t.size ≤ 1000000) (hls_ : (hrls st).length ≤ 1000000) (hm : Mem ⟨0, w0, none, [9, 3]⟩ (fun _ => True) (hrL gf gh gr st v) (hrO st v) [TxtO w0.heap.size none] w) :
    Calls Tryz.prog 93 #[.string t, .pointer (some ⟨gf, 0, none⟩), .pointer (some ⟨gh, 0, none⟩)] w (fun e w' => ∃ (v' : Value) (st' : Option Hr), e = .returned (.bool (hStep t st).2) ∧ ((hStep t st).2 = true → st' = (hStep t st).1) ∧ Mem ⟨0, w0, none, [9, 3]⟩ (fun _ => True) (hrL gf gh gr st' v') (hrO st' v') [TxtO w0.heap.size none] w') := by
  cases st with
  | none => exact hRref_none t w0 w gf gh gr v hts hm
  | some h =>
    obtain ⟨k, d, f, t2, ls⟩ := h
    exact hRref_some t w0 w gf gh gr v k d f t2 ls hts hls_ hm
end Go.Proofs.YtnpcbfllnkiopaaGreatDoor
namespace Go.Proofs.YtnpcbfllnkiopaaGreatDoor
open Go.RowKit
theorem hWl_w (t : ByteArray) (gf gh gr : Nat) (w0 w : World) (hts : t.size ≤ 200000) (hm : Mem ⟨0, w0, none, [9, 3]⟩ (fun _ => True) (hrL gf gh gr none (.slice none 0 0)) (hrO none (.slice none 0 0)) [TxtO w0.heap.size none] w) :
  Calls Tryz.prog 66 #[.string t, .func (.func 91) #[] #[.pointer (some ⟨gf, 0, none⟩), .pointer (some ⟨gh, 0, none⟩)]] w (fun e w' => ∃ (v' : Value) (st' : Option Hr), e = .returned (.tuple #[.int .i64 (hrR t).1, .bool (hrR t).2.1]) ∧ ((hrR t).2.1 = true → st' = (hrR t).2.2) ∧ Mem ⟨0, w0, none, [9, 3]⟩ (fun _ => True) (hrL gf gh gr st' v') (hrO st' v') [TxtO w0.heap.size none] w') := by
 refine gw_enter ⟨30, w0, none, [9, 3]⟩ Tryz.func66 rfl Tryz.ntmps66 rfl hm.cx ?_
 refine sr_ (sg_ rfl (sg_ rfl (nn_ (gw_seq (sr_ (sg_ rfl (nn_ (gw_block ?_))))))))
 refine gw_loop (γ := Nat × ByteArray × Int × Value × Option Hr) (fun (gz : Nat × ByteArray × Int × Value × Option Hr) => gz.2.1.size < gz.1 ∧ gz.2.1.size ≤ t.size ∧ hrR t = linesF hStep gz.1 gz.2.1 gz.2.2.1 gz.2.2.2.2 ∧ 0 ≤ gz.2.2.1 ∧ gz.2.2.1 + gz.2.1.size ≤ t.size ∧ hsM gz.2.2.2.2 + gz.2.1.size ≤ t.size ∧ HsQ gz.2.2.2.2) (fun (gz : Nat × ByteArray × Int × Value × Option Hr) => [(0, .string gz.2.1), (1, .func (.func 91) #[] #[.pointer (some ⟨gf, 0, none⟩), .pointer (some ⟨gh, 0, none⟩)]), (6, .int .i64 gz.2.2.1)]) (fun (gz : Nat × ByteArray × Int × Value × Option Hr) => fun _ => True) (fun (gz : Nat × ByteArray × Int × Value × Option Hr) => [(gf, 4, [.bool gz.2.2.2.2.isNone]), (gh, 45, [.string (hrk gz.2.2.2.2), .string (hrd gz.2.2.2.2), .int .i64 (hrf gz.2.2.2.2), .int .i64 (hrt gz.2.2.2.2), gz.2.2.2.1]), (gr, 45, [.string ⟨#[]⟩, .string ⟨#[]⟩, .int .i64 0, .int .i64 0, .slice none 0 0])]) (fun (gz : Nat × ByteArray × Int × Value × Option Hr) => [⟨gz.2.2.2.1, 128, 9, (hrls gz.2.2.2.2).length, (hrls gz.2.2.2.2).flatMap lgEnc⟩]) (fun (gz : Nat × ByteArray × Int × Value × Option Hr) => [TxtO w0.heap.size none]) (fun (gz : Nat × ByteArray × Int × Value × Option Hr) => gz.1) (t.size + 1, t, 0, (.slice none 0 0), none) ⟨Nat.lt_succ_self _, Nat.le_refl _, rfl, Int.le_refl _, by dsimp only; omega, by simp [hsM], fun _ e => by cases e⟩ ⟨rfl, rfl, rfl, trivial⟩ (fun _ hm => hm.pick [0, 1, 2] [0] [0] rfl rfl) ?_
 rintro ⟨f, u, at_, v, st⟩ hinv
 replace hinv : u.size < f ∧ u.size ≤ t.size ∧ hrR t = linesF hStep f u at_ st ∧ 0 ≤ at_ ∧ at_ + u.size ≤ t.size ∧ hsM st + u.size ≤ t.size ∧ HsQ st := hinv
 dsimp only
 refine gw_seq (sr_ ?_)
 obtain ⟨hf, hu, hR, ha0, ha1, hms, hQ⟩ := hinv
 refine mv_ rfl (wl_ov (ov_sneq rfl rfl) rfl (nn_ ?_))
 refine gw_cond rfl (fun hh => ?_) (fun hh => ?_)
 ·have he : (u.toList == (⟨#[]⟩ : ByteArray).toList) = false := by simpa using hh
  clear hh
  refine gw_skip (nx_then (gw_seq (gw_block (sr_ ?_))))
  replace he : (u.toList == (⟨#[]⟩ : ByteArray).toList) = false := by simpa using he
  have hu1 := size_pos he
  obtain ⟨⟨c1, c2, cf⟩, hcut⟩ : ∃ z, cutS u nlS = z := ⟨_, rfl⟩
  have hsz := cut_sz u nlS (by decide)
  rw [hcut] at hsz
  obtain ⟨hs1, hs2, hs3⟩ := hsz
  have hs1 : c1.size ≤ u.size := hs1
  have hs2 : cf = true → 1 ≤ u.size → c2.size + 1 ≤ u.size := hs2
  refine mv_ rfl ?_
  refine wl_callv (v := .tuple #[.string c1, .string c2, .bool cf]) rfl cb163 rfl rfl (fun wx hm => (by have h := cut_any u nlS wx (hm.fact 0 rfl).1 (by omega); rw [hcut] at h; exact h)) ?_
  refine mv_ rfl (wl_ov (ov_extract rfl rfl) rfl (wl_ov (ov_extract rfl rfl) rfl (wl_ov (ov_extract rfl rfl) rfl (sg_ rfl (sg_ rfl (sg_ rfl (nn_ (gw_seq (sr_ (mv_ rfl (wl_ov (ov_un_not rfl) rfl ?_)))))))))))
  refine mv_ rfl ?_
  rcases Bool.eq_false_or_eq_true (!cf) with hcf | hcf
  ·refine wl_set 22 rfl (congrArg Value.bool hcf) ?_
   replace hcf : cf = false := by simpa using hcf
   subst hcf
   refine goff rfl rfl rfl (goff rfl rfl rfl (goff rfl rfl rfl (goff rfl rfl rfl (pt_ rfl rfl (nn_ (ct_ rfl (sr_ (mv_ rfl (sg_ rfl (sg_ rfl (wl_nil ?_)))))))))))
   refine nx_then ?_
   refine gw_ret ?_
   refine nx_then_ret (nx_blk_ret (nx_then_ret (nx_then_ret (nx_blk_ret (nx_then_ret ?_)))))
   refine nx_ret2 rfl rfl rfl fun wx hm => ?_
   have hR2 := hR.trans (lns_open hf he hcut)
   rw [hR2]
   exact ⟨v, st, rfl, (fun h => by cases h), (hm.pick [0, 1, 2] [0] [0] rfl rfl).cx⟩
  refine wl_set 22 rfl (congrArg Value.bool hcf) ?_
  replace hcf : cf = true := by simpa using hcf
  subst hcf
  have hs2 := hs2 rfl hu1
  refine wl_guard_on rfl rfl rfl (mv_ rfl (wl_guard_on rfl rfl rfl (mv_ rfl (wl_guard_on rfl rfl rfl ?_))))
  have hlsn : (hrls st).length = hsM st := by cases st <;> rfl
  refine wl_callG (γ := Value × Option Hr) (val := fun _ => .bool (hStep c1 st).2) (φ := fun z => (hStep c1 st).2 = true → z.2 = (hStep c1 st).1) (K' := fun _ => (fun _ => True)) (L' := fun z => [(gf, 4, [.bool z.2.isNone]), (gh, 45, [.string (hrk z.2), .string (hrd z.2), .int .i64 (hrf z.2), .int .i64 (hrt z.2), z.1]), (gr, 45, [.string ⟨#[]⟩, .string ⟨#[]⟩, .int .i64 0, .int .i64 0, .slice none 0 0])]) (O' := fun z => [⟨z.1, 128, 9, (hrls z.2).length, (hrls z.2).flatMap lgEnc⟩]) (X' := fun _ => [TxtO w0.heap.size none]) rfl cb91 rfl rfl (fun wx hm => (hRead1_w c1 w0 wx gf gh gr v st (by omega) (by omega) (hm.pick [0, 1, 2] [0] [0] rfl rfl).cx).mono fun e w' ⟨v', st', he, h1, hM⟩ => ⟨(v', st'), he, h1, hM.cx⟩) ?_
  rintro ⟨v1, st1⟩ hst1
  dsimp only at hst1 ⊢
  refine wl_guard_on rfl rfl rfl (wl_ov (ov_un_not rfl) rfl (pf_ rfl rfl (nn_ ?_)))
  refine gw_cond rfl (fun hh => ?_) (fun hh => ?_)
  ·have hr : ((hStep c1 st).2) = false := by simpa using hh
   clear hh
   refine sr_ ?_
   replace hr : (hStep c1 st).2 = false := by simpa using hr
   refine mv_ rfl (sg_ rfl (sg_ rfl (nn_ ?_)))
   refine gw_ret ?_
   refine nx_then_ret (nx_blk_ret (nx_then_ret (nx_then_ret (nx_blk_ret (nx_then_ret ?_)))))
   refine nx_ret2 rfl rfl rfl fun wx hm => ?_
   have hR2 := hR.trans (lns_no hf he hcut hr)
   rw [hR2]
   exact ⟨v1, st1, rfl, (fun h => by cases h), (hm.pick [0, 1, 2] [0] [0] rfl rfl).cx⟩
  have hr : ((hStep c1 st).2) = true := by simpa using hh
  clear hh
  refine gw_skip (nx_then (gw_region ?_))
  replace hr : (hStep c1 st).2 = true := by simpa using hr
  obtain rfl := hst1 hr
  obtain ⟨hq1, hq2⟩ := hStep_ok c1 st (by omega) hQ
  refine mv_ rfl (sg_ rfl (wl_nil (nx_blk_nrm (nx_then (gw_region (mv_ rfl (ad_ rfl rfl (sg_ rfl (wl_nil ?_)))))))))
  exact nx_round (f - 1, c2, at_ + 1, v1, (hStep c1 st).1) ⟨by dsimp only; omega, by dsimp only; omega, hR.trans (lns_go hf he hcut hr), by dsimp only; omega, by dsimp only; omega, by dsimp only; omega, hq1⟩ (by dsimp only; omega) ⟨rfl, rfl, rfl, trivial⟩ (fun _ hm => hm.pick [0, 1, 2] [0] [0] rfl rfl)
 have he : (u.toList == (⟨#[]⟩ : ByteArray).toList) = true := by simpa using hh
 clear hh
 refine gw_exit ?_
 refine nx_then_exit (nx_then_exit ?_)
 refine nx_blk_here ?_
 refine nx_then (sr_ (sg_ rfl (sg_ rfl (nn_ ?_))))
 refine gw_ret ?_
 refine nx_ret2 rfl rfl rfl fun wx hm => ?_
 have hR2 := hR.trans (lns_nil hf (by simpa using he))
 rw [hR2]
 exact ⟨v, st, rfl, (fun _ => rfl), (hm.pick [0, 1, 2] [0] [0] rfl rfl).cx⟩
theorem hRl_w (t : ByteArray) (gf gh gr : Nat) (w0 w : World) (hts : t.size ≤ 200000) (hm : Mem ⟨0, w0, none, [9, 3]⟩ (fun _ => True) (hrL gf gh gr none (.slice none 0 0)) (hrO none (.slice none 0 0)) [TxtO w0.heap.size none] w) :
  Calls Tryz.prog 70 #[.string t, .func (.func 93) #[] #[.pointer (some ⟨gf, 0, none⟩), .pointer (some ⟨gh, 0, none⟩)]] w (fun e w' => ∃ (v' : Value) (st' : Option Hr), e = .returned (.tuple #[.int .i64 (hrR t).1, .bool (hrR t).2.1]) ∧ ((hrR t).2.1 = true → st' = (hrR t).2.2) ∧ Mem ⟨0, w0, none, [9, 3]⟩ (fun _ => True) (hrL gf gh gr st' v') (hrO st' v') [TxtO w0.heap.size none] w') := by
 refine gw_enter ⟨30, w0, none, [9, 3]⟩ Tryz.func70 rfl Tryz.ntmps70 rfl hm.cx ?_
 refine sr_ (sg_ rfl (sg_ rfl (nn_ (gw_seq (sr_ (sg_ rfl (nn_ (gw_block ?_))))))))
 refine gw_loop (γ := Nat × ByteArray × Int × Value × Option Hr) (fun (gz : Nat × ByteArray × Int × Value × Option Hr) => gz.2.1.size < gz.1 ∧ gz.2.1.size ≤ t.size ∧ hrR t = linesF hStep gz.1 gz.2.1 gz.2.2.1 gz.2.2.2.2 ∧ 0 ≤ gz.2.2.1 ∧ gz.2.2.1 + gz.2.1.size ≤ t.size ∧ hsM gz.2.2.2.2 + gz.2.1.size ≤ t.size ∧ HsQ gz.2.2.2.2) (fun (gz : Nat × ByteArray × Int × Value × Option Hr) => [(0, .string gz.2.1), (1, .func (.func 93) #[] #[.pointer (some ⟨gf, 0, none⟩), .pointer (some ⟨gh, 0, none⟩)]), (6, .int .i64 gz.2.2.1)]) (fun (gz : Nat × ByteArray × Int × Value × Option Hr) => fun _ => True) (fun (gz : Nat × ByteArray × Int × Value × Option Hr) => [(gf, 4, [.bool gz.2.2.2.2.isNone]), (gh, 45, [.string (hrk gz.2.2.2.2), .string (hrd gz.2.2.2.2), .int .i64 (hrf gz.2.2.2.2), .int .i64 (hrt gz.2.2.2.2), gz.2.2.2.1]), (gr, 45, [.string ⟨#[]⟩, .string ⟨#[]⟩, .int .i64 0, .int .i64 0, .slice none 0 0])]) (fun (gz : Nat × ByteArray × Int × Value × Option Hr) => [⟨gz.2.2.2.1, 128, 9, (hrls gz.2.2.2.2).length, (hrls gz.2.2.2.2).flatMap lgEnc⟩]) (fun (gz : Nat × ByteArray × Int × Value × Option Hr) => [TxtO w0.heap.size none]) (fun (gz : Nat × ByteArray × Int × Value × Option Hr) => gz.1) (t.size + 1, t, 0, (.slice none 0 0), none) ⟨Nat.lt_succ_self _, Nat.le_refl _, rfl, Int.le_refl _, by dsimp only; omega, by simp [hsM], fun _ e => by cases e⟩ ⟨rfl, rfl, rfl, trivial⟩ (fun _ hm => hm.pick [0, 1, 2] [0] [0] rfl rfl) ?_
 rintro ⟨f, u, at_, v, st⟩ hinv
 replace hinv : u.size < f ∧ u.size ≤ t.size ∧ hrR t = linesF hStep f u at_ st ∧ 0 ≤ at_ ∧ at_ + u.size ≤ t.size ∧ hsM st + u.size ≤ t.size ∧ HsQ st := hinv
 dsimp only
 refine gw_seq (sr_ ?_)
 obtain ⟨hf, hu, hR, ha0, ha1, hms, hQ⟩ := hinv
 refine mv_ rfl (wl_ov (ov_sneq rfl rfl) rfl (nn_ ?_))
 refine gw_cond rfl (fun hh => ?_) (fun hh => ?_)
 ·have he : (u.toList == (⟨#[]⟩ : ByteArray).toList) = false := by simpa using hh
  clear hh
  refine gw_skip (nx_then (gw_seq (gw_block (sr_ ?_))))
  replace he : (u.toList == (⟨#[]⟩ : ByteArray).toList) = false := by simpa using he
  have hu1 := size_pos he
  obtain ⟨⟨c1, c2, cf⟩, hcut⟩ : ∃ z, cutS u nlS = z := ⟨_, rfl⟩
  have hsz := cut_sz u nlS (by decide)
  rw [hcut] at hsz
  obtain ⟨hs1, hs2, hs3⟩ := hsz
  have hs1 : c1.size ≤ u.size := hs1
  have hs2 : cf = true → 1 ≤ u.size → c2.size + 1 ≤ u.size := hs2
  refine mv_ rfl ?_
  refine wl_callv (v := .tuple #[.string c1, .string c2, .bool cf]) rfl cb163 rfl rfl (fun wx hm => (by have h := cut_any u nlS wx (hm.fact 0 rfl).1 (by omega); rw [hcut] at h; exact h)) ?_
  refine mv_ rfl (wl_ov (ov_extract rfl rfl) rfl (wl_ov (ov_extract rfl rfl) rfl (wl_ov (ov_extract rfl rfl) rfl (sg_ rfl (sg_ rfl (sg_ rfl (nn_ (gw_seq (sr_ (mv_ rfl (wl_ov (ov_un_not rfl) rfl ?_)))))))))))
  refine mv_ rfl ?_
  rcases Bool.eq_false_or_eq_true (!cf) with hcf | hcf
  ·refine wl_set 22 rfl (congrArg Value.bool hcf) ?_
   replace hcf : cf = false := by simpa using hcf
   subst hcf
   refine goff rfl rfl rfl (goff rfl rfl rfl (goff rfl rfl rfl (goff rfl rfl rfl (pt_ rfl rfl (nn_ (ct_ rfl (sr_ (mv_ rfl (sg_ rfl (sg_ rfl (wl_nil ?_)))))))))))
   refine nx_then ?_
   refine gw_ret ?_
   refine nx_then_ret (nx_blk_ret (nx_then_ret (nx_then_ret (nx_blk_ret (nx_then_ret ?_)))))
   refine nx_ret2 rfl rfl rfl fun wx hm => ?_
   have hR2 := hR.trans (lns_open hf he hcut)
   rw [hR2]
   exact ⟨v, st, rfl, (fun h => by cases h), (hm.pick [0, 1, 2] [0] [0] rfl rfl).cx⟩
  refine wl_set 22 rfl (congrArg Value.bool hcf) ?_
  replace hcf : cf = true := by simpa using hcf
  subst hcf
  have hs2 := hs2 rfl hu1
  refine wl_guard_on rfl rfl rfl (mv_ rfl (wl_guard_on rfl rfl rfl (mv_ rfl (wl_guard_on rfl rfl rfl ?_))))
  have hlsn : (hrls st).length = hsM st := by cases st <;> rfl
  refine wl_callG (γ := Value × Option Hr) (val := fun _ => .bool (hStep c1 st).2) (φ := fun z => (hStep c1 st).2 = true → z.2 = (hStep c1 st).1) (K' := fun _ => (fun _ => True)) (L' := fun z => [(gf, 4, [.bool z.2.isNone]), (gh, 45, [.string (hrk z.2), .string (hrd z.2), .int .i64 (hrf z.2), .int .i64 (hrt z.2), z.1]), (gr, 45, [.string ⟨#[]⟩, .string ⟨#[]⟩, .int .i64 0, .int .i64 0, .slice none 0 0])]) (O' := fun z => [⟨z.1, 128, 9, (hrls z.2).length, (hrls z.2).flatMap lgEnc⟩]) (X' := fun _ => [TxtO w0.heap.size none]) rfl cb93 rfl rfl (fun wx hm => (hRref1_w c1 w0 wx gf gh gr v st (by omega) (by omega) (hm.pick [0, 1, 2] [0] [0] rfl rfl).cx).mono fun e w' ⟨v', st', he, h1, hM⟩ => ⟨(v', st'), he, h1, hM.cx⟩) ?_
  rintro ⟨v1, st1⟩ hst1
  dsimp only at hst1 ⊢
  refine wl_guard_on rfl rfl rfl (wl_ov (ov_un_not rfl) rfl (pf_ rfl rfl (nn_ ?_)))
  refine gw_cond rfl (fun hh => ?_) (fun hh => ?_)
  ·have hr : ((hStep c1 st).2) = false := by simpa using hh
   clear hh
   refine sr_ ?_
   replace hr : (hStep c1 st).2 = false := by simpa using hr
   refine mv_ rfl (sg_ rfl (sg_ rfl (nn_ ?_)))
   refine gw_ret ?_
   refine nx_then_ret (nx_blk_ret (nx_then_ret (nx_then_ret (nx_blk_ret (nx_then_ret ?_)))))
   refine nx_ret2 rfl rfl rfl fun wx hm => ?_
   have hR2 := hR.trans (lns_no hf he hcut hr)
   rw [hR2]
   exact ⟨v1, st1, rfl, (fun h => by cases h), (hm.pick [0, 1, 2] [0] [0] rfl rfl).cx⟩
  have hr : ((hStep c1 st).2) = true := by simpa using hh
  clear hh
  refine gw_skip (nx_then (gw_region ?_))
  replace hr : (hStep c1 st).2 = true := by simpa using hr
  obtain rfl := hst1 hr
  obtain ⟨hq1, hq2⟩ := hStep_ok c1 st (by omega) hQ
  refine mv_ rfl (sg_ rfl (wl_nil (nx_blk_nrm (nx_then (gw_region (mv_ rfl (ad_ rfl rfl (sg_ rfl (wl_nil ?_)))))))))
  exact nx_round (f - 1, c2, at_ + 1, v1, (hStep c1 st).1) ⟨by dsimp only; omega, by dsimp only; omega, hR.trans (lns_go hf he hcut hr), by dsimp only; omega, by dsimp only; omega, by dsimp only; omega, hq1⟩ (by dsimp only; omega) ⟨rfl, rfl, rfl, trivial⟩ (fun _ hm => hm.pick [0, 1, 2] [0] [0] rfl rfl)
 have he : (u.toList == (⟨#[]⟩ : ByteArray).toList) = true := by simpa using hh
 clear hh
 refine gw_exit ?_
 refine nx_then_exit (nx_then_exit ?_)
 refine nx_blk_here ?_
 refine nx_then (sr_ (sg_ rfl (sg_ rfl (nn_ ?_))))
 refine gw_ret ?_
 refine nx_ret2 rfl rfl rfl fun wx hm => ?_
 have hR2 := hR.trans (lns_nil hf (by simpa using he))
 rw [hR2]
 exact ⟨v, st, rfl, (fun _ => rfl), (hm.pick [0, 1, 2] [0] [0] rfl rfl).cx⟩
def hrGot (t : ByteArray) (w : World) (e : Ending) (w' : World) : Prop := ∃ (k d : ByteArray) (f t2 : Int) (A : Option Addr) (n c : Nat), e = .returned (.tuple #[.agg #[.string k, .string d, .int .i64 f, .int .i64 t2, .slice A n c], .int .i64 (hrAt t), .int .i64 (hrE t)]) ∧ hrH t = ⟨k, d, f, t2, (hrH t).legs⟩ ∧ SlT lgEnc 9 128 w' A n (hrH t).legs ∧ w.grownBy w' none
theorem hrGot.zero {t : ByteArray} {w w' : World} {N E : Int} (h : hrE t = E ∧ hrAt t = N ∧ hrH t = zeroHr) (hg : w.grownBy w' none) : hrGot t w (.returned (.tuple #[.agg #[.string ⟨#[]⟩, .string ⟨#[]⟩, .int .i64 0, .int .i64 0, .slice none 0 0], .int .i64 N, .int .i64 E])) w' :=
  ⟨⟨#[]⟩, ⟨#[]⟩, 0, 0, none, 0, 0, by rw [h.1, h.2.1], by rw [h.2.2]; rfl, by rw [h.2.2]; exact SlT.nil_ w' none, hg⟩
section
variable {P : Program} {c : Cx} {S : List (Nat × Value)} {K : World → Prop} {L : List (Nat × TypeId × List Value)} {O : List Own} {X : List (World → Prop)} {fn : Func} {R : Ending → World → Prop}
theorem results_ctt2 {p u r : Tmp} {t : TypeId} (h : fn.results = #[.cell p t, .tmp u, .tmp r]) (tmps : Array Value) (w : World) (g : Nat) (T : TypeId) (cs : Array Value) (fr : Nat × Nat) (d : TypeDesc) (hp : tmps.getD p undef = .pointer (some ⟨g, 0, none⟩)) (hg : w.heap[g]? = some (.cells cs T fr)) (hu : P.underlying t = some d) (hd : (match d with | .struct _ | .array _ _ => true | _ => false) = true) (hi : (P.info? t).map (·.size) = some cs.size) :
    (results fn tmps).run P w = .ok (.tuple #[.agg cs, tmps.getD u undef, tmps.getD r undef]) w := by
  have hp' : tmps[p]?.getD undef = .pointer (some ⟨g, 0, none⟩) := by simpa using hp
  simp [results, h, hp', asAddr, run_loadVar_row w g T t cs fr d hg hu hd hi]
theorem nx_retctt2 {p u r : Nat} {t T : TypeId} {g n : Nat} {cs : List Value} {v v' : Value} (i : Nat) (hr : fn.results = #[.cell p t, .tmp u, .tmp r]) (hs : rowSz P t = some n) (hp : look S p = some (.pointer (some ⟨g, 0, none⟩))) (hv : look S u = some v) (hv' : look S r = some v') (hL : L[i]? = some (g, T, cs)) (hn : cs.length = n)
    (h : ∀ w, Mem c K L O X w → R (.returned (.tuple #[.agg cs.toArray, v, v'])) w) : Nx c (bodyPost P fn R) .ret S K L O X := fun a w ha hm => by
  obtain ⟨dd, hu, hd, hi⟩ := run_row hs
  have hb : w.heap[g]? = some (.cells cs.toArray T (0, 0)) := hm.blk (List.mem_of_getElem? hL)
  have h1 := results_ctt2 (P := P) hr a.tmps w g T cs.toArray (0, 0) dd (by simp [Array.getD_eq_getD_getElem?, ha.val p _ hp]) hb hu (by cases dd <;> simp_all [TypeDesc.isRow]) (by simpa [hn] using hi)
  rw [show a.tmps.getD u undef = v by simp [Array.getD_eq_getD_getElem?, ha.val u _ hv], show a.tmps.getD r undef = v' by simp [Array.getD_eq_getD_getElem?, ha.val r _ hv']] at h1
  exact bodyPost_ret h1 ha.df (h w hm)
end
theorem hRead_w (t : ByteArray) (w : World) (htx : TxtW w) (hts : t.size ≤ 1000000000) :
  Calls Tryz.prog 26 #[.string t] w (hrGot t w) := by
 refine gw_enter ⟨34, w, none, [9, 3]⟩ Tryz.func26 rfl Tryz.ntmps26 rfl (mem0 (X := [TxtO w.heap.size none]) (allF_cons htx.old allF_nil) (allL_cons TxtO.lasts allL_nil)) ?_
 refine sr_ ?_
 refine wl_alloc zc45 rfl fun g1 => ?_
 refine sg_ rfl (sg_ rfl (nn_ (gw_seq (sr_ (mv_ rfl ?_)))))
 refine wl_ov (ov_lens us9 rfl) rfl ?_
 refine wl_ov (ov_gtr rfl rfl) rfl ?_
 refine nn_ ?_
 refine gw_cond rfl (fun hh => ?_) (fun hh => ?_)
 ·have hb : 200000 < ((t).size : Int) := by simpa using hh
  clear hh
  refine sr_ ?_
  refine wl_ov (ov_build (cs := [.string ⟨#[]⟩, .string ⟨#[]⟩, .int .i64 0, .int .i64 0, .slice none 0 0]) rfl (by kernel_rfl)) rfl ?_
  refine wl_stores (cs' := [.string ⟨#[]⟩, .string ⟨#[]⟩, .int .i64 0, .int .i64 0, .slice none 0 0]) 0 rz45 rfl rfl rfl rfl rfl rfl rfl rfl ?_
  refine sg_ rfl (sg_ rfl (nn_ ?_))
  refine gw_ret ?_
  refine nx_then_ret ?_
  refine nx_retctt2 0 rfl rz45 rfl rfl rfl rfl rfl fun wx hm => ?_
  exact hrGot.zero (hr_big (by omega)) hm.g
 have hb : ¬ (200000 < ((t).size : Int)) := by simpa using hh
 clear hh
 refine gw_skip (nx_then (sr_ ?_))
 have hb : ¬ 200000 < t.size := by omega
 obtain ⟨hQ, hMs⟩ := hrR_all (t := t) (by omega)
 refine wl_alloc zc45 rfl fun g2 => ?_
 refine nn_ (sr_ ?_)
 refine wl_alloc zc4 rfl fun g3 => ?_
 refine wl_store 0 sc4 rfl rfl rfl rfl rfl rfl ?_
 refine nn_ (sr_ (mv_ rfl (wl_ov (ov_makeFunc rfl rfl) rfl ?_)))
 refine wl_nilOwn 128 9 ?_
 refine wl_callG (γ := Value × Option Hr) (val := fun _ => .tuple #[.int .i64 (hrR t).1, .bool (hrR t).2.1]) (φ := fun z => (hrR t).2.1 = true → z.2 = (hrR t).2.2) (K' := fun _ => (fun _ => True)) (L' := fun z => [(g3, 4, [.bool z.2.isNone]), (g2, 45, [.string (hrk z.2), .string (hrd z.2), .int .i64 (hrf z.2), .int .i64 (hrt z.2), z.1]), (g1, 45, [.string ⟨#[]⟩, .string ⟨#[]⟩, .int .i64 0, .int .i64 0, .slice none 0 0])]) (O' := fun z => [⟨z.1, 128, 9, (hrls z.2).length, (hrls z.2).flatMap lgEnc⟩]) (X' := fun _ => [TxtO w.heap.size none]) rfl cb66 rfl rfl (fun wx hm => (hWl_w t g3 g2 g1 w wx (by omega) (hm.pick [0, 1, 2] [0] [0] rfl rfl).cx).mono fun e w' ⟨v', st', he, h1, hM⟩ => ⟨(v', st'), he, h1, hM.cx⟩) ?_
 rintro ⟨v1, st1⟩ hst1
 dsimp only at hst1 ⊢
 refine mv_ rfl (wl_ov (ov_extract rfl rfl) rfl (wl_ov (ov_extract rfl rfl) rfl (sg_ rfl (sg_ rfl (nn_ (gw_seq (sr_ (mv_ rfl (wl_ov (ov_un_not rfl) rfl (mv_ rfl ?_))))))))))
 rcases Bool.eq_false_or_eq_true (!((hrR t).2.1)) with ho | ho
 ·refine wl_set 22 rfl (congrArg Value.bool ho) ?_
  replace ho : (hrR t).2.1 = false := by simpa using ho
  refine goff rfl rfl rfl (pt_ rfl rfl (nn_ (ct_ rfl (sr_ ?_))))
  refine wl_ov (ov_build (cs := [.string ⟨#[]⟩, .string ⟨#[]⟩, .int .i64 0, .int .i64 0, .slice none 0 0]) rfl (by kernel_rfl)) rfl ?_
  refine mv_ rfl ?_
  refine wl_stores (cs' := [.string ⟨#[]⟩, .string ⟨#[]⟩, .int .i64 0, .int .i64 0, .slice none 0 0]) 2 rz45 rfl rfl rfl rfl rfl rfl rfl rfl ?_
  refine sg_ rfl (sg_ rfl (nn_ ?_))
  refine gw_ret ?_
  refine nx_then_ret ?_
  refine nx_retctt2 2 rfl rz45 rfl rfl rfl rfl rfl fun wx hm => ?_
  exact hrGot.zero (hr_syn hb ho) hm.g
 refine wl_set 22 rfl (congrArg Value.bool ho) ?_
 replace ho : (hrR t).2.1 = true := by simpa using ho
 obtain rfl := hst1 ho
 obtain ⟨ST, hST⟩ : ∃ z, z = (hrR t).2.2 := ⟨_, rfl⟩
 rw [← hST] at hQ hMs ⊢
 by_cases hsn : ST = none
 ·subst hsn
  refine wl_guard_on rfl rfl rfl (lk_ sc4 0 rfl rfl rfl (pf_ rfl rfl (nn_ ?_)))
  refine gw_set 24 (v' := .bool true) rfl rfl ?_
  refine ct_ rfl (sr_ ?_)
  refine wl_ov (ov_build (cs := [.string ⟨#[]⟩, .string ⟨#[]⟩, .int .i64 0, .int .i64 0, .slice none 0 0]) rfl (by kernel_rfl)) rfl ?_
  refine mv_ rfl ?_
  refine wl_stores (cs' := [.string ⟨#[]⟩, .string ⟨#[]⟩, .int .i64 0, .int .i64 0, .slice none 0 0]) 2 rz45 rfl rfl rfl rfl rfl rfl rfl rfl ?_
  refine sg_ rfl (sg_ rfl (nn_ ?_))
  refine gw_ret ?_
  refine nx_then_ret ?_
  refine nx_retctt2 2 rfl rz45 rfl rfl rfl rfl rfl fun wx hm => ?_
  exact hrGot.zero (hr_none hb ho hST.symm) hm.g
 obtain ⟨h, rfl⟩ := Option.ne_none_iff_exists'.1 hsn
 obtain ⟨k, d, f, t2, ls⟩ := h
 have hok : HrOk k d ls := hQ _ rfl
 have hms : ls.length ≤ t.size := hMs
 obtain ⟨HE, hHE⟩ : ∃ z, z = hireE ⟨k, d, f, t2, ls⟩ := ⟨_, rfl⟩
 skip
 refine wl_look (R := ∃ A cc, v1 = .slice A ls.length cc) (fun wx hm => own_slice (hm.ownI 0 rfl)) ?_
 rintro ⟨A, cc, rfl⟩
 refine wl_guard_on rfl rfl rfl (lk_ sc4 0 rfl rfl rfl (pf_ rfl rfl (nn_ (cf_ rfl (gw_skip (nx_then (gw_seq (sr_ ?_))))))))
 refine wl_ov (ov_loads rz45 rfl (fun _ hm => hm.blkI 1 rfl) rfl rfl) rfl ?_
 refine wl_callv (v := .int .i64 HE) rfl cb80 rfl rfl (fun wx hm => (by rw [hHE]; exact hcheck_any k d f t2 ls A ls.length cc wx (SlT.ofOwn lg_len (hm.ownI 0 rfl) rfl) hok (by omega))) ?_
 refine sg_ rfl (nn_ (sr_ (mv_ rfl (wl_ov (ov_neq rfl rfl) rfl (nn_ ?_)))))
 refine gw_cond rfl (fun hh => ?_) (fun hh => ?_)
 ·have h0 : ¬ (HE = 0) := by simpa using hh
  clear hh
  refine sr_ ?_
  have h0 : ¬ HE = 0 := by simpa using h0
  have hR := hr_form hb ho hST.symm (by rw [← hHE]; exact h0)
  refine wl_ov (ov_build (cs := [.string ⟨#[]⟩, .string ⟨#[]⟩, .int .i64 0, .int .i64 0, .slice none 0 0]) rfl (by kernel_rfl)) rfl ?_
  refine mv_ rfl ?_
  refine wl_stores (cs' := [.string ⟨#[]⟩, .string ⟨#[]⟩, .int .i64 0, .int .i64 0, .slice none 0 0]) 2 rz45 rfl rfl rfl rfl rfl rfl rfl rfl ?_
  refine sg_ rfl (sg_ rfl (nn_ ?_))
  refine gw_ret ?_
  refine nx_then_ret ?_
  refine nx_retctt2 2 rfl rz45 rfl rfl rfl rfl rfl fun wx hm => ?_
  rw [hHE]
  exact hrGot.zero hR hm.g
 have h0 : HE = 0 := by simpa using hh
 clear hh
 refine gw_skip (nx_then (sr_ ?_))
 replace h0 : HE = 0 := by simpa using h0
 subst h0
 have hR := hr_right hb ho hST.symm hHE.symm
 refine wl_ov (ov_loads rz45 rfl (fun _ hm => hm.blkI 1 rfl) rfl rfl) rfl ?_
 refine wl_stores (cs' := [.string k, .string d, .int .i64 f, .int .i64 t2, .slice A ls.length cc]) 2 rz45 rfl rfl rfl rfl rfl rfl rfl rfl ?_
 refine sg_ rfl (sg_ rfl (nn_ ?_))
 refine gw_ret ?_
 refine nx_retctt2 2 rfl rz45 rfl rfl rfl rfl rfl fun wx hm => ?_
 exact ⟨k, d, f, t2, A, ls.length, cc, by rw [hR.1, hR.2.1], by rw [hR.2.2], by rw [hR.2.2]; exact SlT.ofOwn lg_len (hm.ownI 0 rfl) rfl, hm.g⟩
theorem hRref_w (t : ByteArray) (w : World) (htx : TxtW w) (hts : t.size ≤ 1000000000) :
  Calls Tryz.prog 27 #[.string t] w (hrGot t w) := by
 refine gw_enter ⟨35, w, none, [9, 3]⟩ Tryz.func27 rfl Tryz.ntmps27 rfl (mem0 (X := [TxtO w.heap.size none]) (allF_cons htx.old allF_nil) (allL_cons TxtO.lasts allL_nil)) ?_
 refine sr_ ?_
 refine wl_alloc zc45 rfl fun g1 => ?_
 refine sg_ rfl (sg_ rfl (nn_ (gw_seq (sr_ (mv_ rfl ?_)))))
 refine wl_ov (ov_lens us9 rfl) rfl ?_
 refine wl_ov (ov_gtr rfl rfl) rfl ?_
 refine nn_ ?_
 refine gw_cond rfl (fun hh => ?_) (fun hh => ?_)
 ·have hb : 200000 < ((t).size : Int) := by simpa using hh
  clear hh
  refine sr_ ?_
  refine wl_ov (ov_build (cs := [.string ⟨#[]⟩, .string ⟨#[]⟩, .int .i64 0, .int .i64 0, .slice none 0 0]) rfl (by kernel_rfl)) rfl ?_
  refine wl_stores (cs' := [.string ⟨#[]⟩, .string ⟨#[]⟩, .int .i64 0, .int .i64 0, .slice none 0 0]) 0 rz45 rfl rfl rfl rfl rfl rfl rfl rfl ?_
  refine sg_ rfl (sg_ rfl (nn_ ?_))
  refine gw_ret ?_
  refine nx_then_ret ?_
  refine nx_retctt2 0 rfl rz45 rfl rfl rfl rfl rfl fun wx hm => ?_
  exact hrGot.zero (hr_big (by omega)) hm.g
 have hb : ¬ (200000 < ((t).size : Int)) := by simpa using hh
 clear hh
 refine gw_skip (nx_then (gw_seq (sr_ ?_)))
 have hb : ¬ 200000 < t.size := by omega
 obtain ⟨hQ, hMs⟩ := hrR_all (t := t) (by omega)
 refine mv_ rfl (wl_ov (ov_seql rfl rfl) rfl (nn_ ?_))
 refine gw_cond rfl (fun hh => ?_) (fun hh => ?_)
 ·have he0 : (t.toList == (⟨#[]⟩ : ByteArray).toList) = true := by simpa using hh
  clear hh
  refine sr_ ?_
  have hr0 := hrR_none (t := t) (by simpa using he0)
  refine wl_ov (ov_build (cs := [.string ⟨#[]⟩, .string ⟨#[]⟩, .int .i64 0, .int .i64 0, .slice none 0 0]) rfl (by kernel_rfl)) rfl ?_
  refine wl_stores (cs' := [.string ⟨#[]⟩, .string ⟨#[]⟩, .int .i64 0, .int .i64 0, .slice none 0 0]) 0 rz45 rfl rfl rfl rfl rfl rfl rfl rfl ?_
  refine sg_ rfl (sg_ rfl (nn_ ?_))
  refine gw_ret ?_
  refine nx_then_ret ?_
  refine nx_retctt2 0 rfl rz45 rfl rfl rfl rfl rfl fun wx hm => ?_
  have hz := hr_none (t := t) hb (by rw [hr0]) (by rw [hr0])
  rw [hr0] at hz
  exact hrGot.zero hz hm.g
 have he0 : (t.toList == (⟨#[]⟩ : ByteArray).toList) = false := by simpa using hh
 clear hh
 refine gw_skip (nx_then (sr_ ?_))
 replace he0 : (t.toList == (⟨#[]⟩ : ByteArray).toList) = false := by simpa using he0
 refine wl_alloc zc45 rfl fun g2 => ?_
 refine nn_ (sr_ ?_)
 refine wl_alloc zc4 rfl fun g3 => ?_
 refine wl_store 0 sc4 rfl rfl rfl rfl rfl rfl ?_
 refine nn_ (sr_ (mv_ rfl (wl_ov (ov_makeFunc rfl rfl) rfl ?_)))
 refine wl_nilOwn 128 9 ?_
 refine wl_callG (γ := Value × Option Hr) (val := fun _ => .tuple #[.int .i64 (hrR t).1, .bool (hrR t).2.1]) (φ := fun z => (hrR t).2.1 = true → z.2 = (hrR t).2.2) (K' := fun _ => (fun _ => True)) (L' := fun z => [(g3, 4, [.bool z.2.isNone]), (g2, 45, [.string (hrk z.2), .string (hrd z.2), .int .i64 (hrf z.2), .int .i64 (hrt z.2), z.1]), (g1, 45, [.string ⟨#[]⟩, .string ⟨#[]⟩, .int .i64 0, .int .i64 0, .slice none 0 0])]) (O' := fun z => [⟨z.1, 128, 9, (hrls z.2).length, (hrls z.2).flatMap lgEnc⟩]) (X' := fun _ => [TxtO w.heap.size none]) rfl cb70 rfl rfl (fun wx hm => (hRl_w t g3 g2 g1 w wx (by omega) (hm.pick [0, 1, 2] [0] [0] rfl rfl).cx).mono fun e w' ⟨v', st', he, h1, hM⟩ => ⟨(v', st'), he, h1, hM.cx⟩) ?_
 rintro ⟨v1, st1⟩ hst1
 dsimp only at hst1 ⊢
 refine mv_ rfl (wl_ov (ov_extract rfl rfl) rfl (wl_ov (ov_extract rfl rfl) rfl (sg_ rfl (sg_ rfl (nn_ (gw_seq (sr_ (mv_ rfl (wl_ov (ov_un_not rfl) rfl (nn_ ?_))))))))))
 rcases Bool.eq_false_or_eq_true (!((hrR t).2.1)) with ho | ho
 ·refine gw_set 25 rfl (congrArg Value.bool ho) ?_
  replace ho : (hrR t).2.1 = false := by simpa using ho
  refine ct_ rfl (sr_ ?_)
  refine wl_ov (ov_build (cs := [.string ⟨#[]⟩, .string ⟨#[]⟩, .int .i64 0, .int .i64 0, .slice none 0 0]) rfl (by kernel_rfl)) rfl ?_
  refine mv_ rfl ?_
  refine wl_stores (cs' := [.string ⟨#[]⟩, .string ⟨#[]⟩, .int .i64 0, .int .i64 0, .slice none 0 0]) 2 rz45 rfl rfl rfl rfl rfl rfl rfl rfl ?_
  refine sg_ rfl (sg_ rfl (nn_ ?_))
  refine gw_ret ?_
  refine nx_then_ret ?_
  refine nx_retctt2 2 rfl rz45 rfl rfl rfl rfl rfl fun wx hm => ?_
  exact hrGot.zero (hr_syn hb ho) hm.g
 refine gw_set 25 rfl (congrArg Value.bool ho) ?_
 replace ho : (hrR t).2.1 = true := by simpa using ho
 obtain rfl := hst1 ho
 obtain ⟨ST, hST⟩ : ∃ z, z = (hrR t).2.2 := ⟨_, rfl⟩
 rw [← hST] at hQ hMs ⊢
 by_cases hsn : ST = none
 ·subst hsn
  obtain ⟨x, hx⟩ := hrR_some he0 ho
  rw [hx] at hST
  cases hST
 obtain ⟨h, rfl⟩ := Option.ne_none_iff_exists'.1 hsn
 obtain ⟨k, d, f, t2, ls⟩ := h
 have hok : HrOk k d ls := hQ _ rfl
 have hms : ls.length ≤ t.size := hMs
 obtain ⟨HE, hHE⟩ : ∃ z, z = hireE ⟨k, d, f, t2, ls⟩ := ⟨_, rfl⟩
 skip
 refine gw_look (R := ∃ A cc, v1 = .slice A ls.length cc) (fun wx hm => own_slice (hm.ownI 0 rfl)) ?_
 rintro ⟨A, cc, rfl⟩
 refine cf_ rfl (gw_skip (nx_then (sr_ ?_)))
 refine wl_ov (ov_loads rz45 rfl (fun _ hm => hm.blkI 1 rfl) rfl rfl) rfl ?_
 by_cases h0 : HE = 0
 ·subst h0
  refine wl_callv (v := .tuple #[.agg #[.string k, .string d, .int .i64 f, .int .i64 t2, .slice A ls.length cc], .int .i64 0]) rfl cb95 rfl rfl (fun wx hm => (by have h := rmade_any k d f t2 ls A ls.length cc wx (SlT.ofOwn lg_len (hm.ownI 0 rfl) rfl) hok (by omega); rw [← hHE] at h; exact h)) ?_
  have hR := hr_right hb ho hST.symm hHE.symm
  refine mv_ rfl (wl_ov (ov_extract rfl rfl) rfl (wl_ov (ov_extract rfl rfl) rfl ?_))
  refine wl_alloc zc45 rfl fun g4 => ?_
  refine wl_stores (cs' := [.string k, .string d, .int .i64 f, .int .i64 t2, .slice A ls.length cc]) 0 rz45 rfl rfl rfl rfl rfl rfl rfl rfl ?_
  refine sg_ rfl (nn_ (sr_ ?_))
  refine wl_ov (ov_loads rz45 rfl (fun _ hm => hm.blkI 0 rfl) rfl rfl) rfl ?_
  refine mv_ rfl ?_
  refine wl_stores (cs' := [.string k, .string d, .int .i64 f, .int .i64 t2, .slice A ls.length cc]) 3 rz45 rfl rfl rfl rfl rfl rfl rfl rfl ?_
  refine sg_ rfl (sg_ rfl (nn_ ?_))
  refine gw_ret ?_
  refine nx_retctt2 3 rfl rz45 rfl rfl rfl rfl rfl fun wx hm => ?_
  exact ⟨k, d, f, t2, A, ls.length, cc, by rw [hR.1, hR.2.1], by rw [hR.2.2], by rw [hR.2.2]; exact SlT.ofOwn lg_len (hm.ownI 0 rfl) rfl, hm.g⟩
 refine wl_callv (v := .tuple #[.agg #[.string ⟨#[]⟩, .string ⟨#[]⟩, .int .i64 0, .int .i64 0, .slice none 0 0], .int .i64 HE]) rfl cb95 rfl rfl (fun wx hm => (by have h := rmade_any k d f t2 ls A ls.length cc wx (SlT.ofOwn lg_len (hm.ownI 0 rfl) rfl) hok (by omega); rw [← hHE] at h; unfold madeV at h; rw [if_neg h0] at h; exact h)) ?_
 have hR := hr_form hb ho hST.symm (by rw [← hHE]; exact h0)
 refine mv_ rfl (wl_ov (ov_extract rfl rfl) rfl (wl_ov (ov_extract rfl rfl) rfl ?_))
 refine wl_alloc zc45 rfl fun g5 => ?_
 refine wl_stores (cs' := [.string ⟨#[]⟩, .string ⟨#[]⟩, .int .i64 0, .int .i64 0, .slice none 0 0]) 0 rz45 rfl rfl rfl rfl rfl rfl rfl rfl ?_
 refine sg_ rfl (nn_ (sr_ ?_))
 refine wl_ov (ov_loads rz45 rfl (fun _ hm => hm.blkI 0 rfl) rfl rfl) rfl ?_
 refine mv_ rfl ?_
 refine wl_stores (cs' := [.string ⟨#[]⟩, .string ⟨#[]⟩, .int .i64 0, .int .i64 0, .slice none 0 0]) 3 rz45 rfl rfl rfl rfl rfl rfl rfl rfl ?_
 refine sg_ rfl (sg_ rfl (nn_ ?_))
 refine gw_ret ?_
 refine nx_retctt2 3 rfl rz45 rfl rfl rfl rfl rfl fun wx hm => ?_
 rw [hHE]
 exact hrGot.zero hR hm.g
end Go.Proofs.YtnpcbfllnkiopaaGreatDoor
namespace Go.Proofs.YtnpcbfllnkiopaaGreatDoor
open Go.RowKit Go.Shelf
theorem tys_ne {L : List (Nat × TypeId × List Value)} {e : TypeId} (h : (L.all fun x => x.2.1 != e) = true) : ∀ x ∈ L, x.2.1 ≠ e := fun x hx he => by
  have h2 := List.all_eq_true.1 h x hx
  rw [he] at h2
  simp at h2
theorem own_cells {w : World} {base n sz : Nat} {e : TypeId} {v : Value} {xs : List Value} (h : w.ownsRow base e sz v n xs) {g : Nat} (hg : v.ownBlock = some g) : ∃ c fz, w.heap[g]? = some (.cells c e fz) := by
  rcases h.2 with ⟨rfl, _⟩ | ⟨g', cap, cur, rfl, _, hh, _⟩
  · cases hg
  · obtain rfl : g' = g := by
      have h2 : (Value.slice (some ⟨g', 0, none⟩) n cap).ownBlock = some g' := rfl
      rw [h2] at hg
      exact Option.some.inj hg
    exact ⟨_, _, hh⟩
section
variable {c : Cx} {K : World → Prop} {L : List (Nat × TypeId × List Value)} {O : List Own} {X X' : List (World → Prop)} {w w' : World} {T e : TypeId} {b : Nat} {p : Value} {bs cs0 : List Value}
/-- What is known behind a write: the builder's block and its row; the other blocks are as they were. -/
theorem Mem.builtK (hm : Mem c K L O X w) (i : Nat) (hi : L[i]? = some (b, T, cs0)) (hT : ∀ x ∈ L, x.2.1 ≠ e) (h : Lib.BuilderAt T e c.w0.heap.size b p bs w') (hb : Below c.w0.heap.size w w') (hk : Lib.OthersKept e (some b) w w') (hX : ∀ A ∈ X', OldF c.w0.heap.size A ∧ A ∈ X) :
    ∃ v, Mem c (fun _ => True) (L.set i (b, T, [p, v])) [⟨v, e, 1, bs.length, bs⟩] X' w' := by
  obtain ⟨hN, v, hh, ho, hne⟩ := h
  have hil := (List.getElem?_eq_some_iff.1 hi).1
  have hiv := (List.getElem?_eq_some_iff.1 hi).2
  have hin : ∀ x ∈ L.set i (b, T, [p, v]), x = (b, T, [p, v]) ∨ (x ∈ L ∧ x.1 ≠ b) := fun x hx => by
    obtain ⟨j, hj⟩ := List.getElem?_of_mem hx
    rw [List.getElem?_set] at hj
    by_cases hij : i = j
    · rw [if_pos hij, if_pos hil] at hj
      exact .inl (Option.some.inj hj).symm
    · rw [if_neg hij] at hj
      have hjl := (List.getElem?_eq_some_iff.1 hj).1
      have hjv := (List.getElem?_eq_some_iff.1 hj).2
      refine .inr ⟨List.mem_of_getElem? hj, fun he => ?_⟩
      have hp := List.pairwise_iff_getElem.1 hm.nd
      rcases Nat.lt_or_gt_of_ne hij with h1 | h1
      · exact hp i j hil hjl h1 (by rw [hiv, hjv]; exact he.symm)
      · exact hp j i hjl hil h1 (by rw [hiv, hjv]; exact he)
  have hblk : ∀ x ∈ L.set i (b, T, [p, v]), c.w0.heap.size ≤ x.1 ∧ Blk w' x.1 x.2.1 x.2.2 := fun x hx => by
    rcases hin x hx with rfl | ⟨hxL, hxb⟩
    · exact ⟨hN, hh⟩
    · have h1 := hm.b x hxL
      refine ⟨h1.1, ?_⟩
      have h2 : w.heap[x.1]? = some (.cells x.2.2.toArray x.2.1 (0, 0)) := h1.2
      exact hk x.1 _ h2 (fun e2 => hxb (Option.some.inj e2)) (fun c2 fz h3 => hT x hxL (by injection h3))
  have hty : ∀ x ∈ L.set i (b, T, [p, v]), x.2.1 ≠ e := fun x hx => by
    rcases hin x hx with rfl | ⟨hxL, _⟩
    · exact show T ≠ e from hT (b, T, cs0) (List.mem_of_getElem? hi)
    · exact hT x hxL
  refine ⟨v, hm.gB hb, trivial, hblk, ?_, fun r hr => ?_, fun r hr x hx e2 => ?_, List.pairwise_singleton _ _, fun A hA => (hX A hA).1 _ _ hb (hm.x A (hX A hA).2), Keeps.true_, fun A hA => hm.l A (hX A hA).2, hm.rs⟩
  · have h1 : (L.map (·.1)).Pairwise (fun a b => a ≠ b) := List.pairwise_map.2 hm.nd
    have h2 : (L.set i (b, T, [p, v])).map (·.1) = L.map (·.1) := by
      rw [List.map_set]
      apply List.ext_getElem?
      intro j
      rw [List.getElem?_set, List.length_map]
      by_cases hij : i = j
      · subst hij
        rw [if_pos rfl, if_pos hil, List.getElem?_map, hi]; rfl
      · rw [if_neg hij]
    rw [← h2] at h1
    exact List.pairwise_map.1 h1
  · rw [List.mem_singleton.1 hr]; exact ho
  · rw [List.mem_singleton.1 hr] at e2
    obtain ⟨c2, fz, h3⟩ := own_cells ho e2
    have h4 : w'.heap[x.1]? = some (.cells x.2.2.toArray x.2.1 (0, 0)) := (hblk x hx).2
    rw [h4] at h3
    refine hty x hx ?_
    have h5 := Option.some.inj h3
    injection h5
end
theorem Tryz.lays240x : Lays.n240 Tryz.prog Tryz.lays156_ren := { Tryz.lays166x with }
theorem copyCheckK (B b : Nat) (bs : List Value) (w : World) (h : Lib.IsBuilder 101 5 B b bs w) :
    Calls Tryz.prog 161 #[.pointer (some ⟨b, 0, none⟩)] w (fun e w' => e = .returned (.tuple #[]) ∧ Lib.BuilderAt 101 5 B b (.pointer (some ⟨b, 0, none⟩)) bs w' ∧ Below B w w' ∧ Lib.OthersKept 5 (some b) w w') := by
  rcases h with h | h
  · refine (Any.Builder_copyCheck_fresh Tryz.lays240x Tryz.Builder_Extra_156.toX72 b w h.cell0 h.shape h.frozen0).mono ?_
    rintro e w' ⟨rfl, rfl⟩
    exact ⟨rfl, h.used _, (Below.refl B w).setCell (p := ⟨b, 0, none⟩) h.1 _, (Lib.OthersKept.refl _ _ w).setCell ⟨b, 0, none⟩ rfl _⟩
  · refine (Any.Builder_copyCheck_used Tryz.lays240x Tryz.Builder_Extra_156.toX72 b w h.cell0).mono ?_
    rintro e w' ⟨rfl, rfl⟩
    exact ⟨rfl, h, Below.refl B _, Lib.OthersKept.refl _ _ _⟩
set_option maxHeartbeats 2000000 in
set_option maxRecDepth 100000 in
theorem writeStringK (B b : Nat) (bs : List Value) (s : ByteArray) (w : World) (h : Lib.IsBuilder 101 5 B b bs w) (hlen : bs.length + s.size ≤ 140737488355328) (hB : B ≤ w.heap.size) :
    Calls Tryz.prog 60 #[.pointer (some ⟨b, 0, none⟩), .string s] w (fun e w' => e = .returned (.tuple #[.int .i64 s.size, .nilIface]) ∧ Lib.BuilderAt 101 5 B b (.pointer (some ⟨b, 0, none⟩)) (bs ++ Lib.strCells s) w' ∧ Below B w w' ∧ Lib.OthersKept 5 (some b) w w') := by
  obtain ⟨i0, hi, hx0⟩ := Option.map_eq_some_iff.1 (Tryz.Builder_Extra_156).infoByte
  simp only [Prod.mk.injEq] at hx0
  obtain ⟨hz0, hz1, hz2⟩ := hx0
  have hcc := copyCheckK B b bs w h
  go_enter Tryz.func60, Tryz.ntmps60
  go_wp2_with fail
  refine hcc.mono ?_
  rintro e w1 ⟨rfl, h1, hb1, hk1⟩
  obtain ⟨hBb, v, hbk, hown, hne⟩ := h1
  have c0 : w1.cell? ⟨b, 0, none⟩ = some (.pointer (some ⟨b, 0, none⟩)) := by rw [Lib.cell_of_heap hbk]; rfl
  have c1 : w1.cell? ⟨b, 1, none⟩ = some v := by rw [Lib.cell_of_heap hbk]; rfl
  go_wp2_with (at_builtin; refine Lib.wpList_append_own_string _ rfl _ _ 99 9 rfl B 5 i0 Tryz.underlying99 Tryz.underlying9 hi hz0 hz1 hz2 _ _ _ rfl hown s rfl (by unfold maxLen; omega) (by omega) (by have := hb1.size; omega) ?_)
  intro v' w2 hown' hgrow _
  have hlt : b < w1.heap.size := (Array.getElem?_eq_some_iff.1 hbk).1
  have hb2 : w2.heap[b]? = some (.cells #[.pointer (some ⟨b, 0, none⟩), v] 101 (0, 0)) := by
    rw [hgrow.block b hlt (fun e => hne e.symm)]
    exact hbk
  have d0 : w2.cell? ⟨b, 0, none⟩ = some (.pointer (some ⟨b, 0, none⟩)) := by rw [Lib.cell_of_heap hb2]; rfl
  have d1 : w2.cell? ⟨b, 1, none⟩ = some v := by rw [Lib.cell_of_heap hb2]; rfl
  have f1 : w2.frozen? ⟨b, 1, none⟩ = false := Lib.frozen_of_heap hb2 1
  obtain ⟨ao, n', cap, rfl⟩ : ∃ ao n' cap, v' = .slice ao n' cap := by
    rcases hown'.2 with ⟨hv, _⟩ | ⟨g, cap, cur, hv, _⟩
    · exact ⟨_, _, _, hv⟩
    · exact ⟨_, _, _, hv⟩
  go_wp2_with fail
  go_ret2
  refine ⟨rfl, ?_, ?_, ?_⟩
  · exact Lib.BuilderAt.put (T := 101) (e := 5) hBb hb2 (bs' := bs ++ Lib.strCells s) (by simpa [Lib.strCells_length] using hown') (Tryz.Builder_Extra_156).neB5
  · exact (hb1.grown hgrow (by have := hb1.size; omega) (fun k hk => (hown.lt k hk).1)).setCell (p := ⟨b, 1, none⟩) hBb _
  · exact (hk1.grown hgrow (fun g hg => own_cells hown hg)).setCell ⟨b, 1, none⟩ rfl _
end Go.Proofs.YtnpcbfllnkiopaaGreatDoor
namespace Go.Proofs.YtnpcbfllnkiopaaGreatDoor
open Go.RowKit
theorem readingLine_any (a : Int) (b : ByteArray) (c d : Int) (w : World) (ht : TxtW w) (hB : RdB ⟨a, b, c, d⟩) :
  Calls Tryz.prog 90 #[.agg #[.int .i64 a, .string b, .int .i64 c, .int .i64 d]] w (fun e w' => e = .returned (.string ((⟨#[32]⟩ : ByteArray) ++ hirRdJ ⟨a, b, c, d⟩)) ∧ w.grownBy w' none) := by
 refine gw_enter ⟨25, w, none, []⟩ Tryz.func90 rfl Tryz.ntmps90 rfl (mem0 (X := [TxtO w.heap.size none]) (allF_cons ht.old allF_nil) (allL_cons TxtO.lasts allL_nil)) ?_
 refine sr_ ?_
 obtain ⟨i1, i2, i3⟩ := rd_i64 hB
 dsimp only at i1 i2 i3
 have s0 : b.size ≤ 100 := hB.1
 have e1 := itoa_sz i1
 have e2 := itoa_sz i2
 have e3 := itoa_sz i3
 have h10 : (⟨#[10]⟩ : ByteArray).size = 1 := rfl
 have h32 : (⟨#[32]⟩ : ByteArray).size = 1 := rfl
 refine wl_box rfl rfl rfl fun g1 => ?_
 refine sg_ rfl (nn_ (sr_ (sg_ rfl (nn_ (gw_seq ?_)))))
 refine gd (fun wz => Blk wz g1 126 [.int .i64 a, .string b, .int .i64 c, .int .i64 d] ∧ (TxtO w.heap.size none) wz ∧ True) mixed (fun _ hm => ⟨hm.bl 0, hm.fa 0, trivial⟩) fun z => ?_
 refine wt 0 22 1 rfl z (ov_move rfl) ?_
 refine wt 1 22 3 rfl z (ov_field fo126_0 rfl rfl) ?_
 refine wt 2 22 7 rfl z (ov_load sc3 rfl (fun _ hm => hm.1) rfl) ?_
 refine wt 6 22 71 rfl z (ov_field fo126_1 rfl rfl) ?_
 refine wt 7 22 199 rfl z (ov_load sc9 rfl (fun _ hm => hm.1) rfl) ?_
 refine wt 10 22 1223 rfl z (ov_move rfl) ?_
 refine wt 11 22 3271 rfl z (ov_field fo126_2 rfl rfl) ?_
 refine wt 12 22 7367 rfl z (ov_load sc3 rfl (fun _ hm => hm.1) rfl) ?_
 refine wt 16 22 72903 rfl z (ov_move rfl) ?_
 refine wt 17 22 203975 rfl z (ov_field fo126_3 rfl rfl) ?_
 refine wt 18 22 466119 rfl z (ov_load sc3 rfl (fun _ hm => hm.1) rfl) ?_
 refine wa1 3 rfl ?_
 refine wl_callv rfl cb89 rfl rfl (fun wx hm => (itoa_any a wx (hm.fact 0 rfl).1 i1.1 i1.2)) ?_
 refine wl_nil ?_
 refine nw 22 466127 (fun _ hm => ⟨hm.bl 0, hm.fa 0, trivial⟩) fun z => ?_
 refine wt 4 22 466143 rfl z (ov_sadd rfl rfl (by (try simp only [ByteArray.size_append]); omega)) ?_
 refine wt 5 22 466175 rfl z (ov_sadd rfl rfl (by (try simp only [ByteArray.size_append]); omega)) ?_
 refine wt 8 22 466431 rfl z (ov_sadd rfl rfl (by (try simp only [ByteArray.size_append]); omega)) ?_
 refine wt 9 22 466943 rfl z (ov_sadd rfl rfl (by (try simp only [ByteArray.size_append]); omega)) ?_
 refine wa1 13 rfl ?_
 refine wl_callv rfl cb89 rfl rfl (fun wx hm => (itoa_any c wx (hm.fact 0 rfl).1 i2.1 i2.2)) ?_
 refine wl_nil ?_
 refine nw 22 475135 (fun _ hm => ⟨hm.bl 0, hm.fa 0, trivial⟩) fun z => ?_
 refine wt 14 22 491519 rfl z (ov_sadd rfl rfl (by (try simp only [ByteArray.size_append]); omega)) ?_
 refine wt 15 22 524287 rfl z (ov_sadd rfl rfl (by (try simp only [ByteArray.size_append]); omega)) ?_
 refine wa1 19 rfl ?_
 refine wl_callv rfl cb89 rfl rfl (fun wx hm => (itoa_any d wx (hm.fact 0 rfl).1 i3.1 i3.2)) ?_
 refine wl_nil ?_
 refine nw 22 1048575 (fun _ hm => ⟨hm.bl 0, hm.fa 0, trivial⟩) fun z => ?_
 refine wt 20 22 2097151 rfl z (ov_sadd rfl rfl (by (try simp only [ByteArray.size_append]); omega)) ?_
 refine wt 21 22 4194303 rfl z (ov_assign rfl) ?_
 refine wa_done (by kernel_rfl) ?_
 refine nx_then ?_
 refine gw_ret ?_
 refine nx_ret1 rfl rfl fun wx hm => ?_
 exact ⟨by rw [hirRd_eq], hm.g⟩
theorem hirLines_any (k d : ByteArray) (f t2 : Int) (ls : List Lg) (A : Option Addr) (n c : Nat) (w : World) (ht : TxtW w) (hl : SlT lgEnc 9 128 w A n ls) (hB : HrB (⟨k, d, f, t2, ls⟩ : Hr)) :
  Calls Tryz.prog 23 #[.agg #[.string k, .string d, .int .i64 f, .int .i64 t2, .slice A n c]] w (fun e w' => e = .returned (.string (hirTx (⟨k, d, f, t2, ls⟩ : Hr) ls)) ∧ w.grownBy w' none) := by
 refine gw_enter ⟨55, w, none, []⟩ Tryz.func23 rfl Tryz.ntmps23 rfl (mem0 (X := [SlOld lgEnc 9 128 w.heap.size none A n ls, TxtO w.heap.size none]) (allF_cons hl.old (allF_cons ht.old allF_nil)) (allL_cons SlOld.lasts (allL_cons TxtO.lasts allL_nil))) ?_
 refine sr_ ?_
 have hlen := hl.len
 have hB2 := hB
 obtain ⟨s1, s2, f1, f2, hg, hln⟩ := hB2
 dsimp only at s1 s2 f1 f2 hg hln
 have h10 : (⟨#[10]⟩ : ByteArray).size = 1 := rfl
 have h32 : (⟨#[32]⟩ : ByteArray).size = 1 := rfl
 have i1 : -9223372036854775808 ≤ f ∧ f ≤ 9223372036854775807 := by omega
 have i2 : -9223372036854775808 ≤ t2 ∧ t2 ≤ 9223372036854775807 := by omega
 have e1 := itoa_sz i1
 have e2 := itoa_sz i2
 have hh5 : (⟨#[104, 105, 114, 101, 32]⟩ : ByteArray).size = 5 := rfl
 refine wl_box rfl rfl rfl fun g1 => ?_
 refine sg_ rfl (nn_ (gw_seq ?_))
 refine gd (fun wz => Blk wz g1 45 [.string k, .string d, .int .i64 f, .int .i64 t2, .slice A n c] ∧ (SlOld lgEnc 9 128 w.heap.size none A n ls) wz ∧ (TxtO w.heap.size none) wz ∧ True) mixed (fun _ hm => ⟨hm.bl 0, hm.fa 0, hm.fa 1, trivial⟩) fun z => ?_
 refine wt 0 21 1 rfl z (ov_field fo45_0 rfl rfl) ?_
 refine wt 1 21 3 rfl z (ov_load sc9 rfl (fun _ hm => hm.1) rfl) ?_
 refine wt 2 21 7 rfl z (ov_sadd rfl rfl (by (try simp only [ByteArray.size_append]); omega)) ?_
 refine wt 3 21 15 rfl z (ov_sadd rfl rfl (by (try simp only [ByteArray.size_append]); omega)) ?_
 refine wt 4 21 31 rfl z (ov_field fo45_1 rfl rfl) ?_
 refine wt 5 21 63 rfl z (ov_load sc9 rfl (fun _ hm => hm.1) rfl) ?_
 refine wt 6 21 127 rfl z (ov_sadd rfl rfl (by (try simp only [ByteArray.size_append]); omega)) ?_
 refine wt 7 21 255 rfl z (ov_sadd rfl rfl (by (try simp only [ByteArray.size_append]); omega)) ?_
 refine wt 8 21 511 rfl z (ov_field fo45_2 rfl rfl) ?_
 refine wt 9 21 1023 rfl z (ov_field fo42_0 rfl rfl) ?_
 refine wt 10 21 2047 rfl z (ov_load sc3 rfl (fun _ hm => hm.1) rfl) ?_
 refine wt 14 21 18431 rfl z (ov_field fo45_2 rfl rfl) ?_
 refine wt 15 21 51199 rfl z (ov_field fo42_1 rfl rfl) ?_
 refine wt 16 21 116735 rfl z (ov_load sc3 rfl (fun _ hm => hm.1) rfl) ?_
 refine wa1 11 rfl ?_
 refine wl_callv rfl cb89 rfl rfl (fun wx hm => (itoa_any f wx (hm.fact 1 rfl).1 i1.1 i1.2)) ?_
 refine wl_nil ?_
 refine nw 21 118783 (fun _ hm => ⟨hm.bl 0, hm.fa 0, hm.fa 1, trivial⟩) fun z => ?_
 refine wt 12 21 122879 rfl z (ov_sadd rfl rfl (by (try simp only [ByteArray.size_append]); omega)) ?_
 refine wt 13 21 131071 rfl z (ov_sadd rfl rfl (by (try simp only [ByteArray.size_append]); omega)) ?_
 refine wa1 17 rfl ?_
 refine wl_callv rfl cb89 rfl rfl (fun wx hm => (itoa_any t2 wx (hm.fact 1 rfl).1 i2.1 i2.2)) ?_
 refine wl_nil ?_
 refine nw 21 262143 (fun _ hm => ⟨hm.bl 0, hm.fa 0, hm.fa 1, trivial⟩) fun z => ?_
 refine wt 18 21 524287 rfl z (ov_sadd rfl rfl (by (try simp only [ByteArray.size_append]); omega)) ?_
 refine wt 19 21 1048575 rfl z (ov_sadd rfl rfl (by (try simp only [ByteArray.size_append]); omega)) ?_
 refine wt 20 21 2097151 rfl z (ov_assign rfl) ?_
 refine wa_done (by kernel_rfl) ?_
 refine nx_then (gw_seq (sr_ (fd_ fo45_3 rfl rfl (lk_ sc43 0 rfl rfl rfl (wl_ov (ov_len es43 rfl) rfl (mv_ rfl (nn_ (gw_block ?_))))))))
 refine gw_loop (γ := Nat) (fun (i : Nat) => i ≤ n) (fun (i : Nat) => [(2, .string ⟨#[]⟩), (3, .string (hirTx (⟨k, d, f, t2, ls⟩ : Hr) (ls.take i))), (27, .slice A n c), (28, .int .i64 ((n : Nat) : Int)), (29, .int .i64 ((i : Nat) : Int))]) (fun (i : Nat) => fun _ => True) (fun (i : Nat) => [(g1, 45, [.string k, .string d, .int .i64 f, .int .i64 t2, .slice A n c])]) (fun (i : Nat) => []) (fun (i : Nat) => [SlOld lgEnc 9 128 w.heap.size none A n ls, TxtO w.heap.size none]) (fun (i : Nat) => n - i) 0 (Nat.zero_le _) ⟨rfl, (congrArg (fun z => some (Value.string z)) (by rw [hirHd_eq k d f t2 ls]; exact (hirTx_nil _).symm)), rfl, rfl, rfl, trivial⟩ (fun _ hm => hm.pick [0] [] [0, 1] rfl rfl) ?_
 intro i hinv
 replace hinv : i ≤ n := hinv
 refine sr_ ?_
 have hi0 := hinv
 refine wl_ov (ov_lss rfl rfl) rfl (nn_ (gw_seq ?_))
 refine gw_cond rfl (fun hh => ?_) (fun hh => ?_)
 ·have hi : ((i : Nat) : Int) < ((n : Nat) : Int) := by simpa using hh
  clear hh
  refine gw_skip (nx_then (gw_seq (gw_block (sr_ ?_))))
  obtain ⟨b, off, hA, _, _⟩ := hl.get (by omega)
  subst hA
  obtain ⟨x, hx⟩ : ∃ x, ls[i]? = some x := ⟨_, List.getElem?_eq_getElem (by omega)⟩
  obtain ⟨xv, ⟨oa, os, om, of_⟩, ⟨ia, is_, im, if_⟩⟩ := x
  have hgB := hg _ (List.mem_of_getElem? hx)
  have hJ := hirLegJ_sz hgB
  have hI := hirRdJ_sz hgB.2.2
  have hO := hirRdJ_sz hgB.2.1
  dsimp only at hI hO
  have hts := hirTx_sz (l := ls.take i) hB (leg_take hg i)
  have htl : (ls.take i).length ≤ 20 := by rw [List.length_take]; omega
  have hv := hgB.1
  dsimp only at hv
  have hat := hirTx_at (h := (⟨k, d, f, t2, ls⟩ : Hr)) hx
  have hh4 : (⟨#[108, 101, 103, 32]⟩ : ByteArray).size = 4 := rfl
  refine wl_ov (ov_index (j := i) es43 rfl rfl (by omega)) rfl ?_
  refine wl_ov (ov_elem (vs := [.string xv, .int .i64 oa, .string os, .int .i64 om, .int .i64 of_, .int .i64 ia, .string is_, .int .i64 im, .int .i64 if_]) rz128 rfl (fun _ hm => (hm.fact 0 rfl).1) hx rfl rfl) rfl ?_
  refine wl_alloc zc128 rfl fun g2 => ?_
  refine wl_stores (cs' := [.string xv, .int .i64 oa, .string os, .int .i64 om, .int .i64 of_, .int .i64 ia, .string is_, .int .i64 im, .int .i64 if_]) 0 rz128 rfl rfl rfl rfl rfl rfl rfl rfl ?_
  refine nn_ (gw_seq ?_)
  refine gd (fun wz => Blk wz g2 128 [.string xv, .int .i64 oa, .string os, .int .i64 om, .int .i64 of_, .int .i64 ia, .string is_, .int .i64 im, .int .i64 if_] ∧ Blk wz g1 45 [.string k, .string d, .int .i64 f, .int .i64 t2, .slice (some ⟨b, off, none⟩) n c] ∧ (SlOld lgEnc 9 128 w.heap.size none (some ⟨b, off, none⟩) n ls) wz ∧ (TxtO w.heap.size none) wz ∧ True) mixed (fun _ hm => ⟨hm.bl 0, hm.bl 1, hm.fa 0, hm.fa 1, trivial⟩) fun z => ?_
  refine wt 0 10 1 rfl z (ov_move rfl) ?_
  refine wt 1 10 3 rfl z (ov_field fo128_0 rfl rfl) ?_
  refine wt 2 10 7 rfl z (ov_load sc9 rfl (fun _ hm => hm.1) rfl) ?_
  refine wt 3 10 15 rfl z (ov_sadd rfl rfl (by (try simp only [ByteArray.size_append]); omega)) ?_
  refine wt 4 10 31 rfl z (ov_field fo128_1 rfl rfl) ?_
  refine wt 5 10 63 rfl z (ov_loads rz126 rfl (fun _ hm => hm.1) rfl rfl) ?_
  refine wa1 6 rfl ?_
  refine wl_callv rfl cb90 rfl rfl (fun wx hm => (readingLine_any oa os om of_ wx (hm.fact 1 rfl).1 hgB.2.1)) ?_
  refine wl_nil ?_
  refine nw 10 127 (fun _ hm => ⟨hm.bl 0, hm.bl 1, hm.fa 0, hm.fa 1, trivial⟩) fun z => ?_
  refine wt 7 10 255 rfl z (ov_sadd rfl rfl (by (try simp only [ByteArray.size_append]); omega)) ?_
  refine wt 8 10 511 rfl z (ov_sadd rfl rfl (by (try simp only [ByteArray.size_append]); omega)) ?_
  refine wt 9 10 1023 rfl z (ov_assign rfl) ?_
  refine wa_done (by kernel_rfl) ?_
  refine nx_then (gw_seq (sr_ (fd_ fo128_2 rfl rfl (fd_ fo126_0 rfl rfl (lk_ sc3 0 rfl rfl rfl (wl_ov (ov_neq rfl rfl) rfl (nn_ ?_)))))))
  refine gw_cond rfl (fun hh => ?_) (fun hh => ?_)
  ·have h6 : ¬ (ia = -1) := by simpa using hh
   clear hh
   refine gw_region (mv_ rfl (fd_ fo128_2 rfl rfl ?_))
   refine wl_ov (ov_loads rz126 rfl (fun _ hm => hm.blkI 0 rfl) rfl rfl) rfl ?_
   refine wl_callv rfl cb90 rfl rfl (fun wx hm => (readingLine_any ia is_ im if_ wx (hm.fact 1 rfl).1 hgB.2.2)) ?_
   refine wl_ov (ov_sadd rfl rfl (by (try simp only [ByteArray.size_append]); omega)) rfl ?_
   refine sg_ rfl (nn_ (gw_region (mv_ rfl ?_)))
   refine wl_ov (ov_sadd rfl rfl (by (try simp only [ByteArray.size_append]); omega)) rfl ?_
   refine sg_ rfl (wl_nil (nx_blk_nrm (nx_then (gw_region (ad_ rfl rfl (mv_ rfl (wl_nil ?_)))))))
   exact nx_round (i + 1) (by omega) (by omega) ⟨rfl, (congrArg (fun z => some (Value.string z)) (by rw [hat, hirLeg_in (g := (⟨xv, ⟨oa, os, om, of_⟩, ⟨ia, is_, im, if_⟩⟩ : Lg)) h6, ← hirLegJ_eq xv os oa om of_ ⟨ia, is_, im, if_⟩]; simp only [hb_assoc])), rfl, rfl, (some_int (by omega)), trivial⟩ (fun _ hm => hm.pick [1] [] [0, 1] rfl rfl)
  have h6 : ia = -1 := by simpa using hh
  clear hh
  refine gw_skip (nx_then (gw_region (mv_ rfl ?_)))
  refine wl_ov (ov_sadd rfl rfl (by (try simp only [ByteArray.size_append]); omega)) rfl ?_
  refine sg_ rfl (wl_nil (nx_blk_nrm (nx_then (gw_region (ad_ rfl rfl (mv_ rfl (wl_nil ?_)))))))
  exact nx_round (i + 1) (by omega) (by omega) ⟨rfl, (congrArg (fun z => some (Value.string z)) (by rw [hat, hirLeg_no (g := (⟨xv, ⟨oa, os, om, of_⟩, ⟨ia, is_, im, if_⟩⟩ : Lg)) h6, ← hirLegJ_eq xv os oa om of_ ⟨ia, is_, im, if_⟩]; simp only [hb_assoc])), rfl, rfl, (some_int (by omega)), trivial⟩ (fun _ hm => hm.pick [1] [] [0, 1] rfl rfl)
 have hi : ¬ (((i : Nat) : Int) < ((n : Nat) : Int)) := by simpa using hh
 clear hh
 refine gw_exit ?_
 refine nx_then_exit (nx_then_exit ?_)
 refine nx_blk_here ?_
 refine nx_then (sr_ ?_)
 have hlt : ls.take i = ls := List.take_of_length_le (by omega)
 rw [hlt]
 refine mv_ rfl (sg_ rfl (nn_ ?_))
 refine gw_ret ?_
 refine nx_ret1 rfl rfl fun wx hm => ?_
 exact ⟨rfl, hm.g⟩
theorem hirText_bad (k d : ByteArray) (f t2 : Int) (ls : List Lg) (A : Option Addr) (n c : Nat) (w : World) (ht : TxtW w) (hl : SlT lgEnc 9 128 w A n ls) (hok : HrOk k d ls) (hn : n ≤ 1000) (h0 : hireE (⟨k, d, f, t2, ls⟩ : Hr) ≠ 0) :
  Calls Tryz.prog 19 #[.agg #[.string k, .string d, .int .i64 f, .int .i64 t2, .slice A n c]] w (fun e w' => e = .returned (.tuple #[.string ⟨#[]⟩, .int .i64 (hireE (⟨k, d, f, t2, ls⟩ : Hr))]) ∧ w.grownBy w' none) := by
 refine gw_enter ⟨89, w, none, []⟩ Tryz.func19 rfl Tryz.ntmps19 rfl (mem0 (X := [SlOld lgEnc 9 128 w.heap.size none A n ls, TxtO w.heap.size none]) (allF_cons hl.old (allF_cons ht.old allF_nil)) (allL_cons SlOld.lasts (allL_cons TxtO.lasts allL_nil))) ?_
 refine sr_ ?_
 obtain ⟨HE, hHE⟩ : ∃ z, z = hireE (⟨k, d, f, t2, ls⟩ : Hr) := ⟨_, rfl⟩
 rw [← hHE] at h0 ⊢
 refine wl_box rfl rfl rfl fun g1 => ?_
 refine sg_ rfl (sg_ rfl (nn_ (gw_seq (sr_ ?_))))
 refine wl_ov (ov_loads rz45 rfl (fun _ hm => hm.blkI 0 rfl) rfl rfl) rfl ?_
 refine wl_callv (v := .int .i64 HE) rfl cb80 rfl rfl (fun wx hm => (by rw [hHE]; exact hcheck_any k d f t2 ls A n c wx (hm.fact 0 rfl).1 hok (by omega))) ?_
 refine sg_ rfl (nn_ (sr_ (mv_ rfl (wl_ov (ov_neq rfl rfl) rfl (nn_ ?_)))))
 refine gw_cond rfl (fun hh => ?_) (fun hh => ?_)
 ·have h1 : ¬ (HE = 0) := by simpa using hh
  clear hh
  refine sr_ (mv_ rfl (sg_ rfl (sg_ rfl (nn_ ?_))))
  refine gw_ret ?_
  refine nx_then_ret ?_
  refine nx_ret2 rfl rfl rfl fun wx hm => ?_
  exact ⟨rfl, hm.g⟩
 have h1 : HE = 0 := by simpa using hh
 clear hh
 refine gw_skip (nx_then (sr_ ?_))
 exact absurd (by simpa using h1) h0
theorem hirText_right (k d : ByteArray) (f t2 : Int) (ls : List Lg) (A : Option Addr) (n c : Nat) (w : World) (ht : TxtW w) (hl : SlT lgEnc 9 128 w A n ls) (hok : HrOk k d ls) (hn : n ≤ 1000) (h0 : hireE (⟨k, d, f, t2, ls⟩ : Hr) = 0) :
  Calls Tryz.prog 19 #[.agg #[.string k, .string d, .int .i64 f, .int .i64 t2, .slice A n c]] w (fun e w' => e = .returned (.tuple #[.string (hirTx (⟨k, d, f, t2, ls⟩ : Hr) ls), .int .i64 0]) ∧ w.grownBy w' none) := by
 refine gw_enter ⟨89, w, none, []⟩ Tryz.func19 rfl Tryz.ntmps19 rfl (mem0 (X := [SlOld lgEnc 9 128 w.heap.size none A n ls, TxtO w.heap.size none]) (allF_cons hl.old (allF_cons ht.old allF_nil)) (allL_cons SlOld.lasts (allL_cons TxtO.lasts allL_nil))) ?_
 refine sr_ ?_
 obtain ⟨HE, hHE⟩ : ∃ z, z = hireE (⟨k, d, f, t2, ls⟩ : Hr) := ⟨_, rfl⟩
 have hlen := hl.len
 have hB := hrB_of h0
 rw [← hHE] at h0
 have hB2 := hB
 obtain ⟨s1, s2, f1, f2, hg, hln⟩ := hB2
 dsimp only at s1 s2 f1 f2 hg hln
 have h10 : (⟨#[10]⟩ : ByteArray).size = 1 := rfl
 have h32 : (⟨#[32]⟩ : ByteArray).size = 1 := rfl
 have hj5 := hirHdJ_sz hB
 refine wl_box rfl rfl rfl fun g1 => ?_
 refine sg_ rfl (sg_ rfl (nn_ (gw_seq (sr_ ?_))))
 refine wl_ov (ov_loads rz45 rfl (fun _ hm => hm.blkI 0 rfl) rfl rfl) rfl ?_
 refine wl_callv (v := .int .i64 HE) rfl cb80 rfl rfl (fun wx hm => (by rw [hHE]; exact hcheck_any k d f t2 ls A n c wx (hm.fact 0 rfl).1 hok (by omega))) ?_
 refine sg_ rfl (nn_ (sr_ (mv_ rfl (wl_ov (ov_neq rfl rfl) rfl (nn_ ?_)))))
 refine gw_cond rfl (fun hh => ?_) (fun hh => ?_)
 ·have h1 : ¬ (HE = 0) := by simpa using hh
  clear hh
  refine sr_ ?_
  exact absurd h0 (by simpa using h1)
 have h1 : HE = 0 := by simpa using hh
 clear hh
 refine gw_skip (nx_then (sr_ ?_))
 refine wl_alloc zc101 rfl fun g2 => ?_
 refine nn_ (sr_ ?_)
 refine wl_ov (ov_iface (by kernel_rfl) rfl) rfl ?_
 refine fd_ fo45_0 rfl rfl (lk_ sc9 1 rfl rfl rfl ?_)
 refine wl_ov (ov_iface (by kernel_rfl) rfl) rfl ?_
 refine fd_ fo45_1 rfl rfl (lk_ sc9 1 rfl rfl rfl ?_)
 refine wl_ov (ov_iface (by kernel_rfl) rfl) rfl ?_
 refine fd_ fo45_2 rfl rfl (fd_ fo42_0 rfl rfl (lk_ sc3 1 rfl rfl rfl ?_))
 refine wl_ov (ov_iface (by kernel_rfl) rfl) rfl ?_
 refine fd_ fo45_2 rfl rfl (fd_ fo42_1 rfl rfl (lk_ sc3 1 rfl rfl rfl ?_))
 refine wl_ov (ov_iface (by kernel_rfl) rfl) rfl ?_
 refine wl_buildSlice (e := 20) (cs := [.iface 9 (.string ⟨#[104, 105, 114, 101]⟩), .iface 9 (.string k), .iface 9 (.string d), .iface 3 (.int .i64 f), .iface 3 (.int .i64 t2)]) rfl (by kernel_rfl) rfl fun g3 => ?_
 refine wl_callv (v := .string (joinS (hirHdP (⟨k, d, f, t2, ls⟩ : Hr)) ⟨#[32]⟩)) rfl cb61 rfl rfl (fun wx hm => (by have h := wjoin_any (hirHdPts (⟨k, d, f, t2, ls⟩ : Hr)) (some ⟨g3, 0, none⟩) 5 5 wx (hm.fact 1 rfl).1 (SlT.ofBlk (l := hirHdPts (⟨k, d, f, t2, ls⟩ : Hr)) pt_len (hm.blkI 0 rfl)) (by omega) (by omega) (hirHdPts_ok hB); exact h)) ?_
 refine wl_ov (ov_sadd rfl rfl (by (try simp only [ByteArray.size_append]); omega)) rfl ?_
 refine wl_nilOwn 5 1 ?_
 refine wl_callG (γ := Value) (val := fun _ => .tuple #[.int .i64 (((joinS (hirHdP (⟨k, d, f, t2, ls⟩ : Hr)) ⟨#[32]⟩) ++ (⟨#[10]⟩ : ByteArray)).size : Int), .nilIface]) (φ := fun _ => True) (K' := fun _ => (fun _ => True)) (L' := fun g => [(g3, 20, [.iface 9 (.string ⟨#[104, 105, 114, 101]⟩), .iface 9 (.string k), .iface 9 (.string d), .iface 3 (.int .i64 f), .iface 3 (.int .i64 t2)]), (g2, 101, [.pointer (some ⟨g2, 0, none⟩), g]), (g1, 45, [.string k, .string d, .int .i64 f, .int .i64 t2, .slice A n c])]) (O' := fun g => [⟨g, 5, 1, (Lib.byteCells [] ++ Lib.strCells ((joinS (hirHdP (⟨k, d, f, t2, ls⟩ : Hr)) ⟨#[32]⟩) ++ (⟨#[10]⟩ : ByteArray))).length, Lib.byteCells [] ++ Lib.strCells ((joinS (hirHdP (⟨k, d, f, t2, ls⟩ : Hr)) ⟨#[32]⟩) ++ (⟨#[10]⟩ : ByteArray))⟩]) (X' := fun _ => [SlOld lgEnc 9 128 w.heap.size none A n ls, TxtO w.heap.size none]) rfl cb60 rfl rfl (fun wx hm => (writeStringK w.heap.size g2 (Lib.byteCells []) ((joinS (hirHdP (⟨k, d, f, t2, ls⟩ : Hr)) ⟨#[32]⟩) ++ (⟨#[10]⟩ : ByteArray)) wx (hm.isB 1 0 rfl rfl (.inl rfl)) (by simp only [Lib.byteCells_length, List.length_nil]; (try simp only [ByteArray.size_append]); omega) hm.g.size).mono fun e w' ⟨he, h1, hb, hk⟩ => by
  obtain ⟨v, hM⟩ := hm.builtK 1 rfl (tys_ne rfl) h1 hb hk (oldX_cons (i := 0) SlOld.oldF rfl (oldX_cons (i := 1) TxtO.oldF rfl oldX_nil))
  exact ⟨v, he, trivial, hM⟩) ?_
 rintro vv1 _
 rw [show Lib.byteCells [] ++ Lib.strCells ((joinS (hirHdP (⟨k, d, f, t2, ls⟩ : Hr)) ⟨#[32]⟩) ++ (⟨#[10]⟩ : ByteArray)) = Lib.byteCells (hirTxL (⟨k, d, f, t2, ls⟩ : Hr) (ls.take 0)) from by rw [cells_app]; unfold hirTxL hirHd; simp]
 refine nn_ (gw_seq (sr_ (fd_ fo45_3 rfl rfl (lk_ sc43 2 rfl rfl rfl (wl_ov (ov_len es43 rfl) rfl (mv_ rfl (nn_ (gw_block ?_))))))))
 refine gw_loop (γ := Nat × Value) (fun (gz : Nat × Value) => gz.1 ≤ n) (fun (gz : Nat × Value) => [(2, .string ⟨#[]⟩), (3, .int .i64 0), (5, .pointer (some ⟨g2, 0, none⟩)), (33, .slice A n c), (34, .int .i64 ((n : Nat) : Int)), (35, .int .i64 ((gz.1 : Nat) : Int))]) (fun (gz : Nat × Value) => fun _ => True) (fun (gz : Nat × Value) => [(g2, 101, [.pointer (some ⟨g2, 0, none⟩), gz.2])]) (fun (gz : Nat × Value) => [⟨gz.2, 5, 1, (Lib.byteCells (hirTxL (⟨k, d, f, t2, ls⟩ : Hr) (ls.take gz.1))).length, (Lib.byteCells (hirTxL (⟨k, d, f, t2, ls⟩ : Hr) (ls.take gz.1)))⟩]) (fun (gz : Nat × Value) => [SlOld lgEnc 9 128 w.heap.size none A n ls, TxtO w.heap.size none]) (fun (gz : Nat × Value) => n - gz.1) (0, vv1) (Nat.zero_le _) ⟨rfl, rfl, rfl, rfl, rfl, rfl, trivial⟩ (fun _ hm => hm.pick [1] [0] [0, 1] rfl rfl) ?_
 rintro ⟨i, v⟩ hinv
 replace hinv : i ≤ n := hinv
 dsimp only
 refine sr_ ?_
 have hi0 := hinv
 refine wl_ov (ov_lss rfl rfl) rfl (nn_ (gw_seq ?_))
 refine gw_cond rfl (fun hh => ?_) (fun hh => ?_)
 ·have hi : ((i : Nat) : Int) < ((n : Nat) : Int) := by simpa using hh
  clear hh
  refine gw_skip (nx_then (gw_seq (gw_block (sr_ ?_))))
  obtain ⟨b, off, hA, _, _⟩ := hl.get (by omega)
  subst hA
  obtain ⟨x, hx⟩ : ∃ x, ls[i]? = some x := ⟨_, List.getElem?_eq_getElem (by omega)⟩
  obtain ⟨xv, ⟨oa, os, om, of_⟩, ⟨ia, is_, im, if_⟩⟩ := x
  have hgB := hg _ (List.mem_of_getElem? hx)
  have hJ := hirLegJ_sz hgB
  have hI := hirRdJ_sz hgB.2.2
  have hO := hirRdJ_sz hgB.2.1
  dsimp only at hI hO
  have hts := hirTx_sz (l := ls.take i) hB (leg_take hg i)
  have htl : (ls.take i).length ≤ 20 := by rw [List.length_take]; omega
  have hv := hgB.1
  dsimp only at hv
  have hatL := hirTxL_at (h := (⟨k, d, f, t2, ls⟩ : Hr)) hx
  have htl2 := hirTxL_len (l := ls.take i) hB (leg_take hg i)
  refine wl_ov (ov_index (j := i) es43 rfl rfl (by omega)) rfl ?_
  refine wl_ov (ov_elem (vs := [.string xv, .int .i64 oa, .string os, .int .i64 om, .int .i64 of_, .int .i64 ia, .string is_, .int .i64 im, .int .i64 if_]) rz128 rfl (fun _ hm => (hm.fact 0 rfl).1) hx rfl rfl) rfl ?_
  refine wl_alloc zc128 rfl fun g4 => ?_
  refine wl_stores (cs' := [.string xv, .int .i64 oa, .string os, .int .i64 om, .int .i64 of_, .int .i64 ia, .string is_, .int .i64 im, .int .i64 if_]) 0 rz128 rfl rfl rfl rfl rfl rfl rfl rfl ?_
  refine nn_ (sr_ ?_)
  refine wl_ov (ov_iface (by kernel_rfl) rfl) rfl ?_
  refine fd_ fo128_0 rfl rfl (lk_ sc9 0 rfl rfl rfl ?_)
  refine wl_ov (ov_iface (by kernel_rfl) rfl) rfl ?_
  refine fd_ fo128_1 rfl rfl (fd_ fo126_0 rfl rfl (lk_ sc3 0 rfl rfl rfl ?_))
  refine wl_ov (ov_iface (by kernel_rfl) rfl) rfl ?_
  refine fd_ fo128_1 rfl rfl (fd_ fo126_1 rfl rfl (lk_ sc9 0 rfl rfl rfl ?_))
  refine wl_ov (ov_iface (by kernel_rfl) rfl) rfl ?_
  refine fd_ fo128_1 rfl rfl (fd_ fo126_2 rfl rfl (lk_ sc3 0 rfl rfl rfl ?_))
  refine wl_ov (ov_iface (by kernel_rfl) rfl) rfl ?_
  refine fd_ fo128_1 rfl rfl (fd_ fo126_3 rfl rfl (lk_ sc3 0 rfl rfl rfl ?_))
  refine wl_ov (ov_iface (by kernel_rfl) rfl) rfl ?_
  refine wl_buildSlice (e := 20) (cs := [.iface 9 (.string ⟨#[108, 101, 103]⟩), .iface 9 (.string xv), .iface 3 (.int .i64 oa), .iface 9 (.string os), .iface 3 (.int .i64 om), .iface 3 (.int .i64 of_)]) rfl (by kernel_rfl) rfl fun g5 => ?_
  refine wl_callv (v := .string (hirLegJ (⟨xv, ⟨oa, os, om, of_⟩, ⟨ia, is_, im, if_⟩⟩ : Lg))) rfl cb61 rfl rfl (fun wx hm => (by have h := wjoin_any (hirLegPts (⟨xv, ⟨oa, os, om, of_⟩, ⟨ia, is_, im, if_⟩⟩ : Lg)) (some ⟨g5, 0, none⟩) 6 6 wx (hm.fact 1 rfl).1 (SlT.ofBlk (l := hirLegPts (⟨xv, ⟨oa, os, om, of_⟩, ⟨ia, is_, im, if_⟩⟩ : Lg)) pt_len (hm.blkI 0 rfl)) (by omega) (by omega) (hirLegPts_ok hgB); exact h)) ?_
  refine wl_callG (γ := Value) (val := fun _ => .tuple #[.int .i64 ((hirLegJ (⟨xv, ⟨oa, os, om, of_⟩, ⟨ia, is_, im, if_⟩⟩ : Lg)).size : Int), .nilIface]) (φ := fun _ => True) (K' := fun _ => (fun _ => True)) (L' := fun g => [(g5, 20, [.iface 9 (.string ⟨#[108, 101, 103]⟩), .iface 9 (.string xv), .iface 3 (.int .i64 oa), .iface 9 (.string os), .iface 3 (.int .i64 om), .iface 3 (.int .i64 of_)]), (g4, 128, [.string xv, .int .i64 oa, .string os, .int .i64 om, .int .i64 of_, .int .i64 ia, .string is_, .int .i64 im, .int .i64 if_]), (g2, 101, [.pointer (some ⟨g2, 0, none⟩), g])]) (O' := fun g => [⟨g, 5, 1, (Lib.byteCells (hirTxL (⟨k, d, f, t2, ls⟩ : Hr) (ls.take i)) ++ Lib.strCells (hirLegJ (⟨xv, ⟨oa, os, om, of_⟩, ⟨ia, is_, im, if_⟩⟩ : Lg))).length, Lib.byteCells (hirTxL (⟨k, d, f, t2, ls⟩ : Hr) (ls.take i)) ++ Lib.strCells (hirLegJ (⟨xv, ⟨oa, os, om, of_⟩, ⟨ia, is_, im, if_⟩⟩ : Lg))⟩]) (X' := fun _ => [SlOld lgEnc 9 128 w.heap.size none (some ⟨b, off, none⟩) n ls, TxtO w.heap.size none]) rfl cb60 rfl rfl (fun wx hm => (writeStringK w.heap.size g2 (Lib.byteCells (hirTxL (⟨k, d, f, t2, ls⟩ : Hr) (ls.take i))) (hirLegJ (⟨xv, ⟨oa, os, om, of_⟩, ⟨ia, is_, im, if_⟩⟩ : Lg)) wx (hm.isB 2 0 rfl rfl (.inr rfl)) (by simp only [Lib.byteCells_length]; (try simp only [ByteArray.size_append]); omega) hm.g.size).mono fun e w' ⟨he, h1, hb, hk⟩ => by
   obtain ⟨v, hM⟩ := hm.builtK 2 rfl (tys_ne rfl) h1 hb hk (oldX_cons (i := 0) SlOld.oldF rfl (oldX_cons (i := 1) TxtO.oldF rfl oldX_nil))
   exact ⟨v, he, trivial, hM⟩) ?_
  rintro vv2 _
  refine nn_ (gw_seq (sr_ (fd_ fo128_2 rfl rfl (fd_ fo126_0 rfl rfl (lk_ sc3 1 rfl rfl rfl (wl_ov (ov_neq rfl rfl) rfl (nn_ ?_)))))))
  refine gw_cond rfl (fun hh => ?_) (fun hh => ?_)
  ·have h6 : ¬ (ia = -1) := by simpa using hh
   clear hh
   refine gw_region (fd_ fo128_2 rfl rfl (fd_ fo126_0 rfl rfl (lk_ sc3 1 rfl rfl rfl ?_)))
   refine wl_ov (ov_iface (by kernel_rfl) rfl) rfl ?_
   refine fd_ fo128_2 rfl rfl (fd_ fo126_1 rfl rfl (lk_ sc9 1 rfl rfl rfl ?_))
   refine wl_ov (ov_iface (by kernel_rfl) rfl) rfl ?_
   refine fd_ fo128_2 rfl rfl (fd_ fo126_2 rfl rfl (lk_ sc3 1 rfl rfl rfl ?_))
   refine wl_ov (ov_iface (by kernel_rfl) rfl) rfl ?_
   refine fd_ fo128_2 rfl rfl (fd_ fo126_3 rfl rfl (lk_ sc3 1 rfl rfl rfl ?_))
   refine wl_ov (ov_iface (by kernel_rfl) rfl) rfl ?_
   refine wl_buildSlice (e := 20) (cs := [.iface 3 (.int .i64 ia), .iface 9 (.string is_), .iface 3 (.int .i64 im), .iface 3 (.int .i64 if_)]) rfl (by kernel_rfl) rfl fun g6 => ?_
   refine wl_callv (v := .string (hirRdJ (⟨ia, is_, im, if_⟩ : Rd))) rfl cb61 rfl rfl (fun wx hm => (by have h := wjoin_any (hirRdPts (⟨ia, is_, im, if_⟩ : Rd)) (some ⟨g6, 0, none⟩) 4 4 wx (hm.fact 1 rfl).1 (SlT.ofBlk (l := hirRdPts (⟨ia, is_, im, if_⟩ : Rd)) pt_len (hm.blkI 0 rfl)) (by omega) (by omega) (hirRdPts_ok hgB.2.2); exact h)) ?_
   refine wl_ov (ov_sadd rfl rfl (by (try simp only [ByteArray.size_append]); omega)) rfl ?_
   refine wl_callG (γ := Value) (val := fun _ => .tuple #[.int .i64 (((⟨#[32]⟩ : ByteArray) ++ (hirRdJ (⟨ia, is_, im, if_⟩ : Rd))).size : Int), .nilIface]) (φ := fun _ => True) (K' := fun _ => (fun _ => True)) (L' := fun g => [(g6, 20, [.iface 3 (.int .i64 ia), .iface 9 (.string is_), .iface 3 (.int .i64 im), .iface 3 (.int .i64 if_)]), (g5, 20, [.iface 9 (.string ⟨#[108, 101, 103]⟩), .iface 9 (.string xv), .iface 3 (.int .i64 oa), .iface 9 (.string os), .iface 3 (.int .i64 om), .iface 3 (.int .i64 of_)]), (g4, 128, [.string xv, .int .i64 oa, .string os, .int .i64 om, .int .i64 of_, .int .i64 ia, .string is_, .int .i64 im, .int .i64 if_]), (g2, 101, [.pointer (some ⟨g2, 0, none⟩), g])]) (O' := fun g => [⟨g, 5, 1, (Lib.byteCells (hirTxL (⟨k, d, f, t2, ls⟩ : Hr) (ls.take i)) ++ Lib.strCells (hirLegJ (⟨xv, ⟨oa, os, om, of_⟩, ⟨ia, is_, im, if_⟩⟩ : Lg)) ++ Lib.strCells ((⟨#[32]⟩ : ByteArray) ++ (hirRdJ (⟨ia, is_, im, if_⟩ : Rd)))).length, Lib.byteCells (hirTxL (⟨k, d, f, t2, ls⟩ : Hr) (ls.take i)) ++ Lib.strCells (hirLegJ (⟨xv, ⟨oa, os, om, of_⟩, ⟨ia, is_, im, if_⟩⟩ : Lg)) ++ Lib.strCells ((⟨#[32]⟩ : ByteArray) ++ (hirRdJ (⟨ia, is_, im, if_⟩ : Rd)))⟩]) (X' := fun _ => [SlOld lgEnc 9 128 w.heap.size none (some ⟨b, off, none⟩) n ls, TxtO w.heap.size none]) rfl cb60 rfl rfl (fun wx hm => (writeStringK w.heap.size g2 (Lib.byteCells (hirTxL (⟨k, d, f, t2, ls⟩ : Hr) (ls.take i)) ++ Lib.strCells (hirLegJ (⟨xv, ⟨oa, os, om, of_⟩, ⟨ia, is_, im, if_⟩⟩ : Lg))) ((⟨#[32]⟩ : ByteArray) ++ (hirRdJ (⟨ia, is_, im, if_⟩ : Rd))) wx (hm.isB 3 0 rfl rfl (.inr rfl)) (by simp only [List.length_append, Lib.strCells_length, Lib.byteCells_length]; (try simp only [ByteArray.size_append]); omega) hm.g.size).mono fun e w' ⟨he, h1, hb, hk⟩ => by
    obtain ⟨v, hM⟩ := hm.builtK 3 rfl (tys_ne rfl) h1 hb hk (oldX_cons (i := 0) SlOld.oldF rfl (oldX_cons (i := 1) TxtO.oldF rfl oldX_nil))
    exact ⟨v, he, trivial, hM⟩) ?_
   rintro vv3 _
   refine nn_ (gw_region ?_)
   refine wl_callG (γ := Value) (val := fun _ => .tuple #[.int .i64 (((⟨#[10]⟩ : ByteArray)).size : Int), .nilIface]) (φ := fun _ => True) (K' := fun _ => (fun _ => True)) (L' := fun g => [(g6, 20, [.iface 3 (.int .i64 ia), .iface 9 (.string is_), .iface 3 (.int .i64 im), .iface 3 (.int .i64 if_)]), (g5, 20, [.iface 9 (.string ⟨#[108, 101, 103]⟩), .iface 9 (.string xv), .iface 3 (.int .i64 oa), .iface 9 (.string os), .iface 3 (.int .i64 om), .iface 3 (.int .i64 of_)]), (g4, 128, [.string xv, .int .i64 oa, .string os, .int .i64 om, .int .i64 of_, .int .i64 ia, .string is_, .int .i64 im, .int .i64 if_]), (g2, 101, [.pointer (some ⟨g2, 0, none⟩), g])]) (O' := fun g => [⟨g, 5, 1, (Lib.byteCells (hirTxL (⟨k, d, f, t2, ls⟩ : Hr) (ls.take i)) ++ Lib.strCells (hirLegJ (⟨xv, ⟨oa, os, om, of_⟩, ⟨ia, is_, im, if_⟩⟩ : Lg)) ++ Lib.strCells ((⟨#[32]⟩ : ByteArray) ++ (hirRdJ (⟨ia, is_, im, if_⟩ : Rd))) ++ Lib.strCells (⟨#[10]⟩ : ByteArray)).length, Lib.byteCells (hirTxL (⟨k, d, f, t2, ls⟩ : Hr) (ls.take i)) ++ Lib.strCells (hirLegJ (⟨xv, ⟨oa, os, om, of_⟩, ⟨ia, is_, im, if_⟩⟩ : Lg)) ++ Lib.strCells ((⟨#[32]⟩ : ByteArray) ++ (hirRdJ (⟨ia, is_, im, if_⟩ : Rd))) ++ Lib.strCells (⟨#[10]⟩ : ByteArray)⟩]) (X' := fun _ => [SlOld lgEnc 9 128 w.heap.size none (some ⟨b, off, none⟩) n ls, TxtO w.heap.size none]) rfl cb60 rfl rfl (fun wx hm => (writeStringK w.heap.size g2 (Lib.byteCells (hirTxL (⟨k, d, f, t2, ls⟩ : Hr) (ls.take i)) ++ Lib.strCells (hirLegJ (⟨xv, ⟨oa, os, om, of_⟩, ⟨ia, is_, im, if_⟩⟩ : Lg)) ++ Lib.strCells ((⟨#[32]⟩ : ByteArray) ++ (hirRdJ (⟨ia, is_, im, if_⟩ : Rd)))) (⟨#[10]⟩ : ByteArray) wx (hm.isB 3 0 rfl rfl (.inr rfl)) (by simp only [List.length_append, Lib.strCells_length, Lib.byteCells_length]; (try simp only [ByteArray.size_append]); omega) hm.g.size).mono fun e w' ⟨he, h1, hb, hk⟩ => by
    obtain ⟨v, hM⟩ := hm.builtK 3 rfl (tys_ne rfl) h1 hb hk (oldX_cons (i := 0) SlOld.oldF rfl (oldX_cons (i := 1) TxtO.oldF rfl oldX_nil))
    exact ⟨v, he, trivial, hM⟩) ?_
   rintro vv4 _
   refine wl_nil (nx_blk_nrm (nx_then (gw_region (ad_ rfl rfl (mv_ rfl (wl_nil ?_))))))
   rw [show Lib.byteCells (hirTxL (⟨k, d, f, t2, ls⟩ : Hr) (ls.take i)) ++ Lib.strCells (hirLegJ (⟨xv, ⟨oa, os, om, of_⟩, ⟨ia, is_, im, if_⟩⟩ : Lg)) ++ Lib.strCells ((⟨#[32]⟩ : ByteArray) ++ (hirRdJ (⟨ia, is_, im, if_⟩ : Rd))) ++ Lib.strCells (⟨#[10]⟩ : ByteArray) = Lib.byteCells (hirTxL (⟨k, d, f, t2, ls⟩ : Hr) (ls.take (i + 1))) from by rw [hb_three, hatL, hirLeg_in (g := (⟨xv, ⟨oa, os, om, of_⟩, ⟨ia, is_, im, if_⟩⟩ : Lg)) h6]]
   exact nx_round (i + 1, vv4) (by dsimp only; omega) (by dsimp only; omega) ⟨rfl, rfl, rfl, rfl, rfl, (some_int (by omega)), trivial⟩ (fun _ hm => hm.pick [3] [0] [0, 1] rfl rfl)
  have h6 : ia = -1 := by simpa using hh
  clear hh
  refine gw_skip (nx_then (gw_region ?_))
  refine wl_callG (γ := Value) (val := fun _ => .tuple #[.int .i64 (((⟨#[10]⟩ : ByteArray)).size : Int), .nilIface]) (φ := fun _ => True) (K' := fun _ => (fun _ => True)) (L' := fun g => [(g5, 20, [.iface 9 (.string ⟨#[108, 101, 103]⟩), .iface 9 (.string xv), .iface 3 (.int .i64 oa), .iface 9 (.string os), .iface 3 (.int .i64 om), .iface 3 (.int .i64 of_)]), (g4, 128, [.string xv, .int .i64 oa, .string os, .int .i64 om, .int .i64 of_, .int .i64 ia, .string is_, .int .i64 im, .int .i64 if_]), (g2, 101, [.pointer (some ⟨g2, 0, none⟩), g])]) (O' := fun g => [⟨g, 5, 1, (Lib.byteCells (hirTxL (⟨k, d, f, t2, ls⟩ : Hr) (ls.take i)) ++ Lib.strCells (hirLegJ (⟨xv, ⟨oa, os, om, of_⟩, ⟨ia, is_, im, if_⟩⟩ : Lg)) ++ Lib.strCells (⟨#[10]⟩ : ByteArray)).length, Lib.byteCells (hirTxL (⟨k, d, f, t2, ls⟩ : Hr) (ls.take i)) ++ Lib.strCells (hirLegJ (⟨xv, ⟨oa, os, om, of_⟩, ⟨ia, is_, im, if_⟩⟩ : Lg)) ++ Lib.strCells (⟨#[10]⟩ : ByteArray)⟩]) (X' := fun _ => [SlOld lgEnc 9 128 w.heap.size none (some ⟨b, off, none⟩) n ls, TxtO w.heap.size none]) rfl cb60 rfl rfl (fun wx hm => (writeStringK w.heap.size g2 (Lib.byteCells (hirTxL (⟨k, d, f, t2, ls⟩ : Hr) (ls.take i)) ++ Lib.strCells (hirLegJ (⟨xv, ⟨oa, os, om, of_⟩, ⟨ia, is_, im, if_⟩⟩ : Lg))) (⟨#[10]⟩ : ByteArray) wx (hm.isB 2 0 rfl rfl (.inr rfl)) (by simp only [List.length_append, Lib.strCells_length, Lib.byteCells_length]; (try simp only [ByteArray.size_append]); omega) hm.g.size).mono fun e w' ⟨he, h1, hb, hk⟩ => by
   obtain ⟨v, hM⟩ := hm.builtK 2 rfl (tys_ne rfl) h1 hb hk (oldX_cons (i := 0) SlOld.oldF rfl (oldX_cons (i := 1) TxtO.oldF rfl oldX_nil))
   exact ⟨v, he, trivial, hM⟩) ?_
  rintro vv5 _
  refine wl_nil (nx_blk_nrm (nx_then (gw_region (ad_ rfl rfl (mv_ rfl (wl_nil ?_))))))
  rw [show Lib.byteCells (hirTxL (⟨k, d, f, t2, ls⟩ : Hr) (ls.take i)) ++ Lib.strCells (hirLegJ (⟨xv, ⟨oa, os, om, of_⟩, ⟨ia, is_, im, if_⟩⟩ : Lg)) ++ Lib.strCells (⟨#[10]⟩ : ByteArray) = Lib.byteCells (hirTxL (⟨k, d, f, t2, ls⟩ : Hr) (ls.take (i + 1))) from by rw [hb_two, hatL, hirLeg_no (g := (⟨xv, ⟨oa, os, om, of_⟩, ⟨ia, is_, im, if_⟩⟩ : Lg)) h6]]
  exact nx_round (i + 1, vv5) (by dsimp only; omega) (by dsimp only; omega) ⟨rfl, rfl, rfl, rfl, rfl, (some_int (by omega)), trivial⟩ (fun _ hm => hm.pick [2] [0] [0, 1] rfl rfl)
 have hi : ¬ (((i : Nat) : Int) < ((n : Nat) : Int)) := by simpa using hh
 clear hh
 refine gw_exit ?_
 refine nx_then_exit (nx_then_exit ?_)
 refine nx_blk_here ?_
 refine nx_then (sr_ ?_)
 have hlt : ls.take i = ls := List.take_of_length_le (by omega)
 rw [hlt]
 refine wl_callG (γ := Unit) (val := fun _ => .string (hirTx (⟨k, d, f, t2, ls⟩ : Hr) ls)) (φ := fun _ => True) (K' := fun _ => (fun _ => True)) (L' := fun _ => []) (O' := fun _ => []) (X' := fun _ => [SlOld lgEnc 9 128 w.heap.size none A n ls, TxtO w.heap.size none]) rfl cb63 rfl rfl (fun wx hm => (string_any w.heap.size g2 (hirTxL (⟨k, d, f, t2, ls⟩ : Hr) ls) wx (hm.isB 0 0 rfl rfl (.inr rfl)) hm.g.size).mono fun e w' ⟨he, hb⟩ => ⟨(), he, trivial, hm.belowX hb (oldX_cons (i := 0) SlOld.oldF rfl (oldX_cons (i := 1) TxtO.oldF rfl oldX_nil))⟩) ?_
 rintro _ _
 refine sg_ rfl (sg_ rfl (nn_ ?_))
 refine gw_ret ?_
 refine nx_ret2 rfl rfl rfl fun wx hm => ?_
 exact ⟨rfl, hm.g⟩
end Go.Proofs.YtnpcbfllnkiopaaGreatDoor
namespace Go.Proofs.YtnpcbfllnkiopaaGreatDoor
open Go.RowKit
structure Ev where
  at_ : Int
  veh : ByteArray
  sta : ByteArray
  kd : Int
  to_ : ByteArray
def evEnc (x : Ev) : List Value := [.int .i64 x.at_, .string x.veh, .string x.sta, .int .i64 x.kd, .string x.to_]
theorem ev_len (x : Ev) : (evEnc x).length = 5 := rfl
def EvOk (x : Ev) : Prop := (-4000000000000000000 ≤ x.at_ ∧ x.at_ ≤ 4000000000000000000) ∧ (-4000000000000000000 ≤ x.kd ∧ x.kd ≤ 4000000000000000000) ∧ x.veh.size ≤ 1000000 ∧ x.sta.size ≤ 1000000 ∧ x.to_.size ≤ 1000000
def evOrd (a b : Ev) : Int := firstE [cmpI a.at_ b.at_, cmpS a.veh b.veh]
theorem cmpI_zero {a b : Int} : cmpI a b = 0 ↔ a = b := by unfold cmpI; split <;> (try split) <;> omega
end Go.Proofs.YtnpcbfllnkiopaaGreatDoor
namespace Go.Proofs
open Go.Shelf
def Tryz.lays106_ren : Go.Shelf.Ren := ⟨fun | 106 => 143 | 213 => 226 | 265 => 279 | n => n, fun | 9 => 9 | 3 => 3 | n => n, fun | n => n⟩
theorem Tryz.lays106 : Go.Proofs.Lays.n106 Tryz.prog Tryz.lays106_ren := {
  mixed := by kernel_rfl
  f106 := Tryz.func143.trans (congrArg some (by kernel_rfl))
  f213 := Tryz.func226.trans (congrArg some (by kernel_rfl))
  f265 := Tryz.func279.trans (congrArg some (by kernel_rfl))
  t3 := Tryz.underlying3
  a3 := Tryz.isAgg3
  z3 := Tryz.sizeOf3
  v3 := Tryz.zeroValue3
  t9 := Tryz.underlying9
  a9 := Tryz.isAgg9
  z9 := Tryz.sizeOf9
  v9 := Tryz.zeroValue9 }
end Go.Proofs
namespace Go.Proofs.YtnpcbfllnkiopaaGreatDoor
open Go.RowKit
theorem cmpB_eq : ∀ a b : List UInt8, Lib.compareBytes a b = if Go.Op.bytesLess a b = true then -1 else if (Go.Op.bytesLess a b || a == b) = false then 1 else 0
  | [], [] => rfl
  | [], b :: y => by simp [Lib.compareBytes, Go.Op.bytesLess]
  | a :: x, [] => by simp [Lib.compareBytes, Go.Op.bytesLess]
  | a :: x, b :: y => by
    have ih := cmpB_eq x y
    unfold Lib.compareBytes Go.Op.bytesLess
    by_cases h1 : a < b
    · simp [h1]
    · by_cases h2 : b < a
      · have h3 : ¬ a = b := fun e => by subst e; exact h1 h2
        simp [h1, h2, h3]
      · have h3 : a = b := by
          rcases Decidable.em (a = b) with h | h
          · exact h
          · rcases UInt8.lt_or_lt_of_ne h with h | h
            · exact absurd h h1
            · exact absurd h h2
        subst h3
        simp only [h1, if_false, ih, decide_false, Bool.false_or, beq_self_eq_true, Bool.true_and, List.cons_beq_cons]
theorem strCompare_any (a b : ByteArray) (w : World) : Calls Tryz.prog 143 #[.string a, .string b] w (fun e w' => e = .returned (.int .i64 (cmpS a b)) ∧ w.grownBy w' none) := by
  have hcon := Any.strings_Compare Tryz.lays106 a b w
  refine Calls.mono hcon ?_
  rintro e w' ⟨rfl, rfl⟩
  refine ⟨?_, World.grownBy.refl _ _⟩
  unfold cmpS
  rw [cmpB_eq, ByteArray.toList_eq, ByteArray.toList_eq]
end Go.Proofs.YtnpcbfllnkiopaaGreatDoor
namespace Go.Proofs.YtnpcbfllnkiopaaGreatDoor
open Go.RowKit
theorem b_ne_self (a : ByteArray) : (!(a.toList == a.toList)) = false := by simp
theorem i_ne_self (a : Int) : (!decide (a = a)) = false := by simp
theorem nan_string (a : ByteArray) (w : World) : Calls Tryz.prog 176 #[.string a] w (fun e w' => e = .returned (.bool false) ∧ w.grownBy w' none) := by
 refine gw_enter ⟨6, w, none, []⟩ Tryz.func176 rfl Tryz.ntmps176 rfl (mem0 (X := []) allF_nil allL_nil) ?_
 refine sr_ (sg_ rfl (nn_ (sr_ (mv_ rfl (mv_ rfl (wl_ov (ov_sneq rfl rfl) rfl ?_))))))
 refine wl_set 5 (v' := .bool false) rfl (congrArg Value.bool (b_ne_self a)) ?_
 refine sg_ rfl (nn_ ?_)
 refine gw_ret ?_
 refine nx_ret1 rfl rfl fun wx hm => ?_
 exact ⟨rfl, hm.g⟩
theorem cmp_string (a b : ByteArray) (w : World) : Calls Tryz.prog 85 #[.string a, .string b] w (fun e w' => e = .returned (.int .i64 (cmpS a b)) ∧ w.grownBy w' none) := by
 refine gw_enter ⟨20, w, none, []⟩ Tryz.func85 rfl Tryz.ntmps85 rfl (mem0 (X := []) allF_nil allL_nil) ?_
 refine sr_ (sg_ rfl (nn_ (sr_ (mv_ rfl ?_))))
 refine wl_callv rfl cb176 rfl rfl (fun wx hm => (nan_string _ wx)) ?_
 refine sg_ rfl (nn_ (sr_ (mv_ rfl ?_)))
 refine wl_callv rfl cb176 rfl rfl (fun wx hm => (nan_string _ wx)) ?_
 refine sg_ rfl (nn_ (gw_seq (sr_ (mv_ rfl (nn_ (cf_ rfl (gw_skip (nx_then (gw_seq (gw_seq ?_))))))))))
 refine gw_region (mv_ rfl (nn_ (cf_ rfl (gw_skip (nx_then (gw_seq (sr_ (mv_ rfl (mv_ rfl ?_)))))))))
 refine wl_ov (ov_slss rfl rfl) rfl ?_
 refine nn_ ?_
 refine gw_cond rfl (fun hh => ?_) (fun hh => ?_)
 ·have h1 : (Op.bytesLess a.toList b.toList) = true := by simpa using hh
  clear hh
  refine sr_ (sg_ rfl ?_)
  refine wl_set 4 (v' := .int .i64 (-1)) rfl rfl ?_
  refine nn_ ?_
  refine gw_ret ?_
  refine nx_then_ret ?_
  refine nx_ret1 rfl rfl fun wx hm => ?_
  refine ⟨?_, hm.g⟩
  unfold cmpS; rw [if_pos h1]
 have h1 : (Op.bytesLess a.toList b.toList) = false := by simpa using hh
 clear hh
 refine gw_skip (nx_then (gw_seq (sr_ (mv_ rfl (mv_ rfl ?_)))))
 refine wl_ov (ov_sgtr rfl rfl) rfl ?_
 refine nn_ ?_
 refine gw_cond rfl (fun hh => ?_) (fun hh => ?_)
 ·have h2 : (Op.bytesLess a.toList b.toList || a.toList == b.toList) = false := by simpa only [Bool.not_eq_true', Bool.not_eq_false'] using hh
  clear hh
  refine sr_ (sg_ rfl (nn_ ?_))
  refine gw_ret ?_
  refine nx_then_ret ?_
  refine nx_ret1 rfl rfl fun wx hm => ?_
  refine ⟨?_, hm.g⟩
  unfold cmpS; rw [if_neg (by rw [h1]; decide), if_pos h2]
 have h2 : (Op.bytesLess a.toList b.toList || a.toList == b.toList) = true := by simpa only [Bool.not_eq_true', Bool.not_eq_false'] using hh
 clear hh
 refine gw_skip (nx_then (sr_ (sg_ rfl (nn_ ?_))))
 refine gw_ret ?_
 refine nx_ret1 rfl rfl fun wx hm => ?_
 refine ⟨?_, hm.g⟩
 unfold cmpS; rw [if_neg (by rw [h1]; decide), if_neg (by rw [h2]; decide)]
theorem nan_int (a : Int) (w : World) : Calls Tryz.prog 175 #[.int .i64 a] w (fun e w' => e = .returned (.bool false) ∧ w.grownBy w' none) := by
 refine gw_enter ⟨6, w, none, []⟩ Tryz.func175 rfl Tryz.ntmps175 rfl (mem0 (X := []) allF_nil allL_nil) ?_
 refine sr_ (sg_ rfl (nn_ (sr_ (mv_ rfl (mv_ rfl (wl_ov (ov_neq rfl rfl) rfl ?_))))))
 refine wl_set 5 (v' := .bool false) rfl (congrArg Value.bool (i_ne_self a)) ?_
 refine sg_ rfl (nn_ ?_)
 refine gw_ret ?_
 refine nx_ret1 rfl rfl fun wx hm => ?_
 exact ⟨rfl, hm.g⟩
theorem cmp_int (a b : Int) (w : World) : Calls Tryz.prog 84 #[.int .i64 a, .int .i64 b] w (fun e w' => e = .returned (.int .i64 (cmpI a b)) ∧ w.grownBy w' none) := by
 refine gw_enter ⟨20, w, none, []⟩ Tryz.func84 rfl Tryz.ntmps84 rfl (mem0 (X := []) allF_nil allL_nil) ?_
 refine sr_ (sg_ rfl (nn_ (sr_ (mv_ rfl ?_))))
 refine wl_callv rfl cb175 rfl rfl (fun wx hm => (nan_int _ wx)) ?_
 refine sg_ rfl (nn_ (sr_ (mv_ rfl ?_)))
 refine wl_callv rfl cb175 rfl rfl (fun wx hm => (nan_int _ wx)) ?_
 refine sg_ rfl (nn_ (gw_seq (sr_ (mv_ rfl (nn_ (cf_ rfl (gw_skip (nx_then (gw_seq (gw_seq ?_))))))))))
 refine gw_region (mv_ rfl (nn_ (cf_ rfl (gw_skip (nx_then (gw_seq (sr_ (mv_ rfl (mv_ rfl (wl_ov (ov_lss rfl rfl) rfl (wl_nil ?_)))))))))))
 refine nx_then ?_
 refine gw_cond rfl (fun hh => ?_) (fun hh => ?_)
 ·have h1 : a < b := by simpa using hh
  clear hh
  refine sr_ (sg_ rfl ?_)
  refine wl_set 4 (v' := .int .i64 (-1)) rfl rfl ?_
  refine nn_ ?_
  refine gw_ret ?_
  refine nx_then_ret ?_
  refine nx_ret1 rfl rfl fun wx hm => ?_
  refine ⟨?_, hm.g⟩
  unfold cmpI; rw [if_pos h1]
 have h1 : ¬ (a < b) := by simpa using hh
 clear hh
 refine gw_skip (nx_then (gw_seq (sr_ (mv_ rfl (mv_ rfl ?_)))))
 refine wl_ov (ov_gtr rfl rfl) rfl ?_
 refine nn_ ?_
 refine gw_cond rfl (fun hh => ?_) (fun hh => ?_)
 ·have h2 : b < a := by simpa using hh
  clear hh
  refine sr_ (sg_ rfl (nn_ ?_))
  refine gw_ret ?_
  refine nx_then_ret ?_
  refine nx_ret1 rfl rfl fun wx hm => ?_
  refine ⟨?_, hm.g⟩
  unfold cmpI; rw [if_neg h1, if_pos h2]
 have h2 : ¬ (b < a) := by simpa using hh
 clear hh
 refine gw_skip (nx_then (sr_ (sg_ rfl (nn_ ?_))))
 refine gw_ret ?_
 refine nx_ret1 rfl rfl fun wx hm => ?_
 refine ⟨?_, hm.g⟩
 unfold cmpI; rw [if_neg h1, if_neg h2]
theorem or_two (a b : Int) (g T c : Nat) (w : World) (h : Blk w g T [.int .i64 a, .int .i64 b]) : Calls Tryz.prog 83 #[.slice (some ⟨g, 0, none⟩) 2 c] w (fun e w' => e = .returned (.int .i64 (firstE [a, b])) ∧ w.grownBy w' none) := by
 refine gw_enter ⟨18, w, none, []⟩ Tryz.func83 rfl Tryz.ntmps83 rfl (mem0 (X := [BlkOld w.heap.size none g T [.int .i64 a, .int .i64 b] ]) (allF_cons h.old allF_nil) (allL_cons BlkOld.lasts allL_nil)) ?_
 refine sr_ (sg_ rfl (nn_ (sr_ (sg_ rfl (nn_ (gw_seq (sr_ (mv_ rfl ?_))))))))
 refine wl_ov (ov_len es22 rfl) rfl ?_
 refine wl_set 7 (v' := .int .i64 2) rfl rfl ?_
 refine mv_ rfl (nn_ (gw_block ?_))
 refine gw_rounds 3 ?_
 refine gr_next ?_
 refine sr_ (wl_ov (ov_lss rfl rfl) rfl ?_)
 refine wl_set 9 (v' := .bool true) rfl (congrArg Value.bool (by decide)) ?_
 refine nn_ (gw_seq (ct_ rfl (gw_skip (nx_then (gw_seq (gw_block (sr_ ?_)))))))
 refine wl_ov (ov_index (j := 0) es22 rfl rfl (by decide)) rfl ?_
 refine wl_ov (ov_load (v := .int .i64 a) sc3 rfl (fun _ hm => (hm.fact 0 rfl).2) rfl) rfl ?_
 refine sg_ rfl (nn_ (sr_ (mv_ rfl (mv_ rfl (wl_ov (ov_neq rfl rfl) rfl (nn_ ?_))))))
 refine gw_cond rfl (fun hh => ?_) (fun hh => ?_)
 ·have h1 : ¬ (a = 0) := by simpa using hh
  clear hh
  refine sr_ (mv_ rfl (sg_ rfl (nn_ ?_)))
  refine gw_ret ?_
  refine nx_blk_ret (nx_then_ret (nx_then_ret (nx_blk_ret (nx_then_ret ?_))))
  refine nx_ret1 rfl rfl fun wx hm => ?_
  refine ⟨?_, hm.g⟩
  rw [firstE_pair, if_neg h1]
 have h1 : a = 0 := by simpa using hh
 clear hh
 refine gw_skip (nx_blk_nrm (nx_then (gw_region (ad_ rfl rfl ?_))))
 refine wl_set 16 (v' := .int .i64 1) rfl rfl ?_
 refine mv_ rfl (wl_nil ?_)
 refine nx_next ?_
 refine gr_next ?_
 refine sr_ (wl_ov (ov_lss rfl rfl) rfl ?_)
 refine wl_set 9 (v' := .bool true) rfl (congrArg Value.bool (by decide)) ?_
 refine nn_ (gw_seq (ct_ rfl (gw_skip (nx_then (gw_seq (gw_block (sr_ ?_)))))))
 refine wl_ov (ov_index (j := 1) es22 rfl rfl (by decide)) rfl ?_
 refine wl_ov (ov_load (v := .int .i64 b) sc3 rfl (fun _ hm => (hm.fact 0 rfl).2) rfl) rfl ?_
 refine sg_ rfl (nn_ (sr_ (mv_ rfl (mv_ rfl (wl_ov (ov_neq rfl rfl) rfl (nn_ ?_))))))
 refine gw_cond rfl (fun hh => ?_) (fun hh => ?_)
 ·have h2 : ¬ (b = 0) := by simpa using hh
  clear hh
  refine sr_ (mv_ rfl (sg_ rfl (nn_ ?_)))
  refine gw_ret ?_
  refine nx_blk_ret (nx_then_ret (nx_then_ret (nx_blk_ret (nx_then_ret ?_))))
  refine nx_ret1 rfl rfl fun wx hm => ?_
  refine ⟨?_, hm.g⟩
  rw [firstE_pair, if_pos h1]
 have h2 : b = 0 := by simpa using hh
 clear hh
 refine gw_skip (nx_blk_nrm (nx_then (gw_region (ad_ rfl rfl ?_))))
 refine wl_set 16 (v' := .int .i64 2) rfl rfl ?_
 refine mv_ rfl (wl_nil ?_)
 refine nx_next ?_
 refine gr_next ?_
 refine sr_ (wl_ov (ov_lss rfl rfl) rfl ?_)
 refine wl_set 9 (v' := .bool false) rfl (congrArg Value.bool (by decide)) ?_
 refine nn_ (gw_seq (cf_ rfl ?_))
 refine gw_exit ?_
 refine nx_then_exit (nx_then_exit ?_)
 refine nx_blk_here ?_
 refine nx_then (sr_ (mv_ rfl (sg_ rfl (nn_ ?_))))
 refine gw_ret ?_
 refine nx_ret1 rfl rfl fun wx hm => ?_
 refine ⟨?_, hm.g⟩
 rw [firstE_pair, if_pos h1, h2]
end Go.Proofs.YtnpcbfllnkiopaaGreatDoor
namespace Go.Proofs.YtnpcbfllnkiopaaGreatDoor
open Go.RowKit
def sgV3 (n : Int) : Int := if n < 0 then -1 else if 0 < n then 1 else 0
theorem sign3_any (n : Int) (w : World) : Calls Tryz.prog 178 #[.int .i64 n] w (GotE w (sgV3 n)) := by
 refine gw_enter ⟨9, w, none, []⟩ Tryz.func178 rfl Tryz.ntmps178 rfl (mem0 (X := []) allF_nil allL_nil) ?_
 refine sr_ (sg_ rfl (nn_ (gw_seq (gw_block (sr_ (mv_ rfl (wl_ov (ov_lss rfl rfl) rfl (sg_ rfl (nn_ ?_)))))))))
 refine gw_cond rfl (fun hh => ?_) (fun hh => ?_)
 ·have h0 : n < 0 := by simpa using hh
  clear hh
  refine sr_ (sg_ rfl ?_)
  refine wl_set 2 (v' := .int .i64 (-1)) rfl rfl ?_
  refine nn_ ?_
  refine gw_ret ?_
  refine nx_blk_ret (nx_then_ret ?_)
  refine nx_ret1 rfl rfl fun wx hm => ?_
  exact ⟨ret_int (by unfold sgV3; simp [h0]), hm.g⟩
 have h0 : ¬ (n < 0) := by simpa using hh
 clear hh
 refine sr_ (mv_ rfl ?_)
 refine wl_ov (ov_gtr rfl rfl) rfl ?_
 refine sg_ rfl (nn_ ?_)
 refine gw_cond rfl (fun hh => ?_) (fun hh => ?_)
 ·have h1 : 0 < n := by simpa using hh
  clear hh
  refine sr_ (sg_ rfl (nn_ ?_))
  refine gw_ret ?_
  refine nx_blk_ret (nx_then_ret ?_)
  refine nx_ret1 rfl rfl fun wx hm => ?_
  exact ⟨ret_int (by unfold sgV3; simp [h0, h1]), hm.g⟩
 have h1 : ¬ (0 < n) := by simpa using hh
 clear hh
 refine gw_skip (nx_blk_nrm (nx_then (sr_ (sg_ rfl (nn_ ?_)))))
 refine gw_ret ?_
 refine nx_ret1 rfl rfl fun wx hm => ?_
 exact ⟨ret_int (by unfold sgV3; simp [h0, h1]), hm.g⟩
end Go.Proofs.YtnpcbfllnkiopaaGreatDoor
namespace Go.Proofs.YtnpcbfllnkiopaaGreatDoor
open Go.RowKit
theorem isBelow_lt {n v : Int} (h : IsBelow n v) (hn : 1 ≤ n) : 0 ≤ v ∧ v < n := by unfold IsBelow at h; omega
set_option maxHeartbeats 400000 in
theorem range_any (lo hi : Int) (w : World) (B sb m : Nat) (hS : Strm 25 w B sb m) (hm : m ≤ 1000000000000) (h1 : -4611686018427387904 ≤ lo) (h2 : hi ≤ 4611686018427387902) (h3 : lo ≤ 4611686018427387902) (h4 : -4611686018427387904 ≤ hi) :
    Calls Tryz.prog 31 #[.pointer (some ⟨sb, 0, none⟩), .int .i64 lo, .int .i64 hi] w (GotInt 25 w B sb (m + 1) (fun v => lo ≤ v ∧ (v ≤ hi ∨ v = lo))) := by
  by_cases hlt : hi < lo
  · go_enter Tryz.func31, Tryz.ntmps31
    go_wp2_with fail
    go_ret
    exact ⟨lo, ⟨by omega, .inr rfl⟩, rfl, hS.more (by omega), World.grownBy.refl _ _⟩
  · go_enter Tryz.func31, Tryz.ntmps31
    go_wp2_with fail
    refine (next_any _ _ B sb m hS hm (by omega) (by omega)).mono ?_
    rintro e w1 ⟨v, hv, rfl, hS1, hg1⟩
    have hv := isBelow_lt hv (by omega)
    go_wp2_with fail
    go_ret
    exact ⟨lo + v, ⟨by omega, .inl (by omega)⟩, rfl, hS1, hg1⟩
set_option maxHeartbeats 400000 in
theorem flip_any (n : Int) (w : World) (B sb m : Nat) (hS : Strm 25 w B sb m) (hm : m ≤ 1000000000000) (hn1 : -9223372036854775808 ≤ n) (hn2 : n ≤ 9223372036854775807) :
    Calls Tryz.prog 25 #[.pointer (some ⟨sb, 0, none⟩), .int .i64 n] w (GotBool 25 w B sb (m + 1)) := by
  go_enter Tryz.func25, Tryz.ntmps25
  go_wp2_with fail
  refine (next_any _ _ B sb m hS hm hn1 hn2).mono ?_
  rintro e w1 ⟨v, hv, rfl, hS1, hg1⟩
  go_wp2_with fail
  go_ret
  exact ⟨_, rfl, hS1, hg1⟩
set_option maxHeartbeats 400000 in
theorem pick_any (xs : List Int) (g c : Nat) (T : TypeId) (w : World) (B sb m : Nat) (hS : Strm 25 w B sb m) (hm : m ≤ 1000000000000) (hx : 0 < xs.length) (hx2 : xs.length ≤ 1000000) (hg : Blk w g T (xs.map (Value.int .i64))) (hne : g ≠ sb) :
    Calls Tryz.prog 34 #[.pointer (some ⟨sb, 0, none⟩), .slice (some ⟨g, 0, none⟩) xs.length c] w (GotInt 25 w B sb (m + 1) (fun v => v ∈ xs)) := by
  obtain ⟨n, hn⟩ : ∃ n, n = xs.length := ⟨_, rfl⟩
  rw [← hn] at hx hx2 ⊢
  have Hn := Lib.hid hn; clear hn
  go_enter Tryz.func34, Tryz.ntmps34
  go_wp2_with fail
  refine (next_any _ _ B sb m hS hm (by omega) (by omega)).mono ?_
  rintro e w1 ⟨v, hv, rfl, hS1, hg1⟩
  have hv := isBelow_lt hv (by omega)
  obtain ⟨i, rfl⟩ := Int.eq_ofNat_of_zero_le hv.1
  have hi : i < n := by omega
  have hgb := hg.grown hg1 (by simpa using hne)
  obtain ⟨x, hx⟩ : ∃ x, xs[i]? = some x := ⟨_, List.getElem?_eq_getElem (by have := Hn.out; omega)⟩
  have hc : w1.cell? ⟨g, i, none⟩ = some (.int .i64 x) := hgb.cell_of (by simp [hx])
  have hmem : x ∈ xs := List.mem_of_getElem? hx
  clear hx hgb
  go_wp2_with fail
  go_ret
  exact ⟨x, hmem, rfl, hS1, hg1⟩
set_option maxHeartbeats 400000 in
theorem some_any (xs : List ByteArray) (g c : Nat) (T : TypeId) (w : World) (B sb m : Nat) (hS : Strm 25 w B sb m) (hm : m ≤ 1000000000000) (hx : 0 < xs.length) (hx2 : xs.length ≤ 1000000) (hg : Blk w g T (xs.map Value.string)) (hne : g ≠ sb) :
    Calls Tryz.prog 57 #[.pointer (some ⟨sb, 0, none⟩), .slice (some ⟨g, 0, none⟩) xs.length c] w (GotStr 25 w B sb (m + 1) (fun v => v ∈ xs)) := by
  obtain ⟨n, hn⟩ : ∃ n, n = xs.length := ⟨_, rfl⟩
  rw [← hn] at hx hx2 ⊢
  have Hn := Lib.hid hn; clear hn
  go_enter Tryz.func57, Tryz.ntmps57
  go_wp2_with fail
  refine (next_any _ _ B sb m hS hm (by omega) (by omega)).mono ?_
  rintro e w1 ⟨v, hv, rfl, hS1, hg1⟩
  have hv := isBelow_lt hv (by omega)
  obtain ⟨i, rfl⟩ := Int.eq_ofNat_of_zero_le hv.1
  have hi : i < n := by omega
  have hgb := hg.grown hg1 (by simpa using hne)
  obtain ⟨x, hx⟩ : ∃ x, xs[i]? = some x := ⟨_, List.getElem?_eq_getElem (by have := Hn.out; omega)⟩
  have hc : w1.cell? ⟨g, i, none⟩ = some (.string x) := hgb.cell_of (by simp [hx])
  have hmem : x ∈ xs := List.mem_of_getElem? hx
  clear hx hgb
  go_wp2_with fail
  go_ret
  exact ⟨x, hmem, rfl, hS1, hg1⟩
set_option maxHeartbeats 400000 in
theorem odd_any (lo hi : Int) (w : World) (B sb m : Nat) (hS : Strm 25 w B sb m) (hm : m ≤ 900000000000) (h1 : -1000000000000000 ≤ lo) (h2 : hi ≤ 1000000000000000) (h3 : lo ≤ hi) :
    Calls Tryz.prog 58 #[.pointer (some ⟨sb, 0, none⟩), .int .i64 lo, .int .i64 hi] w (GotInt 25 w B sb (m + 2) (fun v => -2000000000000000 ≤ v ∧ v ≤ 2000000000000000)) := by
  go_enter Tryz.func58, Tryz.ntmps58
  go_wp2_with fail
  refine (flip_any _ _ B sb m hS (by omega) (by omega) (by omega)).mono ?_
  rintro e w1 ⟨b, rfl, hS1, hg1⟩
  rcases b with _ | _
  · go_wp2_with fail
    refine (range_any _ _ _ B sb (m + 1) hS1 (by omega) (by omega) (by omega) (by omega) (by omega)).mono ?_
    rintro e w2 ⟨v, hv, rfl, hS2, hg2⟩
    go_wp2_with fail
    go_ret
    exact ⟨v, by omega, rfl, hS2, grow_trans hg1 hg2⟩
  · go_wp2_with fail
    refine (pick_any [lo - 1, hi + 1, lo, hi, -1099511627776, 1099511627776] _ _ _ _ B sb (m + 1) (hS1.alloc _) (by omega) (by simp) (by simp) (Blk.new _ _ _) (by have := hS1.lt; omega)).mono ?_
    rintro e w2 ⟨v, hv, rfl, hS2, hg2⟩
    go_wp2_with fail
    go_ret
    refine ⟨v, by simp at hv; omega, rfl, hS2, grow_trans hg1 (grow_trans (grow_alloc (World.grownBy.refl _ _) _) hg2)⟩
end Go.Proofs.YtnpcbfllnkiopaaGreatDoor
namespace Go.Proofs.YtnpcbfllnkiopaaGreatDoor
open Go.RowKit
def hourFr (hs : List Int) (d : Int) : Int := d * 1440 + frAt hs (d % 7).toNat
def hourTo (hs : List Int) (d : Int) : Int := d * 1440 + toAt hs (d % 7).toNat
end Go.Proofs.YtnpcbfllnkiopaaGreatDoor
namespace Go.Proofs.YtnpcbfllnkiopaaGreatDoor
open Go.RowKit
/-- The next opening from day d on; n days are left. -/
def nextFrom (hs : List Int) (at_ : Int) : Nat → Int → Option Int
  | 0, _ => none
  | n + 1, d => if max at_ (hourFr hs d) < hourTo hs d then some (max at_ (hourFr hs d)) else nextFrom hs at_ n (d + 1)
end Go.Proofs.YtnpcbfllnkiopaaGreatDoor
namespace Go.Proofs.YtnpcbfllnkiopaaGreatDoor
def frD (hs : List Int) (d : Int) : Int := frAt hs (d % 7).toNat
def toD (hs : List Int) (d : Int) : Int := toAt hs (d % 7).toNat
theorem hourFr_eq (hs : List Int) (d : Int) : hourFr hs d = d * 1440 + frD hs d := rfl
theorem hourTo_eq (hs : List Int) (d : Int) : hourTo hs d = d * 1440 + toD hs d := rfl
section
variable {hs : List Int} {at_ : Int}
theorem never (h : ∀ e, ¬ frD hs e < toD hs e) : ∀ (n : Nat) (d : Int), nextFrom hs at_ n d = none
  | 0, _ => rfl
  | n + 1, d => by
    have h1 := h d
    rw [nextFrom, if_neg (by rw [hourFr_eq, hourTo_eq]; omega)]
    exact never h n (d + 1)
end
end Go.Proofs.YtnpcbfllnkiopaaGreatDoor
namespace Go.Proofs.YtnpcbfllnkiopaaGreatDoor
open Go.RowKit
theorem ordE_ne {p0 e0 : Int} {p1 p2 e1 e2 p4 e4 : ByteArray} {p3 e3 : Int} (h : ¬ p0 = e0) : sgV3 (p0 - e0) = evOrd ⟨p0, p1, p2, p3, p4⟩ ⟨e0, e1, e2, e3, e4⟩ := by
  have h2 : cmpI p0 e0 ≠ 0 := fun e => h (cmpI_zero.1 e)
  have h3 : evOrd ⟨p0, p1, p2, p3, p4⟩ ⟨e0, e1, e2, e3, e4⟩ = cmpI p0 e0 := by simp [evOrd, firstE, h2]
  rw [h3]
  unfold sgV3 cmpI
  split <;> split <;> (try split) <;> (try split) <;> omega
theorem ordE_eq {p0 e0 : Int} {p1 p2 e1 e2 p4 e4 : ByteArray} {p3 e3 : Int} (h : p0 = e0) : cmpS p1 e1 = evOrd ⟨p0, p1, p2, p3, p4⟩ ⟨e0, e1, e2, e3, e4⟩ := by
  have h2 : cmpI p0 e0 = 0 := cmpI_zero.2 h
  by_cases h3 : cmpS p1 e1 = 0
  · simp [evOrd, firstE, h2, h3]
  · simp only [evOrd, firstE, h2, if_true, if_neg h3]
theorem eventOrder_any (p0 : Int) (p1 p2 : ByteArray) (p3 : Int) (p4 : ByteArray) (e0 : Int) (e1 e2 : ByteArray) (e3 : Int) (e4 : ByteArray) (w : World) (hp : -4000000000000000000 ≤ p0 ∧ p0 ≤ 4000000000000000000) (he : -4000000000000000000 ≤ e0 ∧ e0 ≤ 4000000000000000000) : Calls Tryz.prog 88 #[.agg #[.int .i64 p0, .string p1, .string p2, .int .i64 p3, .string p4], .agg #[.int .i64 e0, .string e1, .string e2, .int .i64 e3, .string e4]] w (GotE w (evOrd (⟨p0, p1, p2, p3, p4⟩ : Ev) (⟨e0, e1, e2, e3, e4⟩ : Ev))) := by
 refine gw_enter ⟨21, w, none, []⟩ Tryz.func88 rfl Tryz.ntmps88 rfl (mem0 (X := []) allF_nil allL_nil) ?_
 refine sr_ ?_
 refine wl_box rfl rfl rfl fun g1 => ?_
 refine wl_box rfl rfl rfl fun g2 => ?_
 refine sg_ rfl (nn_ (gw_seq (sr_ (fd_ fo54_0 rfl rfl (lk_ sc3 1 rfl rfl rfl (fd_ fo54_0 rfl rfl (lk_ sc3 0 rfl rfl rfl (wl_ov (ov_neq rfl rfl) rfl (nn_ ?_)))))))))
 refine gw_cond rfl (fun hh => ?_) (fun hh => ?_)
 ·have hne : ¬ (p0 = e0) := by simpa using hh
  clear hh
  refine sr_ (fd_ fo54_0 rfl rfl (lk_ sc3 1 rfl rfl rfl (fd_ fo54_0 rfl rfl (lk_ sc3 0 rfl rfl rfl ?_))))
  refine wl_ov (ov_sub rfl rfl (by omega) (by omega)) rfl ?_
  refine wl_callv rfl cb178 rfl rfl (fun wx hm => (sign3_any _ wx)) ?_
  refine sg_ rfl (nn_ ?_)
  refine gw_ret ?_
  refine nx_then_ret ?_
  refine nx_ret1 rfl rfl fun wx hm => ?_
  exact ⟨ret_int (ordE_ne hne), hm.g⟩
 have hne : p0 = e0 := by simpa using hh
 clear hh
 refine gw_skip (nx_then (sr_ (fd_ fo54_1 rfl rfl (lk_ sc9 1 rfl rfl rfl (fd_ fo54_1 rfl rfl (lk_ sc9 0 rfl rfl rfl ?_))))))
 refine wl_callv rfl cb143 rfl rfl (fun wx hm => (strCompare_any _ _ wx)) ?_
 refine sg_ rfl (nn_ ?_)
 refine gw_ret ?_
 refine nx_ret1 rfl rfl fun wx hm => ?_
 exact ⟨ret_int (ordE_eq hne), hm.g⟩
end Go.Proofs.YtnpcbfllnkiopaaGreatDoor
namespace Go.Proofs.YtnpcbfllnkiopaaGreatDoor
open Go.RowKit
/-- The events of a leg, and of legs. -/
def legEv (g : Lg) : List Ev := ⟨g.out.at_, g.veh, g.out.st, 2, ⟨#[]⟩⟩ :: (if g.inn.at_ = -1 then [] else [⟨g.inn.at_, g.veh, g.inn.st, 3, ⟨#[]⟩⟩])
def hirEvs (l : List Lg) : List Ev := l.flatMap legEv
theorem hirEvs_at {l : List Lg} {i : Nat} {x : Lg} (h : l[i]? = some x) : hirEvs (l.take (i + 1)) = hirEvs (l.take i) ++ legEv x := by
  unfold hirEvs
  rw [List.take_add_one, h, Option.toList_some, List.flatMap_append]; simp
theorem legEv_no {g : Lg} (h : g.inn.at_ = -1) : legEv g = [⟨g.out.at_, g.veh, g.out.st, 2, ⟨#[]⟩⟩] := by unfold legEv; rw [if_pos h]
theorem legEv_in {g : Lg} (h : ¬ g.inn.at_ = -1) : legEv g = [⟨g.out.at_, g.veh, g.out.st, 2, ⟨#[]⟩⟩, ⟨g.inn.at_, g.veh, g.inn.st, 3, ⟨#[]⟩⟩] := by unfold legEv; rw [if_neg h]
theorem legEv_ok {g : Lg} (h : LgB g) : ∀ x ∈ legEv g, EvOk x := fun x hx => by
  obtain ⟨h1, ⟨o1, o2, _⟩, ⟨i1, i2, _⟩⟩ := h
  have z : (⟨#[]⟩ : ByteArray).size = 0 := rfl
  by_cases h6 : g.inn.at_ = -1
  · rw [legEv_no h6, List.mem_singleton] at hx
    subst hx
    exact ⟨by dsimp only; omega, by dsimp only; omega, by dsimp only; omega, by dsimp only; omega, by dsimp only; omega⟩
  · rw [legEv_in h6] at hx
    simp only [List.mem_cons, List.not_mem_nil, or_false] at hx
    rcases hx with rfl | rfl
    · exact ⟨by dsimp only; omega, by dsimp only; omega, by dsimp only; omega, by dsimp only; omega, by dsimp only; omega⟩
    · exact ⟨by dsimp only; omega, by dsimp only; omega, by dsimp only; omega, by dsimp only; omega, by dsimp only; omega⟩
theorem hirEvs_ok {l : List Lg} (h : ∀ g ∈ l, LgB g) : ∀ x ∈ hirEvs l, EvOk x := fun x hx => by
  obtain ⟨g, hg, hx2⟩ := List.mem_flatMap.1 hx
  exact legEv_ok (h g hg) x hx2
def evLt (x y : Ev) : Bool := decide (evOrd x y < 0)
theorem hEv1_any (p0 : Int) (p1 p2 : ByteArray) (p3 : Int) (p4 : ByteArray) (e0 : Int) (e1 e2 : ByteArray) (e3 : Int) (e4 : ByteArray) (w : World) : Calls Tryz.prog 82 #[.agg #[.int .i64 p0, .string p1, .string p2, .int .i64 p3, .string p4], .agg #[.int .i64 e0, .string e1, .string e2, .int .i64 e3, .string e4]] w (GotE w (evOrd (⟨p0, p1, p2, p3, p4⟩ : Ev) (⟨e0, e1, e2, e3, e4⟩ : Ev))) := by
 refine gw_enter ⟨17, w, none, []⟩ Tryz.func82 rfl Tryz.ntmps82 rfl (mem0 (X := []) allF_nil allL_nil) ?_
 refine sr_ ?_
 refine wl_box rfl rfl rfl fun g1 => ?_
 refine wl_box rfl rfl rfl fun g2 => ?_
 refine sg_ rfl (nn_ (gw_seq ?_))
 refine gd (fun wz => Blk wz g2 54 [.int .i64 e0, .string e1, .string e2, .int .i64 e3, .string e4] ∧ Blk wz g1 54 [.int .i64 p0, .string p1, .string p2, .int .i64 p3, .string p4] ∧ True) mixed (fun _ hm => ⟨hm.bl 0, hm.bl 1, trivial⟩) fun z => ?_
 refine wt 0 13 1 rfl z (ov_field fo54_0 rfl rfl) ?_
 refine wt 1 13 3 rfl z (ov_load sc3 rfl (fun _ hm => hm.2.1) rfl) ?_
 refine wt 2 13 7 rfl z (ov_field fo54_0 rfl rfl) ?_
 refine wt 3 13 15 rfl z (ov_load sc3 rfl (fun _ hm => hm.1) rfl) ?_
 refine wt 5 13 47 rfl z (ov_field fo54_1 rfl rfl) ?_
 refine wt 6 13 111 rfl z (ov_load sc9 rfl (fun _ hm => hm.2.1) rfl) ?_
 refine wt 7 13 239 rfl z (ov_field fo54_1 rfl rfl) ?_
 refine wt 8 13 495 rfl z (ov_load sc9 rfl (fun _ hm => hm.1) rfl) ?_
 refine wa1 4 rfl ?_
 refine wl_callv rfl cb84 rfl rfl (fun wx hm => (cmp_int _ _ wx)) ?_
 refine wl_nil ?_
 refine nw 13 511 (fun _ hm => ⟨hm.bl 0, hm.bl 1, trivial⟩) fun z => ?_
 refine wa1 9 rfl ?_
 refine wl_callv rfl cb85 rfl rfl (fun wx hm => (cmp_string _ _ wx)) ?_
 refine wl_nil ?_
 refine nw 13 1023 (fun _ hm => ⟨hm.bl 0, hm.bl 1, trivial⟩) fun z => ?_
 refine wa1 10 rfl ?_
 refine wl_buildSlice (e := 3) (cs := [.int .i64 (cmpI p0 e0), .int .i64 (cmpS p1 e1)]) rfl (by kernel_rfl) rfl fun g3 => ?_
 refine wl_nil ?_
 refine nw 13 2047 (fun _ hm => ⟨hm.bl 1, hm.bl 2, trivial⟩) fun z => ?_
 refine wa1 11 rfl ?_
 refine wl_callv rfl cb83 rfl rfl (fun wx hm => (or_two _ _ _ _ _ wx (hm.blkI 0 rfl))) ?_
 refine wl_nil ?_
 refine nw 13 4095 (fun _ hm => ⟨hm.bl 1, hm.bl 2, trivial⟩) fun z => ?_
 refine wt 12 13 8191 rfl z (ov_assign rfl) ?_
 refine wa_done (by kernel_rfl) ?_
 refine nx_then ?_
 refine gw_ret ?_
 refine nx_ret1 rfl rfl fun wx hm => ?_
 exact ⟨ret_int (by unfold evOrd; rfl), hm.g⟩
theorem ins_he  (l0 : List Ev) (br n cap base : Nat) (w : World) (h : w.ownsRow base 54 5 (.slice (some ⟨br, 0, none⟩) n cap) n (l0.flatMap evEnc)) (hl0 : l0.length = n) (hn : n ≤ 1000000)  :
  Calls Tryz.prog 247 #[.slice (some ⟨br, 0, none⟩) n cap, .int .i64 0, .int .i64 ((n : Nat) : Int), .func (.func 82) #[] #[]] w (fun e w' => e = .returned (.tuple #[]) ∧ w'.ownsRow base 54 5 (.slice (some ⟨br, 0, none⟩) n cap) n ((isort (evLt) l0).flatMap evEnc) ∧ w.grownBy w' (some br)) := by
 obtain ⟨R, hR⟩ : ∃ z, z = isort (evLt) l0 := ⟨_, rfl⟩
 rw [← hR]
 refine gw_enter ⟨53, w, (some br), []⟩ Tryz.func247 rfl Tryz.ntmps247 rfl (memR (X := []) h allF_nil allL_nil) ?_
 refine sr_ (mv_ rfl (ad_ rfl rfl ?_))
 refine wl_set 11 (v' := .int .i64 1) rfl rfl ?_
 refine sg_ rfl (nn_ (gw_block ?_))
 refine gw_loop (γ := Nat × List Ev) (fun gg => (1 ≤ gg.1 ∧ gg.1 ≤ n + 1) ∧ gg.2.length = n ∧ isortF (evLt) (n - gg.1) gg.1 gg.2 = R) (fun gg => [(0, .slice (some ⟨br, 0, none⟩) n cap), (1, .int .i64 0), (2, .int .i64 ((n : Nat) : Int)), (3, .func (.func 82) #[] #[]), (8, .int .i64 ((gg.1 : Nat) : Int))]) (fun gg => RowK base 54 5 n cap br ((gg.2).flatMap evEnc)) (fun gg => []) (fun gg => []) (fun gg => []) (fun gg => n + 1 - gg.1) (1, l0) ⟨⟨Nat.le_refl _, by omega⟩, hl0, by rw [hR]; unfold isort; rw [hl0]⟩ ⟨rfl, rfl, rfl, rfl, (some_int (by omega)), trivial⟩ (fun _ hm => hm.pick [] [] [] rfl rfl) ?_
 rintro ⟨i, l⟩ hinv
 replace hinv : (1 ≤ i ∧ i ≤ n + 1) ∧ l.length = n ∧ isortF (evLt) (n - i) i l = R := hinv
 dsimp only
 refine gw_seq (sr_ ?_)
 obtain ⟨⟨hi1, hi2⟩, hl1, hR1⟩ := hinv
 refine mv_ rfl (mv_ rfl (wl_ov (ov_lss rfl rfl) rfl (nn_ ?_)))
 refine gw_cond rfl (fun hh => ?_) (fun hh => ?_)
 ·have hi : ((i : Nat) : Int) < ((n : Nat) : Int) := by simpa using hh
  clear hh
  refine gw_skip (nx_then (gw_seq (gw_block (sr_ ?_))))
  have hRi : isortF (evLt) (n - (i + 1)) (i + 1) (sink (evLt) i l) = R := by rw [← hR1, show n - i = (n - (i + 1)) + 1 by omega]; rfl
  obtain ⟨S, hS⟩ : ∃ z, z = sink (evLt) i l := ⟨_, rfl⟩
  rw [← hS] at hRi
  have hSl : S.length = n := by rw [hS, sink_len]; exact hl1
  refine mv_ rfl (sg_ rfl (nn_ (gw_block ?_)))
  refine gw_loop (γ := Nat × List Ev) (fun gg => (gg.1 ≤ i) ∧ gg.2.length = n ∧ sink (evLt) gg.1 gg.2 = S) (fun gg => [(0, .slice (some ⟨br, 0, none⟩) n cap), (1, .int .i64 0), (2, .int .i64 ((n : Nat) : Int)), (3, .func (.func 82) #[] #[]), (8, .int .i64 ((i : Nat) : Int)), (9, .int .i64 ((gg.1 : Nat) : Int))]) (fun gg => RowK base 54 5 n cap br ((gg.2).flatMap evEnc)) (fun gg => []) (fun gg => []) (fun gg => []) (fun gg => gg.1) (i, l) ⟨Nat.le_refl _, hl1, hS.symm⟩ ⟨rfl, rfl, rfl, rfl, rfl, rfl, trivial⟩ (fun _ hm => hm.pick [] [] [] rfl rfl) ?_
  rintro ⟨jj, m⟩ hinv
  replace hinv : (jj ≤ i) ∧ m.length = n ∧ sink (evLt) jj m = S := hinv
  dsimp only
  refine gw_seq (gw_seq ?_)
  obtain ⟨hj1, hm1, hS1⟩ := hinv
  rcases jj with _ | j
  ·refine gd (fun wz => True) mixed (fun _ _ => trivial) fun z => ?_
   refine wt 0 17 1 rfl z (ov_move rfl) ?_
   refine wa_set 18 (v' := .int .i64 0) rfl rfl ?_
   refine wt 1 17 3 rfl z (ov_move rfl) ?_
   refine wt 2 17 7 rfl z (ov_gtr rfl rfl) ?_
   refine wa_set 20 (v' := .bool false) rfl (congrArg Value.bool (by decide)) ?_
   refine wt 3 17 15 rfl z (ov_move rfl) ?_
   refine wtf 4 17 31 rfl rfl rfl z ?_
   refine wtf 5 17 63 rfl rfl rfl z ?_
   refine wtf 6 17 127 rfl rfl rfl z ?_
   refine wtf 7 17 255 rfl rfl rfl z ?_
   refine wtf 8 17 511 rfl rfl rfl z ?_
   refine wtf 9 17 1023 rfl rfl rfl z ?_
   refine wtf 10 17 2047 rfl rfl rfl z ?_
   refine wtf 11 17 4095 rfl rfl rfl z ?_
   refine wtf 12 17 8191 rfl rfl rfl z ?_
   refine wtf 13 17 16383 rfl rfl rfl z ?_
   refine wtf 14 17 32767 rfl rfl rfl z ?_
   refine wtf 15 17 65535 rfl rfl rfl z ?_
   refine wt 16 17 131071 rfl z (ov_pick_f rfl rfl) ?_
   refine wa_done (by kernel_rfl) ?_
   refine nx_then (cf_ rfl ?_)
   refine gw_exit ?_
   refine nx_then_exit (nx_then_exit ?_)
   refine nx_blk_here ?_
   refine nx_blk_nrm (nx_then (gw_region (mv_ rfl (ad_ rfl rfl (sg_ rfl (wl_nil ?_))))))
   have hm2 : m = S := hS1
   exact nx_round (i + 1, m) ⟨⟨by dsimp only; omega, by dsimp only; omega⟩, by rw [hm2]; exact hSl, by rw [hm2]; exact hRi⟩ (by dsimp only; omega) ⟨rfl, rfl, rfl, rfl, (some_int (by omega)), trivial⟩ (fun _ hm => hm.pick [] [] [] rfl rfl)
  have hj2 : j + 1 < n := by omega
  obtain ⟨xx, hx⟩ : ∃ x, m[j + 1]? = some x := ⟨_, List.getElem?_eq_getElem (by omega)⟩
  obtain ⟨x0, x1, x2, x3, x4⟩ := xx
  obtain ⟨yy, hy⟩ : ∃ x, m[j]? = some x := ⟨_, List.getElem?_eq_getElem (by omega)⟩
  obtain ⟨y0, y1, y2, y3, y4⟩ := yy
  refine gd (fun wz => (RowK base 54 5 n cap br ((m).flatMap evEnc)) wz ∧ True) mixed (fun _ hm => ⟨hm.k, trivial⟩) fun z => ?_
  refine wt 0 17 1 rfl z (ov_move rfl) ?_
  refine wt 1 17 3 rfl z (ov_move rfl) ?_
  refine wt 2 17 7 rfl z (ov_gtr rfl rfl) ?_
  refine wa_set 20 (v' := .bool true) rfl (congrArg Value.bool (decide_eq_true (by omega))) ?_
  refine wt 3 17 15 rfl z (ov_move rfl) ?_
  refine wto 4 17 31 rfl rfl rfl z (ov_move rfl) ?_
  refine wto 5 17 63 rfl rfl rfl z (ov_move rfl) ?_
  refine wto 6 17 127 rfl rfl rfl z (ov_move rfl) ?_
  refine wto 7 17 255 rfl rfl rfl z (ov_index (j := (j + 1)) es47 rfl rfl (by omega)) ?_
  refine wto 8 17 511 rfl rfl rfl z (ov_elem (vs := [.int .i64 x0, .string x1, .string x2, .int .i64 x3, .string x4]) rz54 rfl (fun _ hm => (RowK.get (hm.1) ev_len hm1)) hx rfl rfl) ?_
  refine wto 9 17 1023 rfl rfl rfl z (ov_move rfl) ?_
  refine wto 10 17 2047 rfl rfl rfl z (ov_move rfl) ?_
  refine wto 11 17 4095 rfl rfl rfl z (ov_sub rfl rfl (by omega) (by omega)) ?_
  refine wa_set 29 (v' := .int .i64 ((j : Nat) : Int)) rfl (congrArg (Value.int .i64) (by omega)) ?_
  refine wto 12 17 8191 rfl rfl rfl z (ov_index (j := j) es47 rfl rfl (by omega)) ?_
  refine wto 13 17 16383 rfl rfl rfl z (ov_elem (vs := [.int .i64 y0, .string y1, .string y2, .int .i64 y3, .string y4]) rz54 rfl (fun _ hm => (RowK.get (hm.1) ev_len hm1)) hy rfl rfl) ?_
  refine wa1 14 rfl ?_
  refine wl_guard_on rfl rfl rfl ?_
  refine wl_callv rfl cb82 rfl rfl (fun wx hm => (hEv1_any x0 x1 x2 x3 x4 y0 y1 y2 y3 y4 wx)) ?_
  refine wl_nil ?_
  refine nw 17 32767 (fun _ hm => ⟨hm.k, trivial⟩) fun z => ?_
  refine wto 15 17 65535 rfl rfl rfl z (ov_lss rfl rfl) ?_
  refine wt 16 17 131071 rfl z (ov_pick_t rfl rfl) ?_
  refine wa_done (by kernel_rfl) ?_
  refine nx_then ?_
  refine gw_cond rfl (fun hh => ?_) (fun hh => ?_)
  ·have hlt : evOrd ⟨x0, x1, x2, x3, x4⟩ ⟨y0, y1, y2, y3, y4⟩ < 0 := by simpa using hh
   clear hh
   refine gw_skip (nx_then (gw_seq (gw_block ?_)))
   have hlt2 : (evLt) ⟨x0, x1, x2, x3, x4⟩ ⟨y0, y1, y2, y3, y4⟩ = true := decide_eq_true (show evOrd ⟨x0, x1, x2, x3, x4⟩ ⟨y0, y1, y2, y3, y4⟩ < 0 from hlt)
   have hS2 := (sink_yes hx hy hlt2).symm.trans hS1
   refine gd (fun wz => True) mixed (fun _ _ => trivial) fun z => ?_
   refine wt 0 18 1 rfl z (ov_move rfl) ?_
   refine wt 1 18 3 rfl z (ov_move rfl) ?_
   refine wt 2 18 7 rfl z (ov_move rfl) ?_
   refine wt 3 18 15 rfl z (ov_move rfl) ?_
   refine wt 4 18 31 rfl z (ov_sub rfl rfl (by omega) (by omega)) ?_
   refine wa_set 41 (v' := .int .i64 ((j : Nat) : Int)) rfl (congrArg (Value.int .i64) (by omega)) ?_
   refine wt 5 18 63 rfl z (ov_move rfl) ?_
   refine wt 6 18 127 rfl z (ov_move rfl) ?_
   refine wt 7 18 255 rfl z (ov_sub rfl rfl (by omega) (by omega)) ?_
   refine wa_set 44 (v' := .int .i64 ((j : Nat) : Int)) rfl (congrArg (Value.int .i64) (by omega)) ?_
   refine wt 8 18 511 rfl z (ov_index (j := j) es47 rfl rfl (by omega)) ?_
   refine wt 10 18 1535 rfl z (ov_move rfl) ?_
   refine wt 11 18 3583 rfl z (ov_move rfl) ?_
   refine wt 12 18 7679 rfl z (ov_index (j := (j + 1)) es47 rfl rfl (by omega)) ?_
   refine wa_all [9, 13] (by kernel_rfl) rfl ⟨⟨_, rfl, ?_⟩, ⟨_, rfl, ?_⟩, trivial⟩
   ·refine wl_ov (ov_elem (vs := [.int .i64 y0, .string y1, .string y2, .int .i64 y3, .string y4]) rz54 rfl (fun _ hm => (RowK.get hm.k ev_len hm1)) hy rfl rfl) rfl ?_
    refine wl_nil ?_
    refine nw 18 8191 (fun _ _ => trivial) fun z => ?_
    refine wa1 13 rfl ?_
    refine wl_ov (ov_elem (vs := [.int .i64 x0, .string x1, .string x2, .int .i64 x3, .string x4]) rz54 rfl (fun _ hm => (RowK.get hm.k ev_len hm1)) hx rfl rfl) rfl ?_
    refine wl_nil ?_
    refine nw 18 16383 (fun _ _ => trivial) fun z => ?_
    refine wt 14 18 32767 rfl z (ov_index (j := (j + 1)) es47 rfl rfl (by omega)) ?_
    refine wa1 15 rfl ?_
    refine wl_storesRow (l := m) (j := j + 1) (r := 0) (el := ⟨x0, x1, x2, x3, x4⟩) (el' := ⟨y0, y1, y2, y3, y4⟩) rfl rz54 rfl rfl rfl rfl ev_len rfl hx hm1 (by decide) rfl rfl ?_
    refine wl_nil ?_
    refine nw 18 65535 (fun _ _ => trivial) fun z => ?_
    refine wt 16 18 131071 rfl z (ov_index (j := j) es47 rfl rfl (by omega)) ?_
    refine wa1 17 rfl ?_
    refine wl_storesRow (l := m.set (j + 1) ⟨y0, y1, y2, y3, y4⟩) (j := j) (r := 0) (el := ⟨y0, y1, y2, y3, y4⟩) (el' := ⟨x0, x1, x2, x3, x4⟩) rfl rz54 rfl rfl rfl rfl ev_len rfl (by rw [List.getElem?_set_ne (by omega)]; exact hy) (by rw [List.length_set]; exact hm1) (by decide) rfl rfl ?_
    refine wl_nil ?_
    refine nw 18 262143 (fun _ _ => trivial) fun z => ?_
    refine wa_done (by kernel_rfl) ?_
    refine nx_blk_nrm (nx_then (gw_region (mv_ rfl ?_)))
    refine wl_ov (ov_sub rfl rfl (by omega) (by omega)) rfl ?_
    refine wl_set 36 (v' := .int .i64 ((j : Nat) : Int)) rfl (congrArg (Value.int .i64) (by omega)) ?_
    refine sg_ rfl (wl_nil ?_)
    exact nx_round (j, (m.set (j + 1) ⟨y0, y1, y2, y3, y4⟩).set j ⟨x0, x1, x2, x3, x4⟩) ⟨by dsimp only; omega, by simp [hm1], hS2⟩ (by dsimp only; omega) ⟨rfl, rfl, rfl, rfl, rfl, (some_int (by omega)), trivial⟩ (fun _ hm => hm.pick [] [] [] rfl rfl)
   refine wl_ov (ov_elem (vs := [.int .i64 x0, .string x1, .string x2, .int .i64 x3, .string x4]) rz54 rfl (fun _ hm => (RowK.get hm.k ev_len hm1)) hx rfl rfl) rfl ?_
   refine wl_nil ?_
   refine nw 18 15871 (fun _ _ => trivial) fun z => ?_
   refine wa1 9 rfl ?_
   refine wl_ov (ov_elem (vs := [.int .i64 y0, .string y1, .string y2, .int .i64 y3, .string y4]) rz54 rfl (fun _ hm => (RowK.get hm.k ev_len hm1)) hy rfl rfl) rfl ?_
   refine wl_nil ?_
   refine nw 18 16383 (fun _ _ => trivial) fun z => ?_
   refine wt 14 18 32767 rfl z (ov_index (j := (j + 1)) es47 rfl rfl (by omega)) ?_
   refine wa1 15 rfl ?_
   refine wl_storesRow (l := m) (j := j + 1) (r := 0) (el := ⟨x0, x1, x2, x3, x4⟩) (el' := ⟨y0, y1, y2, y3, y4⟩) rfl rz54 rfl rfl rfl rfl ev_len rfl hx hm1 (by decide) rfl rfl ?_
   refine wl_nil ?_
   refine nw 18 65535 (fun _ _ => trivial) fun z => ?_
   refine wt 16 18 131071 rfl z (ov_index (j := j) es47 rfl rfl (by omega)) ?_
   refine wa1 17 rfl ?_
   refine wl_storesRow (l := m.set (j + 1) ⟨y0, y1, y2, y3, y4⟩) (j := j) (r := 0) (el := ⟨y0, y1, y2, y3, y4⟩) (el' := ⟨x0, x1, x2, x3, x4⟩) rfl rz54 rfl rfl rfl rfl ev_len rfl (by rw [List.getElem?_set_ne (by omega)]; exact hy) (by rw [List.length_set]; exact hm1) (by decide) rfl rfl ?_
   refine wl_nil ?_
   refine nw 18 262143 (fun _ _ => trivial) fun z => ?_
   refine wa_done (by kernel_rfl) ?_
   refine nx_blk_nrm (nx_then (gw_region (mv_ rfl ?_)))
   refine wl_ov (ov_sub rfl rfl (by omega) (by omega)) rfl ?_
   refine wl_set 36 (v' := .int .i64 ((j : Nat) : Int)) rfl (congrArg (Value.int .i64) (by omega)) ?_
   refine sg_ rfl (wl_nil ?_)
   exact nx_round (j, (m.set (j + 1) ⟨y0, y1, y2, y3, y4⟩).set j ⟨x0, x1, x2, x3, x4⟩) ⟨by dsimp only; omega, by simp [hm1], hS2⟩ (by dsimp only; omega) ⟨rfl, rfl, rfl, rfl, rfl, (some_int (by omega)), trivial⟩ (fun _ hm => hm.pick [] [] [] rfl rfl)
  have hlt : ¬ (evOrd ⟨x0, x1, x2, x3, x4⟩ ⟨y0, y1, y2, y3, y4⟩ < 0) := by simpa using hh
  clear hh
  refine gw_exit ?_
  refine nx_then_exit (nx_then_exit ?_)
  refine nx_blk_here ?_
  refine nx_blk_nrm (nx_then (gw_region ?_))
  have hlt2 : (evLt) ⟨x0, x1, x2, x3, x4⟩ ⟨y0, y1, y2, y3, y4⟩ = false := decide_eq_false (show ¬ evOrd ⟨x0, x1, x2, x3, x4⟩ ⟨y0, y1, y2, y3, y4⟩ < 0 from hlt)
  have hS2 := (sink_no hx hy hlt2).symm.trans hS1
  refine mv_ rfl (ad_ rfl rfl (sg_ rfl (wl_nil ?_)))
  have hm2 : m = S := hS2
  exact nx_round (i + 1, m) ⟨⟨by dsimp only; omega, by dsimp only; omega⟩, by rw [hm2]; exact hSl, by rw [hm2]; exact hRi⟩ (by dsimp only; omega) ⟨rfl, rfl, rfl, rfl, (some_int (by omega)), trivial⟩ (fun _ hm => hm.pick [] [] [] rfl rfl)
 have hi : ¬ (((i : Nat) : Int) < ((n : Nat) : Int)) := by simpa using hh
 clear hh
 refine gw_exit ?_
 refine nx_then_exit (nx_then_exit ?_)
 refine nx_blk_here ?_
 obtain rfl : l = R := by rw [← hR1, show n - i = 0 by omega]; rfl
 refine nx_ret0 rfl fun wx hm => ?_
 exact ⟨rfl, fin_row hm.k hm.g⟩
theorem stb_he (l0 : List Ev) (br n cap base : Nat) (w : World) (h : w.ownsRow base 54 5 (.slice (some ⟨br, 0, none⟩) n cap) n (l0.flatMap evEnc)) (hl0 : l0.length = n) (hn : n ≤ 19)  :
  Calls Tryz.prog 174 #[.slice (some ⟨br, 0, none⟩) n cap, .int .i64 ((n : Nat) : Int), .func (.func 82) #[] #[]] w (fun e w' => e = .returned (.tuple #[]) ∧ w'.ownsRow base 54 5 (.slice (some ⟨br, 0, none⟩) n cap) n ((isort evLt l0).flatMap evEnc) ∧ w.grownBy w' (some br)) := by
 refine gw_enter ⟨63, w, (some br), []⟩ Tryz.func174 rfl Tryz.ntmps174 rfl (memR (X := []) h allF_nil allL_nil) ?_
 refine sr_ (sg_ rfl (nn_ (sr_ (mv_ rfl (sg_ rfl (sg_ rfl (nn_ (gw_seq (gw_block ?_)))))))))
 refine gw_rounds 1 ?_
 refine gr_next ?_
 refine gw_seq (sr_ (mv_ rfl (mv_ rfl (wl_ov (ov_leq rfl rfl) rfl ?_))))
 refine wl_set 13 (v' := .bool false) rfl (congrArg Value.bool (decide_eq_false (by omega))) ?_
 refine nn_ (cf_ rfl ?_)
 refine gw_exit ?_
 refine nx_then_exit (nx_then_exit ?_)
 refine nx_blk_here ?_
 refine nx_then (sr_ (mv_ rfl (mv_ rfl (mv_ rfl (mv_ rfl ?_)))))
 refine wl_callK rfl rfl rfl cb247 rfl rfl (fun wx hm => (ins_he l0 br n cap base wx hm.k hl0 (by omega) )) ?_
 refine nn_ (gw_block ?_)
 refine gw_rounds 1 ?_
 refine gr_next ?_
 refine gw_seq (sr_ (mv_ rfl (mv_ rfl (wl_ov (ov_lss rfl rfl) rfl ?_))))
 refine wl_set 30 (v' := .bool false) rfl (congrArg Value.bool (decide_eq_false (by omega))) ?_
 refine nn_ (cf_ rfl ?_)
 refine gw_exit ?_
 refine nx_then_exit (nx_then_exit ?_)
 refine nx_blk_here ?_
 refine nx_ret0 rfl fun wx hm => ?_
 exact ⟨rfl, fin_row hm.k hm.g⟩
set_option maxRecDepth 100000 in
set_option maxHeartbeats 400000 in
theorem stable_he (l0 : List Ev) (br n cap base : Nat) (w : World) (h : w.ownsRow base 54 5 (.slice (some ⟨br, 0, none⟩) n cap) n (l0.flatMap evEnc)) (hl0 : l0.length = n) (hn : n ≤ 19)  :
    Calls Tryz.prog 81 #[.slice (some ⟨br, 0, none⟩) n cap, .func (.func 82) #[] #[]] w (fun e w' => e = .returned (.tuple #[]) ∧ w'.ownsRow base 54 5 (.slice (some ⟨br, 0, none⟩) n cap) n ((isort evLt l0).flatMap evEnc) ∧ w.grownBy w' (some br)) := by
  refine gw_enter ⟨9, w, (some br), []⟩ Tryz.func81 rfl Tryz.ntmps81 rfl (memR (X := []) h allF_nil allL_nil) ?_
  refine gw_region ?_
  refine wl_ov (ov_move rfl) rfl ?_
  refine wl_ov (ov_move rfl) rfl ?_
  refine wl_ov (ov_len es47 rfl) rfl ?_
  refine wl_ov (ov_move rfl) rfl ?_
  refine wl_callK rfl rfl rfl cb174 rfl rfl (fun wx hm => (stb_he l0 br n cap base wx hm.k hl0 hn )) ?_
  refine wl_nil ?_
  refine nx_ret0 rfl fun wx hm => ?_
  exact ⟨rfl, fin_row hm.k hm.g⟩
theorem ins0_he (A : Option Addr) (cap : Nat) (w : World) : Calls Tryz.prog 247 #[.slice A 0 cap, .int .i64 0, .int .i64 0, .func (.func 82) #[] #[]] w (fun e w' => e = .returned (.tuple #[]) ∧ w.grownBy w' none) := by
 refine gw_enter ⟨53, w, none, []⟩ Tryz.func247 rfl Tryz.ntmps247 rfl (mem0 (X := []) allF_nil allL_nil) ?_
 refine sr_ (mv_ rfl (ad_ rfl rfl ?_))
 refine wl_set 11 (v' := .int .i64 1) rfl rfl ?_
 refine sg_ rfl (nn_ (gw_block ?_))
 refine gw_rounds 1 ?_
 refine gr_next ?_
 refine gw_seq (sr_ (mv_ rfl (mv_ rfl (wl_ov (ov_lss rfl rfl) rfl ?_))))
 refine wl_set 14 (v' := .bool false) rfl (congrArg Value.bool (by decide)) ?_
 refine nn_ (cf_ rfl ?_)
 refine gw_exit ?_
 refine nx_then_exit (nx_then_exit ?_)
 refine nx_blk_here ?_
 refine nx_ret0 rfl fun wx hm => ?_
 exact ⟨rfl, hm.g⟩
theorem stb0_he (A : Option Addr) (cap : Nat) (w : World) : Calls Tryz.prog 174 #[.slice A 0 cap, .int .i64 0, .func (.func 82) #[] #[]] w (fun e w' => e = .returned (.tuple #[]) ∧ w.grownBy w' none) := by
 refine gw_enter ⟨63, w, none, []⟩ Tryz.func174 rfl Tryz.ntmps174 rfl (mem0 (X := []) allF_nil allL_nil) ?_
 refine sr_ (sg_ rfl (nn_ (sr_ (mv_ rfl (sg_ rfl (sg_ rfl (nn_ (gw_seq (gw_block ?_)))))))))
 refine gw_rounds 1 ?_
 refine gr_next ?_
 refine gw_seq (sr_ (mv_ rfl (mv_ rfl (wl_ov (ov_leq rfl rfl) rfl ?_))))
 refine wl_set 13 (v' := .bool false) rfl (congrArg Value.bool (by decide)) ?_
 refine nn_ (cf_ rfl ?_)
 refine gw_exit ?_
 refine nx_then_exit (nx_then_exit ?_)
 refine nx_blk_here ?_
 refine nx_then (sr_ (mv_ rfl (mv_ rfl (mv_ rfl (mv_ rfl ?_)))))
 refine wl_callv rfl cb247 rfl rfl (fun wx hm => (ins0_he A cap wx)) ?_
 refine nn_ (gw_block ?_)
 refine gw_rounds 1 ?_
 refine gr_next ?_
 refine gw_seq (sr_ (mv_ rfl (mv_ rfl (wl_ov (ov_lss rfl rfl) rfl ?_))))
 refine wl_set 30 (v' := .bool false) rfl (congrArg Value.bool (by decide)) ?_
 refine nn_ (cf_ rfl ?_)
 refine gw_exit ?_
 refine nx_then_exit (nx_then_exit ?_)
 refine nx_blk_here ?_
 refine nx_ret0 rfl fun wx hm => ?_
 exact ⟨rfl, hm.g⟩
set_option maxRecDepth 100000 in
set_option maxHeartbeats 400000 in
theorem stable0_he (A : Option Addr) (cap : Nat) (w : World) : Calls Tryz.prog 81 #[.slice A 0 cap, .func (.func 82) #[] #[]] w (fun e w' => e = .returned (.tuple #[]) ∧ w.grownBy w' none) := by
  refine gw_enter ⟨9, w, none, []⟩ Tryz.func81 rfl Tryz.ntmps81 rfl (mem0 (X := []) allF_nil allL_nil) ?_
  refine gw_region ?_
  refine wl_ov (ov_move rfl) rfl ?_
  refine wl_ov (ov_move rfl) rfl ?_
  refine wl_ov (ov_len es47 rfl) rfl ?_
  refine wl_set 6 (v' := .int .i64 0) rfl rfl ?_
  refine wl_ov (ov_move rfl) rfl ?_
  refine wl_callv rfl cb174 rfl rfl (fun wx hm => (stb0_he A cap wx)) ?_
  refine wl_nil ?_
  refine nx_ret0 rfl fun wx hm => ?_
  exact ⟨rfl, hm.g⟩
theorem ins_eo  (l0 : List Ev) (br n cap base : Nat) (w : World) (h : w.ownsRow base 54 5 (.slice (some ⟨br, 0, none⟩) n cap) n (l0.flatMap evEnc)) (hl0 : l0.length = n) (hn : n ≤ 1000000) (hall : ∀ x ∈ l0, EvOk x) :
  Calls Tryz.prog 247 #[.slice (some ⟨br, 0, none⟩) n cap, .int .i64 0, .int .i64 ((n : Nat) : Int), .func (.func 88) #[] #[]] w (fun e w' => e = .returned (.tuple #[]) ∧ w'.ownsRow base 54 5 (.slice (some ⟨br, 0, none⟩) n cap) n ((isort (evLt) l0).flatMap evEnc) ∧ w.grownBy w' (some br)) := by
 obtain ⟨R, hR⟩ : ∃ z, z = isort (evLt) l0 := ⟨_, rfl⟩
 rw [← hR]
 refine gw_enter ⟨53, w, (some br), []⟩ Tryz.func247 rfl Tryz.ntmps247 rfl (memR (X := []) h allF_nil allL_nil) ?_
 refine sr_ (mv_ rfl (ad_ rfl rfl ?_))
 refine wl_set 11 (v' := .int .i64 1) rfl rfl ?_
 refine sg_ rfl (nn_ (gw_block ?_))
 refine gw_loop (γ := Nat × List Ev) (fun gg => (1 ≤ gg.1 ∧ gg.1 ≤ n + 1) ∧ gg.2.length = n ∧ isortF (evLt) (n - gg.1) gg.1 gg.2 = R) (fun gg => [(0, .slice (some ⟨br, 0, none⟩) n cap), (1, .int .i64 0), (2, .int .i64 ((n : Nat) : Int)), (3, .func (.func 88) #[] #[]), (8, .int .i64 ((gg.1 : Nat) : Int))]) (fun gg => RowK base 54 5 n cap br ((gg.2).flatMap evEnc)) (fun gg => []) (fun gg => []) (fun gg => []) (fun gg => n + 1 - gg.1) (1, l0) ⟨⟨Nat.le_refl _, by omega⟩, hl0, by rw [hR]; unfold isort; rw [hl0]⟩ ⟨rfl, rfl, rfl, rfl, (some_int (by omega)), trivial⟩ (fun _ hm => hm.pick [] [] [] rfl rfl) ?_
 rintro ⟨i, l⟩ hinv
 replace hinv : (1 ≤ i ∧ i ≤ n + 1) ∧ l.length = n ∧ isortF (evLt) (n - i) i l = R := hinv
 dsimp only
 refine gw_seq (sr_ ?_)
 obtain ⟨⟨hi1, hi2⟩, hl1, hR1⟩ := hinv
 refine mv_ rfl (mv_ rfl (wl_ov (ov_lss rfl rfl) rfl (nn_ ?_)))
 refine gw_cond rfl (fun hh => ?_) (fun hh => ?_)
 ·have hi : ((i : Nat) : Int) < ((n : Nat) : Int) := by simpa using hh
  clear hh
  refine gw_skip (nx_then (gw_seq (gw_block (sr_ ?_))))
  have hRi : isortF (evLt) (n - (i + 1)) (i + 1) (sink (evLt) i l) = R := by rw [← hR1, show n - i = (n - (i + 1)) + 1 by omega]; rfl
  obtain ⟨S, hS⟩ : ∃ z, z = sink (evLt) i l := ⟨_, rfl⟩
  rw [← hS] at hRi
  have hSl : S.length = n := by rw [hS, sink_len]; exact hl1
  refine mv_ rfl (sg_ rfl (nn_ (gw_block ?_)))
  refine gw_loop (γ := Nat × List Ev) (fun gg => (gg.1 ≤ i) ∧ gg.2.length = n ∧ sink (evLt) gg.1 gg.2 = S) (fun gg => [(0, .slice (some ⟨br, 0, none⟩) n cap), (1, .int .i64 0), (2, .int .i64 ((n : Nat) : Int)), (3, .func (.func 88) #[] #[]), (8, .int .i64 ((i : Nat) : Int)), (9, .int .i64 ((gg.1 : Nat) : Int))]) (fun gg => RowK base 54 5 n cap br ((gg.2).flatMap evEnc)) (fun gg => []) (fun gg => []) (fun gg => []) (fun gg => gg.1) (i, l) ⟨Nat.le_refl _, hl1, hS.symm⟩ ⟨rfl, rfl, rfl, rfl, rfl, rfl, trivial⟩ (fun _ hm => hm.pick [] [] [] rfl rfl) ?_
  rintro ⟨jj, m⟩ hinv
  replace hinv : (jj ≤ i) ∧ m.length = n ∧ sink (evLt) jj m = S := hinv
  dsimp only
  refine gw_seq (gw_seq ?_)
  obtain ⟨hj1, hm1, hS1⟩ := hinv
  rcases jj with _ | j
  ·refine gd (fun wz => True) mixed (fun _ _ => trivial) fun z => ?_
   refine wt 0 17 1 rfl z (ov_move rfl) ?_
   refine wa_set 18 (v' := .int .i64 0) rfl rfl ?_
   refine wt 1 17 3 rfl z (ov_move rfl) ?_
   refine wt 2 17 7 rfl z (ov_gtr rfl rfl) ?_
   refine wa_set 20 (v' := .bool false) rfl (congrArg Value.bool (by decide)) ?_
   refine wt 3 17 15 rfl z (ov_move rfl) ?_
   refine wtf 4 17 31 rfl rfl rfl z ?_
   refine wtf 5 17 63 rfl rfl rfl z ?_
   refine wtf 6 17 127 rfl rfl rfl z ?_
   refine wtf 7 17 255 rfl rfl rfl z ?_
   refine wtf 8 17 511 rfl rfl rfl z ?_
   refine wtf 9 17 1023 rfl rfl rfl z ?_
   refine wtf 10 17 2047 rfl rfl rfl z ?_
   refine wtf 11 17 4095 rfl rfl rfl z ?_
   refine wtf 12 17 8191 rfl rfl rfl z ?_
   refine wtf 13 17 16383 rfl rfl rfl z ?_
   refine wtf 14 17 32767 rfl rfl rfl z ?_
   refine wtf 15 17 65535 rfl rfl rfl z ?_
   refine wt 16 17 131071 rfl z (ov_pick_f rfl rfl) ?_
   refine wa_done (by kernel_rfl) ?_
   refine nx_then (cf_ rfl ?_)
   refine gw_exit ?_
   refine nx_then_exit (nx_then_exit ?_)
   refine nx_blk_here ?_
   refine nx_blk_nrm (nx_then (gw_region (mv_ rfl (ad_ rfl rfl (sg_ rfl (wl_nil ?_))))))
   have hm2 : m = S := hS1
   exact nx_round (i + 1, m) ⟨⟨by dsimp only; omega, by dsimp only; omega⟩, by rw [hm2]; exact hSl, by rw [hm2]; exact hRi⟩ (by dsimp only; omega) ⟨rfl, rfl, rfl, rfl, (some_int (by omega)), trivial⟩ (fun _ hm => hm.pick [] [] [] rfl rfl)
  have hj2 : j + 1 < n := by omega
  have hin : ∀ z ∈ m, z ∈ l0 := fun z hz => mem_in hR hRi hS1 hz
  obtain ⟨xx, hx⟩ : ∃ x, m[j + 1]? = some x := ⟨_, List.getElem?_eq_getElem (by omega)⟩
  obtain ⟨x0, x1, x2, x3, x4⟩ := xx
  obtain ⟨yy, hy⟩ : ∃ x, m[j]? = some x := ⟨_, List.getElem?_eq_getElem (by omega)⟩
  obtain ⟨y0, y1, y2, y3, y4⟩ := yy
  refine gd (fun wz => (RowK base 54 5 n cap br ((m).flatMap evEnc)) wz ∧ True) mixed (fun _ hm => ⟨hm.k, trivial⟩) fun z => ?_
  refine wt 0 17 1 rfl z (ov_move rfl) ?_
  refine wt 1 17 3 rfl z (ov_move rfl) ?_
  refine wt 2 17 7 rfl z (ov_gtr rfl rfl) ?_
  refine wa_set 20 (v' := .bool true) rfl (congrArg Value.bool (decide_eq_true (by omega))) ?_
  refine wt 3 17 15 rfl z (ov_move rfl) ?_
  refine wto 4 17 31 rfl rfl rfl z (ov_move rfl) ?_
  refine wto 5 17 63 rfl rfl rfl z (ov_move rfl) ?_
  refine wto 6 17 127 rfl rfl rfl z (ov_move rfl) ?_
  refine wto 7 17 255 rfl rfl rfl z (ov_index (j := (j + 1)) es47 rfl rfl (by omega)) ?_
  refine wto 8 17 511 rfl rfl rfl z (ov_elem (vs := [.int .i64 x0, .string x1, .string x2, .int .i64 x3, .string x4]) rz54 rfl (fun _ hm => (RowK.get (hm.1) ev_len hm1)) hx rfl rfl) ?_
  refine wto 9 17 1023 rfl rfl rfl z (ov_move rfl) ?_
  refine wto 10 17 2047 rfl rfl rfl z (ov_move rfl) ?_
  refine wto 11 17 4095 rfl rfl rfl z (ov_sub rfl rfl (by omega) (by omega)) ?_
  refine wa_set 29 (v' := .int .i64 ((j : Nat) : Int)) rfl (congrArg (Value.int .i64) (by omega)) ?_
  refine wto 12 17 8191 rfl rfl rfl z (ov_index (j := j) es47 rfl rfl (by omega)) ?_
  refine wto 13 17 16383 rfl rfl rfl z (ov_elem (vs := [.int .i64 y0, .string y1, .string y2, .int .i64 y3, .string y4]) rz54 rfl (fun _ hm => (RowK.get (hm.1) ev_len hm1)) hy rfl rfl) ?_
  refine wa1 14 rfl ?_
  refine wl_guard_on rfl rfl rfl ?_
  refine wl_callv rfl cb88 rfl rfl (fun wx hm => (eventOrder_any x0 x1 x2 x3 x4 y0 y1 y2 y3 y4 wx (hall _ (hin _ (List.mem_of_getElem? hx))).1 (hall _ (hin _ (List.mem_of_getElem? hy))).1)) ?_
  refine wl_nil ?_
  refine nw 17 32767 (fun _ hm => ⟨hm.k, trivial⟩) fun z => ?_
  refine wto 15 17 65535 rfl rfl rfl z (ov_lss rfl rfl) ?_
  refine wt 16 17 131071 rfl z (ov_pick_t rfl rfl) ?_
  refine wa_done (by kernel_rfl) ?_
  refine nx_then ?_
  refine gw_cond rfl (fun hh => ?_) (fun hh => ?_)
  ·have hlt : evOrd ⟨x0, x1, x2, x3, x4⟩ ⟨y0, y1, y2, y3, y4⟩ < 0 := by simpa using hh
   clear hh
   refine gw_skip (nx_then (gw_seq (gw_block ?_)))
   have hlt2 : (evLt) ⟨x0, x1, x2, x3, x4⟩ ⟨y0, y1, y2, y3, y4⟩ = true := decide_eq_true (show evOrd ⟨x0, x1, x2, x3, x4⟩ ⟨y0, y1, y2, y3, y4⟩ < 0 from hlt)
   have hS2 := (sink_yes hx hy hlt2).symm.trans hS1
   refine gd (fun wz => True) mixed (fun _ _ => trivial) fun z => ?_
   refine wt 0 18 1 rfl z (ov_move rfl) ?_
   refine wt 1 18 3 rfl z (ov_move rfl) ?_
   refine wt 2 18 7 rfl z (ov_move rfl) ?_
   refine wt 3 18 15 rfl z (ov_move rfl) ?_
   refine wt 4 18 31 rfl z (ov_sub rfl rfl (by omega) (by omega)) ?_
   refine wa_set 41 (v' := .int .i64 ((j : Nat) : Int)) rfl (congrArg (Value.int .i64) (by omega)) ?_
   refine wt 5 18 63 rfl z (ov_move rfl) ?_
   refine wt 6 18 127 rfl z (ov_move rfl) ?_
   refine wt 7 18 255 rfl z (ov_sub rfl rfl (by omega) (by omega)) ?_
   refine wa_set 44 (v' := .int .i64 ((j : Nat) : Int)) rfl (congrArg (Value.int .i64) (by omega)) ?_
   refine wt 8 18 511 rfl z (ov_index (j := j) es47 rfl rfl (by omega)) ?_
   refine wt 10 18 1535 rfl z (ov_move rfl) ?_
   refine wt 11 18 3583 rfl z (ov_move rfl) ?_
   refine wt 12 18 7679 rfl z (ov_index (j := (j + 1)) es47 rfl rfl (by omega)) ?_
   refine wa_all [9, 13] (by kernel_rfl) rfl ⟨⟨_, rfl, ?_⟩, ⟨_, rfl, ?_⟩, trivial⟩
   ·refine wl_ov (ov_elem (vs := [.int .i64 y0, .string y1, .string y2, .int .i64 y3, .string y4]) rz54 rfl (fun _ hm => (RowK.get hm.k ev_len hm1)) hy rfl rfl) rfl ?_
    refine wl_nil ?_
    refine nw 18 8191 (fun _ _ => trivial) fun z => ?_
    refine wa1 13 rfl ?_
    refine wl_ov (ov_elem (vs := [.int .i64 x0, .string x1, .string x2, .int .i64 x3, .string x4]) rz54 rfl (fun _ hm => (RowK.get hm.k ev_len hm1)) hx rfl rfl) rfl ?_
    refine wl_nil ?_
    refine nw 18 16383 (fun _ _ => trivial) fun z => ?_
    refine wt 14 18 32767 rfl z (ov_index (j := (j + 1)) es47 rfl rfl (by omega)) ?_
    refine wa1 15 rfl ?_
    refine wl_storesRow (l := m) (j := j + 1) (r := 0) (el := ⟨x0, x1, x2, x3, x4⟩) (el' := ⟨y0, y1, y2, y3, y4⟩) rfl rz54 rfl rfl rfl rfl ev_len rfl hx hm1 (by decide) rfl rfl ?_
    refine wl_nil ?_
    refine nw 18 65535 (fun _ _ => trivial) fun z => ?_
    refine wt 16 18 131071 rfl z (ov_index (j := j) es47 rfl rfl (by omega)) ?_
    refine wa1 17 rfl ?_
    refine wl_storesRow (l := m.set (j + 1) ⟨y0, y1, y2, y3, y4⟩) (j := j) (r := 0) (el := ⟨y0, y1, y2, y3, y4⟩) (el' := ⟨x0, x1, x2, x3, x4⟩) rfl rz54 rfl rfl rfl rfl ev_len rfl (by rw [List.getElem?_set_ne (by omega)]; exact hy) (by rw [List.length_set]; exact hm1) (by decide) rfl rfl ?_
    refine wl_nil ?_
    refine nw 18 262143 (fun _ _ => trivial) fun z => ?_
    refine wa_done (by kernel_rfl) ?_
    refine nx_blk_nrm (nx_then (gw_region (mv_ rfl ?_)))
    refine wl_ov (ov_sub rfl rfl (by omega) (by omega)) rfl ?_
    refine wl_set 36 (v' := .int .i64 ((j : Nat) : Int)) rfl (congrArg (Value.int .i64) (by omega)) ?_
    refine sg_ rfl (wl_nil ?_)
    exact nx_round (j, (m.set (j + 1) ⟨y0, y1, y2, y3, y4⟩).set j ⟨x0, x1, x2, x3, x4⟩) ⟨by dsimp only; omega, by simp [hm1], hS2⟩ (by dsimp only; omega) ⟨rfl, rfl, rfl, rfl, rfl, (some_int (by omega)), trivial⟩ (fun _ hm => hm.pick [] [] [] rfl rfl)
   refine wl_ov (ov_elem (vs := [.int .i64 x0, .string x1, .string x2, .int .i64 x3, .string x4]) rz54 rfl (fun _ hm => (RowK.get hm.k ev_len hm1)) hx rfl rfl) rfl ?_
   refine wl_nil ?_
   refine nw 18 15871 (fun _ _ => trivial) fun z => ?_
   refine wa1 9 rfl ?_
   refine wl_ov (ov_elem (vs := [.int .i64 y0, .string y1, .string y2, .int .i64 y3, .string y4]) rz54 rfl (fun _ hm => (RowK.get hm.k ev_len hm1)) hy rfl rfl) rfl ?_
   refine wl_nil ?_
   refine nw 18 16383 (fun _ _ => trivial) fun z => ?_
   refine wt 14 18 32767 rfl z (ov_index (j := (j + 1)) es47 rfl rfl (by omega)) ?_
   refine wa1 15 rfl ?_
   refine wl_storesRow (l := m) (j := j + 1) (r := 0) (el := ⟨x0, x1, x2, x3, x4⟩) (el' := ⟨y0, y1, y2, y3, y4⟩) rfl rz54 rfl rfl rfl rfl ev_len rfl hx hm1 (by decide) rfl rfl ?_
   refine wl_nil ?_
   refine nw 18 65535 (fun _ _ => trivial) fun z => ?_
   refine wt 16 18 131071 rfl z (ov_index (j := j) es47 rfl rfl (by omega)) ?_
   refine wa1 17 rfl ?_
   refine wl_storesRow (l := m.set (j + 1) ⟨y0, y1, y2, y3, y4⟩) (j := j) (r := 0) (el := ⟨y0, y1, y2, y3, y4⟩) (el' := ⟨x0, x1, x2, x3, x4⟩) rfl rz54 rfl rfl rfl rfl ev_len rfl (by rw [List.getElem?_set_ne (by omega)]; exact hy) (by rw [List.length_set]; exact hm1) (by decide) rfl rfl ?_
   refine wl_nil ?_
   refine nw 18 262143 (fun _ _ => trivial) fun z => ?_
   refine wa_done (by kernel_rfl) ?_
   refine nx_blk_nrm (nx_then (gw_region (mv_ rfl ?_)))
   refine wl_ov (ov_sub rfl rfl (by omega) (by omega)) rfl ?_
   refine wl_set 36 (v' := .int .i64 ((j : Nat) : Int)) rfl (congrArg (Value.int .i64) (by omega)) ?_
   refine sg_ rfl (wl_nil ?_)
   exact nx_round (j, (m.set (j + 1) ⟨y0, y1, y2, y3, y4⟩).set j ⟨x0, x1, x2, x3, x4⟩) ⟨by dsimp only; omega, by simp [hm1], hS2⟩ (by dsimp only; omega) ⟨rfl, rfl, rfl, rfl, rfl, (some_int (by omega)), trivial⟩ (fun _ hm => hm.pick [] [] [] rfl rfl)
  have hlt : ¬ (evOrd ⟨x0, x1, x2, x3, x4⟩ ⟨y0, y1, y2, y3, y4⟩ < 0) := by simpa using hh
  clear hh
  refine gw_exit ?_
  refine nx_then_exit (nx_then_exit ?_)
  refine nx_blk_here ?_
  refine nx_blk_nrm (nx_then (gw_region ?_))
  have hlt2 : (evLt) ⟨x0, x1, x2, x3, x4⟩ ⟨y0, y1, y2, y3, y4⟩ = false := decide_eq_false (show ¬ evOrd ⟨x0, x1, x2, x3, x4⟩ ⟨y0, y1, y2, y3, y4⟩ < 0 from hlt)
  have hS2 := (sink_no hx hy hlt2).symm.trans hS1
  refine mv_ rfl (ad_ rfl rfl (sg_ rfl (wl_nil ?_)))
  have hm2 : m = S := hS2
  exact nx_round (i + 1, m) ⟨⟨by dsimp only; omega, by dsimp only; omega⟩, by rw [hm2]; exact hSl, by rw [hm2]; exact hRi⟩ (by dsimp only; omega) ⟨rfl, rfl, rfl, rfl, (some_int (by omega)), trivial⟩ (fun _ hm => hm.pick [] [] [] rfl rfl)
 have hi : ¬ (((i : Nat) : Int) < ((n : Nat) : Int)) := by simpa using hh
 clear hh
 refine gw_exit ?_
 refine nx_then_exit (nx_then_exit ?_)
 refine nx_blk_here ?_
 obtain rfl : l = R := by rw [← hR1, show n - i = 0 by omega]; rfl
 refine nx_ret0 rfl fun wx hm => ?_
 exact ⟨rfl, fin_row hm.k hm.g⟩
theorem stb_eo (l0 : List Ev) (br n cap base : Nat) (w : World) (h : w.ownsRow base 54 5 (.slice (some ⟨br, 0, none⟩) n cap) n (l0.flatMap evEnc)) (hl0 : l0.length = n) (hn : n ≤ 19) (hall : ∀ x ∈ l0, EvOk x) :
  Calls Tryz.prog 174 #[.slice (some ⟨br, 0, none⟩) n cap, .int .i64 ((n : Nat) : Int), .func (.func 88) #[] #[]] w (fun e w' => e = .returned (.tuple #[]) ∧ w'.ownsRow base 54 5 (.slice (some ⟨br, 0, none⟩) n cap) n ((isort evLt l0).flatMap evEnc) ∧ w.grownBy w' (some br)) := by
 refine gw_enter ⟨63, w, (some br), []⟩ Tryz.func174 rfl Tryz.ntmps174 rfl (memR (X := []) h allF_nil allL_nil) ?_
 refine sr_ (sg_ rfl (nn_ (sr_ (mv_ rfl (sg_ rfl (sg_ rfl (nn_ (gw_seq (gw_block ?_)))))))))
 refine gw_rounds 1 ?_
 refine gr_next ?_
 refine gw_seq (sr_ (mv_ rfl (mv_ rfl (wl_ov (ov_leq rfl rfl) rfl ?_))))
 refine wl_set 13 (v' := .bool false) rfl (congrArg Value.bool (decide_eq_false (by omega))) ?_
 refine nn_ (cf_ rfl ?_)
 refine gw_exit ?_
 refine nx_then_exit (nx_then_exit ?_)
 refine nx_blk_here ?_
 refine nx_then (sr_ (mv_ rfl (mv_ rfl (mv_ rfl (mv_ rfl ?_)))))
 refine wl_callK rfl rfl rfl cb247 rfl rfl (fun wx hm => (ins_eo l0 br n cap base wx hm.k hl0 (by omega) hall)) ?_
 refine nn_ (gw_block ?_)
 refine gw_rounds 1 ?_
 refine gr_next ?_
 refine gw_seq (sr_ (mv_ rfl (mv_ rfl (wl_ov (ov_lss rfl rfl) rfl ?_))))
 refine wl_set 30 (v' := .bool false) rfl (congrArg Value.bool (decide_eq_false (by omega))) ?_
 refine nn_ (cf_ rfl ?_)
 refine gw_exit ?_
 refine nx_then_exit (nx_then_exit ?_)
 refine nx_blk_here ?_
 refine nx_ret0 rfl fun wx hm => ?_
 exact ⟨rfl, fin_row hm.k hm.g⟩
set_option maxRecDepth 100000 in
set_option maxHeartbeats 400000 in
theorem stable_eo (l0 : List Ev) (br n cap base : Nat) (w : World) (h : w.ownsRow base 54 5 (.slice (some ⟨br, 0, none⟩) n cap) n (l0.flatMap evEnc)) (hl0 : l0.length = n) (hn : n ≤ 19) (hall : ∀ x ∈ l0, EvOk x) :
    Calls Tryz.prog 81 #[.slice (some ⟨br, 0, none⟩) n cap, .func (.func 88) #[] #[]] w (fun e w' => e = .returned (.tuple #[]) ∧ w'.ownsRow base 54 5 (.slice (some ⟨br, 0, none⟩) n cap) n ((isort evLt l0).flatMap evEnc) ∧ w.grownBy w' (some br)) := by
  refine gw_enter ⟨9, w, (some br), []⟩ Tryz.func81 rfl Tryz.ntmps81 rfl (memR (X := []) h allF_nil allL_nil) ?_
  refine gw_region ?_
  refine wl_ov (ov_move rfl) rfl ?_
  refine wl_ov (ov_move rfl) rfl ?_
  refine wl_ov (ov_len es47 rfl) rfl ?_
  refine wl_ov (ov_move rfl) rfl ?_
  refine wl_callK rfl rfl rfl cb174 rfl rfl (fun wx hm => (stb_eo l0 br n cap base wx hm.k hl0 hn hall)) ?_
  refine wl_nil ?_
  refine nx_ret0 rfl fun wx hm => ?_
  exact ⟨rfl, fin_row hm.k hm.g⟩
theorem ins0_eo (A : Option Addr) (cap : Nat) (w : World) : Calls Tryz.prog 247 #[.slice A 0 cap, .int .i64 0, .int .i64 0, .func (.func 88) #[] #[]] w (fun e w' => e = .returned (.tuple #[]) ∧ w.grownBy w' none) := by
 refine gw_enter ⟨53, w, none, []⟩ Tryz.func247 rfl Tryz.ntmps247 rfl (mem0 (X := []) allF_nil allL_nil) ?_
 refine sr_ (mv_ rfl (ad_ rfl rfl ?_))
 refine wl_set 11 (v' := .int .i64 1) rfl rfl ?_
 refine sg_ rfl (nn_ (gw_block ?_))
 refine gw_rounds 1 ?_
 refine gr_next ?_
 refine gw_seq (sr_ (mv_ rfl (mv_ rfl (wl_ov (ov_lss rfl rfl) rfl ?_))))
 refine wl_set 14 (v' := .bool false) rfl (congrArg Value.bool (by decide)) ?_
 refine nn_ (cf_ rfl ?_)
 refine gw_exit ?_
 refine nx_then_exit (nx_then_exit ?_)
 refine nx_blk_here ?_
 refine nx_ret0 rfl fun wx hm => ?_
 exact ⟨rfl, hm.g⟩
theorem stb0_eo (A : Option Addr) (cap : Nat) (w : World) : Calls Tryz.prog 174 #[.slice A 0 cap, .int .i64 0, .func (.func 88) #[] #[]] w (fun e w' => e = .returned (.tuple #[]) ∧ w.grownBy w' none) := by
 refine gw_enter ⟨63, w, none, []⟩ Tryz.func174 rfl Tryz.ntmps174 rfl (mem0 (X := []) allF_nil allL_nil) ?_
 refine sr_ (sg_ rfl (nn_ (sr_ (mv_ rfl (sg_ rfl (sg_ rfl (nn_ (gw_seq (gw_block ?_)))))))))
 refine gw_rounds 1 ?_
 refine gr_next ?_
 refine gw_seq (sr_ (mv_ rfl (mv_ rfl (wl_ov (ov_leq rfl rfl) rfl ?_))))
 refine wl_set 13 (v' := .bool false) rfl (congrArg Value.bool (by decide)) ?_
 refine nn_ (cf_ rfl ?_)
 refine gw_exit ?_
 refine nx_then_exit (nx_then_exit ?_)
 refine nx_blk_here ?_
 refine nx_then (sr_ (mv_ rfl (mv_ rfl (mv_ rfl (mv_ rfl ?_)))))
 refine wl_callv rfl cb247 rfl rfl (fun wx hm => (ins0_eo A cap wx)) ?_
 refine nn_ (gw_block ?_)
 refine gw_rounds 1 ?_
 refine gr_next ?_
 refine gw_seq (sr_ (mv_ rfl (mv_ rfl (wl_ov (ov_lss rfl rfl) rfl ?_))))
 refine wl_set 30 (v' := .bool false) rfl (congrArg Value.bool (by decide)) ?_
 refine nn_ (cf_ rfl ?_)
 refine gw_exit ?_
 refine nx_then_exit (nx_then_exit ?_)
 refine nx_blk_here ?_
 refine nx_ret0 rfl fun wx hm => ?_
 exact ⟨rfl, hm.g⟩
set_option maxRecDepth 100000 in
set_option maxHeartbeats 400000 in
theorem stable0_eo (A : Option Addr) (cap : Nat) (w : World) : Calls Tryz.prog 81 #[.slice A 0 cap, .func (.func 88) #[] #[]] w (fun e w' => e = .returned (.tuple #[]) ∧ w.grownBy w' none) := by
  refine gw_enter ⟨9, w, none, []⟩ Tryz.func81 rfl Tryz.ntmps81 rfl (mem0 (X := []) allF_nil allL_nil) ?_
  refine gw_region ?_
  refine wl_ov (ov_move rfl) rfl ?_
  refine wl_ov (ov_move rfl) rfl ?_
  refine wl_ov (ov_len es47 rfl) rfl ?_
  refine wl_set 6 (v' := .int .i64 0) rfl rfl ?_
  refine wl_ov (ov_move rfl) rfl ?_
  refine wl_callv rfl cb174 rfl rfl (fun wx hm => (stb0_eo A cap wx)) ?_
  refine wl_nil ?_
  refine nx_ret0 rfl fun wx hm => ?_
  exact ⟨rfl, hm.g⟩
theorem hirEvents_bad (k d : ByteArray) (f t2 : Int) (ls : List Lg) (A : Option Addr) (n c : Nat) (w : World) (hl : SlT lgEnc 9 128 w A n ls) (hok : HrOk k d ls) (hn : n ≤ 4) (h0 : hireE (⟨k, d, f, t2, ls⟩ : Hr) ≠ 0) :
  Calls Tryz.prog 18 #[.agg #[.string k, .string d, .int .i64 f, .int .i64 t2, .slice A n c]] w (fun e w' => e = .returned (.tuple #[.slice none 0 0, .int .i64 (hireE (⟨k, d, f, t2, ls⟩ : Hr))]) ∧ w.grownBy w' none) := by
 refine gw_enter ⟨52, w, none, []⟩ Tryz.func18 rfl Tryz.ntmps18 rfl (mem0 (X := [SlOld lgEnc 9 128 w.heap.size none A n ls]) (allF_cons hl.old allF_nil) (allL_cons SlOld.lasts allL_nil)) ?_
 refine sr_ ?_
 have hlen := hl.len
 obtain ⟨HE, hHE⟩ : ∃ z, z = hireE (⟨k, d, f, t2, ls⟩ : Hr) := ⟨_, rfl⟩
 rw [← hHE] at h0 ⊢
 refine wl_box rfl rfl rfl fun g1 => ?_
 refine sg_ rfl (sg_ rfl (nn_ (gw_seq (sr_ ?_))))
 refine wl_ov (ov_loads rz45 rfl (fun _ hm => hm.blkI 0 rfl) rfl rfl) rfl ?_
 refine wl_callv (v := .int .i64 HE) rfl cb80 rfl rfl (fun wx hm => (by rw [hHE]; exact hcheck_any k d f t2 ls A n c wx (hm.fact 0 rfl).1 hok (by omega))) ?_
 refine sg_ rfl (nn_ (sr_ (mv_ rfl (wl_ov (ov_neq rfl rfl) rfl (nn_ ?_)))))
 refine gw_cond rfl (fun hh => ?_) (fun hh => ?_)
 ·have h1 : ¬ (HE = 0) := by simpa using hh
  clear hh
  refine sr_ (mv_ rfl (sg_ rfl (sg_ rfl (nn_ ?_))))
  refine gw_ret ?_
  refine nx_then_ret ?_
  refine nx_ret2 rfl rfl rfl fun wx hm => ?_
  exact ⟨rfl, hm.g⟩
 have h1 : HE = 0 := by simpa using hh
 clear hh
 refine gw_skip (nx_then (sr_ ?_))
 exact absurd (by simpa using h1) h0
theorem hirEvents_right (k d : ByteArray) (f t2 : Int) (ls : List Lg) (A : Option Addr) (n c : Nat) (w : World) (hl : SlT lgEnc 9 128 w A n ls) (hok : HrOk k d ls) (hn : n ≤ 4) (h0 : hireE (⟨k, d, f, t2, ls⟩ : Hr) = 0) :
  Calls Tryz.prog 18 #[.agg #[.string k, .string d, .int .i64 f, .int .i64 t2, .slice A n c]] w (fun e w' => ∃ E q ec, e = .returned (.tuple #[.slice E q ec, .int .i64 0]) ∧ SlT evEnc 5 54 w' E q (isort evLt (hirEvs ls)) ∧ q ≤ 8 ∧ w.grownBy w' none) := by
 refine gw_enter ⟨52, w, none, []⟩ Tryz.func18 rfl Tryz.ntmps18 rfl (mem0 (X := [SlOld lgEnc 9 128 w.heap.size none A n ls]) (allF_cons hl.old allF_nil) (allL_cons SlOld.lasts allL_nil)) ?_
 refine sr_ ?_
 have hlen := hl.len
 obtain ⟨HE, hHE⟩ : ∃ z, z = hireE (⟨k, d, f, t2, ls⟩ : Hr) := ⟨_, rfl⟩
 rw [← hHE] at h0
 refine wl_box rfl rfl rfl fun g1 => ?_
 refine sg_ rfl (sg_ rfl (nn_ (gw_seq (sr_ ?_))))
 refine wl_ov (ov_loads rz45 rfl (fun _ hm => hm.blkI 0 rfl) rfl rfl) rfl ?_
 refine wl_callv (v := .int .i64 HE) rfl cb80 rfl rfl (fun wx hm => (by rw [hHE]; exact hcheck_any k d f t2 ls A n c wx (hm.fact 0 rfl).1 hok (by omega))) ?_
 refine sg_ rfl (nn_ (sr_ (mv_ rfl (wl_ov (ov_neq rfl rfl) rfl (nn_ ?_)))))
 refine gw_cond rfl (fun hh => ?_) (fun hh => ?_)
 ·have h1 : ¬ (HE = 0) := by simpa using hh
  clear hh
  refine sr_ ?_
  exact absurd h0 (by simpa using h1)
 have h1 : HE = 0 := by simpa using hh
 clear hh
 refine gw_skip (nx_then (sr_ ?_))
 refine wl_nilOwn 54 5 ?_
 refine sg_ rfl (nn_ (gw_seq (sr_ (fd_ fo45_3 rfl rfl (lk_ sc43 0 rfl rfl rfl (wl_ov (ov_len es43 rfl) rfl (mv_ rfl (nn_ (gw_block ?_)))))))))
 refine gw_loop (γ := Nat × Nat × Value) (fun g => g.1 ≤ n ∧ (hirEvs (ls.take g.1)).length = g.2.1 ∧ g.2.1 ≤ 2 * g.1) (fun g => [(2, .slice none 0 0), (3, .int .i64 0), (5, g.2.2), (14, .slice A n c), (15, .int .i64 ((n : Nat) : Int)), (16, .int .i64 ((g.1 : Nat) : Int))]) (fun g => fun _ => True) (fun g => [(g1, 45, [.string k, .string d, .int .i64 f, .int .i64 t2, .slice A n c])]) (fun g => [⟨g.2.2, 54, 5, g.2.1, (hirEvs (ls.take g.1)).flatMap evEnc⟩]) (fun g => [SlOld lgEnc 9 128 w.heap.size none A n ls]) (fun g => n - g.1) (0, 0, .slice none 0 0) ⟨Nat.zero_le _, rfl, Nat.le_refl _⟩ ⟨rfl, rfl, rfl, rfl, rfl, rfl, trivial⟩ (fun _ hm => hm.pick [0] [0] [0] rfl rfl) ?_
 rintro ⟨i, q, v⟩ hinv
 replace hinv : i ≤ n ∧ (hirEvs (ls.take i)).length = q ∧ q ≤ 2 * i := hinv
 dsimp only
 refine sr_ ?_
 obtain ⟨hi0, hql, hq2⟩ := hinv
 refine wl_ov (ov_lss rfl rfl) rfl (nn_ (gw_seq ?_))
 refine gw_cond rfl (fun hh => ?_) (fun hh => ?_)
 ·have hi : ((i : Nat) : Int) < ((n : Nat) : Int) := by simpa using hh
  clear hh
  refine gw_skip (nx_then (gw_seq (gw_block (sr_ ?_))))
  obtain ⟨b, off, hA, _, _⟩ := hl.get (by omega)
  subst hA
  obtain ⟨x, hx⟩ : ∃ x, ls[i]? = some x := ⟨_, List.getElem?_eq_getElem (by omega)⟩
  obtain ⟨xv, ⟨oa, os, om, of_⟩, ⟨ia, is_, im, if_⟩⟩ := x
  have hat := hirEvs_at hx
  refine wl_look (R := ∃ A cc, v = .slice A q cc) (fun wx hm => own_slice (hm.ownI 0 rfl)) ?_
  rintro ⟨E, ec, rfl⟩
  refine wl_ov (ov_index (j := i) es43 rfl rfl (by omega)) rfl ?_
  refine wl_ov (ov_elem (vs := [.string xv, .int .i64 oa, .string os, .int .i64 om, .int .i64 of_, .int .i64 ia, .string is_, .int .i64 im, .int .i64 if_]) rz128 rfl (fun _ hm => (hm.fact 0 rfl).1) hx rfl rfl) rfl ?_
  refine wl_alloc zc128 rfl fun g2 => ?_
  refine wl_stores (cs' := [.string xv, .int .i64 oa, .string os, .int .i64 om, .int .i64 of_, .int .i64 ia, .string is_, .int .i64 im, .int .i64 if_]) 0 rz128 rfl rfl rfl rfl rfl rfl rfl rfl ?_
  refine nn_ (sr_ (mv_ rfl (fd_ fo128_1 rfl rfl (fd_ fo126_0 rfl rfl (lk_ sc3 0 rfl rfl rfl (fd_ fo128_0 rfl rfl (lk_ sc9 0 rfl rfl rfl (fd_ fo128_1 rfl rfl (fd_ fo126_1 rfl rfl (lk_ sc9 0 rfl rfl rfl ?_))))))))))
  refine wl_ov (ov_build (cs := [.int .i64 oa, .string xv, .string os, .int .i64 2, .string ⟨#[]⟩]) rfl (by kernel_rfl)) rfl ?_
  refine wl_buildSlice (e := 54) (cs := [.int .i64 oa, .string xv, .string os, .int .i64 2, .string ⟨#[]⟩]) rfl (by kernel_rfl) rfl fun g3 => ?_
  refine wl_append (news := [.int .i64 oa, .string xv, .string os, .int .i64 2, .string ⟨#[]⟩]) 0 0 ap47 rfl rfl rfl rfl rfl rfl rfl (by omega) (by unfold maxLen; omega) rfl rfl fun v2 hv2 => ?_
  refine sg_ rfl (nn_ (sr_ (fd_ fo128_2 rfl rfl (fd_ fo126_0 rfl rfl (lk_ sc3 1 rfl rfl rfl (wl_ov (ov_neq rfl rfl) rfl (nn_ ?_)))))))
  refine gw_cond rfl (fun hh => ?_) (fun hh => ?_)
  ·have h6 : ¬ (ia = -1) := by simpa using hh
   clear hh
   refine gw_region ?_
   rw [legEv_in (g := (⟨xv, ⟨oa, os, om, of_⟩, ⟨ia, is_, im, if_⟩⟩ : Lg)) h6] at hat
   refine wl_look (R := ∃ A cc, v2 = .slice A (q + 1) cc) (fun wx hm => own_slice (hm.ownI 0 rfl)) ?_
   rintro ⟨E2, ec2, rfl⟩
   refine mv_ rfl (fd_ fo128_2 rfl rfl (fd_ fo126_0 rfl rfl (lk_ sc3 1 rfl rfl rfl (fd_ fo128_0 rfl rfl (lk_ sc9 1 rfl rfl rfl (fd_ fo128_2 rfl rfl (fd_ fo126_1 rfl rfl (lk_ sc9 1 rfl rfl rfl ?_))))))))
   refine wl_ov (ov_build (cs := [.int .i64 ia, .string xv, .string is_, .int .i64 3, .string ⟨#[]⟩]) rfl (by kernel_rfl)) rfl ?_
   refine wl_buildSlice (e := 54) (cs := [.int .i64 ia, .string xv, .string is_, .int .i64 3, .string ⟨#[]⟩]) rfl (by kernel_rfl) rfl fun g4 => ?_
   refine wl_append (news := [.int .i64 ia, .string xv, .string is_, .int .i64 3, .string ⟨#[]⟩]) 0 0 ap47 rfl rfl rfl rfl rfl rfl rfl (by omega) (by unfold maxLen; omega) rfl rfl fun v3 hv3 => ?_
   refine sg_ rfl (wl_nil (nx_blk_nrm (nx_then (gw_region (ad_ rfl rfl (mv_ rfl (wl_nil ?_)))))))
   rw [show (hirEvs (ls.take i)).flatMap evEnc ++ ([.int .i64 oa, .string xv, .string os, .int .i64 2, .string ⟨#[]⟩] : List Value) ++ ([.int .i64 ia, .string xv, .string is_, .int .i64 3, .string ⟨#[]⟩] : List Value) = (hirEvs (ls.take (i + 1))).flatMap evEnc from by rw [hat]; simp [evEnc]]
   exact nx_round (i + 1, q + 1 + 1, v3) ⟨by dsimp only; omega, by dsimp only; rw [hat]; simp [hql], by dsimp only; omega⟩ (by dsimp only; omega) ⟨rfl, rfl, rfl, rfl, rfl, (some_int (by omega)), trivial⟩ (fun _ hm => hm.pick [3] [0] [0] rfl rfl)
  have h6 : ia = -1 := by simpa using hh
  clear hh
  refine gw_skip (nx_blk_nrm (nx_then (gw_region ?_)))
  rw [legEv_no (g := (⟨xv, ⟨oa, os, om, of_⟩, ⟨ia, is_, im, if_⟩⟩ : Lg)) h6] at hat
  refine ad_ rfl rfl (mv_ rfl (wl_nil ?_))
  rw [show (hirEvs (ls.take i)).flatMap evEnc ++ ([.int .i64 oa, .string xv, .string os, .int .i64 2, .string ⟨#[]⟩] : List Value) = (hirEvs (ls.take (i + 1))).flatMap evEnc from by rw [hat]; simp [evEnc]]
  exact nx_round (i + 1, q + 1, v2) ⟨by dsimp only; omega, by dsimp only; rw [hat]; simp [hql], by dsimp only; omega⟩ (by dsimp only; omega) ⟨rfl, rfl, rfl, rfl, rfl, (some_int (by omega)), trivial⟩ (fun _ hm => hm.pick [2] [0] [0] rfl rfl)
 have hi : ¬ (((i : Nat) : Int) < ((n : Nat) : Int)) := by simpa using hh
 clear hh
 refine gw_exit ?_
 refine nx_then_exit (nx_then_exit ?_)
 refine nx_blk_here ?_
 refine nx_then (sr_ ?_)
 have hlt : ls.take i = ls := List.take_of_length_le (by omega)
 rw [hlt] at hql ⊢
 refine wl_look (R := ∃ A cc, v = .slice A q cc) (fun wx hm => own_slice (hm.ownI 0 rfl)) ?_
 rintro ⟨E, ec, rfl⟩
 refine mv_ rfl ?_
 by_cases hq0 : q = 0
 ·subst hq0
  have hnil : hirEvs ls = [] := List.length_eq_zero_iff.1 hql
  refine wl_callv rfl cb81 rfl rfl (fun wx hm => (stable0_he E ec wx)) ?_
  refine nn_ (sr_ (mv_ rfl (sg_ rfl (sg_ rfl (nn_ ?_)))))
  refine gw_ret ?_
  refine nx_ret2 rfl rfl rfl fun wx hm => ?_
  exact ⟨E, 0, ec, rfl, by rw [hnil]; exact SlT.nil_ _ _, by omega, hm.g⟩
 refine wl_look (R := ∃ g, E = some ⟨g, 0, none⟩) (fun wx hm => own_addr (hm.ownI 0 rfl) (by omega)) ?_
 rintro ⟨g5, rfl⟩
 refine wl_callr (v := .tuple #[]) (xs' := (isort evLt (hirEvs ls)).flatMap evEnc) 0 rfl rfl rfl cb81 rfl rfl (fun wx hm => (stable_he (hirEvs ls) g5 q ec _ wx (hm.ownI 0 rfl) hql (by omega))) ?_
 refine nn_ (sr_ (mv_ rfl (sg_ rfl (sg_ rfl (nn_ ?_)))))
 refine gw_ret ?_
 refine nx_ret2 rfl rfl rfl fun wx hm => ?_
 exact ⟨_, q, ec, rfl, SlT.ofOwn ev_len (hm.ownI 0 rfl) (by rw [isort_len]; exact hql), by omega, hm.g⟩
theorem hirEvents_ref (k d : ByteArray) (f t2 : Int) (ls : List Lg) (A : Option Addr) (n c : Nat) (w : World) (hl : SlT lgEnc 9 128 w A n ls) (hB : ∀ g ∈ ls, LgB g) (hn : n ≤ 4) :
  Calls Tryz.prog 22 #[.agg #[.string k, .string d, .int .i64 f, .int .i64 t2, .slice A n c]] w (fun e w' => ∃ E q ec, e = .returned (.slice E q ec) ∧ SlT evEnc 5 54 w' E q (isort evLt (hirEvs ls)) ∧ q ≤ 8 ∧ w.grownBy w' none) := by
 refine gw_enter ⟨45, w, none, []⟩ Tryz.func22 rfl Tryz.ntmps22 rfl (mem0 (X := [SlOld lgEnc 9 128 w.heap.size none A n ls]) (allF_cons hl.old allF_nil) (allL_cons SlOld.lasts allL_nil)) ?_
 refine sr_ ?_
 have hlen := hl.len
 refine wl_nilOwn 54 5 ?_
 refine wl_box rfl rfl rfl fun g1 => ?_
 refine sg_ rfl (nn_ (sr_ (sg_ rfl (nn_ (gw_seq (sr_ (fd_ fo45_3 rfl rfl (lk_ sc43 0 rfl rfl rfl (wl_ov (ov_len es43 rfl) rfl ?_)))))))))
 refine mv_ rfl (nn_ (gw_block ?_))
 refine gw_loop (γ := Nat × Nat × Value) (fun g => g.1 ≤ n ∧ (hirEvs (ls.take g.1)).length = g.2.1 ∧ g.2.1 ≤ 2 * g.1) (fun g => [(2, .slice none 0 0), (3, g.2.2), (7, .slice A n c), (8, .int .i64 ((n : Nat) : Int)), (9, .int .i64 ((g.1 : Nat) : Int))]) (fun g => fun _ => True) (fun g => [(g1, 45, [.string k, .string d, .int .i64 f, .int .i64 t2, .slice A n c])]) (fun g => [⟨g.2.2, 54, 5, g.2.1, (hirEvs (ls.take g.1)).flatMap evEnc⟩]) (fun g => [SlOld lgEnc 9 128 w.heap.size none A n ls]) (fun g => n - g.1) (0, 0, .slice none 0 0) ⟨Nat.zero_le _, rfl, Nat.le_refl _⟩ ⟨rfl, rfl, rfl, rfl, rfl, trivial⟩ (fun _ hm => hm.pick [0] [0] [0] rfl rfl) ?_
 rintro ⟨i, q, v⟩ hinv
 replace hinv : i ≤ n ∧ (hirEvs (ls.take i)).length = q ∧ q ≤ 2 * i := hinv
 dsimp only
 refine sr_ ?_
 obtain ⟨hi0, hql, hq2⟩ := hinv
 refine wl_ov (ov_lss rfl rfl) rfl (nn_ (gw_seq ?_))
 refine gw_cond rfl (fun hh => ?_) (fun hh => ?_)
 ·have hi : ((i : Nat) : Int) < ((n : Nat) : Int) := by simpa using hh
  clear hh
  refine gw_skip (nx_then (gw_seq (gw_block (sr_ ?_))))
  obtain ⟨b, off, hA, _, _⟩ := hl.get (by omega)
  subst hA
  obtain ⟨x, hx⟩ : ∃ x, ls[i]? = some x := ⟨_, List.getElem?_eq_getElem (by omega)⟩
  obtain ⟨xv, ⟨oa, os, om, of_⟩, ⟨ia, is_, im, if_⟩⟩ := x
  have hat := hirEvs_at hx
  refine wl_look (R := ∃ A cc, v = .slice A q cc) (fun wx hm => own_slice (hm.ownI 0 rfl)) ?_
  rintro ⟨E, ec, rfl⟩
  refine wl_ov (ov_index (j := i) es43 rfl rfl (by omega)) rfl ?_
  refine wl_ov (ov_elem (vs := [.string xv, .int .i64 oa, .string os, .int .i64 om, .int .i64 of_, .int .i64 ia, .string is_, .int .i64 im, .int .i64 if_]) rz128 rfl (fun _ hm => (hm.fact 0 rfl).1) hx rfl rfl) rfl ?_
  refine wl_alloc zc128 rfl fun g2 => ?_
  refine wl_stores (cs' := [.string xv, .int .i64 oa, .string os, .int .i64 om, .int .i64 of_, .int .i64 ia, .string is_, .int .i64 im, .int .i64 if_]) 0 rz128 rfl rfl rfl rfl rfl rfl rfl rfl ?_
  refine nn_ (sr_ (mv_ rfl (fd_ fo128_1 rfl rfl (fd_ fo126_0 rfl rfl (lk_ sc3 0 rfl rfl rfl (fd_ fo128_0 rfl rfl (lk_ sc9 0 rfl rfl rfl (fd_ fo128_1 rfl rfl (fd_ fo126_1 rfl rfl (lk_ sc9 0 rfl rfl rfl ?_))))))))))
  refine wl_ov (ov_build (cs := [.int .i64 oa, .string xv, .string os, .int .i64 2, .string ⟨#[]⟩]) rfl (by kernel_rfl)) rfl ?_
  refine wl_buildSlice (e := 54) (cs := [.int .i64 oa, .string xv, .string os, .int .i64 2, .string ⟨#[]⟩]) rfl (by kernel_rfl) rfl fun g3 => ?_
  refine wl_append (news := [.int .i64 oa, .string xv, .string os, .int .i64 2, .string ⟨#[]⟩]) 0 0 ap47 rfl rfl rfl rfl rfl rfl rfl (by omega) (by unfold maxLen; omega) rfl rfl fun v2 hv2 => ?_
  refine sg_ rfl (nn_ (sr_ (fd_ fo128_2 rfl rfl (fd_ fo126_0 rfl rfl (lk_ sc3 1 rfl rfl rfl (wl_ov (ov_neq rfl rfl) rfl (nn_ ?_)))))))
  refine gw_cond rfl (fun hh => ?_) (fun hh => ?_)
  ·have h6 : ¬ (ia = -1) := by simpa using hh
   clear hh
   refine gw_region ?_
   rw [legEv_in (g := (⟨xv, ⟨oa, os, om, of_⟩, ⟨ia, is_, im, if_⟩⟩ : Lg)) h6] at hat
   refine wl_look (R := ∃ A cc, v2 = .slice A (q + 1) cc) (fun wx hm => own_slice (hm.ownI 0 rfl)) ?_
   rintro ⟨E2, ec2, rfl⟩
   refine mv_ rfl (fd_ fo128_2 rfl rfl (fd_ fo126_0 rfl rfl (lk_ sc3 1 rfl rfl rfl (fd_ fo128_0 rfl rfl (lk_ sc9 1 rfl rfl rfl (fd_ fo128_2 rfl rfl (fd_ fo126_1 rfl rfl (lk_ sc9 1 rfl rfl rfl ?_))))))))
   refine wl_ov (ov_build (cs := [.int .i64 ia, .string xv, .string is_, .int .i64 3, .string ⟨#[]⟩]) rfl (by kernel_rfl)) rfl ?_
   refine wl_buildSlice (e := 54) (cs := [.int .i64 ia, .string xv, .string is_, .int .i64 3, .string ⟨#[]⟩]) rfl (by kernel_rfl) rfl fun g4 => ?_
   refine wl_append (news := [.int .i64 ia, .string xv, .string is_, .int .i64 3, .string ⟨#[]⟩]) 0 0 ap47 rfl rfl rfl rfl rfl rfl rfl (by omega) (by unfold maxLen; omega) rfl rfl fun v3 hv3 => ?_
   refine sg_ rfl (wl_nil (nx_blk_nrm (nx_then (gw_region (ad_ rfl rfl (mv_ rfl (wl_nil ?_)))))))
   rw [show (hirEvs (ls.take i)).flatMap evEnc ++ ([.int .i64 oa, .string xv, .string os, .int .i64 2, .string ⟨#[]⟩] : List Value) ++ ([.int .i64 ia, .string xv, .string is_, .int .i64 3, .string ⟨#[]⟩] : List Value) = (hirEvs (ls.take (i + 1))).flatMap evEnc from by rw [hat]; simp [evEnc]]
   exact nx_round (i + 1, q + 1 + 1, v3) ⟨by dsimp only; omega, by dsimp only; rw [hat]; simp [hql], by dsimp only; omega⟩ (by dsimp only; omega) ⟨rfl, rfl, rfl, rfl, (some_int (by omega)), trivial⟩ (fun _ hm => hm.pick [3] [0] [0] rfl rfl)
  have h6 : ia = -1 := by simpa using hh
  clear hh
  refine gw_skip (nx_blk_nrm (nx_then (gw_region ?_)))
  rw [legEv_no (g := (⟨xv, ⟨oa, os, om, of_⟩, ⟨ia, is_, im, if_⟩⟩ : Lg)) h6] at hat
  refine ad_ rfl rfl (mv_ rfl (wl_nil ?_))
  rw [show (hirEvs (ls.take i)).flatMap evEnc ++ ([.int .i64 oa, .string xv, .string os, .int .i64 2, .string ⟨#[]⟩] : List Value) = (hirEvs (ls.take (i + 1))).flatMap evEnc from by rw [hat]; simp [evEnc]]
  exact nx_round (i + 1, q + 1, v2) ⟨by dsimp only; omega, by dsimp only; rw [hat]; simp [hql], by dsimp only; omega⟩ (by dsimp only; omega) ⟨rfl, rfl, rfl, rfl, (some_int (by omega)), trivial⟩ (fun _ hm => hm.pick [2] [0] [0] rfl rfl)
 have hi : ¬ (((i : Nat) : Int) < ((n : Nat) : Int)) := by simpa using hh
 clear hh
 refine gw_exit ?_
 refine nx_then_exit (nx_then_exit ?_)
 refine nx_blk_here ?_
 refine nx_then (sr_ ?_)
 have hlt : ls.take i = ls := List.take_of_length_le (by omega)
 rw [hlt] at hql ⊢
 refine wl_look (R := ∃ A cc, v = .slice A q cc) (fun wx hm => own_slice (hm.ownI 0 rfl)) ?_
 rintro ⟨E, ec, rfl⟩
 refine mv_ rfl ?_
 by_cases hq0 : q = 0
 ·subst hq0
  have hnil : hirEvs ls = [] := List.length_eq_zero_iff.1 hql
  refine wl_callv rfl cb81 rfl rfl (fun wx hm => (stable0_eo E ec wx)) ?_
  refine nn_ (sr_ (mv_ rfl (sg_ rfl (nn_ ?_))))
  refine gw_ret ?_
  refine nx_ret1 rfl rfl fun wx hm => ?_
  exact ⟨E, 0, ec, rfl, by rw [hnil]; exact SlT.nil_ _ _, by omega, hm.g⟩
 refine wl_look (R := ∃ g, E = some ⟨g, 0, none⟩) (fun wx hm => own_addr (hm.ownI 0 rfl) (by omega)) ?_
 rintro ⟨g5, rfl⟩
 refine wl_callr (v := .tuple #[]) (xs' := (isort evLt (hirEvs ls)).flatMap evEnc) 0 rfl rfl rfl cb81 rfl rfl (fun wx hm => (stable_eo (hirEvs ls) g5 q ec _ wx (hm.ownI 0 rfl) hql (by omega) (hirEvs_ok hB))) ?_
 refine nn_ (sr_ (mv_ rfl (sg_ rfl (nn_ ?_))))
 refine gw_ret ?_
 refine nx_ret1 rfl rfl fun wx hm => ?_
 exact ⟨_, q, ec, rfl, SlT.ofOwn ev_len (hm.ownI 0 rfl) (by rw [isort_len]; exact hql), by omega, hm.g⟩
end Go.Proofs.YtnpcbfllnkiopaaGreatDoor
namespace Go.Proofs.YtnpcbfllnkiopaaGreatDoor
open Go.RowKit
theorem info_wn : (Tryz.prog.info? 42).map (·.size) = some 2 := by kernel_rfl
def Far (v : Int) : Prop := -4000000000000000 ≤ v ∧ v ≤ 4000000000000000
theorem mem_far {xs : List Int} {v : Int} (hv : v ∈ xs) (h : ∀ x ∈ xs, -100000000 ≤ x ∧ x ≤ 100000000) : -100000000 ≤ v ∧ v ≤ 100000000 := h v hv
set_option maxRecDepth 100000 in
set_option maxHeartbeats 2000000 in
theorem gtime_any (w : World) (B sb m : Nat) (hS : Strm 25 w B sb m) (hm : m ≤ 100000000000) :
    Calls Tryz.prog 78 #[.pointer (some ⟨sb, 0, none⟩)] w (fun e w' => ∃ fr to_ : Int, Far fr ∧ Far to_ ∧ e = .returned (.agg #[.int .i64 fr, .int .i64 to_]) ∧ Strm 25 w' B sb (m + 10) ∧ w.grownBy w' (some sb)) := by
  have hlt := hS.lt
  go_enter Tryz.func78, Tryz.ntmps78
  go_wp2_with fail
  have hb0 := Blk.at_ w rfl 42 [.int .i64 0, .int .i64 0]
  have hne : some w.heap.size ≠ some sb := fun h => absurd (Option.some.inj h) (by omega)
  refine (pick_any [0, 0, 700, 5040, 5700, 6480, 6500, 8000, 10079, 20000] _ _ _ _ B sb _ ((hS.alloc _).alloc _) (by omega) (by simp) (by simp) (Blk.at_ (w.alloc _) (by simp) _ _) (by omega)).mono ?_
  rintro e w1 ⟨fr, hfr, rfl, hS1, hg1'⟩
  have hf : -100000000 ≤ fr ∧ fr ≤ 100000000 := mem_far hfr (by decide)
  have hf0 := hf.1
  have hf1 := hf.2
  have hb1 := (hb0.alloc _).grown hg1' hne
  have hg1 : w.grownBy w1 (some sb) := grow_trans (grow_alloc (grow_alloc (World.grownBy.refl _ _) _) _) hg1'
  clear hS hb0 hg1' hfr hf
  go_wp2_with fail
  have hs1 := hS1.lt
  refine (pick_any [1, 59, 60, 61, 300, 1440, 1441, 1500, 2880, 4320, 5850, 7200, 8641, 10080, 11520, 14800, 21600] _ _ _ _ B sb _ (hS1.alloc _) (by omega) (by simp) (by simp) (Blk.at_ _ rfl _ _) (by omega)).mono ?_
  rintro e w2 ⟨v, hv, rfl, hS2, hg2'⟩
  have hf : -100000000 ≤ v ∧ v ≤ 100000000 := mem_far hv (by decide)
  have hv0 := hf.1
  have hv1 := hf.2
  have hb2 := (hb1.alloc _).grown hg2' hne
  have hg2 := grow_trans (grow_alloc hg1 _) hg2'
  clear hS1 hb1 hg1 hg2' hv hf hs1
  go_wp2_with fail
  have hs2 := hS2.lt
  obtain ⟨to_, hto⟩ : ∃ t, t = fr + v := ⟨_, rfl⟩
  rw [← hto]
  have hto0 : -200000000 ≤ to_ := by omega
  have hto1 : to_ ≤ 200000000 := by omega
  clear hto
  have hne2 : some w2.heap.size ≠ some sb := fun h => absurd (Option.some.inj h) (by omega)
  refine (flip_any 15 _ B sb _ (hS2.alloc _) (by omega) (by omega) (by omega)).mono ?_
  rintro e w3 ⟨fl, rfl, hS3, hg3'⟩
  have hD := (Blk.at_ w2 rfl 42 [.int .i64 fr, .int .i64 to_]).grown hg3' hne2
  have hR := (hb2.alloc _).grown hg3' hne
  have hg3 := grow_trans (grow_alloc hg2 _) hg3'
  have hlow : w.heap.size < w2.heap.size := hb2.lt
  have hsz3 := hS3.lt
  clear hS2 hb2 hg2 hg3' hs2 hne2
  cases fl
  · go_wp2_with (first
      | (with_reducible refine wpList_load_all rfl 42 (.tmp 4) rfl w2.heap.size _ _ _ hD rfl Tryz.underlying42 rfl 2 info_wn rfl ?_)
      | (with_reducible refine wpList_store_all rfl 42 (.tmp 2) (.tmp 23) rfl w.heap.size _ _ [.int .i64 fr, .int .i64 to_] hR rfl rfl 2 info_wn rfl rfl (by simp [Value.oneCell']) ?_
         intro w9 hR9 hg9))
    refine ret_blk (p := 2) (ty := 42) rfl w.heap.size _ _ _ hR9 rfl Tryz.underlying42 rfl 2 info_wn rfl rfl ?_
    exact ⟨fr, to_, ⟨by omega, by omega⟩, ⟨by omega, by omega⟩, rfl, (hS3.grown hg9 (fun k h => by cases h; omega)).more (by omega), grow_own hg3 hg9 (fun k h => by cases h; omega)⟩
  · go_wp2_with fail
    refine (odd_any 0 1000 _ B sb _ hS3 (by omega) (by omega) (by omega) (by omega)).mono ?_
    rintro e w4 ⟨o1, ho1, rfl, hS4, hg4⟩
    have ho10 := ho1.1
    have ho11 := ho1.2
    have hD4 := hD.grown hg4 (fun h => absurd (Option.some.inj h) (by omega))
    have hR4 := hR.grown hg4 hne
    have hw4 := grow_trans hg3 hg4
    clear hS3 hD hR hg3 hg4 ho1
    go_wp2_with fail
    have hs4 := hS4.lt
    refine (pick_any [0, 1000, 5761439, 5761440, 172800, 173801] _ _ _ _ B sb _ (hS4.alloc _) (by omega) (by simp) (by simp) (Blk.at_ _ rfl _ _) (by omega)).mono ?_
    rintro e w5 ⟨u, hu, rfl, hS5, hg5'⟩
    have hf : -100000000 ≤ u ∧ u ≤ 100000000 := mem_far hu (by decide)
    have hu0 := hf.1
    have hu1 := hf.2
    have hD5 := (hD4.alloc _).grown hg5' (fun h => absurd (Option.some.inj h) (by omega))
    have hR5 := (hR4.alloc _).grown hg5' hne
    have hw5 := grow_trans (grow_alloc hw4 _) hg5'
    clear hS4 hD4 hR4 hw4 hg5' hu hf hs4
    go_wp2_with (first
      | (with_reducible refine wpList_store_all rfl 42 (.tmp 4) (.tmp 22) rfl w2.heap.size _ _ [.int .i64 o1, .int .i64 u] hD5 rfl rfl 2 info_wn rfl rfl (by simp [Value.oneCell']) ?_
         intro w6 hD6 hg6
         have hR6 := hR5.grown hg6 (fun h => absurd (Option.some.inj h) (by omega)))
      | (with_reducible refine wpList_load_all rfl 42 (.tmp 4) rfl w2.heap.size _ _ _ hD6 rfl Tryz.underlying42 rfl 2 info_wn rfl ?_)
      | (with_reducible refine wpList_store_all rfl 42 (.tmp 2) (.tmp 23) rfl w.heap.size _ _ [.int .i64 o1, .int .i64 u] hR6 rfl rfl 2 info_wn rfl rfl (by simp [Value.oneCell']) ?_
         intro w9 hR9 hg9))
    refine ret_blk (p := 2) (ty := 42) rfl w.heap.size _ _ _ hR9 rfl Tryz.underlying42 rfl 2 info_wn rfl rfl ?_
    exact ⟨o1, u, ⟨by omega, by omega⟩, ⟨by omega, by omega⟩, rfl, ((hS5.grown hg6 (fun k h => by cases h; omega)).grown hg9 (fun k h => by cases h; omega)).more (by omega), grow_own (grow_own hw5 hg6 (fun k h => by cases h; omega)) hg9 (fun k h => by cases h; omega)⟩
end Go.Proofs.YtnpcbfllnkiopaaGreatDoor
namespace Go.Proofs.YtnpcbfllnkiopaaGreatDoor
open Go.RowKit
theorem info_rdg : (Tryz.prog.info? 126).map (·.size) = some 4 := by kernel_rfl
theorem mem_small {xs : List ByteArray} {v : ByteArray} (hv : v ∈ xs) (h : ∀ x ∈ xs, x.size ≤ 100) : v.size ≤ 100 := h v hv
set_option maxRecDepth 100000 in
set_option maxHeartbeats 2000000 in
theorem greading_any (at_ : Int) (w : World) (B sb m : Nat) (hS : Strm 25 w B sb m) (hm : m ≤ 100000000000) (ha0 : -4000000000000000 ≤ at_) (ha1 : at_ ≤ 4000000000000000) :
    Calls Tryz.prog 79 #[.pointer (some ⟨sb, 0, none⟩), .int .i64 at_] w (fun e w' => ∃ r : Rd, RdOk r ∧ e = .returned (.agg (rdCells r).toArray) ∧ Strm 25 w' B sb (m + 10) ∧ w.grownBy w' (some sb)) := by
  have hlt := hS.lt
  go_enter Tryz.func79, Tryz.ntmps79
  go_wp2_with fail
  have hb0 := Blk.at_ w rfl 126 [.int .i64 0, .string ⟨#[]⟩, .int .i64 0, .int .i64 0]
  have hne : some w.heap.size ≠ some sb := fun h => absurd (Option.some.inj h) (by omega)
  refine (some_any [⟨#[115, 49]⟩, ⟨#[115, 49]⟩, ⟨#[115, 50]⟩, ⟨#[115, 51]⟩] _ _ _ _ B sb _ ((hS.alloc _).alloc _) (by omega) (by simp) (by simp) (Blk.at_ (w.alloc _) (by simp) _ _) (by omega)).mono ?_
  rintro e w1 ⟨st, hst, rfl, hS1, hg1'⟩
  have hst1 : st.size ≤ 100 := mem_small hst (by decide)
  have hb1 := (hb0.alloc _).grown hg1' hne
  have hg1 : w.grownBy w1 (some sb) := grow_trans (grow_alloc (grow_alloc (World.grownBy.refl _ _) _) _) hg1'
  clear hS hb0 hg1' hst
  go_wp2_with fail
  have hs1 := hS1.lt
  refine (pick_any [0, 5, 100, 500, 999990, 999999] _ _ _ _ B sb _ (hS1.alloc _) (by omega) (by simp) (by simp) (Blk.at_ _ rfl _ _) (by omega)).mono ?_
  rintro e w2 ⟨me, hme, rfl, hS2, hg2'⟩
  have hb2 := (hb1.alloc _).grown hg2' hne
  have hg2 := grow_trans (grow_alloc hg1 _) hg2'
  clear hS1 hb1 hg1 hg2' hme hs1
  go_wp2_with fail
  refine (range_any 0 8 _ B sb _ hS2 (by omega) (by omega) (by omega) (by omega) (by omega)).mono ?_
  rintro e w3 ⟨fu, hfu, rfl, hS3, hg3'⟩
  have hb3 := hb2.grown hg3' hne
  have hg3 := grow_trans hg2 hg3'
  clear hS2 hb2 hg2 hg3' hfu
  go_wp2_with fail
  have hs3 := hS3.lt
  have hne2 : some w3.heap.size ≠ some sb := fun h => absurd (Option.some.inj h) (by omega)
  refine (flip_any 30 _ B sb _ (hS3.alloc _) (by omega) (by omega) (by omega)).mono ?_
  rintro e w4 ⟨fl, rfl, hS4, hg4'⟩
  have hD := (Blk.at_ w3 rfl 126 [.int .i64 at_, .string st, .int .i64 me, .int .i64 fu]).grown hg4' hne2
  have hR := (hb3.alloc _).grown hg4' hne
  have hg4 := grow_trans (grow_alloc hg3 _) hg4'
  have hlow : w.heap.size < w3.heap.size := hb3.lt
  have hsz4 := hS4.lt
  clear hS3 hb3 hg3 hg4' hs3
  cases fl
  · go_wp2_with (first
      | (with_reducible refine wpList_load_all rfl 126 (.tmp 5) rfl w3.heap.size _ _ _ hD rfl Tryz.underlying126 rfl 4 info_rdg rfl ?_)
      | (with_reducible refine wpList_store_all rfl 126 (.tmp 4) (.tmp 35) rfl w.heap.size _ _ [.int .i64 at_, .string st, .int .i64 me, .int .i64 fu] hR rfl rfl 4 info_rdg rfl rfl (by simp [Value.oneCell']) ?_
         intro w9 hR9 hg9))
    refine ret_blk (p := 4) (ty := 126) rfl w.heap.size _ _ _ hR9 rfl Tryz.underlying126 rfl 4 info_rdg rfl rfl ?_
    exact ⟨⟨at_, st, me, fu⟩, (by show st.size ≤ 1000000; omega), rfl, (hS4.grown hg9 (fun k h => by cases h; omega)).more (by omega), grow_own hg4 hg9 (fun k h => by cases h; omega)⟩
  · go_wp2_with fail
    refine (pick_any [at_, at_ + 1, -1, 5761440] _ _ _ _ B sb _ (hS4.alloc _) (by omega) (by simp) (by simp) (Blk.at_ _ rfl _ _) (by omega)).mono ?_
    rintro e w5 ⟨o1, ho1, rfl, hS5, hg5'⟩
    have hD5 := (hD.alloc _).grown hg5' hne2
    have hR5 := (hR.alloc _).grown hg5' hne
    have hw5 := grow_trans (grow_alloc hg4 _) hg5'
    clear hS4 hD hR hg4 hg5' ho1
    go_wp2_with fail
    have hs5 := hS5.lt
    refine (some_any [⟨#[115, 49]⟩, ⟨#[]⟩, ⟨#[65]⟩] _ _ _ _ B sb _ (hS5.alloc _) (by omega) (by simp) (by simp) (Blk.at_ _ rfl _ _) (by omega)).mono ?_
    rintro e w6 ⟨o2, ho2, rfl, hS6, hg6'⟩
    have ho2s : o2.size ≤ 100 := mem_small ho2 (by decide)
    have hD6 := (hD5.alloc _).grown hg6' hne2
    have hR6 := (hR5.alloc _).grown hg6' hne
    have hw6 := grow_trans (grow_alloc hw5 _) hg6'
    clear hS5 hD5 hR5 hw5 hg6' ho2 hs5
    go_wp2_with fail
    refine (odd_any 0 999999 _ B sb _ hS6 (by omega) (by omega) (by omega) (by omega)).mono ?_
    rintro e w7 ⟨o3, ho3, rfl, hS7, hg7⟩
    go_wp2_with fail
    refine (odd_any 0 8 _ B sb _ hS7 (by omega) (by omega) (by omega) (by omega)).mono ?_
    rintro e w8 ⟨o4, ho4, rfl, hS8, hg8⟩
    have hga := grow_trans hg7 hg8
    have hD8 := hD6.grown hga hne2
    have hR8 := hR6.grown hga hne
    have hw8 := grow_trans hw6 hga
    have c0 := hD8.cell_of (i := 0) (v := .int .i64 at_) rfl
    have c1 := hD8.cell_of (i := 1) (v := .string st) rfl
    have c2 := hD8.cell_of (i := 2) (v := .int .i64 me) rfl
    have c3 := hD8.cell_of (i := 3) (v := .int .i64 fu) rfl
    have f0 := hD8.frozen 0
    have f1 := hD8.frozen 1
    have f2 := hD8.frozen 2
    have f3 := hD8.frozen 3
    have hDS : Blk ((((w8.setCell ⟨w3.heap.size, 0, none⟩ (.int .i64 o1)).setCell ⟨w3.heap.size, 1, none⟩ (.string o2)).setCell ⟨w3.heap.size, 2, none⟩ (.int .i64 o3)).setCell ⟨w3.heap.size, 3, none⟩ (.int .i64 o4)) w3.heap.size 126 [.int .i64 o1, .string o2, .int .i64 o3, .int .i64 o4] := (((hD8.set_ 0 _).set_ 1 _).set_ 2 _).set_ 3 _
    have hRS : Blk ((((w8.setCell ⟨w3.heap.size, 0, none⟩ (.int .i64 o1)).setCell ⟨w3.heap.size, 1, none⟩ (.string o2)).setCell ⟨w3.heap.size, 2, none⟩ (.int .i64 o3)).setCell ⟨w3.heap.size, 3, none⟩ (.int .i64 o4)) w.heap.size 126 [.int .i64 0, .string ⟨#[]⟩, .int .i64 0, .int .i64 0] := (((hR8.far (by simp; omega) _).far (by simp; omega) _).far (by simp; omega) _).far (by simp; omega) _
    have hSS : Strm 25 ((((w8.setCell ⟨w3.heap.size, 0, none⟩ (.int .i64 o1)).setCell ⟨w3.heap.size, 1, none⟩ (.string o2)).setCell ⟨w3.heap.size, 2, none⟩ (.int .i64 o3)).setCell ⟨w3.heap.size, 3, none⟩ (.int .i64 o4)) B sb _ := (((hS8.setCell (by simp; omega) _).setCell (by simp; omega) _).setCell (by simp; omega) _).setCell (by simp; omega) _
    have hwS : w.grownBy ((((w8.setCell ⟨w3.heap.size, 0, none⟩ (.int .i64 o1)).setCell ⟨w3.heap.size, 1, none⟩ (.string o2)).setCell ⟨w3.heap.size, 2, none⟩ (.int .i64 o3)).setCell ⟨w3.heap.size, 3, none⟩ (.int .i64 o4)) (some sb) := grow_setCell (grow_setCell (grow_setCell (grow_setCell hw8 (.inr (by simp; omega)) _) (.inr (by simp; omega)) _) (.inr (by simp; omega)) _) (.inr (by simp; omega)) _
    clear hD8 hR8 hw8 hS6 hS7 hS8 hg7 hg8 hga hR6 hw6 hD6 ho3 ho4
    go_wp2_with (first
      | (with_reducible refine wpList_load_all rfl 126 (.tmp 5) rfl w3.heap.size _ _ _ hDS rfl Tryz.underlying126 rfl 4 info_rdg rfl ?_)
      | (with_reducible refine wpList_store_all rfl 126 (.tmp 4) (.tmp 35) rfl w.heap.size _ _ [.int .i64 o1, .string o2, .int .i64 o3, .int .i64 o4] hRS rfl rfl 4 info_rdg rfl rfl (by simp [Value.oneCell']) ?_; intro w9 hR9 hg9))
    refine ret_blk (p := 4) (ty := 126) rfl w.heap.size _ _ _ hR9 rfl Tryz.underlying126 rfl 4 info_rdg rfl rfl ?_
    exact ⟨⟨o1, o2, o3, o4⟩, (by show o2.size ≤ 1000000; omega), rfl, (hSS.grown hg9 (fun k h => by cases h; omega)).more (by omega), grow_own hwS hg9 (fun k h => by cases h; omega)⟩
end Go.Proofs.YtnpcbfllnkiopaaGreatDoor
