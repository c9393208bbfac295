/- Several texts as one: Bec Bed Bee Bef Beg Gob Gcg -/
import Derived.Test.YtempjmpfdniecaaGreatDoorN3c
import Derived.Test.YtempjmpfdniecaaGreatDoorN3a
import Derived.OneCell
set_option maxRecDepth 100000
set_option maxHeartbeats 4000000
namespace Go.Proofs.YtempjmpfdniecaaGreatDoor
open Go.RowKit
/-- What classesFrom does, from a place of the order on. -/
def CfSpec (w0 : World) (l : List Bk) (A : Option Addr) (nb cb : Nat) (cs : List Cs) (sl : List Sk) (A9 : Option Addr) (c9 : Nat) (cx : List ChS) (od : List Nat) (Ao : Option Addr) (co : Nat) (re : List Int) (g g7 gc gr : Nat) (k : Nat) : Prop := ∀ (used : Nat) (best : Option Nat) (cl : List ByteArray) (w : World), cl.length = nb → used ≤ 1000 * k → Mem ⟨0, w0, none, [269, 268]⟩ (fun _ => True) [(g, 266, [.slice A nb cb, .slice A9 nb c9, .slice Ao nb co, .slice (some ⟨gc, 0, none⟩) nb nb, .slice none 0 0, .slice (some ⟨gr, 0, none⟩) (nb + 1) (nb + 1), .int .i64 (bestI best)]), (g7, 262, [.pointer (some ⟨g, 0, none⟩)])] [⟨.slice (some ⟨gc, 0, none⟩) nb nb, 9, 1, nb, (cl).flatMap sgEnc⟩, ⟨.slice Ao nb co, 3, 1, nb, od.flatMap nEnc⟩, ⟨.slice (some ⟨gr, 0, none⟩) (nb + 1) (nb + 1), 3, 1, nb + 1, re.flatMap iEnc⟩] [SlOld bkEnc 6 92 w0.heap.size none A nb l, fun wy => SlT csnEnc 1 269 wy A9 nb cx, fun wy => Chs 268 cx wy] w →
    Calls Tryz.prog 228 #[.pointer (some ⟨g, 0, none⟩), .int .i64 ((k : Nat) : Int), .int .i64 ((used : Nat) : Int)] w (fun e w' => ∃ cl' : List ByteArray, e = .returned (.tuple #[]) ∧ cl'.length = nb ∧ plB l cl' (od.take k) = plB l cl (od.take k) ∧ Mem ⟨0, w0, none, [269, 268]⟩ (fun _ => True) [(g, 266, [.slice A nb cb, .slice A9 nb c9, .slice Ao nb co, .slice (some ⟨gc, 0, none⟩) nb nb, .slice none 0 0, .slice (some ⟨gr, 0, none⟩) (nb + 1) (nb + 1), .int .i64 (bestI (bbW roomF ((od.drop (k)).map (itB cs sl l)) (plB l cl (od.take (k))) (used) (best)))]), (g7, 262, [.pointer (some ⟨g, 0, none⟩)])] [⟨.slice (some ⟨gc, 0, none⟩) nb nb, 9, 1, nb, (cl').flatMap sgEnc⟩, ⟨.slice Ao nb co, 3, 1, nb, od.flatMap nEnc⟩, ⟨.slice (some ⟨gr, 0, none⟩) (nb + 1) (nb + 1), 3, 1, nb + 1, re.flatMap iEnc⟩] [SlOld bkEnc 6 92 w0.heap.size none A nb l, fun wy => SlT csnEnc 1 269 wy A9 nb cx, fun wy => Chs 268 cx wy] w')
theorem cf_step (w0 : World) (l : List Bk) (A : Option Addr) (nb cb : Nat) (cs : List Cs) (sl : List Sk) (A9 : Option Addr) (c9 : Nat) (cx : List ChS) (od : List Nat) (Ao : Option Addr) (co : Nat) (re : List Int) (g g7 gc gr : Nat) (k : Nat) (ih : k < nb → CfSpec w0 l A nb cb cs sl A9 c9 cx od Ao co re g g7 gc gr (k + 1)) (hk : k ≤ nb) (hn : nb ≤ 1000) (hco : nb ≤ co) (hol : od.length = nb) (hrl : re.length = nb + 1) (hord : ∀ j ∈ od, j < nb) (hnd : od.Nodup) (htm : BkTim l) (hcx : cx.map ChS.l = l.map (chB cs sl)) (hstp : ∀ b ∈ l, ∀ q ∈ chB cs sl b, q.2.1 ≤ 1000) (hchl : ∀ b ∈ l, (chB cs sl b).length ≤ 1000) (hrest : ∀ k, restI ((od.drop k).map (itB cs sl l)) ≤ 1000000) (hre : ∀ k, k ≤ nb → re[k]? = some ((restI ((od.drop k).map (itB cs sl l)) : Nat) : Int)) : CfSpec w0 l A nb cb cs sl A9 c9 cx od Ao co re g g7 gc gr k := by
 intro used best cl w hcl hused hm
 refine gw_enter ⟨88, w0, none, [269, 268]⟩ Tryz.func228 rfl Tryz.ntmps228 rfl hm.cx ?_
 refine gw_seq ?_
 obtain ⟨BB, hBB⟩ : ∃ z, z = bbW roomF ((od.drop (k)).map (itB cs sl l)) (plB l cl (od.take (k))) (used) (best) := ⟨_, rfl⟩
 obtain ⟨rk, hrk⟩ : ∃ z, z = restI ((od.drop k).map (itB cs sl l)) := ⟨_, rfl⟩
 have hrb := hrest k
 rw [← hrk] at hrb
 have hrg := hre k hk
 rw [← hrk] at hrg
 rw [← hBB]
 refine gw_cut (γ := Bool) (I := (fun (sb : Bool) => sb = stopW best (used + rk))) (S' := (fun (sb : Bool) => [(0, .pointer (some ⟨g, 0, none⟩)), (1, .int .i64 ((k : Nat) : Int)), (2, .int .i64 ((used : Nat) : Int)), (29, .bool sb)])) (K' := (fun (sb : Bool) => fun _ => True)) (L' := (fun (sb : Bool) => [(g, 266, [.slice A nb cb, .slice A9 nb c9, .slice Ao nb co, .slice (some ⟨gc, 0, none⟩) nb nb, .slice none 0 0, .slice (some ⟨gr, 0, none⟩) (nb + 1) (nb + 1), .int .i64 (bestI best)]), (g7, 262, [.pointer (some ⟨g, 0, none⟩)])])) (O' := (fun (sb : Bool) => [⟨.slice (some ⟨gc, 0, none⟩) nb nb, 9, 1, nb, (cl).flatMap sgEnc⟩, ⟨.slice Ao nb co, 3, 1, nb, od.flatMap nEnc⟩, ⟨.slice (some ⟨gr, 0, none⟩) (nb + 1) (nb + 1), 3, 1, nb + 1, re.flatMap iEnc⟩])) (X' := (fun (sb : Bool) => [SlOld bkEnc 6 92 w0.heap.size none A nb l, fun wy => SlT csnEnc 1 269 wy A9 nb cx, fun wy => Chs 268 cx wy])) ?_ ?_
 ·refine gd (fun wz => Blk wz g 266 [.slice A nb cb, .slice A9 nb c9, .slice Ao nb co, .slice (some ⟨gc, 0, none⟩) nb nb, .slice none 0 0, .slice (some ⟨gr, 0, none⟩) (nb + 1) (nb + 1), .int .i64 (bestI best)] ∧ Blk wz g7 262 [.pointer (some ⟨g, 0, none⟩)] ∧ (SlOld bkEnc 6 92 w0.heap.size none A nb l) wz ∧ (fun wy => SlT csnEnc 1 269 wy A9 nb cx) wz ∧ (fun wy => Chs 268 cx wy) wz ∧ wz.ownsRow w0.heap.size 9 1 (.slice (some ⟨gc, 0, none⟩) nb nb) nb ((cl).flatMap sgEnc) ∧ wz.ownsRow w0.heap.size 3 1 (.slice Ao nb co) nb (od.flatMap nEnc) ∧ wz.ownsRow w0.heap.size 3 1 (.slice (some ⟨gr, 0, none⟩) (nb + 1) (nb + 1)) (nb + 1) (re.flatMap iEnc) ∧ True) mixed (fun _ hm => ⟨hm.bl 0, hm.bl 1, hm.fa 0, hm.fa 1, hm.fa 2, hm.ownI 0 rfl, hm.ownI 1 rfl, hm.ownI 2 rfl, trivial⟩) fun z => ?_
  refine wt 0 21 1 rfl z (ov_move rfl) ?_
  refine wt 1 21 3 rfl z (ov_nilcheck rfl) ?_
  refine wt 2 21 7 rfl z (ov_field fo266_6 rfl rfl) ?_
  refine wt 3 21 15 rfl z (ov_load sc3 rfl (fun _ hm => hm.1) rfl) ?_
  refine wt 4 21 31 rfl z (ov_geq rfl rfl) ?_
  refine wt 5 21 63 rfl z (ov_move rfl) ?_
  rcases Bool.eq_false_or_eq_true (decide (0 ≤ bestI best)) with h1 | h1
  ·refine wa_set 14 rfl (congrArg Value.bool h1) ?_
   refine wto 6 21 127 rfl rfl rfl z (ov_move rfl) ?_
   refine wto 7 21 255 rfl rfl rfl z (ov_move rfl) ?_
   refine wto 8 21 511 rfl rfl rfl z (ov_nilcheck rfl) ?_
   refine wto 9 21 1023 rfl rfl rfl z (ov_field fo266_5 rfl rfl) ?_
   refine wto 10 21 2047 rfl rfl rfl z (ov_load sc22 rfl (fun _ hm => hm.1) rfl) ?_
   refine wto 11 21 4095 rfl rfl rfl z (ov_move rfl) ?_
   refine wto 12 21 8191 rfl rfl rfl z (ov_index (j := k) es22 rfl rfl (by omega)) ?_
   refine wto 13 21 16383 rfl rfl rfl z (ov_elem1 (k := 0) (v := .int .i64 ((rk : Nat) : Int)) sc3 rfl (fun _ hm => (SlT.ofOwn i_len (hm.2.2.2.2.2.2.2.1) hrl)) hrg rfl rfl) ?_
   refine wto 14 21 32767 rfl rfl rfl z (ov_add rfl rfl (by omega) (by omega)) ?_
   refine wto 15 21 65535 rfl rfl rfl z (ov_move rfl) ?_
   refine wto 16 21 131071 rfl rfl rfl z (ov_nilcheck rfl) ?_
   refine wto 17 21 262143 rfl rfl rfl z (ov_field fo266_6 rfl rfl) ?_
   refine wto 18 21 524287 rfl rfl rfl z (ov_load sc3 rfl (fun _ hm => hm.1) rfl) ?_
   refine wto 19 21 1048575 rfl rfl rfl z (ov_geq rfl rfl) ?_
   refine wt 20 21 2097151 rfl z (ov_pick_t rfl rfl) ?_
   refine wa_done (by kernel_rfl) ?_
   exact nx_meet (decide (bestI best ≤ ((used : Nat) : Int) + ((rk : Nat) : Int))) (by rw [← stopW_iff, h1]; first | rfl | (rw [Bool.true_and, decide_eq_decide]; omega)) ⟨rfl, rfl, rfl, rfl, trivial⟩ (fun _ hm => hm.pick [0, 1] [0, 1, 2] [0, 1, 2] rfl rfl)
  refine wa_set 14 rfl (congrArg Value.bool h1) ?_
  refine wtf 6 21 127 rfl rfl rfl z ?_
  refine wtf 7 21 255 rfl rfl rfl z ?_
  refine wtf 8 21 511 rfl rfl rfl z ?_
  refine wtf 9 21 1023 rfl rfl rfl z ?_
  refine wtf 10 21 2047 rfl rfl rfl z ?_
  refine wtf 11 21 4095 rfl rfl rfl z ?_
  refine wtf 12 21 8191 rfl rfl rfl z ?_
  refine wtf 13 21 16383 rfl rfl rfl z ?_
  refine wtf 14 21 32767 rfl rfl rfl z ?_
  refine wtf 15 21 65535 rfl rfl rfl z ?_
  refine wtf 16 21 131071 rfl rfl rfl z ?_
  refine wtf 17 21 262143 rfl rfl rfl z ?_
  refine wtf 18 21 524287 rfl rfl rfl z ?_
  refine wtf 19 21 1048575 rfl rfl rfl z ?_
  refine wt 20 21 2097151 rfl z (ov_pick_f rfl rfl) ?_
  refine wa_done (by kernel_rfl) ?_
  exact nx_meet false (by rw [← stopW_iff, h1]; first | rfl | (rw [Bool.true_and, decide_eq_decide]; omega)) ⟨rfl, rfl, rfl, rfl, trivial⟩ (fun _ hm => hm.pick [0, 1] [0, 1, 2] [0, 1, 2] rfl rfl)
 intro sb hinv
 replace hinv : sb = stopW best (used + rk) := hinv
 have hst0 : sb = stopW best (used + rk) := hinv
 refine gw_cond rfl (fun hh => ?_) (fun hh => ?_)
 ·have hsb : sb = true := by simpa using hh
  clear hh
  refine gw_ret ?_
  refine nx_then_ret ?_
  have hst : stopW best (used + rk) = true := hst0.symm.trans hsb
  rw [show BB = best from by rw [hBB]; exact bb_stop (by rw [← hrk]; exact hst)]
  refine nx_ret0' rfl fun wx hm => ?_
  exact ⟨cl, rfl, hcl, rfl, (hm.pick [0, 1] [0, 1, 2] [0, 1, 2] rfl rfl).cx⟩
 have hsb : sb = false := by simpa using hh
 clear hh
 refine gw_skip (nx_then (gw_seq (sr_ ?_)))
 have hst : stopW best (used + rk) = false := hst0.symm.trans hsb
 refine mv_ rfl (mv_ rfl (wl_ov (ov_nilcheck rfl) rfl (fd_ fo266_2 rfl rfl (lk_ sc22 0 rfl rfl rfl (wl_ov (ov_len es22 rfl) rfl (wl_ov (ov_eql rfl rfl) rfl (nn_ ?_)))))))
 refine gw_cond rfl (fun hh => ?_) (fun hh => ?_)
 ·have hkn : ((k : Nat) : Int) = ((nb : Nat) : Int) := by simpa using hh
  clear hh
  refine sr_ (mv_ rfl (mv_ rfl (wl_ov (ov_nilcheck rfl) rfl (fd_ fo266_6 rfl rfl ?_))))
  refine wl_store 0 sc3 rfl rfl rfl rfl rfl rfl ?_
  refine nn_ ?_
  refine gw_ret ?_
  refine nx_then_ret ?_
  have hk2 : nb ≤ k := by omega
  rw [show BB = some used from by rw [hBB]; rw [List.drop_eq_nil_of_le (by omega)]; exact bb_end (by rw [List.drop_eq_nil_of_le (by omega)] at hrk; rw [show restI ([] : List (ItW ByteArray)) = rk from hrk.symm]; exact hst)]
  refine nx_ret0' rfl fun wx hm => ?_
  exact ⟨cl, rfl, hcl, rfl, (hm.pick [0, 1] [0, 1, 2] [0, 1, 2] rfl rfl).cx⟩
 have hkn : ¬ (((k : Nat) : Int) = ((nb : Nat) : Int)) := by simpa using hh
 clear hh
 refine gw_skip (nx_then (sr_ ?_))
 have hk2 : k < nb := by omega
 obtain ⟨i, hi⟩ : ∃ x, od[k]? = some x := ⟨_, List.getElem?_eq_getElem (by omega)⟩
 have hib := hord i (List.mem_of_getElem? hi)
 have hdm := drop_map_at (cs := cs) (sl := sl) (l := l) hi
 obtain ⟨PL, hPL⟩ : ∃ z, z = plB l cl (od.take k) := ⟨_, rfl⟩
 rw [← hPL] at hBB ⊢
 rw [hdm] at hrk hBB
 rw [bb_at (by rw [← hrk]; exact hst)] at hBB
 have hl0 := (hm.fact 0 rfl : SlOld bkEnc 6 92 w0.heap.size none A nb l w).1
 have hlen := hl0.len
 have hch9 : SlT csnEnc 1 269 w A9 nb cx := hm.fact 1 rfl
 have hchs : Chs 268 cx w := hm.fact 2 rfl
 have hcl9 := hch9.len
 refine wl_look (R := ∃ g, Ao = some ⟨g, 0, none⟩) (fun wx hm => own_addr (hm.ownI 1 rfl) (by omega)) ?_
 rintro ⟨go, rfl⟩
 obtain ⟨b9, o9, hA, _, _⟩ := hch9.get (by omega)
 subst hA
 obtain ⟨x9, hx9⟩ : ∃ x, cx[i]? = some x := ⟨_, List.getElem?_eq_getElem (by omega)⟩
 have hx9l := cx_at hcx hx9
 have hx9m := List.mem_of_getElem? hx9
 have hs9 := hchs x9 hx9m
 obtain ⟨Ai, ni, ci, li⟩ := x9
 dsimp only at hx9l hs9
 have hni := hs9.len
 obtain ⟨b0, hb0⟩ : ∃ x, l[i]? = some x := ⟨_, List.getElem?_eq_getElem (by omega)⟩
 have hni1 : ni ≤ 1000 := by have h8 := hchl b0 (List.mem_of_getElem? hb0); rw [← bkAt_get hb0, ← hx9l] at h8; omega
 have hstl : ∀ q ∈ li, q.2.1 ≤ 1000 := by rw [hx9l, bkAt_get hb0]; exact hstp b0 (List.mem_of_getElem? hb0)
 obtain ⟨xw, hxw⟩ : ∃ z, z = wnB (bkAt l i) := ⟨_, rfl⟩
 obtain ⟨RS, hRS⟩ : ∃ z, z = (od.drop (k + 1)).map (itB cs sl l) := ⟨_, rfl⟩
 replace hBB : BB = li.foldl (bbS roomF RS PL xw used) best := by rw [hBB, hxw, hRS, hx9l]; rfl
 refine mv_ rfl (wl_ov (ov_nilcheck rfl) rfl (fd_ fo266_2 rfl rfl (lk_ sc22 0 rfl rfl rfl (mv_ rfl ?_))))
 refine wl_ov (ov_index (j := k) es22 rfl rfl (by omega)) rfl ?_
 refine wl_ov (ov_elem1 (k := 0) (v := .int .i64 ((i : Nat) : Int)) sc3 rfl (fun _ hm => (SlT.ofOwn n_len (hm.ownI 1 rfl) hol)) hi rfl rfl) rfl ?_
 refine sg_ rfl (nn_ (sr_ (mv_ rfl (wl_ov (ov_nilcheck rfl) rfl (fd_ fo266_1 rfl rfl (lk_ sc263 0 rfl rfl rfl (mv_ rfl ?_)))))))
 refine wl_ov (ov_index (j := i) es263 rfl rfl (by omega)) rfl ?_
 refine wl_ov (ov_elem1 (k := 0) (v := .slice Ai ni ci) sc269 rfl (fun _ hm => (hm.fact 1 rfl)) hx9 rfl rfl) rfl ?_
 refine wl_ov (ov_len es269 rfl) rfl (mv_ rfl (nn_ (gw_block ?_)))
 refine gw_loop (γ := Nat × Option Nat × List ByteArray) (fun (gq : Nat × Option Nat × List ByteArray) => gq.1 ≤ ni ∧ gq.2.2.length = nb ∧ plB l gq.2.2 (od.take k) = PL ∧ BB = (li.drop gq.1).foldl (bbS roomF RS PL xw used) gq.2.1) (fun (gq : Nat × Option Nat × List ByteArray) => [(0, .pointer (some ⟨g, 0, none⟩)), (1, .int .i64 ((k : Nat) : Int)), (2, .int .i64 ((used : Nat) : Int)), (6, .int .i64 ((i : Nat) : Int)), (54, .slice Ai ni ci), (55, .int .i64 ((ni : Nat) : Int)), (56, .int .i64 ((gq.1 : Nat) : Int))]) (fun (gq : Nat × Option Nat × List ByteArray) => fun _ => True) (fun (gq : Nat × Option Nat × List ByteArray) => [(g, 266, [.slice A nb cb, .slice (some ⟨b9, o9, none⟩) nb c9, .slice (some ⟨go, 0, none⟩) nb co, .slice (some ⟨gc, 0, none⟩) nb nb, .slice none 0 0, .slice (some ⟨gr, 0, none⟩) (nb + 1) (nb + 1), .int .i64 (bestI gq.2.1)]), (g7, 262, [.pointer (some ⟨g, 0, none⟩)])]) (fun (gq : Nat × Option Nat × List ByteArray) => [⟨.slice (some ⟨gc, 0, none⟩) nb nb, 9, 1, nb, (gq.2.2).flatMap sgEnc⟩, ⟨.slice (some ⟨go, 0, none⟩) nb co, 3, 1, nb, od.flatMap nEnc⟩, ⟨.slice (some ⟨gr, 0, none⟩) (nb + 1) (nb + 1), 3, 1, nb + 1, re.flatMap iEnc⟩]) (fun (gq : Nat × Option Nat × List ByteArray) => [SlOld bkEnc 6 92 w0.heap.size none A nb l, fun wy => SlT csnEnc 1 269 wy (some ⟨b9, o9, none⟩) nb cx, fun wy => Chs 268 cx wy]) (fun (gq : Nat × Option Nat × List ByteArray) => ni - gq.1) (0, best, cl) ⟨Nat.zero_le _, hcl, hPL.symm, hBB⟩ ⟨rfl, rfl, rfl, rfl, rfl, rfl, rfl, trivial⟩ (fun _ hm => hm.pick [0, 1] [0, 1, 2] [0, 1, 2] rfl rfl) ?_
 rintro ⟨j, bj, ce⟩ hinv
 replace hinv : j ≤ ni ∧ ce.length = nb ∧ plB l ce (od.take k) = PL ∧ BB = (li.drop j).foldl (bbS roomF RS PL xw used) bj := hinv
 dsimp only
 refine sr_ ?_
 obtain ⟨hj0, hce, hpl, hBj⟩ := hinv
 refine wl_ov (ov_lss rfl rfl) rfl (nn_ (gw_seq ?_))
 refine gw_cond rfl (fun hh => ?_) (fun hh => ?_)
 ·have hj : ((j : Nat) : Int) < ((ni : Nat) : Int) := by simpa using hh
  clear hh
  refine gw_skip (nx_then (gw_seq (gw_block (sr_ ?_))))
  obtain ⟨bi, oi, hA, _, _⟩ := hs9.get (by omega)
  subst hA
  obtain ⟨q, hq⟩ : ∃ x, li[j]? = some x := ⟨_, List.getElem?_eq_getElem (by omega)⟩
  have hqs := hstl q (List.mem_of_getElem? hq)
  rw [foldl_at hq] at hBj
  obtain ⟨c, st, mm⟩ := q
  dsimp only at hqs
  obtain ⟨RF, hRF⟩ : ∃ z, z = roomF PL xw (c, st, mm) := ⟨_, rfl⟩
  refine wl_ov (ov_index (j := j) es269 rfl rfl (by omega)) rfl ?_
  refine wl_ov (ov_elem (vs := [.string c, .int .i64 ((st : Nat) : Int), .int .i64 ((mm : Nat) : Int)]) rz268 rfl (fun _ hm => ((hm.fact 2 rfl) _ hx9m)) hq rfl rfl) rfl ?_
  refine wl_allocs (vs := [.string c, .int .i64 ((st : Nat) : Int), .int .i64 ((mm : Nat) : Int)]) (cs' := [.string c, .int .i64 ((st : Nat) : Int), .int .i64 ((mm : Nat) : Int)]) zc268 rfl rz268 (fun _ => rfl) (fun _ => rfl) rfl rfl rfl rfl fun g1 => ?_
  refine nn_ (sr_ (mv_ rfl (mv_ rfl (mv_ rfl ?_))))
  refine wl_ov (ov_loads rz268 rfl (fun _ hm => hm.blkI 0 rfl) rfl rfl) rfl ?_
  refine wl_callv (v := .bool RF) rfl cb282 rfl rfl (fun wx hm => (by rw [hRF, ← hpl, hxw]; exact fits_any l A nb cb (some ⟨go, 0, none⟩) co od (some ⟨gc, 0, none⟩) nb ce _ _ _ _ g k i c st mm wx (hm.blkI 1 rfl) (hm.fact 0 rfl).1 (SlT.ofOwn n_len (hm.ownI 1 rfl) hol) (SlT.ofOwn sg_len (hm.ownI 0 rfl) hce) hk hib hn hco hord htm)) ?_
  refine nn_ ?_
  refine gw_cond rfl (fun hh => ?_) (fun hh => ?_)
  ·have hrf : RF = true := by simpa using hh
   clear hh
   refine gw_seq ?_
   have hbs : bbS roomF RS PL xw used bj (c, st, mm) = bbW roomF RS (PL ++ [(c, xw)]) (used + st) bj := if_pos (hRF.symm.trans hrf)
   rw [hbs] at hBj
   obtain ⟨c0, hc0⟩ : ∃ x, ce[i]? = some x := ⟨_, List.getElem?_eq_getElem (by omega)⟩
   have hps := plB_snoc (l := l) (x := c) hi hnd (by omega : i < ce.length)
   rw [hpl, ← hxw] at hps
   refine gd (fun wz => Blk wz g1 268 [.string c, .int .i64 ((st : Nat) : Int), .int .i64 ((mm : Nat) : Int)] ∧ Blk wz g 266 [.slice A nb cb, .slice (some ⟨b9, o9, none⟩) nb c9, .slice (some ⟨go, 0, none⟩) nb co, .slice (some ⟨gc, 0, none⟩) nb nb, .slice none 0 0, .slice (some ⟨gr, 0, none⟩) (nb + 1) (nb + 1), .int .i64 (bestI bj)] ∧ Blk wz g7 262 [.pointer (some ⟨g, 0, none⟩)] ∧ (SlOld bkEnc 6 92 w0.heap.size none A nb l) wz ∧ (fun wy => SlT csnEnc 1 269 wy (some ⟨b9, o9, none⟩) nb cx) wz ∧ (fun wy => Chs 268 cx wy) wz ∧ True) mixed (fun _ hm => ⟨hm.bl 0, hm.bl 1, hm.bl 2, hm.fa 0, hm.fa 1, hm.fa 2, trivial⟩) fun z => ?_
   refine wt 0 9 1 rfl z (ov_move rfl) ?_
   refine wt 1 9 3 rfl z (ov_nilcheck rfl) ?_
   refine wt 2 9 7 rfl z (ov_field fo266_3 rfl rfl) ?_
   refine wt 3 9 15 rfl z (ov_load sc103 rfl (fun _ hm => hm.2.1) rfl) ?_
   refine wt 4 9 31 rfl z (ov_move rfl) ?_
   refine wt 5 9 63 rfl z (ov_field fo268_0 rfl rfl) ?_
   refine wt 6 9 127 rfl z (ov_load sc9 rfl (fun _ hm => hm.1) rfl) ?_
   refine wt 7 9 255 rfl z (ov_index (j := i) es103 rfl rfl (by omega)) ?_
   refine wa1 8 rfl ?_
   refine wl_storeE (l := ce) (j := i) (r := 0) (el := c0) (el' := c) 0 sc9 rfl rfl rfl rfl sg_len rfl hc0 hce (show 0 < 1 by decide) rfl rfl ?_
   refine wl_nil ?_
   refine nw 9 511 (fun _ hm => ⟨hm.bl 0, hm.bl 1, hm.bl 2, hm.fa 0, hm.fa 1, hm.fa 2, trivial⟩) fun z => ?_
   refine wa_done (by kernel_rfl) ?_
   refine nx_then (sr_ (mv_ rfl (mv_ rfl (ad_ rfl rfl ?_))))
   refine wl_set 75 (v' := .int .i64 ((k + 1 : Nat) : Int)) rfl (congrArg (Value.int .i64) (by omega)) ?_
   refine mv_ rfl (fd_ fo268_1 rfl rfl (lk_ sc3 0 rfl rfl rfl (ad_ rfl rfl ?_)))
   refine wl_set 79 (v' := .int .i64 ((used + st : Nat) : Int)) rfl (congrArg (Value.int .i64) (by omega)) ?_
   refine wl_callG (γ := List ByteArray) (val := fun _ => .tuple #[]) (φ := fun c2 => c2.length = nb ∧ plB l c2 (od.take (k + 1)) = plB l (ce.set i c) (od.take (k + 1))) (K' := fun _ => fun _ => True) (L' := fun _ => [(g, 266, [.slice A nb cb, .slice (some ⟨b9, o9, none⟩) nb c9, .slice (some ⟨go, 0, none⟩) nb co, .slice (some ⟨gc, 0, none⟩) nb nb, .slice none 0 0, .slice (some ⟨gr, 0, none⟩) (nb + 1) (nb + 1), .int .i64 (bestI (bbW roomF RS (PL ++ [(c, xw)]) (used + st) bj))]), (g7, 262, [.pointer (some ⟨g, 0, none⟩)])]) (O' := fun c2 => [⟨.slice (some ⟨gc, 0, none⟩) nb nb, 9, 1, nb, (c2).flatMap sgEnc⟩, ⟨.slice (some ⟨go, 0, none⟩) nb co, 3, 1, nb, od.flatMap nEnc⟩, ⟨.slice (some ⟨gr, 0, none⟩) (nb + 1) (nb + 1), 3, 1, nb + 1, re.flatMap iEnc⟩]) (X' := fun _ => [SlOld bkEnc 6 92 w0.heap.size none A nb l, fun wy => SlT csnEnc 1 269 wy (some ⟨b9, o9, none⟩) nb cx, fun wy => Chs 268 cx wy]) rfl cb228 rfl rfl (fun wx hm => by
    have h := ih hk2 (used + st) bj (ce.set i c) wx (by rw [List.length_set]; exact hce) (by omega) ((hm.pick [1, 2] [0, 1, 2] [0, 1, 2] rfl rfl).cx)
    rw [hps, ← hRS] at h
    exact h.mono fun _ _ ⟨c2, he, h1, h2, hm2⟩ => ⟨c2, he, ⟨h1, by rw [h2, hps]⟩, hm2.cx⟩) ?_
   rintro c2 ⟨hc2, hpl2⟩
   obtain ⟨c3, hc3⟩ : ∃ x, c2[i]? = some x := ⟨_, List.getElem?_eq_getElem (by omega)⟩
   have hpl3 := plB_take hpl2
   rw [nd_set hnd hi, hpl] at hpl3
   refine nn_ (gw_region (mv_ rfl (wl_ov (ov_nilcheck rfl) rfl (fd_ fo266_3 rfl rfl (lk_ sc103 0 rfl rfl rfl (mv_ rfl ?_))))))
   refine wl_ov (ov_index (j := i) es103 rfl rfl (by omega)) rfl ?_
   refine wl_storeE (l := c2) (j := i) (r := 0) (el := c3) (el' := ⟨#[]⟩) 0 sc9 rfl rfl rfl rfl sg_len rfl hc3 hc2 (show 0 < 1 by decide) rfl rfl ?_
   refine wl_nil (nx_blk_nrm (nx_then (gw_region (ad_ rfl rfl (mv_ rfl (wl_nil ?_))))))
   exact nx_round (j + 1, bbW roomF RS (PL ++ [(c, xw)]) (used + st) bj, c2.set i ⟨#[]⟩) ⟨by dsimp only; omega, by dsimp only; rw [List.length_set]; exact hc2, by dsimp only; rw [nd_set hnd hi]; exact hpl3, hBj⟩ (by dsimp only; omega) ⟨rfl, rfl, rfl, rfl, rfl, rfl, (some_int (by omega)), trivial⟩ (fun _ hm => hm.pick [0, 1] [0, 1, 2] [0, 1, 2] rfl rfl)
  have hrf : RF = false := by simpa using hh
  clear hh
  refine gw_skip (nx_blk_nrm (nx_then (gw_region ?_)))
  have hbs : bbS roomF RS PL xw used bj (c, st, mm) = bj := if_neg (by rw [← hRF, hrf]; decide)
  rw [hbs] at hBj
  refine ad_ rfl rfl (mv_ rfl (wl_nil ?_))
  exact nx_round (j + 1, bj, ce) ⟨by dsimp only; omega, hce, hpl, hBj⟩ (by dsimp only; omega) ⟨rfl, rfl, rfl, rfl, rfl, rfl, (some_int (by omega)), trivial⟩ (fun _ hm => hm.pick [1, 2] [0, 1, 2] [0, 1, 2] rfl rfl)
 have hj : ¬ (((j : Nat) : Int) < ((ni : Nat) : Int)) := by simpa using hh
 clear hh
 refine gw_exit ?_
 refine nx_then_exit (nx_then_exit ?_)
 refine nx_blk_here ?_
 rw [foldl_end (by omega)] at hBj
 rw [hBj]
 refine nx_ret0 rfl fun wx hm => ?_
 exact ⟨ce, rfl, hce, hpl, (hm.pick [0, 1] [0, 1, 2] [0, 1, 2] rfl rfl).cx⟩
theorem cf_all (w0 : World) (l : List Bk) (A : Option Addr) (nb cb : Nat) (cs : List Cs) (sl : List Sk) (A9 : Option Addr) (c9 : Nat) (cx : List ChS) (od : List Nat) (Ao : Option Addr) (co : Nat) (re : List Int) (g g7 gc gr : Nat) (hn : nb ≤ 1000) (hco : nb ≤ co) (hol : od.length = nb) (hrl : re.length = nb + 1) (hord : ∀ j ∈ od, j < nb) (hnd : od.Nodup) (htm : BkTim l) (hcx : cx.map ChS.l = l.map (chB cs sl)) (hstp : ∀ b ∈ l, ∀ q ∈ chB cs sl b, q.2.1 ≤ 1000) (hchl : ∀ b ∈ l, (chB cs sl b).length ≤ 1000) (hrest : ∀ k, restI ((od.drop k).map (itB cs sl l)) ≤ 1000000) (hre : ∀ k, k ≤ nb → re[k]? = some ((restI ((od.drop k).map (itB cs sl l)) : Nat) : Int)) : ∀ (d k : Nat), k + d = nb → CfSpec w0 l A nb cb cs sl A9 c9 cx od Ao co re g g7 gc gr k
  | 0, k, h => cf_step w0 l A nb cb cs sl A9 c9 cx od Ao co re g g7 gc gr k (fun h2 => absurd h2 (by omega)) (by omega) hn hco hol hrl hord hnd htm hcx hstp hchl hrest hre
  | d + 1, k, h => cf_step w0 l A nb cb cs sl A9 c9 cx od Ao co re g g7 gc gr k (fun _ => cf_all w0 l A nb cb cs sl A9 c9 cx od Ao co re g g7 gc gr hn hco hol hrl hord hnd htm hcx hstp hchl hrest hre d (k + 1) (by omega)) (by omega) hn hco hol hrl hord hnd htm hcx hstp hchl hrest hre
end Go.Proofs.YtempjmpfdniecaaGreatDoor
namespace Go.Proofs.YtempjmpfdniecaaGreatDoor
open Go.RowKit
theorem SlT.farT {α : Type} {enc : α → List Value} {k : Nat} {T : TypeId} {N : Nat} {A : Option Addr} {n : Nat} {l : List α} {w : World} (h : SlT enc k T w A n l) {e : TypeId} {sz br m cap n' : Nat} {xs : List Value} (ho : w.ownsRow N e sz (.slice (some ⟨br, 0, none⟩) m cap) n' xs) (hT : T ≠ e) : SlOld enc k T w.heap.size (some br) A n l w := ⟨h, fun b off e1 hn => by
  obtain ⟨b2, off2, cells, fz, e2, hh, _⟩ := h.at_ hn
  rw [e1] at e2; cases e2
  refine ⟨(Array.getElem?_eq_some_iff.1 hh).1, fun e3 => ?_⟩
  cases e3
  rcases ho.2 with ⟨h2, _⟩ | ⟨g', cap', cur, hv, hbase, hh2, _⟩
  · cases h2
  · injection hv with hA _ _
    injection hA with hA
    injection hA with hA _ _
    subst hA
    rw [hh] at hh2
    injection hh2 with hh2
    injection hh2 with _ hh2 _
    exact hT hh2⟩
theorem lenN_at {css : List (List (CdW ByteArray))} {cx : List ChS} (h : cx.map ChS.l = css) (hn : ∀ x ∈ cx, x.l.length = x.n) {i : Nat} {x : ChS} (hx : cx[i]? = some x) : ((x.n : Nat) : Int) = (lenN css i : Int) := by
  unfold lenN
  rw [← h, List.getD_eq_getElem?_getD, List.getElem?_map, hx]
  show _ = ((x.l.length : Nat) : Int)
  rw [hn x (List.mem_of_getElem? hx)]
theorem coI_any (cx : List ChS) (css : List (List (CdW ByteArray))) (A9 : Option Addr) (nb c9 g7 g : Nat) (q0 q2 q3 q4 q5 q6 : Value) (i j : Nat) (w : World) (hch : SlT csnEnc 1 269 w A9 nb cx) (hp : Blk w g7 262 [.pointer (some ⟨g, 0, none⟩)]) (hb : Blk w g 266 [q0, .slice A9 nb c9, q2, q3, q4, q5, q6]) (hcx : cx.map ChS.l = css) (hcn : ∀ x ∈ cx, x.l.length = x.n) (hi : i < nb) (hj : j < nb) :
  Calls Tryz.prog 227 #[.int .i64 ((i : Nat) : Int), .int .i64 ((j : Nat) : Int), .pointer (some ⟨g7, 0, none⟩)] w (fun e w' => e = .returned (.int .i64 (cmpI (lenN css i : Int) (lenN css j : Int))) ∧ w.grownBy w' none) := by
 refine gw_enter ⟨23, w, none, []⟩ Tryz.func227 rfl Tryz.ntmps227 rfl (mem0 (X := [SlOld csnEnc 1 269 w.heap.size none A9 nb cx, BlkOld w.heap.size none g7 262 [.pointer (some ⟨g, 0, none⟩)], BlkOld w.heap.size none g 266 [q0, .slice A9 nb c9, q2, q3, q4, q5, q6]]) (allF_cons hch.old (allF_cons hp.old (allF_cons hb.old allF_nil))) (allL_cons SlOld.lasts (allL_cons BlkOld.lasts (allL_cons BlkOld.lasts allL_nil)))) ?_
 refine sr_ ?_
 have hlen := hch.len
 obtain ⟨b9, o9, hA, _, _⟩ := hch.get (by omega)
 subst hA
 obtain ⟨x, hx⟩ : ∃ x, cx[i]? = some x := ⟨_, List.getElem?_eq_getElem (by omega)⟩
 obtain ⟨y, hy⟩ : ∃ x, cx[j]? = some x := ⟨_, List.getElem?_eq_getElem (by omega)⟩
 have ex := lenN_at hcx hcn hx
 have ey := lenN_at hcx hcn hy
 obtain ⟨xa, xn, xc, xl⟩ := x
 obtain ⟨ya, yn, yc, yl⟩ := y
 dsimp only at ex ey
 rw [← ex, ← ey]
 refine sg_ rfl (nn_ (gw_seq ?_))
 refine gd (fun wz => (SlOld csnEnc 1 269 w.heap.size none (some ⟨b9, o9, none⟩) nb cx) wz ∧ (BlkOld w.heap.size none g7 262 [.pointer (some ⟨g, 0, none⟩)]) wz ∧ (BlkOld w.heap.size none g 266 [q0, .slice (some ⟨b9, o9, none⟩) nb c9, q2, q3, q4, q5, q6]) wz ∧ True) mixed (fun _ hm => ⟨hm.fa 0, hm.fa 1, hm.fa 2, trivial⟩) fun z => ?_
 refine wt 0 18 1 rfl z (ov_load (v := .pointer (some ⟨g, 0, none⟩)) sc262 rfl (fun _ hm => (hm.2.1).2) rfl) ?_
 refine wt 1 18 3 rfl z (ov_nilcheck rfl) ?_
 refine wt 2 18 7 rfl z (ov_field fo266_1 rfl rfl) ?_
 refine wt 3 18 15 rfl z (ov_load (v := .slice (some ⟨b9, o9, none⟩) nb c9) sc263 rfl (fun _ hm => (hm.2.2.1).2) rfl) ?_
 refine wt 4 18 31 rfl z (ov_move rfl) ?_
 refine wt 5 18 63 rfl z (ov_index (j := i) es263 rfl rfl (by omega)) ?_
 refine wt 6 18 127 rfl z (ov_elem1 (k := 0) (v := .slice xa xn xc) sc269 rfl (fun _ hm => (hm.1).1) hx rfl rfl) ?_
 refine wt 7 18 255 rfl z (ov_len es269 rfl) ?_
 refine wt 8 18 511 rfl z (ov_load (v := .pointer (some ⟨g, 0, none⟩)) sc262 rfl (fun _ hm => (hm.2.1).2) rfl) ?_
 refine wt 9 18 1023 rfl z (ov_nilcheck rfl) ?_
 refine wt 10 18 2047 rfl z (ov_field fo266_1 rfl rfl) ?_
 refine wt 11 18 4095 rfl z (ov_load (v := .slice (some ⟨b9, o9, none⟩) nb c9) sc263 rfl (fun _ hm => (hm.2.2.1).2) rfl) ?_
 refine wt 12 18 8191 rfl z (ov_move rfl) ?_
 refine wt 13 18 16383 rfl z (ov_index (j := j) es263 rfl rfl (by omega)) ?_
 refine wt 14 18 32767 rfl z (ov_elem1 (k := 0) (v := .slice ya yn yc) sc269 rfl (fun _ hm => (hm.1).1) hy rfl rfl) ?_
 refine wt 15 18 65535 rfl z (ov_len es269 rfl) ?_
 refine wa1 16 rfl ?_
 refine wl_callv rfl cb83 rfl rfl (fun wx hm => (cmp_int _ _ wx)) ?_
 refine wl_nil ?_
 refine nw 18 131071 (fun _ hm => ⟨hm.fa 0, hm.fa 1, hm.fa 2, trivial⟩) fun z => ?_
 refine wt 17 18 262143 rfl z (ov_assign rfl) ?_
 refine wa_done (by kernel_rfl) ?_
 refine nx_then ?_
 refine gw_ret ?_
 refine nx_ret1 rfl rfl fun wx hm => ?_
 exact ⟨rfl, hm.g⟩
theorem coJ_any (cx : List ChS) (css : List (List (CdW ByteArray))) (A9 : Option Addr) (nb c9 g7 g : Nat) (q0 q2 q3 q4 q5 q6 : Value) (x y : Int) (w : World) (hch : SlT csnEnc 1 269 w A9 nb cx) (hp : Blk w g7 262 [.pointer (some ⟨g, 0, none⟩)]) (hb : Blk w g 266 [q0, .slice A9 nb c9, q2, q3, q4, q5, q6]) (hcx : cx.map ChS.l = css) (hcn : ∀ x ∈ cx, x.l.length = x.n) (hx : 0 ≤ x ∧ x < (nb : Int)) (hy : 0 ≤ y ∧ y < (nb : Int)) :
    Calls Tryz.prog 227 #[.int .i64 x, .int .i64 y, .pointer (some ⟨g7, 0, none⟩)] w (fun e w' => e = .returned (.int .i64 (cmpI (lenN css x.toNat : Int) (lenN css y.toNat : Int))) ∧ w.grownBy w' none) := by
  obtain ⟨i, rfl⟩ := Int.eq_ofNat_of_zero_le hx.1
  obtain ⟨j, rfl⟩ := Int.eq_ofNat_of_zero_le hy.1
  exact coI_any cx css A9 nb c9 g7 g q0 q2 q3 q4 q5 q6 i j w hch hp hb hcx hcn (by omega) (by omega)
theorem ins_co (cx : List ChS) (css : List (List (CdW ByteArray))) (A9 : Option Addr) (nb c9 g7 g : Nat) (q0 q2 q3 q4 q5 q6 : Value) (l0 : List Int) (br n cap base : Nat) (w : World) (h : w.ownsRow base 3 1 (.slice (some ⟨br, 0, none⟩) n cap) n (l0.flatMap iEnc)) (hl0 : l0.length = n) (hn : n ≤ 1000000) (hch : SlOld csnEnc 1 269 w.heap.size (some br) A9 nb cx w) (hp : BlkOld w.heap.size (some br) g7 262 [.pointer (some ⟨g, 0, none⟩)] w) (hb : BlkOld w.heap.size (some br) g 266 [q0, .slice A9 nb c9, q2, q3, q4, q5, q6] w) (hcx : cx.map ChS.l = css) (hcn : ∀ x ∈ cx, x.l.length = x.n) (hall : ∀ z ∈ l0, 0 ≤ z ∧ z < (nb : Int)) :
  Calls Tryz.prog 296 #[.slice (some ⟨br, 0, none⟩) n cap, .int .i64 0, .int .i64 ((n : Nat) : Int), .func (.func 227) #[] #[.pointer (some ⟨g7, 0, none⟩)]] w (fun e w' => e = .returned (.tuple #[]) ∧ w'.ownsRow base 3 1 (.slice (some ⟨br, 0, none⟩) n cap) n ((isort (coLt css) l0).flatMap iEnc) ∧ w.grownBy w' (some br)) := by
 obtain ⟨R, hR⟩ : ∃ z, z = isort (coLt css) l0 := ⟨_, rfl⟩
 rw [← hR]
 refine gw_enter ⟨53, w, (some br), []⟩ Tryz.func296 rfl Tryz.ntmps296 rfl (memR (X := [SlOld csnEnc 1 269 w.heap.size (some br) A9 nb cx, BlkOld w.heap.size (some br) g7 262 [.pointer (some ⟨g, 0, none⟩)], BlkOld w.heap.size (some br) g 266 [q0, .slice A9 nb c9, q2, q3, q4, q5, q6]]) h (allF_cons hch (allF_cons hp (allF_cons hb allF_nil))) (allL_cons SlOld.lasts (allL_cons BlkOld.lasts (allL_cons BlkOld.lasts allL_nil)))) ?_
 refine sr_ (mv_ rfl (ad_ rfl rfl ?_))
 refine wl_set 11 (v' := .int .i64 1) rfl rfl ?_
 refine sg_ rfl (nn_ (gw_block ?_))
 refine gw_loop (γ := Nat × List Int) (fun gg => (1 ≤ gg.1 ∧ gg.1 ≤ n + 1) ∧ gg.2.length = n ∧ isortF (coLt css) (n - gg.1) gg.1 gg.2 = R) (fun gg => [(0, .slice (some ⟨br, 0, none⟩) n cap), (1, .int .i64 0), (2, .int .i64 ((n : Nat) : Int)), (3, .func (.func 227) #[] #[.pointer (some ⟨g7, 0, none⟩)]), (8, .int .i64 ((gg.1 : Nat) : Int))]) (fun gg => RowK base 3 1 n cap br ((gg.2).flatMap iEnc)) (fun gg => []) (fun gg => []) (fun gg => [SlOld csnEnc 1 269 w.heap.size (some br) A9 nb cx, BlkOld w.heap.size (some br) g7 262 [.pointer (some ⟨g, 0, none⟩)], BlkOld w.heap.size (some br) g 266 [q0, .slice A9 nb c9, q2, q3, q4, q5, q6]]) (fun gg => n + 1 - gg.1) (1, l0) ⟨⟨Nat.le_refl _, by omega⟩, hl0, by rw [hR]; unfold isort; rw [hl0]⟩ ⟨rfl, rfl, rfl, rfl, (some_int (by omega)), trivial⟩ (fun _ hm => hm.pick [] [] [0, 1, 2] rfl rfl) ?_
 rintro ⟨i, l⟩ hinv
 replace hinv : (1 ≤ i ∧ i ≤ n + 1) ∧ l.length = n ∧ isortF (coLt css) (n - i) i l = R := hinv
 dsimp only
 refine gw_seq (sr_ ?_)
 obtain ⟨⟨hi1, hi2⟩, hl1, hR1⟩ := hinv
 refine mv_ rfl (mv_ rfl (wl_ov (ov_lss rfl rfl) rfl (nn_ ?_)))
 refine gw_cond rfl (fun hh => ?_) (fun hh => ?_)
 ·have hi : ((i : Nat) : Int) < ((n : Nat) : Int) := by simpa using hh
  clear hh
  refine gw_skip (nx_then (gw_seq (gw_block (sr_ ?_))))
  have hRi : isortF (coLt css) (n - (i + 1)) (i + 1) (sink (coLt css) i l) = R := by rw [← hR1, show n - i = (n - (i + 1)) + 1 by omega]; rfl
  obtain ⟨S, hS⟩ : ∃ z, z = sink (coLt css) i l := ⟨_, rfl⟩
  rw [← hS] at hRi
  have hSl : S.length = n := by rw [hS, sink_len]; exact hl1
  refine mv_ rfl (sg_ rfl (nn_ (gw_block ?_)))
  refine gw_loop (γ := Nat × List Int) (fun gg => (gg.1 ≤ i) ∧ gg.2.length = n ∧ sink (coLt css) gg.1 gg.2 = S) (fun gg => [(0, .slice (some ⟨br, 0, none⟩) n cap), (1, .int .i64 0), (2, .int .i64 ((n : Nat) : Int)), (3, .func (.func 227) #[] #[.pointer (some ⟨g7, 0, none⟩)]), (8, .int .i64 ((i : Nat) : Int)), (9, .int .i64 ((gg.1 : Nat) : Int))]) (fun gg => RowK base 3 1 n cap br ((gg.2).flatMap iEnc)) (fun gg => []) (fun gg => []) (fun gg => [SlOld csnEnc 1 269 w.heap.size (some br) A9 nb cx, BlkOld w.heap.size (some br) g7 262 [.pointer (some ⟨g, 0, none⟩)], BlkOld w.heap.size (some br) g 266 [q0, .slice A9 nb c9, q2, q3, q4, q5, q6]]) (fun gg => gg.1) (i, l) ⟨Nat.le_refl _, hl1, hS.symm⟩ ⟨rfl, rfl, rfl, rfl, rfl, rfl, trivial⟩ (fun _ hm => hm.pick [] [] [0, 1, 2] rfl rfl) ?_
  rintro ⟨jj, m⟩ hinv
  replace hinv : (jj ≤ i) ∧ m.length = n ∧ sink (coLt css) jj m = S := hinv
  dsimp only
  refine gw_seq (gw_seq ?_)
  obtain ⟨hj1, hm1, hS1⟩ := hinv
  rcases jj with _ | j
  ·refine gd (fun wz => (SlOld csnEnc 1 269 w.heap.size (some br) A9 nb cx) wz ∧ (BlkOld w.heap.size (some br) g7 262 [.pointer (some ⟨g, 0, none⟩)]) wz ∧ (BlkOld w.heap.size (some br) g 266 [q0, .slice A9 nb c9, q2, q3, q4, q5, q6]) wz ∧ True) mixed (fun _ hm => ⟨hm.fa 0, hm.fa 1, hm.fa 2, trivial⟩) fun z => ?_
   refine wt 0 17 1 rfl z (ov_move rfl) ?_
   refine wa_set 18 (v' := .int .i64 0) rfl rfl ?_
   refine wt 1 17 3 rfl z (ov_move rfl) ?_
   refine wt 2 17 7 rfl z (ov_gtr rfl rfl) ?_
   refine wa_set 20 (v' := .bool false) rfl (congrArg Value.bool (by decide)) ?_
   refine wt 3 17 15 rfl z (ov_move rfl) ?_
   refine wtf 4 17 31 rfl rfl rfl z ?_
   refine wtf 5 17 63 rfl rfl rfl z ?_
   refine wtf 6 17 127 rfl rfl rfl z ?_
   refine wtf 7 17 255 rfl rfl rfl z ?_
   refine wtf 8 17 511 rfl rfl rfl z ?_
   refine wtf 9 17 1023 rfl rfl rfl z ?_
   refine wtf 10 17 2047 rfl rfl rfl z ?_
   refine wtf 11 17 4095 rfl rfl rfl z ?_
   refine wtf 12 17 8191 rfl rfl rfl z ?_
   refine wtf 13 17 16383 rfl rfl rfl z ?_
   refine wtf 14 17 32767 rfl rfl rfl z ?_
   refine wtf 15 17 65535 rfl rfl rfl z ?_
   refine wt 16 17 131071 rfl z (ov_pick_f rfl rfl) ?_
   refine wa_done (by kernel_rfl) ?_
   refine nx_then (cf_ rfl ?_)
   refine gw_exit ?_
   refine nx_then_exit (nx_then_exit ?_)
   refine nx_blk_here ?_
   refine nx_blk_nrm (nx_then (gw_region (mv_ rfl (ad_ rfl rfl (sg_ rfl (wl_nil ?_))))))
   have hm2 : m = S := hS1
   exact nx_round (i + 1, m) ⟨⟨by dsimp only; omega, by dsimp only; omega⟩, by rw [hm2]; exact hSl, by rw [hm2]; exact hRi⟩ (by dsimp only; omega) ⟨rfl, rfl, rfl, rfl, (some_int (by omega)), trivial⟩ (fun _ hm => hm.pick [] [] [0, 1, 2] rfl rfl)
  have hj2 : j + 1 < n := by omega
  have hin : ∀ z ∈ m, z ∈ l0 := fun z hz => mem_in hR hRi hS1 hz
  obtain ⟨x0, hx⟩ : ∃ x, m[j + 1]? = some x := ⟨_, List.getElem?_eq_getElem (by omega)⟩
  obtain ⟨y0, hy⟩ : ∃ x, m[j]? = some x := ⟨_, List.getElem?_eq_getElem (by omega)⟩
  refine gd (fun wz => (SlOld csnEnc 1 269 w.heap.size (some br) A9 nb cx) wz ∧ (BlkOld w.heap.size (some br) g7 262 [.pointer (some ⟨g, 0, none⟩)]) wz ∧ (BlkOld w.heap.size (some br) g 266 [q0, .slice A9 nb c9, q2, q3, q4, q5, q6]) wz ∧ (RowK base 3 1 n cap br ((m).flatMap iEnc)) wz ∧ True) mixed (fun _ hm => ⟨hm.fa 0, hm.fa 1, hm.fa 2, hm.k, trivial⟩) fun z => ?_
  refine wt 0 17 1 rfl z (ov_move rfl) ?_
  refine wt 1 17 3 rfl z (ov_move rfl) ?_
  refine wt 2 17 7 rfl z (ov_gtr rfl rfl) ?_
  refine wa_set 20 (v' := .bool true) rfl (congrArg Value.bool (decide_eq_true (by omega))) ?_
  refine wt 3 17 15 rfl z (ov_move rfl) ?_
  refine wto 4 17 31 rfl rfl rfl z (ov_move rfl) ?_
  refine wto 5 17 63 rfl rfl rfl z (ov_move rfl) ?_
  refine wto 6 17 127 rfl rfl rfl z (ov_move rfl) ?_
  refine wto 7 17 255 rfl rfl rfl z (ov_index (j := (j + 1)) es22 rfl rfl (by omega)) ?_
  refine wto 8 17 511 rfl rfl rfl z (ov_elem1 (k := 0) (v := .int .i64 x0) sc3 rfl (fun _ hm => (RowK.get (hm.2.2.2.1) iE_len hm1)) hx rfl rfl) ?_
  refine wto 9 17 1023 rfl rfl rfl z (ov_move rfl) ?_
  refine wto 10 17 2047 rfl rfl rfl z (ov_move rfl) ?_
  refine wto 11 17 4095 rfl rfl rfl z (ov_sub rfl rfl (by omega) (by omega)) ?_
  refine wa_set 29 (v' := .int .i64 ((j : Nat) : Int)) rfl (congrArg (Value.int .i64) (by omega)) ?_
  refine wto 12 17 8191 rfl rfl rfl z (ov_index (j := j) es22 rfl rfl (by omega)) ?_
  refine wto 13 17 16383 rfl rfl rfl z (ov_elem1 (k := 0) (v := .int .i64 y0) sc3 rfl (fun _ hm => (RowK.get (hm.2.2.2.1) iE_len hm1)) hy rfl rfl) ?_
  refine wa1 14 rfl ?_
  refine wl_guard_on rfl rfl rfl ?_
  refine wl_callv rfl cb227 rfl rfl (fun wx hm => (coJ_any cx css A9 nb c9 g7 g q0 q2 q3 q4 q5 q6 x0 y0 wx (hm.fact 0 rfl).1 (hm.fact 1 rfl).2 (hm.fact 2 rfl).2 hcx hcn (hall _ (hin _ (List.mem_of_getElem? hx))) (hall _ (hin _ (List.mem_of_getElem? hy))))) ?_
  refine wl_nil ?_
  refine nw 17 32767 (fun _ hm => ⟨hm.fa 0, hm.fa 1, hm.fa 2, hm.k, trivial⟩) fun z => ?_
  refine wto 15 17 65535 rfl rfl rfl z (ov_lss rfl rfl) ?_
  refine wt 16 17 131071 rfl z (ov_pick_t rfl rfl) ?_
  refine wa_done (by kernel_rfl) ?_
  refine nx_then ?_
  refine gw_cond rfl (fun hh => ?_) (fun hh => ?_)
  ·have hlt : cmpI (lenN css x0.toNat : Int) (lenN css y0.toNat : Int) < 0 := by simpa using hh
   clear hh
   refine gw_skip (nx_then (gw_seq (gw_block ?_)))
   have hlt2 : (coLt css) x0 y0 = true := decide_eq_true (show cmpI (lenN css x0.toNat : Int) (lenN css y0.toNat : Int) < 0 from hlt)
   have hS2 := (sink_yes hx hy hlt2).symm.trans hS1
   refine gd (fun wz => (SlOld csnEnc 1 269 w.heap.size (some br) A9 nb cx) wz ∧ (BlkOld w.heap.size (some br) g7 262 [.pointer (some ⟨g, 0, none⟩)]) wz ∧ (BlkOld w.heap.size (some br) g 266 [q0, .slice A9 nb c9, q2, q3, q4, q5, q6]) wz ∧ True) mixed (fun _ hm => ⟨hm.fa 0, hm.fa 1, hm.fa 2, trivial⟩) fun z => ?_
   refine wt 0 18 1 rfl z (ov_move rfl) ?_
   refine wt 1 18 3 rfl z (ov_move rfl) ?_
   refine wt 2 18 7 rfl z (ov_move rfl) ?_
   refine wt 3 18 15 rfl z (ov_move rfl) ?_
   refine wt 4 18 31 rfl z (ov_sub rfl rfl (by omega) (by omega)) ?_
   refine wa_set 41 (v' := .int .i64 ((j : Nat) : Int)) rfl (congrArg (Value.int .i64) (by omega)) ?_
   refine wt 5 18 63 rfl z (ov_move rfl) ?_
   refine wt 6 18 127 rfl z (ov_move rfl) ?_
   refine wt 7 18 255 rfl z (ov_sub rfl rfl (by omega) (by omega)) ?_
   refine wa_set 44 (v' := .int .i64 ((j : Nat) : Int)) rfl (congrArg (Value.int .i64) (by omega)) ?_
   refine wt 8 18 511 rfl z (ov_index (j := j) es22 rfl rfl (by omega)) ?_
   refine wt 10 18 1535 rfl z (ov_move rfl) ?_
   refine wt 11 18 3583 rfl z (ov_move rfl) ?_
   refine wt 12 18 7679 rfl z (ov_index (j := (j + 1)) es22 rfl rfl (by omega)) ?_
   refine wa_all [9, 13] (by kernel_rfl) rfl ⟨⟨_, rfl, ?_⟩, ⟨_, rfl, ?_⟩, trivial⟩
   ·refine wl_ov (ov_elem1 (k := 0) (v := .int .i64 y0) sc3 rfl (fun _ hm => (RowK.get hm.k iE_len hm1)) hy rfl rfl) rfl ?_
    refine wl_nil ?_
    refine nw 18 8191 (fun _ hm => ⟨hm.fa 0, hm.fa 1, hm.fa 2, trivial⟩) fun z => ?_
    refine wa1 13 rfl ?_
    refine wl_ov (ov_elem1 (k := 0) (v := .int .i64 x0) sc3 rfl (fun _ hm => (RowK.get hm.k iE_len hm1)) hx rfl rfl) rfl ?_
    refine wl_nil ?_
    refine nw 18 16383 (fun _ hm => ⟨hm.fa 0, hm.fa 1, hm.fa 2, trivial⟩) fun z => ?_
    refine wt 14 18 32767 rfl z (ov_index (j := (j + 1)) es22 rfl rfl (by omega)) ?_
    refine wa1 15 rfl ?_
    refine wl_storeRow (l := m) (j := j + 1) (r := 0) (el := x0) (el' := y0) rfl sc3 rfl rfl rfl iE_len rfl hx hm1 (by decide) rfl rfl ?_
    refine wl_nil ?_
    refine nw 18 65535 (fun _ hm => ⟨hm.fa 0, hm.fa 1, hm.fa 2, trivial⟩) fun z => ?_
    refine wt 16 18 131071 rfl z (ov_index (j := j) es22 rfl rfl (by omega)) ?_
    refine wa1 17 rfl ?_
    refine wl_storeRow (l := m.set (j + 1) y0) (j := j) (r := 0) (el := y0) (el' := x0) rfl sc3 rfl rfl rfl iE_len rfl (by rw [List.getElem?_set_ne (by omega)]; exact hy) (by rw [List.length_set]; exact hm1) (by decide) rfl rfl ?_
    refine wl_nil ?_
    refine nw 18 262143 (fun _ hm => ⟨hm.fa 0, hm.fa 1, hm.fa 2, trivial⟩) fun z => ?_
    refine wa_done (by kernel_rfl) ?_
    refine nx_blk_nrm (nx_then (gw_region (mv_ rfl ?_)))
    refine wl_ov (ov_sub rfl rfl (by omega) (by omega)) rfl ?_
    refine wl_set 36 (v' := .int .i64 ((j : Nat) : Int)) rfl (congrArg (Value.int .i64) (by omega)) ?_
    refine sg_ rfl (wl_nil ?_)
    exact nx_round (j, (m.set (j + 1) y0).set j x0) ⟨by dsimp only; omega, by simp [hm1], hS2⟩ (by dsimp only; omega) ⟨rfl, rfl, rfl, rfl, rfl, (some_int (by omega)), trivial⟩ (fun _ hm => hm.pick [] [] [0, 1, 2] rfl rfl)
   refine wl_ov (ov_elem1 (k := 0) (v := .int .i64 x0) sc3 rfl (fun _ hm => (RowK.get hm.k iE_len hm1)) hx rfl rfl) rfl ?_
   refine wl_nil ?_
   refine nw 18 15871 (fun _ hm => ⟨hm.fa 0, hm.fa 1, hm.fa 2, trivial⟩) fun z => ?_
   refine wa1 9 rfl ?_
   refine wl_ov (ov_elem1 (k := 0) (v := .int .i64 y0) sc3 rfl (fun _ hm => (RowK.get hm.k iE_len hm1)) hy rfl rfl) rfl ?_
   refine wl_nil ?_
   refine nw 18 16383 (fun _ hm => ⟨hm.fa 0, hm.fa 1, hm.fa 2, trivial⟩) fun z => ?_
   refine wt 14 18 32767 rfl z (ov_index (j := (j + 1)) es22 rfl rfl (by omega)) ?_
   refine wa1 15 rfl ?_
   refine wl_storeRow (l := m) (j := j + 1) (r := 0) (el := x0) (el' := y0) rfl sc3 rfl rfl rfl iE_len rfl hx hm1 (by decide) rfl rfl ?_
   refine wl_nil ?_
   refine nw 18 65535 (fun _ hm => ⟨hm.fa 0, hm.fa 1, hm.fa 2, trivial⟩) fun z => ?_
   refine wt 16 18 131071 rfl z (ov_index (j := j) es22 rfl rfl (by omega)) ?_
   refine wa1 17 rfl ?_
   refine wl_storeRow (l := m.set (j + 1) y0) (j := j) (r := 0) (el := y0) (el' := x0) rfl sc3 rfl rfl rfl iE_len rfl (by rw [List.getElem?_set_ne (by omega)]; exact hy) (by rw [List.length_set]; exact hm1) (by decide) rfl rfl ?_
   refine wl_nil ?_
   refine nw 18 262143 (fun _ hm => ⟨hm.fa 0, hm.fa 1, hm.fa 2, trivial⟩) fun z => ?_
   refine wa_done (by kernel_rfl) ?_
   refine nx_blk_nrm (nx_then (gw_region (mv_ rfl ?_)))
   refine wl_ov (ov_sub rfl rfl (by omega) (by omega)) rfl ?_
   refine wl_set 36 (v' := .int .i64 ((j : Nat) : Int)) rfl (congrArg (Value.int .i64) (by omega)) ?_
   refine sg_ rfl (wl_nil ?_)
   exact nx_round (j, (m.set (j + 1) y0).set j x0) ⟨by dsimp only; omega, by simp [hm1], hS2⟩ (by dsimp only; omega) ⟨rfl, rfl, rfl, rfl, rfl, (some_int (by omega)), trivial⟩ (fun _ hm => hm.pick [] [] [0, 1, 2] rfl rfl)
  have hlt : ¬ (cmpI (lenN css x0.toNat : Int) (lenN css y0.toNat : Int) < 0) := by simpa using hh
  clear hh
  refine gw_exit ?_
  refine nx_then_exit (nx_then_exit ?_)
  refine nx_blk_here ?_
  refine nx_blk_nrm (nx_then (gw_region ?_))
  have hlt2 : (coLt css) x0 y0 = false := decide_eq_false (show ¬ cmpI (lenN css x0.toNat : Int) (lenN css y0.toNat : Int) < 0 from hlt)
  have hS2 := (sink_no hx hy hlt2).symm.trans hS1
  refine mv_ rfl (ad_ rfl rfl (sg_ rfl (wl_nil ?_)))
  have hm2 : m = S := hS2
  exact nx_round (i + 1, m) ⟨⟨by dsimp only; omega, by dsimp only; omega⟩, by rw [hm2]; exact hSl, by rw [hm2]; exact hRi⟩ (by dsimp only; omega) ⟨rfl, rfl, rfl, rfl, (some_int (by omega)), trivial⟩ (fun _ hm => hm.pick [] [] [0, 1, 2] rfl rfl)
 have hi : ¬ (((i : Nat) : Int) < ((n : Nat) : Int)) := by simpa using hh
 clear hh
 refine gw_exit ?_
 refine nx_then_exit (nx_then_exit ?_)
 refine nx_blk_here ?_
 obtain rfl : l = R := by rw [← hR1, show n - i = 0 by omega]; rfl
 refine nx_ret0 rfl fun wx hm => ?_
 exact ⟨rfl, fin_row hm.k hm.g⟩
theorem stb_co (cx : List ChS) (css : List (List (CdW ByteArray))) (A9 : Option Addr) (nb c9 g7 g : Nat) (q0 q2 q3 q4 q5 q6 : Value) (l0 : List Int) (br n cap base : Nat) (w : World) (h : w.ownsRow base 3 1 (.slice (some ⟨br, 0, none⟩) n cap) n (l0.flatMap iEnc)) (hl0 : l0.length = n) (hn : n ≤ 19) (hch : SlOld csnEnc 1 269 w.heap.size (some br) A9 nb cx w) (hp : BlkOld w.heap.size (some br) g7 262 [.pointer (some ⟨g, 0, none⟩)] w) (hb : BlkOld w.heap.size (some br) g 266 [q0, .slice A9 nb c9, q2, q3, q4, q5, q6] w) (hcx : cx.map ChS.l = css) (hcn : ∀ x ∈ cx, x.l.length = x.n) (hall : ∀ z ∈ l0, 0 ≤ z ∧ z < (nb : Int)) :
  Calls Tryz.prog 237 #[.slice (some ⟨br, 0, none⟩) n cap, .int .i64 ((n : Nat) : Int), .func (.func 227) #[] #[.pointer (some ⟨g7, 0, none⟩)]] w (fun e w' => e = .returned (.tuple #[]) ∧ w'.ownsRow base 3 1 (.slice (some ⟨br, 0, none⟩) n cap) n ((isort (coLt css) l0).flatMap iEnc) ∧ w.grownBy w' (some br)) := by
 refine gw_enter ⟨63, w, (some br), []⟩ Tryz.func237 rfl Tryz.ntmps237 rfl (memR (X := [SlOld csnEnc 1 269 w.heap.size (some br) A9 nb cx, BlkOld w.heap.size (some br) g7 262 [.pointer (some ⟨g, 0, none⟩)], BlkOld w.heap.size (some br) g 266 [q0, .slice A9 nb c9, q2, q3, q4, q5, q6]]) h (allF_cons hch (allF_cons hp (allF_cons hb allF_nil))) (allL_cons SlOld.lasts (allL_cons BlkOld.lasts (allL_cons BlkOld.lasts allL_nil)))) ?_
 refine sr_ (sg_ rfl (nn_ (sr_ (mv_ rfl (sg_ rfl (sg_ rfl (nn_ (gw_seq (gw_block ?_)))))))))
 refine gw_rounds 1 ?_
 refine gr_next ?_
 refine gw_seq (sr_ (mv_ rfl (mv_ rfl (wl_ov (ov_leq rfl rfl) rfl ?_))))
 refine wl_set 13 (v' := .bool false) rfl (congrArg Value.bool (decide_eq_false (by omega))) ?_
 refine nn_ (cf_ rfl ?_)
 refine gw_exit ?_
 refine nx_then_exit (nx_then_exit ?_)
 refine nx_blk_here ?_
 refine nx_then (sr_ (mv_ rfl (mv_ rfl (mv_ rfl (mv_ rfl ?_)))))
 refine wl_callK rfl rfl rfl cb296 rfl rfl (fun wx hm => (ins_co cx css A9 nb c9 g7 g q0 q2 q3 q4 q5 q6 l0 br n cap base wx hm.k hl0 (by omega) (hm.fact 0 rfl).again (hm.fact 1 rfl).again2 (hm.fact 2 rfl).again2 hcx hcn hall)) ?_
 refine nn_ (gw_block ?_)
 refine gw_rounds 1 ?_
 refine gr_next ?_
 refine gw_seq (sr_ (mv_ rfl (mv_ rfl (wl_ov (ov_lss rfl rfl) rfl ?_))))
 refine wl_set 30 (v' := .bool false) rfl (congrArg Value.bool (decide_eq_false (by omega))) ?_
 refine nn_ (cf_ rfl ?_)
 refine gw_exit ?_
 refine nx_then_exit (nx_then_exit ?_)
 refine nx_blk_here ?_
 refine nx_ret0 rfl fun wx hm => ?_
 exact ⟨rfl, fin_row hm.k hm.g⟩
set_option maxRecDepth 100000 in
set_option maxHeartbeats 400000 in
theorem stable_co (cx : List ChS) (css : List (List (CdW ByteArray))) (A9 : Option Addr) (nb c9 g7 g : Nat) (q0 q2 q3 q4 q5 q6 : Value) (l0 : List Int) (br n cap base : Nat) (w : World) (h : w.ownsRow base 3 1 (.slice (some ⟨br, 0, none⟩) n cap) n (l0.flatMap iEnc)) (hl0 : l0.length = n) (hn : n ≤ 19) (hch : SlOld csnEnc 1 269 w.heap.size (some br) A9 nb cx w) (hp : BlkOld w.heap.size (some br) g7 262 [.pointer (some ⟨g, 0, none⟩)] w) (hb : BlkOld w.heap.size (some br) g 266 [q0, .slice A9 nb c9, q2, q3, q4, q5, q6] w) (hcx : cx.map ChS.l = css) (hcn : ∀ x ∈ cx, x.l.length = x.n) (hall : ∀ z ∈ l0, 0 ≤ z ∧ z < (nb : Int)) :
    Calls Tryz.prog 155 #[.slice (some ⟨br, 0, none⟩) n cap, .func (.func 227) #[] #[.pointer (some ⟨g7, 0, none⟩)]] w (fun e w' => e = .returned (.tuple #[]) ∧ w'.ownsRow base 3 1 (.slice (some ⟨br, 0, none⟩) n cap) n ((isort (coLt css) l0).flatMap iEnc) ∧ w.grownBy w' (some br)) := by
  refine gw_enter ⟨9, w, (some br), []⟩ Tryz.func155 rfl Tryz.ntmps155 rfl (memR (X := [SlOld csnEnc 1 269 w.heap.size (some br) A9 nb cx, BlkOld w.heap.size (some br) g7 262 [.pointer (some ⟨g, 0, none⟩)], BlkOld w.heap.size (some br) g 266 [q0, .slice A9 nb c9, q2, q3, q4, q5, q6]]) h (allF_cons hch (allF_cons hp (allF_cons hb allF_nil))) (allL_cons SlOld.lasts (allL_cons BlkOld.lasts (allL_cons BlkOld.lasts allL_nil)))) ?_
  refine gw_region ?_
  refine wl_ov (ov_move rfl) rfl ?_
  refine wl_ov (ov_move rfl) rfl ?_
  refine wl_ov (ov_len es22 rfl) rfl ?_
  refine wl_ov (ov_move rfl) rfl ?_
  refine wl_callK rfl rfl rfl cb237 rfl rfl (fun wx hm => (stb_co cx css A9 nb c9 g7 g q0 q2 q3 q4 q5 q6 l0 br n cap base wx hm.k hl0 (by omega) (hm.fact 0 rfl).again (hm.fact 1 rfl).again2 (hm.fact 2 rfl).again2 hcx hcn hall)) ?_
  refine wl_nil ?_
  refine nx_ret0 rfl fun wx hm => ?_
  exact ⟨rfl, fin_row hm.k hm.g⟩
theorem ins0_co (A : Option Addr) (cap g7 : Nat) (w : World) : Calls Tryz.prog 296 #[.slice A 0 cap, .int .i64 0, .int .i64 0, .func (.func 227) #[] #[.pointer (some ⟨g7, 0, none⟩)]] w (fun e w' => e = .returned (.tuple #[]) ∧ w.grownBy w' none) := by
 refine gw_enter ⟨53, w, none, []⟩ Tryz.func296 rfl Tryz.ntmps296 rfl (mem0 (X := []) allF_nil allL_nil) ?_
 refine sr_ (mv_ rfl (ad_ rfl rfl ?_))
 refine wl_set 11 (v' := .int .i64 1) rfl rfl ?_
 refine sg_ rfl (nn_ (gw_block ?_))
 refine gw_rounds 1 ?_
 refine gr_next ?_
 refine gw_seq (sr_ (mv_ rfl (mv_ rfl (wl_ov (ov_lss rfl rfl) rfl ?_))))
 refine wl_set 14 (v' := .bool false) rfl (congrArg Value.bool (by decide)) ?_
 refine nn_ (cf_ rfl ?_)
 refine gw_exit ?_
 refine nx_then_exit (nx_then_exit ?_)
 refine nx_blk_here ?_
 refine nx_ret0 rfl fun wx hm => ?_
 exact ⟨rfl, hm.g⟩
theorem stb0_co (A : Option Addr) (cap g7 : Nat) (w : World) : Calls Tryz.prog 237 #[.slice A 0 cap, .int .i64 0, .func (.func 227) #[] #[.pointer (some ⟨g7, 0, none⟩)]] w (fun e w' => e = .returned (.tuple #[]) ∧ w.grownBy w' none) := by
 refine gw_enter ⟨63, w, none, []⟩ Tryz.func237 rfl Tryz.ntmps237 rfl (mem0 (X := []) allF_nil allL_nil) ?_
 refine sr_ (sg_ rfl (nn_ (sr_ (mv_ rfl (sg_ rfl (sg_ rfl (nn_ (gw_seq (gw_block ?_)))))))))
 refine gw_rounds 1 ?_
 refine gr_next ?_
 refine gw_seq (sr_ (mv_ rfl (mv_ rfl (wl_ov (ov_leq rfl rfl) rfl ?_))))
 refine wl_set 13 (v' := .bool false) rfl (congrArg Value.bool (by decide)) ?_
 refine nn_ (cf_ rfl ?_)
 refine gw_exit ?_
 refine nx_then_exit (nx_then_exit ?_)
 refine nx_blk_here ?_
 refine nx_then (sr_ (mv_ rfl (mv_ rfl (mv_ rfl (mv_ rfl ?_)))))
 refine wl_callv rfl cb296 rfl rfl (fun wx hm => (ins0_co A cap g7 wx)) ?_
 refine nn_ (gw_block ?_)
 refine gw_rounds 1 ?_
 refine gr_next ?_
 refine gw_seq (sr_ (mv_ rfl (mv_ rfl (wl_ov (ov_lss rfl rfl) rfl ?_))))
 refine wl_set 30 (v' := .bool false) rfl (congrArg Value.bool (by decide)) ?_
 refine nn_ (cf_ rfl ?_)
 refine gw_exit ?_
 refine nx_then_exit (nx_then_exit ?_)
 refine nx_blk_here ?_
 refine nx_ret0 rfl fun wx hm => ?_
 exact ⟨rfl, hm.g⟩
set_option maxRecDepth 100000 in
set_option maxHeartbeats 400000 in
theorem stable0_co (A : Option Addr) (cap g7 : Nat) (w : World) : Calls Tryz.prog 155 #[.slice A 0 cap, .func (.func 227) #[] #[.pointer (some ⟨g7, 0, none⟩)]] w (fun e w' => e = .returned (.tuple #[]) ∧ w.grownBy w' none) := by
  refine gw_enter ⟨9, w, none, []⟩ Tryz.func155 rfl Tryz.ntmps155 rfl (mem0 (X := []) allF_nil allL_nil) ?_
  refine gw_region ?_
  refine wl_ov (ov_move rfl) rfl ?_
  refine wl_ov (ov_move rfl) rfl ?_
  refine wl_ov (ov_len es22 rfl) rfl ?_
  refine wl_set 6 (v' := .int .i64 0) rfl rfl ?_
  refine wl_ov (ov_move rfl) rfl ?_
  refine wl_callv rfl cb237 rfl rfl (fun wx hm => (stb0_co A cap g7 wx)) ?_
  refine wl_nil ?_
  refine nx_ret0 rfl fun wx hm => ?_
  exact ⟨rfl, hm.g⟩
end Go.Proofs.YtempjmpfdniecaaGreatDoor
namespace Go.Proofs.YtempjmpfdniecaaGreatDoor
open Go.RowKit
/-- The least number of steps, or -1. -/
def FwOk (cs : List Cs) (sl : List Sk) (l : List Bk) (v : Int) : Prop := (v = -1 ∧ asgO cs sl l = none) ∨ ∃ (k : Nat) (o : List (ByteArray × Nat)), v = (k : Int) ∧ asgO cs sl l = some o ∧ unitsW (l.map wnB) (roomU (l.map wnB)) (l.map (chB cs sl)) [] k = some o ∧ k ≤ l.length * cs.length
theorem fw_none {cs : List Cs} {sl : List Sk} {l : List Bk} (h : asgO cs sl l = none) : FwOk cs sl l (-1) := .inl ⟨rfl, h⟩
theorem keys_ix {cs : List Cs} {l : List Bk} (h : ∀ b ∈ l, keysE cs [b.cls] = 0) : ∀ b ∈ l, 0 ≤ ixP (csP b.cls) cs 0 := fun b hb => (keys_ok (h b hb)).2 _ (List.mem_singleton.2 rfl)
theorem ch_steps {cs : List Cs} {sl : List Sk} {b : Bk} (hcl : Closed cs) (hlo : loopB cs cs.length = false) (h30 : cs.length ≤ 30) (hk : 0 ≤ ixP (csP b.cls) cs 0) : ∀ q ∈ chB cs sl b, q.2.1 ≤ 1000 := fun q hq => by
  have h1 := (ch_ok (many := capB sl) (path_nodup hcl hlo hk)).2.2.2 q hq
  have h2 := path_lenA hcl hlo hk
  omega
theorem ch_short {cs : List Cs} {sl : List Sk} {b : Bk} (hcl : Closed cs) (hlo : loopB cs cs.length = false) (h30 : cs.length ≤ 30) (hk : 0 ≤ ixP (csP b.cls) cs 0) : (chB cs sl b).length ≤ 1000 := by
  have h1 := List.length_filter_le (fun k : CdW ByteArray => decide (0 < k.2.2)) (wayC (capB sl) 0 (clsF cs b))
  rw [way_len] at h1
  have h2 : (clsF cs b).length ≤ cs.length := path_lenA hcl hlo hk
  exact Nat.le_trans h1 (by omega)
theorem fw_bb {cs : List Cs} {sl : List Sk} {l : List Bk} (hcl : Closed cs) (hlo : loopB cs cs.length = false) (hk : ∀ b ∈ l, 0 ≤ ixP (csP b.cls) cs 0) (ht : BkTim l) {od : List Nat} (hp : od.Perm (List.range l.length)) : FwOk cs sl l (bestI (bbW roomF (od.map (itB cs sl l)) [] 0 none)) := by
  rcases asg_same (sl := sl) hcl hlo hk (fun b hb => (ht b hb).2.1) (it_perm hp) with ⟨h1, h2⟩ | ⟨k, o, h1, h2, h3, h4, _⟩
  · rw [h1]; exact fw_none h2
  · rw [h1]; exact .inr ⟨k, o, rfl, h2, h3, h4⟩
def coB (cs : List Cs) (sl : List Sk) (l : List Bk) (od : List Nat) : List (List (CdW ByteArray)) := od.map fun j => chB cs sl (bkAt l j)
theorem co_it {cs : List Cs} {sl : List Sk} {l : List Bk} {od : List Nat} {k : Nat} : restI ((od.drop k).map (itB cs sl l)) = restW ((coB cs sl l od).drop k) := by
  rw [restI_W, List.map_map]
  unfold coB
  rw [← List.map_drop]; rfl
theorem co_at {cs : List Cs} {sl : List Sk} {l : List Bk} {od : List Nat} {k i : Nat} (h : od[k]? = some i) : (coB cs sl l od)[k]? = some (chB cs sl (bkAt l i)) := by
  unfold coB; rw [List.getElem?_map, h]; rfl
theorem co_le {cs : List Cs} {sl : List Sk} {l : List Bk} {od : List Nat} (hs : ∀ b ∈ l, ∀ q ∈ chB cs sl b, q.2.1 ≤ 1000) (ho : ∀ j ∈ od, j < l.length) (k : Nat) : restW ((coB cs sl l od).drop k) ≤ od.length * 1000 := by
  have h := restW_le (M := 1000) (css := (coB cs sl l od).drop k) fun c hc q hq => by
    have hm := List.mem_of_mem_drop hc
    unfold coB at hm
    obtain ⟨j, hj, rfl⟩ := List.mem_map.1 hm
    obtain ⟨b, hb⟩ : ∃ b, l[j]? = some b := ⟨_, List.getElem?_eq_getElem (ho j hj)⟩
    rw [bkAt_get hb] at hq
    exact hs b (List.mem_of_getElem? hb) q hq
  rw [List.length_drop] at h
  have e : (coB cs sl l od).length = od.length := by unfold coB; rw [List.length_map]
  rw [e] at h
  exact Nat.le_trans h (Nat.mul_le_mul_right _ (by omega))
theorem head_at {c : List (CdW ByteArray)} {k : CdW ByteArray} (h : c[0]? = some k) : headW c = k.2.1 := by
  cases c with
  | nil => cases h
  | cons x r => cases h; rfl
theorem zc262 : zeroCs Tryz.prog 262 = some [.pointer none] := by kernel_rfl
theorem fewest_any (cs : List Cs) (A0 : Option Addr) (n0 c0 : Nat) (sl : List Sk) (A1 : Option Addr) (n1 c1 : Nat) (l : List Bk) (A : Option Addr) (n c : Nat) (w : World) (hcs : SlT csEnc 2 158 w A0 n0 cs) (hco : ∀ x ∈ cs, CsOk x) (hn0 : n0 ≤ 1000) (hs : SlT skEnc 2 211 w A1 n1 sl) (hso : ∀ x ∈ sl, SkOk x) (hn1 : n1 ≤ 1000) (hl : SlT bkEnc 6 92 w A n l) (hn : n ≤ 12) (hcl : Closed cs) (hlo : loopB cs cs.length = false) (h30 : cs.length ≤ 30) (hkeys : ∀ b ∈ l, keysE cs [b.cls] = 0) (htm : BkTim l) :
  Calls Tryz.prog 134 #[.slice A0 n0 c0, .slice A1 n1 c1, .slice A n c] w (fun e w' => ∃ v, e = .returned (.int .i64 v) ∧ FwOk cs sl l v ∧ w.grownBy w' none) := by
 refine gw_enter ⟨102, w, none, [269, 268]⟩ Tryz.func134 rfl Tryz.ntmps134 rfl (mem0 (X := [SlOld csEnc 2 158 w.heap.size none A0 n0 cs, SlOld skEnc 2 211 w.heap.size none A1 n1 sl, SlOld bkEnc 6 92 w.heap.size none A n l]) (allF_cons hcs.old (allF_cons hs.old (allF_cons hl.old allF_nil))) (allL_cons SlOld.lasts (allL_cons SlOld.lasts (allL_cons SlOld.lasts allL_nil)))) ?_
 refine sr_ ?_
 have hlen := hl.len
 have hix := keys_ix hkeys
 have hstp : ∀ b ∈ l, ∀ q ∈ chB cs sl b, q.2.1 ≤ 1000 := fun b hb => ch_steps hcl hlo h30 (hix b hb)
 have hchl : ∀ b ∈ l, (chB cs sl b).length ≤ 1000 := fun b hb => ch_short hcl hlo h30 (hix b hb)
 refine sg_ rfl (nn_ ?_)
 refine gw_cut (γ := Option Addr × Nat × List ChS × Nat × Nat × Nat) (I := (fun g => g.2.2.1.map ChS.l = l.map (chB cs sl))) (S' := (fun g => [(2, .slice A n c), (6, .int .i64 0), (7, .pointer (some ⟨g.2.2.2.1, 0, none⟩))])) (K' := (fun g => fun _ => True)) (L' := (fun g => [(g.2.2.2.1, 262, [.pointer (some ⟨g.2.2.2.2.1, 0, none⟩)]), (g.2.2.2.2.1, 266, [.slice A n c, .slice g.1 n g.2.1, .slice none 0 0, .slice (some ⟨g.2.2.2.2.2, 0, none⟩) n n, .slice none 0 0, .slice none 0 0, .int .i64 (-1)])])) (O' := (fun g => [⟨.slice (some ⟨g.2.2.2.2.2, 0, none⟩) n n, 9, 1, n, (List.replicate (n) (⟨#[]⟩ : ByteArray)).flatMap sgEnc⟩])) (X' := (fun g => [SlOld csEnc 2 158 w.heap.size none A0 n0 cs, SlOld skEnc 2 211 w.heap.size none A1 n1 sl, SlOld bkEnc 6 92 w.heap.size none A n l, fun wy => SlT csnEnc 1 269 wy g.1 n g.2.2.1, fun wy => Chs 268 g.2.2.1 wy])) ?_ ?_
 ·refine gd (fun wz => (SlOld csEnc 2 158 w.heap.size none A0 n0 cs) wz ∧ (SlOld skEnc 2 211 w.heap.size none A1 n1 sl) wz ∧ (SlOld bkEnc 6 92 w.heap.size none A n l) wz ∧ True) mixed (fun _ hm => ⟨hm.fa 0, hm.fa 1, hm.fa 2, trivial⟩) fun z => ?_
  refine wt 0 12 1 rfl z (ov_move rfl) ?_
  refine wt 1 12 3 rfl z (ov_move rfl) ?_
  refine wt 2 12 7 rfl z (ov_move rfl) ?_
  refine wt 3 12 15 rfl z (ov_move rfl) ?_
  refine wt 5 12 47 rfl z (ov_move rfl) ?_
  refine wt 6 12 111 rfl z (ov_len es76 rfl) ?_
  refine wa_all [4, 7, 10] (by kernel_rfl) rfl ⟨⟨_, rfl, ?_⟩, ⟨_, rfl, ?_⟩, ⟨_, rfl, ?_⟩, trivial⟩
  ·refine wl_callx (γ := Option Addr × Nat × List ChS) (val := (fun g => .slice g.1 n g.2.1)) (φ := (fun g => g.2.2.map ChS.l = l.map (chB cs sl))) (Y := (fun g => fun wy => SlT csnEnc 1 269 wy g.1 n g.2.2 ∧ Chs 268 g.2.2 wy)) rfl cb220 rfl rfl (fun wx hm => (choicesP_any cs A0 n0 c0 sl A1 n1 c1 l A n c wx (hm.fact 0 rfl).1 hco (by omega) (hm.fact 1 rfl).1 hso (by omega) (hm.fact 2 rfl).1 (by omega) hkeys).mono fun _ _ ⟨A9, c9, cx, he, h1, h2, h3, hg⟩ => ⟨(A9, c9, cx), he, h3, hg, ⟨h1, h2⟩⟩) (fun _ => (SlT.lasts2 rfl).and_ (Chs.lasts rfl)) ?_
   rintro ⟨A9, c9, cx⟩ hcx
   dsimp only at hcx ⊢
   refine wl_nil ?_
   refine nw 12 127 (fun _ hm => ⟨hm.fa 1, hm.fa 2, hm.fa 3, trivial⟩) fun z => ?_
   refine wa_all [7, 10] (by kernel_rfl) rfl ⟨⟨_, rfl, ?_⟩, ⟨_, rfl, ?_⟩, trivial⟩
   ·refine wl_makeO (n := n) (sz := 1) (e := 9) (by_ := 16) (z := .string ⟨#[]⟩) (by kernel_rfl) (by kernel_rfl) rfl rfl (by omega) (by omega) (by omega) (by unfold maxLen; omega) (made_flat (enc := sgEnc) (x := (⟨#[]⟩ : ByteArray)) rfl rfl (by decide) (n)) rfl fun g1 => ?_
    refine wl_nil ?_
    refine nw 12 255 (fun _ hm => ⟨hm.fa 1, hm.fa 2, hm.fa 3, trivial⟩) fun z => ?_
    refine wt 8 12 511 rfl z (ov_build (cs := [.slice A n c, .slice A9 n c9, .slice none 0 0, .slice (some ⟨g1, 0, none⟩) n n, .slice none 0 0, .slice none 0 0, .int .i64 (-1)]) rfl (by kernel_rfl)) ?_
    refine wa_all [9, 10] (by kernel_rfl) rfl ⟨⟨_, rfl, ?_⟩, ⟨_, rfl, ?_⟩, trivial⟩
    ·refine wl_box rfl rfl rfl fun g2 => ?_
     refine wl_nil ?_
     refine nw 12 1023 (fun _ hm => ⟨hm.fa 1, hm.fa 2, hm.fa 3, trivial⟩) fun z => ?_
     refine wa1 10 rfl ?_
     refine wl_alloc zc262 rfl fun g3 => ?_
     refine wl_nil ?_
     refine nw 12 2047 (fun _ hm => ⟨hm.fa 1, hm.fa 2, hm.fa 3, trivial⟩) fun z => ?_
     refine wa1 11 rfl ?_
     refine wl_store 0 sc262 rfl rfl rfl rfl rfl rfl ?_
     refine wl_nil ?_
     refine nw 12 4095 (fun _ hm => ⟨hm.fa 1, hm.fa 2, hm.fa 3, trivial⟩) fun z => ?_
     refine wa_done (by kernel_rfl) ?_
     refine nx_also (Y := fun wy => SlT csnEnc 1 269 wy A9 n cx) (SlT.lasts2 rfl) (fun wx hm => (hm.fact 0 rfl).1) ?_
     refine nx_also (Y := fun wy => Chs 268 cx wy) (Chs.lasts rfl) (fun wx hm => (hm.fact 1 rfl).2) ?_
     exact nx_meet (A9, c9, cx, g3, g2, g1) hcx ⟨rfl, rfl, rfl, trivial⟩ (fun _ hm => hm.pick [0, 1] [0] [3, 4, 5, 1, 0] rfl rfl)
    refine wl_alloc zc262 rfl fun g4 => ?_
    refine wl_nil ?_
    refine nw 12 1535 (fun _ hm => ⟨hm.fa 1, hm.fa 2, hm.fa 3, trivial⟩) fun z => ?_
    refine wa1 9 rfl ?_
    refine wl_box rfl rfl rfl fun g5 => ?_
    refine wl_nil ?_
    refine nw 12 2047 (fun _ hm => ⟨hm.fa 1, hm.fa 2, hm.fa 3, trivial⟩) fun z => ?_
    refine wa1 11 rfl ?_
    refine wl_store 1 sc262 rfl rfl rfl rfl rfl rfl ?_
    refine wl_nil ?_
    refine nw 12 4095 (fun _ hm => ⟨hm.fa 1, hm.fa 2, hm.fa 3, trivial⟩) fun z => ?_
    refine wa_done (by kernel_rfl) ?_
    refine nx_also (Y := fun wy => SlT csnEnc 1 269 wy A9 n cx) (SlT.lasts2 rfl) (fun wx hm => (hm.fact 0 rfl).1) ?_
    refine nx_also (Y := fun wy => Chs 268 cx wy) (Chs.lasts rfl) (fun wx hm => (hm.fact 1 rfl).2) ?_
    exact nx_meet (A9, c9, cx, g4, g5, g1) hcx ⟨rfl, rfl, rfl, trivial⟩ (fun _ hm => hm.pick [1, 0] [0] [3, 4, 5, 1, 0] rfl rfl)
   refine wl_alloc zc262 rfl fun g6 => ?_
   refine wl_nil ?_
   refine nw 12 1151 (fun _ hm => ⟨hm.fa 1, hm.fa 2, hm.fa 3, trivial⟩) fun z => ?_
   refine wa1 7 rfl ?_
   refine wl_makeO (n := n) (sz := 1) (e := 9) (by_ := 16) (z := .string ⟨#[]⟩) (by kernel_rfl) (by kernel_rfl) rfl rfl (by omega) (by omega) (by omega) (by unfold maxLen; omega) (made_flat (enc := sgEnc) (x := (⟨#[]⟩ : ByteArray)) rfl rfl (by decide) (n)) rfl fun g7 => ?_
   refine wl_nil ?_
   refine nw 12 1279 (fun _ hm => ⟨hm.fa 1, hm.fa 2, hm.fa 3, trivial⟩) fun z => ?_
   refine wt 8 12 1535 rfl z (ov_build (cs := [.slice A n c, .slice A9 n c9, .slice none 0 0, .slice (some ⟨g7, 0, none⟩) n n, .slice none 0 0, .slice none 0 0, .int .i64 (-1)]) rfl (by kernel_rfl)) ?_
   refine wa1 9 rfl ?_
   refine wl_box rfl rfl rfl fun g8 => ?_
   refine wl_nil ?_
   refine nw 12 2047 (fun _ hm => ⟨hm.fa 1, hm.fa 2, hm.fa 3, trivial⟩) fun z => ?_
   refine wa1 11 rfl ?_
   refine wl_store 1 sc262 rfl rfl rfl rfl rfl rfl ?_
   refine wl_nil ?_
   refine nw 12 4095 (fun _ hm => ⟨hm.fa 1, hm.fa 2, hm.fa 3, trivial⟩) fun z => ?_
   refine wa_done (by kernel_rfl) ?_
   refine nx_also (Y := fun wy => SlT csnEnc 1 269 wy A9 n cx) (SlT.lasts2 rfl) (fun wx hm => (hm.fact 0 rfl).1) ?_
   refine nx_also (Y := fun wy => Chs 268 cx wy) (Chs.lasts rfl) (fun wx hm => (hm.fact 1 rfl).2) ?_
   exact nx_meet (A9, c9, cx, g6, g8, g7) hcx ⟨rfl, rfl, rfl, trivial⟩ (fun _ hm => hm.pick [1, 0] [0] [3, 4, 5, 1, 0] rfl rfl)
  ·refine wl_makeO (n := n) (sz := 1) (e := 9) (by_ := 16) (z := .string ⟨#[]⟩) (by kernel_rfl) (by kernel_rfl) rfl rfl (by omega) (by omega) (by omega) (by unfold maxLen; omega) (made_flat (enc := sgEnc) (x := (⟨#[]⟩ : ByteArray)) rfl rfl (by decide) (n)) rfl fun g9 => ?_
   refine wl_nil ?_
   refine nw 12 239 (fun _ hm => ⟨hm.fa 0, hm.fa 1, hm.fa 2, trivial⟩) fun z => ?_
   refine wa_all [4, 10] (by kernel_rfl) rfl ⟨⟨_, rfl, ?_⟩, ⟨_, rfl, ?_⟩, trivial⟩
   ·refine wl_callx (γ := Option Addr × Nat × List ChS) (val := (fun g => .slice g.1 n g.2.1)) (φ := (fun g => g.2.2.map ChS.l = l.map (chB cs sl))) (Y := (fun g => fun wy => SlT csnEnc 1 269 wy g.1 n g.2.2 ∧ Chs 268 g.2.2 wy)) rfl cb220 rfl rfl (fun wx hm => (choicesP_any cs A0 n0 c0 sl A1 n1 c1 l A n c wx (hm.fact 0 rfl).1 hco (by omega) (hm.fact 1 rfl).1 hso (by omega) (hm.fact 2 rfl).1 (by omega) hkeys).mono fun _ _ ⟨A9, c9, cx, he, h1, h2, h3, hg⟩ => ⟨(A9, c9, cx), he, h3, hg, ⟨h1, h2⟩⟩) (fun _ => (SlT.lasts2 rfl).and_ (Chs.lasts rfl)) ?_
    rintro ⟨A9, c9, cx⟩ hcx
    dsimp only at hcx ⊢
    refine wl_nil ?_
    refine nw 12 255 (fun _ hm => ⟨hm.fa 1, hm.fa 2, hm.fa 3, trivial⟩) fun z => ?_
    refine wt 8 12 511 rfl z (ov_build (cs := [.slice A n c, .slice A9 n c9, .slice none 0 0, .slice (some ⟨g9, 0, none⟩) n n, .slice none 0 0, .slice none 0 0, .int .i64 (-1)]) rfl (by kernel_rfl)) ?_
    refine wa_all [9, 10] (by kernel_rfl) rfl ⟨⟨_, rfl, ?_⟩, ⟨_, rfl, ?_⟩, trivial⟩
    ·refine wl_box rfl rfl rfl fun g10 => ?_
     refine wl_nil ?_
     refine nw 12 1023 (fun _ hm => ⟨hm.fa 1, hm.fa 2, hm.fa 3, trivial⟩) fun z => ?_
     refine wa1 10 rfl ?_
     refine wl_alloc zc262 rfl fun g11 => ?_
     refine wl_nil ?_
     refine nw 12 2047 (fun _ hm => ⟨hm.fa 1, hm.fa 2, hm.fa 3, trivial⟩) fun z => ?_
     refine wa1 11 rfl ?_
     refine wl_store 0 sc262 rfl rfl rfl rfl rfl rfl ?_
     refine wl_nil ?_
     refine nw 12 4095 (fun _ hm => ⟨hm.fa 1, hm.fa 2, hm.fa 3, trivial⟩) fun z => ?_
     refine wa_done (by kernel_rfl) ?_
     refine nx_also (Y := fun wy => SlT csnEnc 1 269 wy A9 n cx) (SlT.lasts2 rfl) (fun wx hm => (hm.fact 0 rfl).1) ?_
     refine nx_also (Y := fun wy => Chs 268 cx wy) (Chs.lasts rfl) (fun wx hm => (hm.fact 1 rfl).2) ?_
     exact nx_meet (A9, c9, cx, g11, g10, g9) hcx ⟨rfl, rfl, rfl, trivial⟩ (fun _ hm => hm.pick [0, 1] [0] [3, 4, 5, 1, 0] rfl rfl)
    refine wl_alloc zc262 rfl fun g12 => ?_
    refine wl_nil ?_
    refine nw 12 1535 (fun _ hm => ⟨hm.fa 1, hm.fa 2, hm.fa 3, trivial⟩) fun z => ?_
    refine wa1 9 rfl ?_
    refine wl_box rfl rfl rfl fun g13 => ?_
    refine wl_nil ?_
    refine nw 12 2047 (fun _ hm => ⟨hm.fa 1, hm.fa 2, hm.fa 3, trivial⟩) fun z => ?_
    refine wa1 11 rfl ?_
    refine wl_store 1 sc262 rfl rfl rfl rfl rfl rfl ?_
    refine wl_nil ?_
    refine nw 12 4095 (fun _ hm => ⟨hm.fa 1, hm.fa 2, hm.fa 3, trivial⟩) fun z => ?_
    refine wa_done (by kernel_rfl) ?_
    refine nx_also (Y := fun wy => SlT csnEnc 1 269 wy A9 n cx) (SlT.lasts2 rfl) (fun wx hm => (hm.fact 0 rfl).1) ?_
    refine nx_also (Y := fun wy => Chs 268 cx wy) (Chs.lasts rfl) (fun wx hm => (hm.fact 1 rfl).2) ?_
    exact nx_meet (A9, c9, cx, g12, g13, g9) hcx ⟨rfl, rfl, rfl, trivial⟩ (fun _ hm => hm.pick [1, 0] [0] [3, 4, 5, 1, 0] rfl rfl)
   refine wl_alloc zc262 rfl fun g14 => ?_
   refine wl_nil ?_
   refine nw 12 1263 (fun _ hm => ⟨hm.fa 0, hm.fa 1, hm.fa 2, trivial⟩) fun z => ?_
   refine wa1 4 rfl ?_
   refine wl_callx (γ := Option Addr × Nat × List ChS) (val := (fun g => .slice g.1 n g.2.1)) (φ := (fun g => g.2.2.map ChS.l = l.map (chB cs sl))) (Y := (fun g => fun wy => SlT csnEnc 1 269 wy g.1 n g.2.2 ∧ Chs 268 g.2.2 wy)) rfl cb220 rfl rfl (fun wx hm => (choicesP_any cs A0 n0 c0 sl A1 n1 c1 l A n c wx (hm.fact 0 rfl).1 hco (by omega) (hm.fact 1 rfl).1 hso (by omega) (hm.fact 2 rfl).1 (by omega) hkeys).mono fun _ _ ⟨A9, c9, cx, he, h1, h2, h3, hg⟩ => ⟨(A9, c9, cx), he, h3, hg, ⟨h1, h2⟩⟩) (fun _ => (SlT.lasts2 rfl).and_ (Chs.lasts rfl)) ?_
   rintro ⟨A9, c9, cx⟩ hcx
   dsimp only at hcx ⊢
   refine wl_nil ?_
   refine nw 12 1279 (fun _ hm => ⟨hm.fa 1, hm.fa 2, hm.fa 3, trivial⟩) fun z => ?_
   refine wt 8 12 1535 rfl z (ov_build (cs := [.slice A n c, .slice A9 n c9, .slice none 0 0, .slice (some ⟨g9, 0, none⟩) n n, .slice none 0 0, .slice none 0 0, .int .i64 (-1)]) rfl (by kernel_rfl)) ?_
   refine wa1 9 rfl ?_
   refine wl_box rfl rfl rfl fun g15 => ?_
   refine wl_nil ?_
   refine nw 12 2047 (fun _ hm => ⟨hm.fa 1, hm.fa 2, hm.fa 3, trivial⟩) fun z => ?_
   refine wa1 11 rfl ?_
   refine wl_store 1 sc262 rfl rfl rfl rfl rfl rfl ?_
   refine wl_nil ?_
   refine nw 12 4095 (fun _ hm => ⟨hm.fa 1, hm.fa 2, hm.fa 3, trivial⟩) fun z => ?_
   refine wa_done (by kernel_rfl) ?_
   refine nx_also (Y := fun wy => SlT csnEnc 1 269 wy A9 n cx) (SlT.lasts2 rfl) (fun wx hm => (hm.fact 0 rfl).1) ?_
   refine nx_also (Y := fun wy => Chs 268 cx wy) (Chs.lasts rfl) (fun wx hm => (hm.fact 1 rfl).2) ?_
   exact nx_meet (A9, c9, cx, g14, g15, g9) hcx ⟨rfl, rfl, rfl, trivial⟩ (fun _ hm => hm.pick [1, 0] [0] [3, 4, 5, 1, 0] rfl rfl)
  refine wl_alloc zc262 rfl fun g16 => ?_
  refine wl_nil ?_
  refine nw 12 1135 (fun _ hm => ⟨hm.fa 0, hm.fa 1, hm.fa 2, trivial⟩) fun z => ?_
  refine wa_all [4, 7] (by kernel_rfl) rfl ⟨⟨_, rfl, ?_⟩, ⟨_, rfl, ?_⟩, trivial⟩
  ·refine wl_callx (γ := Option Addr × Nat × List ChS) (val := (fun g => .slice g.1 n g.2.1)) (φ := (fun g => g.2.2.map ChS.l = l.map (chB cs sl))) (Y := (fun g => fun wy => SlT csnEnc 1 269 wy g.1 n g.2.2 ∧ Chs 268 g.2.2 wy)) rfl cb220 rfl rfl (fun wx hm => (choicesP_any cs A0 n0 c0 sl A1 n1 c1 l A n c wx (hm.fact 0 rfl).1 hco (by omega) (hm.fact 1 rfl).1 hso (by omega) (hm.fact 2 rfl).1 (by omega) hkeys).mono fun _ _ ⟨A9, c9, cx, he, h1, h2, h3, hg⟩ => ⟨(A9, c9, cx), he, h3, hg, ⟨h1, h2⟩⟩) (fun _ => (SlT.lasts2 rfl).and_ (Chs.lasts rfl)) ?_
   rintro ⟨A9, c9, cx⟩ hcx
   dsimp only at hcx ⊢
   refine wl_nil ?_
   refine nw 12 1151 (fun _ hm => ⟨hm.fa 1, hm.fa 2, hm.fa 3, trivial⟩) fun z => ?_
   refine wa1 7 rfl ?_
   refine wl_makeO (n := n) (sz := 1) (e := 9) (by_ := 16) (z := .string ⟨#[]⟩) (by kernel_rfl) (by kernel_rfl) rfl rfl (by omega) (by omega) (by omega) (by unfold maxLen; omega) (made_flat (enc := sgEnc) (x := (⟨#[]⟩ : ByteArray)) rfl rfl (by decide) (n)) rfl fun g17 => ?_
   refine wl_nil ?_
   refine nw 12 1279 (fun _ hm => ⟨hm.fa 1, hm.fa 2, hm.fa 3, trivial⟩) fun z => ?_
   refine wt 8 12 1535 rfl z (ov_build (cs := [.slice A n c, .slice A9 n c9, .slice none 0 0, .slice (some ⟨g17, 0, none⟩) n n, .slice none 0 0, .slice none 0 0, .int .i64 (-1)]) rfl (by kernel_rfl)) ?_
   refine wa1 9 rfl ?_
   refine wl_box rfl rfl rfl fun g18 => ?_
   refine wl_nil ?_
   refine nw 12 2047 (fun _ hm => ⟨hm.fa 1, hm.fa 2, hm.fa 3, trivial⟩) fun z => ?_
   refine wa1 11 rfl ?_
   refine wl_store 1 sc262 rfl rfl rfl rfl rfl rfl ?_
   refine wl_nil ?_
   refine nw 12 4095 (fun _ hm => ⟨hm.fa 1, hm.fa 2, hm.fa 3, trivial⟩) fun z => ?_
   refine wa_done (by kernel_rfl) ?_
   refine nx_also (Y := fun wy => SlT csnEnc 1 269 wy A9 n cx) (SlT.lasts2 rfl) (fun wx hm => (hm.fact 0 rfl).1) ?_
   refine nx_also (Y := fun wy => Chs 268 cx wy) (Chs.lasts rfl) (fun wx hm => (hm.fact 1 rfl).2) ?_
   exact nx_meet (A9, c9, cx, g16, g18, g17) hcx ⟨rfl, rfl, rfl, trivial⟩ (fun _ hm => hm.pick [1, 0] [0] [3, 4, 5, 1, 0] rfl rfl)
  refine wl_makeO (n := n) (sz := 1) (e := 9) (by_ := 16) (z := .string ⟨#[]⟩) (by kernel_rfl) (by kernel_rfl) rfl rfl (by omega) (by omega) (by omega) (by unfold maxLen; omega) (made_flat (enc := sgEnc) (x := (⟨#[]⟩ : ByteArray)) rfl rfl (by decide) (n)) rfl fun g19 => ?_
  refine wl_nil ?_
  refine nw 12 1263 (fun _ hm => ⟨hm.fa 0, hm.fa 1, hm.fa 2, trivial⟩) fun z => ?_
  refine wa1 4 rfl ?_
  refine wl_callx (γ := Option Addr × Nat × List ChS) (val := (fun g => .slice g.1 n g.2.1)) (φ := (fun g => g.2.2.map ChS.l = l.map (chB cs sl))) (Y := (fun g => fun wy => SlT csnEnc 1 269 wy g.1 n g.2.2 ∧ Chs 268 g.2.2 wy)) rfl cb220 rfl rfl (fun wx hm => (choicesP_any cs A0 n0 c0 sl A1 n1 c1 l A n c wx (hm.fact 0 rfl).1 hco (by omega) (hm.fact 1 rfl).1 hso (by omega) (hm.fact 2 rfl).1 (by omega) hkeys).mono fun _ _ ⟨A9, c9, cx, he, h1, h2, h3, hg⟩ => ⟨(A9, c9, cx), he, h3, hg, ⟨h1, h2⟩⟩) (fun _ => (SlT.lasts2 rfl).and_ (Chs.lasts rfl)) ?_
  rintro ⟨A9, c9, cx⟩ hcx
  dsimp only at hcx ⊢
  refine wl_nil ?_
  refine nw 12 1279 (fun _ hm => ⟨hm.fa 1, hm.fa 2, hm.fa 3, trivial⟩) fun z => ?_
  refine wt 8 12 1535 rfl z (ov_build (cs := [.slice A n c, .slice A9 n c9, .slice none 0 0, .slice (some ⟨g19, 0, none⟩) n n, .slice none 0 0, .slice none 0 0, .int .i64 (-1)]) rfl (by kernel_rfl)) ?_
  refine wa1 9 rfl ?_
  refine wl_box rfl rfl rfl fun g20 => ?_
  refine wl_nil ?_
  refine nw 12 2047 (fun _ hm => ⟨hm.fa 1, hm.fa 2, hm.fa 3, trivial⟩) fun z => ?_
  refine wa1 11 rfl ?_
  refine wl_store 1 sc262 rfl rfl rfl rfl rfl rfl ?_
  refine wl_nil ?_
  refine nw 12 4095 (fun _ hm => ⟨hm.fa 1, hm.fa 2, hm.fa 3, trivial⟩) fun z => ?_
  refine wa_done (by kernel_rfl) ?_
  refine nx_also (Y := fun wy => SlT csnEnc 1 269 wy A9 n cx) (SlT.lasts2 rfl) (fun wx hm => (hm.fact 0 rfl).1) ?_
  refine nx_also (Y := fun wy => Chs 268 cx wy) (Chs.lasts rfl) (fun wx hm => (hm.fact 1 rfl).2) ?_
  exact nx_meet (A9, c9, cx, g16, g20, g19) hcx ⟨rfl, rfl, rfl, trivial⟩ (fun _ hm => hm.pick [1, 0] [0] [3, 4, 5, 1, 0] rfl rfl)
 rintro ⟨A9, c9, cx, g7, gx, gc⟩ hinv
 replace hinv : cx.map ChS.l = l.map (chB cs sl) := hinv
 dsimp only
 refine gw_seq (sr_ ?_)
 have hcx : cx.map ChS.l = l.map (chB cs sl) := hinv
 have hcxl : cx.length = n := by have h := congrArg List.length hcx; rw [List.length_map, List.length_map] at h; omega
 refine wl_look (R := (∀ x ∈ cx, x.l.length = x.n) ∧ (0 < n → ∃ b9 o9, A9 = some ⟨b9, o9, none⟩) ∧ ∀ x ∈ cx, 0 < x.n → ∃ bi oi, x.A = some ⟨bi, oi, none⟩) (fun wx hm => ⟨fun x hx => ((hm.fact 4 rfl) x hx).len, fun h0 => by
  obtain ⟨b9, o9, e, _⟩ := (hm.fact 3 rfl).get h0
  exact ⟨b9, o9, e⟩, fun x hx h0 => by
  obtain ⟨b9, o9, e, _⟩ := ((hm.fact 4 rfl) x hx).get h0
  exact ⟨b9, o9, e⟩⟩) ?_
 rintro ⟨hcn, h9, hin⟩
 refine wl_nilOwn 3 1 ?_
 refine mv_ rfl (wl_ov (ov_len es76 rfl) rfl (mv_ rfl (nn_ (gw_block ?_))))
 refine gw_loop (γ := Nat × Value) (fun g => g.1 ≤ n ∧ ∀ j, j < g.1 → lenN (l.map (chB cs sl)) j ≠ 0) (fun g => [(2, .slice A n c), (7, .pointer (some ⟨g7, 0, none⟩)), (21, .int .i64 ((n : Nat) : Int)), (22, .int .i64 ((g.1 : Nat) : Int))]) (fun g => fun _ => True) (fun g => [(g7, 262, [.pointer (some ⟨gx, 0, none⟩)]), (gx, 266, [.slice A n c, .slice A9 n c9, g.2, .slice (some ⟨gc, 0, none⟩) n n, .slice none 0 0, .slice none 0 0, .int .i64 (-1)])]) (fun g => [⟨g.2, 3, 1, g.1, (List.range g.1).flatMap nEnc⟩, ⟨.slice (some ⟨gc, 0, none⟩) n n, 9, 1, n, (List.replicate (n) (⟨#[]⟩ : ByteArray)).flatMap sgEnc⟩]) (fun g => [SlOld csEnc 2 158 w.heap.size none A0 n0 cs, SlOld skEnc 2 211 w.heap.size none A1 n1 sl, SlOld bkEnc 6 92 w.heap.size none A n l, fun wy => SlT csnEnc 1 269 wy A9 n cx, fun wy => Chs 268 cx wy]) (fun g => n - g.1) (0, .slice none 0 0) ⟨Nat.zero_le _, fun j h => absurd h (Nat.not_lt_zero j)⟩ ⟨rfl, rfl, rfl, rfl, trivial⟩ (fun _ hm => hm.pick [0, 1] [0, 1] [0, 1, 2, 3, 4] rfl rfl) ?_
 rintro ⟨i, v⟩ hinv
 replace hinv : i ≤ n ∧ ∀ j, j < i → lenN (l.map (chB cs sl)) j ≠ 0 := hinv
 dsimp only
 refine sr_ ?_
 obtain ⟨hi0, hne⟩ := hinv
 refine wl_ov (ov_lss rfl rfl) rfl (nn_ (gw_seq ?_))
 refine gw_cond rfl (fun hh => ?_) (fun hh => ?_)
 ·have hi : ((i : Nat) : Int) < ((n : Nat) : Int) := by simpa using hh
  clear hh
  refine gw_skip (nx_then (gw_seq (gw_block (sr_ ?_))))
  obtain ⟨b9, o9, rfl⟩ := h9 (by omega)
  obtain ⟨x9, hx9⟩ : ∃ x, cx[i]? = some x := ⟨_, List.getElem?_eq_getElem (by omega)⟩
  have hln := lenN_at hcx hcn hx9
  have hxl := cx_at hcx hx9
  obtain ⟨Ai, ni, ci, li⟩ := x9
  dsimp only at hln hxl
  refine mv_ rfl (sg_ rfl (nn_ (gw_seq (sr_ (lk_ sc262 0 rfl rfl rfl (wl_ov (ov_nilcheck rfl) rfl (fd_ fo266_1 rfl rfl (lk_ sc263 1 rfl rfl rfl (mv_ rfl ?_)))))))))
  refine wl_ov (ov_index (j := i) es263 rfl rfl (by omega)) rfl ?_
  refine wl_ov (ov_elem1 (k := 0) (v := .slice Ai ni ci) sc269 rfl (fun _ hm => (hm.fact 3 rfl)) hx9 rfl rfl) rfl ?_
  refine wl_ov (ov_len es269 rfl) rfl (wl_ov (ov_eql rfl rfl) rfl (nn_ ?_))
  refine gw_cond rfl (fun hh => ?_) (fun hh => ?_)
  ·have hni : ((ni : Nat) : Int) = 0 := by simpa using hh
   clear hh
   refine sr_ (sg_ rfl ?_)
   refine wl_set 6 (v' := .int .i64 (-1)) rfl rfl ?_
   refine nn_ ?_
   refine gw_ret ?_
   refine nx_then_ret (nx_blk_ret (nx_then_ret (nx_then_ret (nx_blk_ret (nx_then_ret ?_)))))
   have hle : li = [] := List.length_eq_zero_iff.1 (by have := hcn _ (List.mem_of_getElem? hx9); dsimp only at this; omega)
   have hem : [] ∈ l.map (chB cs sl) := by rw [← hcx]; exact List.mem_map.2 ⟨_, List.mem_of_getElem? hx9, hle⟩
   refine nx_ret1 rfl rfl fun wx hm => ?_
   exact ⟨-1, rfl, fw_none (asg_empty hcl hlo hix (fun b hb => (htm b hb).2.1) hem), hm.g⟩
  have hni : ¬ (((ni : Nat) : Int) = 0) := by simpa using hh
  clear hh
  refine gw_skip (nx_then ?_)
  have hn0 : lenN (l.map (chB cs sl)) i ≠ 0 := by omega
  refine gd (fun wz => Blk wz g7 262 [.pointer (some ⟨gx, 0, none⟩)] ∧ (SlOld csEnc 2 158 w.heap.size none A0 n0 cs) wz ∧ (SlOld skEnc 2 211 w.heap.size none A1 n1 sl) wz ∧ (SlOld bkEnc 6 92 w.heap.size none A n l) wz ∧ (fun wy => SlT csnEnc 1 269 wy (some ⟨b9, o9, none⟩) n cx) wz ∧ (fun wy => Chs 268 cx wy) wz ∧ True) mixed (fun _ hm => ⟨hm.bl 0, hm.fa 0, hm.fa 1, hm.fa 2, hm.fa 3, hm.fa 4, trivial⟩) fun z => ?_
  refine wt 0 11 1 rfl z (ov_load sc262 rfl (fun _ hm => hm.1) rfl) ?_
  refine wt 1 11 3 rfl z (ov_load sc262 rfl (fun _ hm => hm.1) rfl) ?_
  refine wt 2 11 7 rfl z (ov_nilcheck rfl) ?_
  refine wt 3 11 15 rfl z (ov_field fo266_2 rfl rfl) ?_
  refine wt 5 11 47 rfl z (ov_move rfl) ?_
  refine wa_all [4, 6] (by kernel_rfl) rfl ⟨⟨_, rfl, ?_⟩, ⟨_, rfl, ?_⟩, trivial⟩
  ·refine lk_ sc22 1 rfl rfl rfl (wl_nil ?_)
   refine nw 11 63 (fun _ hm => ⟨hm.bl 0, hm.fa 0, hm.fa 1, hm.fa 2, hm.fa 3, hm.fa 4, trivial⟩) fun z => ?_
   refine wa1 6 rfl ?_
   refine wl_buildSlice (e := 3) (cs := [.int .i64 ((i : Nat) : Int)]) rfl (by kernel_rfl) rfl fun g21 => ?_
   refine wl_nil ?_
   refine nw 11 127 (fun _ hm => ⟨hm.bl 1, hm.fa 0, hm.fa 1, hm.fa 2, hm.fa 3, hm.fa 4, trivial⟩) fun z => ?_
   refine wa1 7 rfl ?_
   refine wl_append (news := [.int .i64 ((i : Nat) : Int)]) 0 0 ap22 rfl rfl rfl rfl rfl rfl rfl (by omega) (by unfold maxLen; omega) rfl rfl fun v2 hv2 => ?_
   rw [show (List.range i).flatMap nEnc ++ ([.int .i64 ((i : Nat) : Int)] : List Value) = (List.range (i + 1)).flatMap nEnc from by rw [List.range_succ, List.flatMap_append]; simp [nEnc]]
   refine wl_look (R := ∃ A cc, v2 = .slice A (i + 1) cc) (fun wx hm => own_slice (hm.ownI 0 rfl)) ?_
   rintro ⟨Ao, co, rfl⟩
   refine wl_nil ?_
   refine nw 11 255 (fun _ hm => ⟨hm.bl 1, hm.fa 0, hm.fa 1, hm.fa 2, hm.fa 3, hm.fa 4, trivial⟩) fun z => ?_
   refine wt 8 11 511 rfl z (ov_nilcheck rfl) ?_
   refine wt 9 11 1023 rfl z (ov_field fo266_2 rfl rfl) ?_
   refine wa1 10 rfl ?_
   refine wl_store 2 sc22 rfl rfl rfl rfl rfl rfl ?_
   refine wl_nil ?_
   refine nw 11 2047 (fun _ hm => ⟨hm.bl 1, hm.fa 0, hm.fa 1, hm.fa 2, hm.fa 3, hm.fa 4, trivial⟩) fun z => ?_
   refine wa_done (by kernel_rfl) ?_
   refine nx_blk_nrm (nx_then (gw_region (ad_ rfl rfl (mv_ rfl (wl_nil ?_)))))
   exact nx_round (i + 1, .slice Ao (i + 1) co) ⟨by dsimp only; omega, fun j hj => by
    by_cases e : j = i
    ·rw [e]; omega
    exact hne j (by dsimp only at hj; omega)⟩ (by dsimp only; omega) ⟨rfl, rfl, rfl, (some_int (by omega)), trivial⟩ (fun _ hm => hm.pick [1, 2] [0, 1] [0, 1, 2, 3, 4] rfl rfl)
  refine wl_buildSlice (e := 3) (cs := [.int .i64 ((i : Nat) : Int)]) rfl (by kernel_rfl) rfl fun g22 => ?_
  refine wl_nil ?_
  refine nw 11 111 (fun _ hm => ⟨hm.bl 1, hm.fa 0, hm.fa 1, hm.fa 2, hm.fa 3, hm.fa 4, trivial⟩) fun z => ?_
  refine wa1 4 rfl ?_
  refine lk_ sc22 2 rfl rfl rfl (wl_nil ?_)
  refine nw 11 127 (fun _ hm => ⟨hm.bl 1, hm.fa 0, hm.fa 1, hm.fa 2, hm.fa 3, hm.fa 4, trivial⟩) fun z => ?_
  refine wa1 7 rfl ?_
  refine wl_append (news := [.int .i64 ((i : Nat) : Int)]) 0 0 ap22 rfl rfl rfl rfl rfl rfl rfl (by omega) (by unfold maxLen; omega) rfl rfl fun v2 hv2 => ?_
  rw [show (List.range i).flatMap nEnc ++ ([.int .i64 ((i : Nat) : Int)] : List Value) = (List.range (i + 1)).flatMap nEnc from by rw [List.range_succ, List.flatMap_append]; simp [nEnc]]
  refine wl_look (R := ∃ A cc, v2 = .slice A (i + 1) cc) (fun wx hm => own_slice (hm.ownI 0 rfl)) ?_
  rintro ⟨Ao, co, rfl⟩
  refine wl_nil ?_
  refine nw 11 255 (fun _ hm => ⟨hm.bl 1, hm.fa 0, hm.fa 1, hm.fa 2, hm.fa 3, hm.fa 4, trivial⟩) fun z => ?_
  refine wt 8 11 511 rfl z (ov_nilcheck rfl) ?_
  refine wt 9 11 1023 rfl z (ov_field fo266_2 rfl rfl) ?_
  refine wa1 10 rfl ?_
  refine wl_store 2 sc22 rfl rfl rfl rfl rfl rfl ?_
  refine wl_nil ?_
  refine nw 11 2047 (fun _ hm => ⟨hm.bl 1, hm.fa 0, hm.fa 1, hm.fa 2, hm.fa 3, hm.fa 4, trivial⟩) fun z => ?_
  refine wa_done (by kernel_rfl) ?_
  refine nx_blk_nrm (nx_then (gw_region (ad_ rfl rfl (mv_ rfl (wl_nil ?_)))))
  exact nx_round (i + 1, .slice Ao (i + 1) co) ⟨by dsimp only; omega, fun j hj => by
   by_cases e : j = i
   ·rw [e]; omega
   exact hne j (by dsimp only at hj; omega)⟩ (by dsimp only; omega) ⟨rfl, rfl, rfl, (some_int (by omega)), trivial⟩ (fun _ hm => hm.pick [1, 2] [0, 1] [0, 1, 2, 3, 4] rfl rfl)
 have hi : ¬ (((i : Nat) : Int) < ((n : Nat) : Int)) := by simpa using hh
 clear hh
 refine gw_exit ?_
 refine nx_then_exit (nx_then_exit ?_)
 refine nx_blk_here ?_
 refine nx_then (sr_ ?_)
 have hin2 : i = n := by omega
 subst hin2
 refine wl_look (R := ∃ A cc, v = .slice A i cc) (fun wx hm => own_slice (hm.ownI 0 rfl)) ?_
 rintro ⟨Ao, co, rfl⟩
 obtain ⟨OD, hOD⟩ : ∃ z, z = ordN (l.map (chB cs sl)) i := ⟨_, rfl⟩
 have hOp : OD.Perm (List.range l.length) := by rw [hOD, hlen]; exact ordN_perm _ _
 have hOl : OD.length = i := by rw [hOp.length_eq, List.length_range]; exact hlen
 have hOm : ∀ j ∈ OD, j < i := fun j hj => by have := List.mem_range.1 (hOp.mem_iff.1 hj); omega
 have hOn : OD.Nodup := hOp.nodup_iff.2 List.nodup_range
 refine lk_ sc262 0 rfl rfl rfl (wl_ov (ov_nilcheck rfl) rfl (fd_ fo266_2 rfl rfl (lk_ sc22 1 rfl rfl rfl (wl_ov (ov_makeFunc rfl rfl) rfl ?_))))
 by_cases h0 : i = 0
 ·refine wl_callv (v := .tuple #[]) rfl cb155 rfl rfl (fun wx hm => (by subst h0; exact stable0_co Ao co g7 wx)) ?_
  rw [show (List.range i).flatMap nEnc = OD.flatMap nEnc from by rw [List.length_eq_zero_iff.1 (hOl.trans h0), h0]; rfl]
  refine nn_ (gw_seq ?_)
  refine gd (fun wz => Blk wz g7 262 [.pointer (some ⟨gx, 0, none⟩)] ∧ (SlOld csEnc 2 158 w.heap.size none A0 n0 cs) wz ∧ (SlOld skEnc 2 211 w.heap.size none A1 n1 sl) wz ∧ (SlOld bkEnc 6 92 w.heap.size none A i l) wz ∧ (fun wy => SlT csnEnc 1 269 wy A9 i cx) wz ∧ (fun wy => Chs 268 cx wy) wz ∧ True) mixed (fun _ hm => ⟨hm.bl 0, hm.fa 0, hm.fa 1, hm.fa 2, hm.fa 3, hm.fa 4, trivial⟩) fun z => ?_
  refine wt 0 8 1 rfl z (ov_load sc262 rfl (fun _ hm => hm.1) rfl) ?_
  refine wt 1 8 3 rfl z (ov_move rfl) ?_
  refine wt 2 8 7 rfl z (ov_len es76 rfl) ?_
  refine wt 3 8 15 rfl z (ov_add rfl rfl (by omega) (by omega)) ?_
  refine wa1 4 rfl ?_
  refine wl_makeO (n := (i + 1)) (sz := 1) (e := 3) (by_ := 8) (z := .int .i64 0) (by kernel_rfl) (by kernel_rfl) rfl rfl (by omega) (by omega) (by omega) (by unfold maxLen; omega) (made_flat (enc := iEnc) (x := (0 : Int)) rfl rfl (by decide) (i + 1)) rfl fun g23 => ?_
  obtain ⟨CO, hCO⟩ : ∃ z, z = coB cs sl l OD := ⟨_, rfl⟩
  have hCl : CO.length = i := by rw [hCO]; unfold coB; rw [List.length_map]; exact hOl
  rw [show (List.replicate (i + 1) (0 : Int)).flatMap iEnc = (restL CO i).flatMap iEnc from by rw [show restL CO i = List.replicate (i + 1) 0 from by have := restL_zero CO; rw [hCl] at this; exact this]]
  refine wl_nil ?_
  refine nw 8 31 (fun _ hm => ⟨hm.bl 0, hm.fa 0, hm.fa 1, hm.fa 2, hm.fa 3, hm.fa 4, trivial⟩) fun z => ?_
  refine wt 5 8 63 rfl z (ov_nilcheck rfl) ?_
  refine wt 6 8 127 rfl z (ov_field fo266_5 rfl rfl) ?_
  refine wa1 7 rfl ?_
  refine wl_store 1 sc22 rfl rfl rfl rfl rfl rfl ?_
  refine wl_nil ?_
  refine nw 8 255 (fun _ hm => ⟨hm.bl 0, hm.fa 0, hm.fa 1, hm.fa 2, hm.fa 3, hm.fa 4, trivial⟩) fun z => ?_
  refine wa_done (by kernel_rfl) ?_
  refine nx_then (gw_seq (sr_ (mv_ rfl (wl_ov (ov_len es76 rfl) rfl ?_))))
  refine wl_ov (ov_sub rfl rfl (by omega) (by omega)) rfl ?_
  refine sg_ rfl (nn_ (gw_block ?_))
  refine gw_loop (γ := Nat) (fun (j : Nat) => j ≤ i) (fun (j : Nat) => [(7, .pointer (some ⟨g7, 0, none⟩)), (9, .int .i64 (((j : Nat) : Int) - 1))]) (fun (j : Nat) => fun _ => True) (fun (j : Nat) => [(g7, 262, [.pointer (some ⟨gx, 0, none⟩)]), (gx, 266, [.slice A i c, .slice A9 i c9, .slice Ao i co, .slice (some ⟨gc, 0, none⟩) i i, .slice none 0 0, .slice (some ⟨g23, 0, none⟩) (i + 1) (i + 1), .int .i64 (-1)])]) (fun (j : Nat) => [⟨.slice (some ⟨g23, 0, none⟩) (i + 1) (i + 1), 3, 1, (i + 1), (restL CO j).flatMap iEnc⟩, ⟨.slice Ao i co, 3, 1, i, OD.flatMap nEnc⟩, ⟨.slice (some ⟨gc, 0, none⟩) i i, 9, 1, i, (List.replicate (i) (⟨#[]⟩ : ByteArray)).flatMap sgEnc⟩]) (fun (j : Nat) => [SlOld csEnc 2 158 w.heap.size none A0 n0 cs, SlOld skEnc 2 211 w.heap.size none A1 n1 sl, SlOld bkEnc 6 92 w.heap.size none A i l, fun wy => SlT csnEnc 1 269 wy A9 i cx, fun wy => Chs 268 cx wy]) (fun (j : Nat) => j) i (Nat.le_refl _) ⟨rfl, rfl, trivial⟩ (fun _ hm => hm.pick [0, 1] [0, 1, 2] [0, 1, 2, 3, 4] rfl rfl) ?_
  intro j hinv
  replace hinv : j ≤ i := hinv
  refine gw_seq (sr_ (mv_ rfl ?_))
  refine wl_ov (ov_geq rfl rfl) rfl ?_
  refine nn_ ?_
  refine gw_cond rfl (fun hh => ?_) (fun hh => ?_)
  ·have hj : 0 ≤ ((j : Nat) : Int) - 1 := by simpa using hh
   clear hh
   refine gw_skip (nx_then (gw_seq (gw_block ?_)))
   obtain ⟨k, rfl⟩ : ∃ k, j = k + 1 := ⟨j - 1, by omega⟩
   have ek : (((k + 1 : Nat) : Int) - 1) = ((k : Nat) : Int) := by omega
   have hki : k < i := by omega
   refine gw_set 9 (v' := .int .i64 ((k : Nat) : Int)) rfl (congrArg (Value.int .i64) ek) ?_
   exact absurd hki (by omega)
  have hj : ¬ (0 ≤ ((j : Nat) : Int) - 1) := by simpa using hh
  clear hh
  refine gw_exit ?_
  refine nx_then_exit (nx_then_exit ?_)
  refine nx_blk_here ?_
  refine nx_then (sr_ ?_)
  have hj0 : j = 0 := by omega
  subst hj0
  refine lk_ sc262 0 rfl rfl rfl ?_
  refine wl_callG (γ := List ByteArray) (val := fun _ => .tuple #[]) (φ := fun _ => True) (K' := fun _ => fun _ => True) (L' := fun _ => [(gx, 266, [.slice A i c, .slice A9 i c9, .slice Ao i co, .slice (some ⟨gc, 0, none⟩) i i, .slice none 0 0, .slice (some ⟨g23, 0, none⟩) (i + 1) (i + 1), .int .i64 (bestI (bbW roomF (OD.map (itB cs sl l)) [] 0 none))]), (g7, 262, [.pointer (some ⟨gx, 0, none⟩)])]) (O' := fun cl2 => [⟨.slice (some ⟨gc, 0, none⟩) i i, 9, 1, i, cl2.flatMap sgEnc⟩, ⟨.slice Ao i co, 3, 1, i, OD.flatMap nEnc⟩, ⟨.slice (some ⟨g23, 0, none⟩) (i + 1) (i + 1), 3, 1, (i + 1), (restL CO 0).flatMap iEnc⟩]) (X' := fun _ => [SlOld bkEnc 6 92 w.heap.size none A i l]) rfl cb228 rfl rfl (fun wx hm => by
   have h := cf_all w l A i c cs sl A9 c9 cx OD Ao co (restL CO 0) gx g7 gc g23 (by omega) (own_cap (hm.ownI 1 rfl)) hOl (by rw [restL_len, hCl]) hOm hOn htm hcx hstp hchl (fun k => by rw [co_it]; exact Nat.le_trans (co_le hstp (fun j hj => by rw [hlen]; exact hOm j hj) k) (by omega)) (fun k hk => by rw [co_it, ← hCO, restL_at (by omega)]; rfl) i 0 (by omega) 0 none (List.replicate (i) (⟨#[]⟩ : ByteArray)) wx (by rw [List.length_replicate]) (by omega) (hm.pick [1, 0] [2, 1, 0] [2, 3, 4] rfl rfl).cx
   exact h.mono fun _ _ ⟨cl2, he, _, _, hm2⟩ => ⟨cl2, he, trivial, (hm2.cx.pick [0, 1] [0, 1, 2] [0] rfl rfl)⟩) ?_
  rintro cl2 -
  refine nn_ (sr_ (lk_ sc262 1 rfl rfl rfl (wl_ov (ov_nilcheck rfl) rfl (fd_ fo266_6 rfl rfl (lk_ sc3 0 rfl rfl rfl (sg_ rfl (nn_ ?_)))))))
  refine gw_ret ?_
  refine nx_ret1 rfl rfl fun wx hm => ?_
  exact ⟨_, rfl, fw_bb hcl hlo hix htm hOp, hm.g⟩
 refine wl_look (R := ∃ g, Ao = some ⟨g, 0, none⟩) (fun wx hm => own_addr (hm.ownI 0 rfl) (by omega)) ?_
 rintro ⟨go, rfl⟩
 rw [show (List.range i).flatMap nEnc = ((List.range i).map fun k => ((k : Nat) : Int)).flatMap iEnc from (n_flat _).symm]
 refine wl_callr (v := .tuple #[]) (xs' := OD.flatMap nEnc) 0 rfl rfl rfl cb155 rfl rfl (fun wx hm => (by have h := stable_co cx (l.map (chB cs sl)) A9 i c9 g7 gx _ _ _ _ _ _ ((List.range i).map fun k => ((k : Nat) : Int)) go i co _ wx (hm.ownI 0 rfl) (by simp) (by omega) ((hm.fact 3 rfl).farT (hm.ownI 0 rfl) (by decide)) (hm.blkFar 0 0 rfl rfl) (hm.blkFar 1 0 rfl rfl) hcx hcn (fun z hz => by obtain ⟨q, hq, rfl⟩ := List.mem_map.1 hz; have := List.mem_range.1 hq; omega); rw [ordN_eq, ← hOD, n_flat] at h; exact h)) ?_
 refine nn_ (gw_seq ?_)
 refine gd (fun wz => Blk wz g7 262 [.pointer (some ⟨gx, 0, none⟩)] ∧ (SlOld csEnc 2 158 w.heap.size none A0 n0 cs) wz ∧ (SlOld skEnc 2 211 w.heap.size none A1 n1 sl) wz ∧ (SlOld bkEnc 6 92 w.heap.size none A i l) wz ∧ (fun wy => SlT csnEnc 1 269 wy A9 i cx) wz ∧ (fun wy => Chs 268 cx wy) wz ∧ True) mixed (fun _ hm => ⟨hm.bl 0, hm.fa 0, hm.fa 1, hm.fa 2, hm.fa 3, hm.fa 4, trivial⟩) fun z => ?_
 refine wt 0 8 1 rfl z (ov_load sc262 rfl (fun _ hm => hm.1) rfl) ?_
 refine wt 1 8 3 rfl z (ov_move rfl) ?_
 refine wt 2 8 7 rfl z (ov_len es76 rfl) ?_
 refine wt 3 8 15 rfl z (ov_add rfl rfl (by omega) (by omega)) ?_
 refine wa1 4 rfl ?_
 refine wl_makeO (n := (i + 1)) (sz := 1) (e := 3) (by_ := 8) (z := .int .i64 0) (by kernel_rfl) (by kernel_rfl) rfl rfl (by omega) (by omega) (by omega) (by unfold maxLen; omega) (made_flat (enc := iEnc) (x := (0 : Int)) rfl rfl (by decide) (i + 1)) rfl fun g24 => ?_
 obtain ⟨CO, hCO⟩ : ∃ z, z = coB cs sl l OD := ⟨_, rfl⟩
 have hCl : CO.length = i := by rw [hCO]; unfold coB; rw [List.length_map]; exact hOl
 rw [show (List.replicate (i + 1) (0 : Int)).flatMap iEnc = (restL CO i).flatMap iEnc from by rw [show restL CO i = List.replicate (i + 1) 0 from by have := restL_zero CO; rw [hCl] at this; exact this]]
 refine wl_nil ?_
 refine nw 8 31 (fun _ hm => ⟨hm.bl 0, hm.fa 0, hm.fa 1, hm.fa 2, hm.fa 3, hm.fa 4, trivial⟩) fun z => ?_
 refine wt 5 8 63 rfl z (ov_nilcheck rfl) ?_
 refine wt 6 8 127 rfl z (ov_field fo266_5 rfl rfl) ?_
 refine wa1 7 rfl ?_
 refine wl_store 1 sc22 rfl rfl rfl rfl rfl rfl ?_
 refine wl_nil ?_
 refine nw 8 255 (fun _ hm => ⟨hm.bl 0, hm.fa 0, hm.fa 1, hm.fa 2, hm.fa 3, hm.fa 4, trivial⟩) fun z => ?_
 refine wa_done (by kernel_rfl) ?_
 refine nx_then (gw_seq (sr_ (mv_ rfl (wl_ov (ov_len es76 rfl) rfl ?_))))
 refine wl_ov (ov_sub rfl rfl (by omega) (by omega)) rfl ?_
 refine sg_ rfl (nn_ (gw_block ?_))
 refine gw_loop (γ := Nat) (fun (j : Nat) => j ≤ i) (fun (j : Nat) => [(7, .pointer (some ⟨g7, 0, none⟩)), (9, .int .i64 (((j : Nat) : Int) - 1))]) (fun (j : Nat) => fun _ => True) (fun (j : Nat) => [(g7, 262, [.pointer (some ⟨gx, 0, none⟩)]), (gx, 266, [.slice A i c, .slice A9 i c9, .slice (some ⟨go, 0, none⟩) i co, .slice (some ⟨gc, 0, none⟩) i i, .slice none 0 0, .slice (some ⟨g24, 0, none⟩) (i + 1) (i + 1), .int .i64 (-1)])]) (fun (j : Nat) => [⟨.slice (some ⟨g24, 0, none⟩) (i + 1) (i + 1), 3, 1, (i + 1), (restL CO j).flatMap iEnc⟩, ⟨.slice (some ⟨go, 0, none⟩) i co, 3, 1, i, OD.flatMap nEnc⟩, ⟨.slice (some ⟨gc, 0, none⟩) i i, 9, 1, i, (List.replicate (i) (⟨#[]⟩ : ByteArray)).flatMap sgEnc⟩]) (fun (j : Nat) => [SlOld csEnc 2 158 w.heap.size none A0 n0 cs, SlOld skEnc 2 211 w.heap.size none A1 n1 sl, SlOld bkEnc 6 92 w.heap.size none A i l, fun wy => SlT csnEnc 1 269 wy A9 i cx, fun wy => Chs 268 cx wy]) (fun (j : Nat) => j) i (Nat.le_refl _) ⟨rfl, rfl, trivial⟩ (fun _ hm => hm.pick [0, 1] [0, 1, 2] [0, 1, 2, 3, 4] rfl rfl) ?_
 intro j hinv
 replace hinv : j ≤ i := hinv
 refine gw_seq (sr_ (mv_ rfl ?_))
 refine wl_ov (ov_geq rfl rfl) rfl ?_
 refine nn_ ?_
 refine gw_cond rfl (fun hh => ?_) (fun hh => ?_)
 ·have hj : 0 ≤ ((j : Nat) : Int) - 1 := by simpa using hh
  clear hh
  refine gw_skip (nx_then (gw_seq (gw_block ?_)))
  obtain ⟨k, rfl⟩ : ∃ k, j = k + 1 := ⟨j - 1, by omega⟩
  have ek : (((k + 1 : Nat) : Int) - 1) = ((k : Nat) : Int) := by omega
  have hki : k < i := by omega
  refine gw_set 9 (v' := .int .i64 ((k : Nat) : Int)) rfl (congrArg (Value.int .i64) ek) ?_
  obtain ⟨b9, o9, rfl⟩ := h9 (by omega)
  obtain ⟨q, hq⟩ : ∃ x, OD[k]? = some x := ⟨_, List.getElem?_eq_getElem (by omega)⟩
  have hqi := hOm q (List.mem_of_getElem? hq)
  obtain ⟨x9, hx9⟩ : ∃ x, cx[q]? = some x := ⟨_, List.getElem?_eq_getElem (by omega)⟩
  have hx9m := List.mem_of_getElem? hx9
  have hln := lenN_at hcx hcn hx9
  have hxl := cx_at hcx hx9
  have hlnz := hne q hqi
  obtain ⟨bi, oi, hAi⟩ := hin _ hx9m (by omega)
  obtain ⟨Ai, ni, ci, li⟩ := x9
  dsimp only at hln hxl hAi
  subst hAi
  have hlil := hcn _ hx9m
  dsimp only at hlil
  obtain ⟨e0, he0⟩ : ∃ x, li[0]? = some x := ⟨_, List.getElem?_eq_getElem (by omega)⟩
  have hco := co_at (cs := cs) (sl := sl) (l := l) hq
  rw [← hCO, ← hxl] at hco
  have hrw := restW_at hco
  rw [head_at he0] at hrw
  obtain ⟨e1, e2, e3⟩ := e0
  dsimp only at hrw
  obtain ⟨r1, hr1⟩ : ∃ z, z = restW (CO.drop (k + 1)) := ⟨_, rfl⟩
  obtain ⟨r0, hr0⟩ : ∃ z, z = restW (CO.drop k) := ⟨_, rfl⟩
  have hrb := co_le (l := l) (cs := cs) (sl := sl) hstp (fun j hj => by rw [hlen]; exact hOm j hj) k
  rw [← hCO, ← hr0] at hrb
  rw [← hr0, ← hr1] at hrw
  have hg1 : (restL CO (k + 1))[k + 1]? = some ((r1 : Nat) : Int) := by rw [restL_at (by omega), hr1]; unfold restR; rw [if_pos (Nat.le_refl _)]
  have hg0 : (restL CO (k + 1))[k]? = some (restR CO (k + 1) k) := restL_at (by omega)
  refine gd (fun wz => Blk wz g7 262 [.pointer (some ⟨gx, 0, none⟩)] ∧ Blk wz gx 266 [.slice A i c, .slice (some ⟨b9, o9, none⟩) i c9, .slice (some ⟨go, 0, none⟩) i co, .slice (some ⟨gc, 0, none⟩) i i, .slice none 0 0, .slice (some ⟨g24, 0, none⟩) (i + 1) (i + 1), .int .i64 (-1)] ∧ (SlOld csEnc 2 158 w.heap.size none A0 n0 cs) wz ∧ (SlOld skEnc 2 211 w.heap.size none A1 n1 sl) wz ∧ (SlOld bkEnc 6 92 w.heap.size none A i l) wz ∧ (fun wy => SlT csnEnc 1 269 wy (some ⟨b9, o9, none⟩) i cx) wz ∧ (fun wy => Chs 268 cx wy) wz ∧ wz.ownsRow w.heap.size 3 1 (.slice (some ⟨go, 0, none⟩) i co) i (OD.flatMap nEnc) ∧ wz.ownsRow w.heap.size 9 1 (.slice (some ⟨gc, 0, none⟩) i i) i ((List.replicate (i) (⟨#[]⟩ : ByteArray)).flatMap sgEnc) ∧ True) mixed (fun _ hm => ⟨hm.bl 0, hm.bl 1, hm.fa 0, hm.fa 1, hm.fa 2, hm.fa 3, hm.fa 4, hm.ownI 1 rfl, hm.ownI 2 rfl, trivial⟩) fun z => ?_
  refine wt 0 32 1 rfl z (ov_load sc262 rfl (fun _ hm => hm.1) rfl) ?_
  refine wt 1 32 3 rfl z (ov_nilcheck rfl) ?_
  refine wt 2 32 7 rfl z (ov_field fo266_5 rfl rfl) ?_
  refine wt 3 32 15 rfl z (ov_load sc22 rfl (fun _ hm => hm.2.1) rfl) ?_
  refine wt 4 32 31 rfl z (ov_move rfl) ?_
  refine wt 5 32 63 rfl z (ov_load sc262 rfl (fun _ hm => hm.1) rfl) ?_
  refine wt 6 32 127 rfl z (ov_nilcheck rfl) ?_
  refine wt 7 32 255 rfl z (ov_field fo266_5 rfl rfl) ?_
  refine wt 8 32 511 rfl z (ov_load sc22 rfl (fun _ hm => hm.2.1) rfl) ?_
  refine wt 9 32 1023 rfl z (ov_move rfl) ?_
  refine wt 10 32 2047 rfl z (ov_add rfl rfl (by omega) (by omega)) ?_
  refine wa_set 75 (v' := .int .i64 ((k + 1 : Nat) : Int)) rfl (congrArg (Value.int .i64) (by omega)) ?_
  refine wt 11 32 4095 rfl z (ov_index (j := k + 1) es22 rfl rfl (by omega)) ?_
  refine wt 13 32 12287 rfl z (ov_load sc262 rfl (fun _ hm => hm.1) rfl) ?_
  refine wt 14 32 28671 rfl z (ov_nilcheck rfl) ?_
  refine wt 15 32 61439 rfl z (ov_field fo266_1 rfl rfl) ?_
  refine wt 16 32 126975 rfl z (ov_load sc263 rfl (fun _ hm => hm.2.1) rfl) ?_
  refine wt 17 32 258047 rfl z (ov_load sc262 rfl (fun _ hm => hm.1) rfl) ?_
  refine wt 18 32 520191 rfl z (ov_nilcheck rfl) ?_
  refine wt 19 32 1044479 rfl z (ov_field fo266_2 rfl rfl) ?_
  refine wt 20 32 2093055 rfl z (ov_load sc22 rfl (fun _ hm => hm.2.1) rfl) ?_
  refine wt 21 32 4190207 rfl z (ov_move rfl) ?_
  refine wt 22 32 8384511 rfl z (ov_index (j := k) es22 rfl rfl (by omega)) ?_
  refine wt 23 32 16773119 rfl z (ov_elem1 (k := 0) (v := .int .i64 ((q : Nat) : Int)) sc3 rfl (fun _ hm => (SlT.ofOwn n_len (hm.2.2.2.2.2.2.2.1) hOl)) hq rfl rfl) ?_
  refine wt 24 32 33550335 rfl z (ov_index (j := q) es263 rfl rfl (by omega)) ?_
  refine wt 25 32 67104767 rfl z (ov_elem1 (k := 0) (v := .slice (some ⟨bi, oi, none⟩) ni ci) sc269 rfl (fun _ hm => (hm.2.2.2.2.2.1)) hx9 rfl rfl) ?_
  refine wt 26 32 134213631 rfl z (ov_index (j := 0) es269 rfl rfl (by omega)) ?_
  refine wt 27 32 268431359 rfl z (ov_field fo268_1 rfl rfl) ?_
  refine wt 28 32 536866815 rfl z (ov_elem1 (k := 1) (v := .int .i64 ((e2 : Nat) : Int)) sc3 rfl (fun _ hm => ((hm.2.2.2.2.2.2.1) _ hx9m)) he0 rfl rfl) ?_
  refine wa1 12 rfl ?_
  refine wl_ov (ov_elem1 (k := 0) (v := .int .i64 ((r1 : Nat) : Int)) sc3 rfl (fun _ hm => (SlT.ofOwn i_len (hm.ownI 0 rfl) (by rw [restL_len]; omega))) hg1 rfl rfl) rfl ?_
  refine wl_nil ?_
  refine nw 32 536870911 (fun _ hm => ⟨hm.bl 0, hm.bl 1, hm.fa 0, hm.fa 1, hm.fa 2, hm.fa 3, hm.fa 4, hm.ownI 1 rfl, hm.ownI 2 rfl, trivial⟩) fun z => ?_
  refine wt 29 32 1073741823 rfl z (ov_add rfl rfl (by omega) (by omega)) ?_
  refine wa_set 94 (v' := .int .i64 ((r0 : Nat) : Int)) rfl (congrArg (Value.int .i64) (by omega)) ?_
  refine wt 30 32 2147483647 rfl z (ov_index (j := k) es22 rfl rfl (by omega)) ?_
  refine wa1 31 rfl ?_
  refine wl_storeE (l := (restL CO (k + 1))) (j := k) (r := 0) (el := (restR CO (k + 1) k)) (el' := ((r0 : Nat) : Int)) 0 sc3 rfl rfl rfl rfl i_len rfl hg0 (by rw [restL_len]; omega) (show 0 < 1 by decide) rfl rfl ?_
  rw [show ((restL CO (k + 1)).set k ((r0 : Nat) : Int)).flatMap iEnc = (restL CO k).flatMap iEnc from by rw [hr0, restL_set (by omega)]]
  refine wl_nil ?_
  refine nw 32 4294967295 (fun _ hm => ⟨hm.bl 0, hm.bl 1, hm.fa 0, hm.fa 1, hm.fa 2, hm.fa 3, hm.fa 4, hm.ownI 1 rfl, hm.ownI 2 rfl, trivial⟩) fun z => ?_
  refine wa_done (by kernel_rfl) ?_
  refine nx_blk_nrm (nx_then (gw_region (mv_ rfl ?_)))
  refine wl_ov (ov_sub rfl rfl (by omega) (by omega)) rfl ?_
  refine sg_ rfl (wl_nil ?_)
  exact nx_round k (by omega) (by omega) ⟨rfl, rfl, trivial⟩ (fun _ hm => hm.pick [0, 1] [0, 1, 2] [0, 1, 2, 3, 4] rfl rfl)
 have hj : ¬ (0 ≤ ((j : Nat) : Int) - 1) := by simpa using hh
 clear hh
 refine gw_exit ?_
 refine nx_then_exit (nx_then_exit ?_)
 refine nx_blk_here ?_
 refine nx_then (sr_ ?_)
 have hj0 : j = 0 := by omega
 subst hj0
 refine lk_ sc262 0 rfl rfl rfl ?_
 refine wl_callG (γ := List ByteArray) (val := fun _ => .tuple #[]) (φ := fun _ => True) (K' := fun _ => fun _ => True) (L' := fun _ => [(gx, 266, [.slice A i c, .slice A9 i c9, .slice (some ⟨go, 0, none⟩) i co, .slice (some ⟨gc, 0, none⟩) i i, .slice none 0 0, .slice (some ⟨g24, 0, none⟩) (i + 1) (i + 1), .int .i64 (bestI (bbW roomF (OD.map (itB cs sl l)) [] 0 none))]), (g7, 262, [.pointer (some ⟨gx, 0, none⟩)])]) (O' := fun cl2 => [⟨.slice (some ⟨gc, 0, none⟩) i i, 9, 1, i, cl2.flatMap sgEnc⟩, ⟨.slice (some ⟨go, 0, none⟩) i co, 3, 1, i, OD.flatMap nEnc⟩, ⟨.slice (some ⟨g24, 0, none⟩) (i + 1) (i + 1), 3, 1, (i + 1), (restL CO 0).flatMap iEnc⟩]) (X' := fun _ => [SlOld bkEnc 6 92 w.heap.size none A i l]) rfl cb228 rfl rfl (fun wx hm => by
  have h := cf_all w l A i c cs sl A9 c9 cx OD (some ⟨go, 0, none⟩) co (restL CO 0) gx g7 gc g24 (by omega) (own_cap (hm.ownI 1 rfl)) hOl (by rw [restL_len, hCl]) hOm hOn htm hcx hstp hchl (fun k => by rw [co_it]; exact Nat.le_trans (co_le hstp (fun j hj => by rw [hlen]; exact hOm j hj) k) (by omega)) (fun k hk => by rw [co_it, ← hCO, restL_at (by omega)]; rfl) i 0 (by omega) 0 none (List.replicate (i) (⟨#[]⟩ : ByteArray)) wx (by rw [List.length_replicate]) (by omega) (hm.pick [1, 0] [2, 1, 0] [2, 3, 4] rfl rfl).cx
  exact h.mono fun _ _ ⟨cl2, he, _, _, hm2⟩ => ⟨cl2, he, trivial, (hm2.cx.pick [0, 1] [0, 1, 2] [0] rfl rfl)⟩) ?_
 rintro cl2 -
 refine nn_ (sr_ (lk_ sc262 1 rfl rfl rfl (wl_ov (ov_nilcheck rfl) rfl (fd_ fo266_6 rfl rfl (lk_ sc3 0 rfl rfl rfl (sg_ rfl (nn_ ?_)))))))
 refine gw_ret ?_
 refine nx_ret1 rfl rfl fun wx hm => ?_
 exact ⟨_, rfl, fw_bb hcl hlo hix htm hOp, hm.g⟩
end Go.Proofs.YtempjmpfdniecaaGreatDoor
namespace Go.Proofs.YtempjmpfdniecaaGreatDoor
open Go.RowKit
/-- What unitsFrom does, from a booking on. -/
def UfSpec (w0 : World) (l : List Bk) (A : Option Addr) (nb cb : Nat) (cs : List Cs) (sl : List Sk) (A9 : Option Addr) (c9 : Nat) (cx : List ChS) (Ao : Option Addr) (co : Nat) (re : List Int) (g gc gu gr : Nat) (i : Nat) : Prop := ∀ (left : Nat) (cl : List ByteArray) (un : List Int) (ss : List (ByteArray × Nat)) (Y : World → Prop) (w : World), ss.length = i → cl.length = nb → un.length = nb → RwOk cl un ss → (∀ p ∈ ss, p.2 ≤ 1000) → left ≤ 1000000 → Mem ⟨0, w0, none, [269, 268]⟩ (fun _ => True) [(g, 266, [.slice A nb cb, .slice A9 nb c9, .slice Ao nb co, .slice (some ⟨gc, 0, none⟩) nb nb, .slice (some ⟨gu, 0, none⟩) nb nb, .slice (some ⟨gr, 0, none⟩) (nb + 1) (nb + 1), .int .i64 0])] [⟨.slice (some ⟨gc, 0, none⟩) nb nb, 9, 1, nb, (cl).flatMap sgEnc⟩, ⟨.slice (some ⟨gu, 0, none⟩) nb nb, 3, 1, nb, (un).flatMap iEnc⟩, ⟨.slice Ao nb co, 3, 1, nb, (List.range nb).flatMap nEnc⟩, ⟨.slice (some ⟨gr, 0, none⟩) (nb + 1) (nb + 1), 3, 1, nb + 1, re.flatMap iEnc⟩] [SlOld bkEnc 6 92 w0.heap.size none A nb l, fun wy => SlT csnEnc 1 269 wy A9 nb cx, fun wy => Chs 268 cx wy, Y] w →
    Calls Tryz.prog 221 #[.pointer (some ⟨g, 0, none⟩), .int .i64 ((i : Nat) : Int), .int .i64 ((left : Nat) : Int)] w (fun e w' => ∃ (cl' : List ByteArray) (un' : List Int), e = .returned (.bool (unD cs sl l ss left).isSome) ∧ cl'.length = nb ∧ un'.length = nb ∧ (∀ o, unD cs sl l ss left = some o → RwOk cl' un' o) ∧ (unD cs sl l ss left = none → RwOk cl' un' ss) ∧ Mem ⟨0, w0, none, [269, 268]⟩ (fun _ => True) [(g, 266, [.slice A nb cb, .slice A9 nb c9, .slice Ao nb co, .slice (some ⟨gc, 0, none⟩) nb nb, .slice (some ⟨gu, 0, none⟩) nb nb, .slice (some ⟨gr, 0, none⟩) (nb + 1) (nb + 1), .int .i64 0])] [⟨.slice (some ⟨gc, 0, none⟩) nb nb, 9, 1, nb, (cl').flatMap sgEnc⟩, ⟨.slice (some ⟨gu, 0, none⟩) nb nb, 3, 1, nb, (un').flatMap iEnc⟩, ⟨.slice Ao nb co, 3, 1, nb, (List.range nb).flatMap nEnc⟩, ⟨.slice (some ⟨gr, 0, none⟩) (nb + 1) (nb + 1), 3, 1, nb + 1, re.flatMap iEnc⟩] [SlOld bkEnc 6 92 w0.heap.size none A nb l, fun wy => SlT csnEnc 1 269 wy A9 nb cx, fun wy => Chs 268 cx wy, Y] w')
theorem uf_step (w0 : World) (l : List Bk) (A : Option Addr) (nb cb : Nat) (cs : List Cs) (sl : List Sk) (A9 : Option Addr) (c9 : Nat) (cx : List ChS) (Ao : Option Addr) (co : Nat) (re : List Int) (g gc gu gr : Nat) (i : Nat) (ih : i < nb → UfSpec w0 l A nb cb cs sl A9 c9 cx Ao co re g gc gu gr (i + 1)) (hi : i ≤ nb) (hn : nb ≤ 1000) (hco : nb ≤ co) (hrl : re.length = nb + 1) (htm : BkTim l) (hcx : cx.map ChS.l = l.map (chB cs sl)) (hstp : ∀ b ∈ l, ∀ q ∈ chB cs sl b, q.2.1 ≤ 1000 ∧ q.2.2 ≤ 1000) (hchl : ∀ b ∈ l, (chB cs sl b).length ≤ 1000) (hrest : ∀ k, restB cs sl l k ≤ 1000000) (hre : ∀ k, k ≤ nb → re[k]? = some ((restB cs sl l k : Nat) : Int)) : UfSpec w0 l A nb cb cs sl A9 c9 cx Ao co re g gc gu gr i := by
 intro left cl un ss Y w hss hcl hun hst hsb hleft hm
 refine gw_enter ⟨136, w0, none, [269, 268]⟩ Tryz.func221 rfl Tryz.ntmps221 rfl hm.cx ?_
 refine sr_ ?_
 obtain ⟨U, hU⟩ : ∃ z, z = unD cs sl l ss left := ⟨_, rfl⟩
 have hrg := hre i hi
 obtain ⟨rk, hrk⟩ : ∃ z, z = restB cs sl l i := ⟨_, rfl⟩
 have hrb := hrest i
 rw [← hrk] at hrb hrg
 rw [← hU]
 have hl0 := (hm.fact 0 rfl : SlOld bkEnc 6 92 w0.heap.size none A nb l w).1
 have hlen := hl0.len
 have LastsY : Lasts2 w0.heap.size none [269, 268] Y := hm.l Y (List.mem_of_getElem? (i := 3) rfl)
 have hch9 : SlT csnEnc 1 269 w A9 nb cx := hm.fact 1 rfl
 have hchs : Chs 268 cx w := hm.fact 2 rfl
 have hcl9 := hch9.len
 refine sg_ rfl (nn_ (gw_seq (sr_ (mv_ rfl (mv_ rfl (wl_ov (ov_nilcheck rfl) rfl (fd_ fo266_5 rfl rfl (lk_ sc22 0 rfl rfl rfl (mv_ rfl ?_)))))))))
 refine wl_ov (ov_index (j := i) es22 rfl rfl (by omega)) rfl ?_
 refine wl_ov (ov_elem1 (k := 0) (v := .int .i64 ((rk : Nat) : Int)) sc3 rfl (fun _ hm => (SlT.ofOwn i_len (hm.ownI 3 rfl) hrl)) hrg rfl rfl) rfl ?_
 refine wl_ov (ov_lss rfl rfl) rfl (nn_ ?_)
 refine gw_cond rfl (fun hh => ?_) (fun hh => ?_)
 ·have h1 : ((left : Nat) : Int) < ((rk : Nat) : Int) := by simpa using hh
  clear hh
  refine sr_ ?_
  obtain ⟨b0, hb0⟩ : ∃ x, l[i]? = some x := ⟨_, List.getElem?_eq_getElem (by
   rcases Nat.lt_or_ge i l.length with h | h
   ·exact h
   have : rk = 0 := by rw [hrk]; unfold restB; rw [List.drop_eq_nil_of_le h]; rfl
   omega)⟩
  rw [← hss] at hb0 hrk
  have hU0 : U = none := by rw [hU]; exact unD_short hb0 (by omega)
  rw [hU0]
  refine sg_ rfl (nn_ ?_)
  refine gw_ret ?_
  refine nx_then_ret ?_
  refine nx_ret1 rfl rfl fun wx hm => ?_
  exact ⟨cl, un, rfl, hcl, hun, (fun o h => (by cases h)), fun _ => hst, (hm.pick [0] [0, 1, 2, 3] [0, 1, 2, 3] rfl rfl).cx⟩
 have h1 : ¬ (((left : Nat) : Int) < ((rk : Nat) : Int)) := by simpa using hh
 clear hh
 refine gw_skip (nx_then (gw_seq (sr_ (mv_ rfl (mv_ rfl (wl_ov (ov_nilcheck rfl) rfl (fd_ fo266_0 rfl rfl (lk_ sc76 0 rfl rfl rfl (wl_ov (ov_len es76 rfl) rfl (wl_ov (ov_eql rfl rfl) rfl (nn_ ?_)))))))))))
 refine gw_cond rfl (fun hh => ?_) (fun hh => ?_)
 ·have h2 : ((i : Nat) : Int) = ((nb : Nat) : Int) := by simpa using hh
  clear hh
  refine sr_ ?_
  have hU1 : U = some ss := by rw [hU]; exact unD_end (by omega)
  rw [hU1]
  refine sg_ rfl (nn_ ?_)
  refine gw_ret ?_
  refine nx_then_ret ?_
  refine nx_ret1 rfl rfl fun wx hm => ?_
  exact ⟨cl, un, rfl, hcl, hun, (fun o h => (by cases h; exact hst)), (fun h => (by cases h)), (hm.pick [0] [0, 1, 2, 3] [0, 1, 2, 3] rfl rfl).cx⟩
 have h2 : ¬ (((i : Nat) : Int) = ((nb : Nat) : Int)) := by simpa using hh
 clear hh
 refine gw_skip (nx_then (gw_seq (sr_ ?_)))
 have hin : i < nb := by omega
 obtain ⟨b0, hb0⟩ : ∃ x, l[i]? = some x := ⟨_, List.getElem?_eq_getElem (by omega)⟩
 have hbk := bkAt_get hb0
 have hUa : U = (chB cs sl b0).findSome? (unE cs sl l ss (wnB b0) left) := by
  rw [hU]
  exact unD_at (by rw [hss]; exact hb0) (by rw [hss, ← hrk]; omega)
 obtain ⟨r1, hr1⟩ : ∃ z, z = restB cs sl l (i + 1) := ⟨_, rfl⟩
 have hrg1 := hre (i + 1) (by omega)
 have hrb1 := hrest (i + 1)
 rw [← hr1] at hrg1 hrb1
 obtain ⟨xw, hxw⟩ : ∃ z, z = wnB b0 := ⟨_, rfl⟩
 rw [← hxw] at hUa
 refine wl_look (R := ∃ g, Ao = some ⟨g, 0, none⟩) (fun wx hm => own_addr (hm.ownI 2 rfl) (by omega)) ?_
 rintro ⟨go, rfl⟩
 obtain ⟨b9, o9, hA, _, _⟩ := hch9.get (by omega)
 subst hA
 obtain ⟨x9, hx9⟩ : ∃ x, cx[i]? = some x := ⟨_, List.getElem?_eq_getElem (by omega)⟩
 have hx9l := cx_at hcx hx9
 have hx9m := List.mem_of_getElem? hx9
 have hs9 := hchs x9 hx9m
 obtain ⟨Ai, ni, ci, li⟩ := x9
 dsimp only at hx9l hs9
 have hni := hs9.len
 rw [hbk] at hx9l
 have hni1 : ni ≤ 1000 := by have h8 := hchl b0 (List.mem_of_getElem? hb0); rw [← hx9l] at h8; omega
 have hstl : ∀ q ∈ li, q.2.1 ≤ 1000 ∧ q.2.2 ≤ 1000 := by rw [hx9l]; exact hstp b0 (List.mem_of_getElem? hb0)
 rw [← hx9l] at hUa
 refine mv_ rfl (wl_ov (ov_nilcheck rfl) rfl (fd_ fo266_1 rfl rfl (lk_ sc263 0 rfl rfl rfl (mv_ rfl ?_))))
 refine wl_ov (ov_index (j := i) es263 rfl rfl (by omega)) rfl ?_
 refine wl_ov (ov_elem1 (k := 0) (v := .slice Ai ni ci) sc269 rfl (fun _ hm => (hm.fact 1 rfl)) hx9 rfl rfl) rfl ?_
 refine wl_ov (ov_len es269 rfl) rfl (mv_ rfl (nn_ (gw_block ?_)))
 refine gw_loop (γ := Nat × List ByteArray × List Int) (fun (gq : Nat × List ByteArray × List Int) => gq.1 ≤ ni ∧ gq.2.1.length = nb ∧ gq.2.2.length = nb ∧ RwOk gq.2.1 gq.2.2 ss ∧ U = (li.drop gq.1).findSome? (unE cs sl l ss xw left)) (fun (gq : Nat × List ByteArray × List Int) => [(0, .pointer (some ⟨g, 0, none⟩)), (1, .int .i64 ((i : Nat) : Int)), (2, .int .i64 ((left : Nat) : Int)), (34, .slice Ai ni ci), (35, .int .i64 ((ni : Nat) : Int)), (36, .int .i64 ((gq.1 : Nat) : Int))]) (fun (gq : Nat × List ByteArray × List Int) => fun _ => True) (fun (gq : Nat × List ByteArray × List Int) => [(g, 266, [.slice A nb cb, .slice (some ⟨b9, o9, none⟩) nb c9, .slice (some ⟨go, 0, none⟩) nb co, .slice (some ⟨gc, 0, none⟩) nb nb, .slice (some ⟨gu, 0, none⟩) nb nb, .slice (some ⟨gr, 0, none⟩) (nb + 1) (nb + 1), .int .i64 0])]) (fun (gq : Nat × List ByteArray × List Int) => [⟨.slice (some ⟨gc, 0, none⟩) nb nb, 9, 1, nb, (gq.2.1).flatMap sgEnc⟩, ⟨.slice (some ⟨gu, 0, none⟩) nb nb, 3, 1, nb, (gq.2.2).flatMap iEnc⟩, ⟨.slice (some ⟨go, 0, none⟩) nb co, 3, 1, nb, (List.range nb).flatMap nEnc⟩, ⟨.slice (some ⟨gr, 0, none⟩) (nb + 1) (nb + 1), 3, 1, nb + 1, re.flatMap iEnc⟩]) (fun (gq : Nat × List ByteArray × List Int) => [SlOld bkEnc 6 92 w0.heap.size none A nb l, fun wy => SlT csnEnc 1 269 wy (some ⟨b9, o9, none⟩) nb cx, fun wy => Chs 268 cx wy, Y]) (fun (gq : Nat × List ByteArray × List Int) => ni - gq.1) (0, cl, un) ⟨Nat.zero_le _, hcl, hun, hst, hUa⟩ ⟨rfl, rfl, rfl, rfl, rfl, rfl, trivial⟩ (fun _ hm => hm.pick [0] [0, 1, 2, 3] [0, 1, 2, 3] rfl rfl) ?_
 rintro ⟨j, ce, ue⟩ hinv
 replace hinv : j ≤ ni ∧ ce.length = nb ∧ ue.length = nb ∧ RwOk ce ue ss ∧ U = (li.drop j).findSome? (unE cs sl l ss xw left) := hinv
 dsimp only
 refine sr_ ?_
 obtain ⟨hj0, hce, hue, hso, hUj⟩ := hinv
 refine wl_ov (ov_lss rfl rfl) rfl (nn_ (gw_seq ?_))
 refine gw_cond rfl (fun hh => ?_) (fun hh => ?_)
 ·have hj : ((j : Nat) : Int) < ((ni : Nat) : Int) := by simpa using hh
  clear hh
  refine gw_skip (nx_then (gw_seq (gw_block (sr_ ?_))))
  obtain ⟨bi, oi, hA, _, _⟩ := hs9.get (by omega)
  subst hA
  obtain ⟨q, hq⟩ : ∃ x, li[j]? = some x := ⟨_, List.getElem?_eq_getElem (by omega)⟩
  have hqs := hstl q (List.mem_of_getElem? hq)
  rw [fs_at hq] at hUj
  obtain ⟨c, sp, mm⟩ := q
  dsimp only at hqs
  obtain ⟨RF, hRF⟩ : ∃ z, z = roomU (l.map wnB) ss xw (c, sp, mm) := ⟨_, rfl⟩
  refine wl_ov (ov_index (j := j) es269 rfl rfl (by omega)) rfl ?_
  refine wl_ov (ov_elem (vs := [.string c, .int .i64 ((sp : Nat) : Int), .int .i64 ((mm : Nat) : Int)]) rz268 rfl (fun _ hm => ((hm.fact 2 rfl) _ hx9m)) hq rfl rfl) rfl ?_
  refine wl_allocs (vs := [.string c, .int .i64 ((sp : Nat) : Int), .int .i64 ((mm : Nat) : Int)]) (cs' := [.string c, .int .i64 ((sp : Nat) : Int), .int .i64 ((mm : Nat) : Int)]) zc268 rfl rz268 (fun _ => rfl) (fun _ => rfl) rfl rfl rfl rfl fun g1 => ?_
  refine nn_ (gw_seq (gw_seq ?_))
  refine gw_also (Y := fun wy => Y wy ∧ Blk wy g1 268 [.string c, .int .i64 ((sp : Nat) : Int), .int .i64 ((mm : Nat) : Int)]) (LastsY.and_ (BlkX.lasts rfl)) (fun wx hm => ⟨(hm.fact 3 rfl), hm.bl 0⟩) ?_
  refine gd (fun wz => Blk wz g1 268 [.string c, .int .i64 ((sp : Nat) : Int), .int .i64 ((mm : Nat) : Int)] ∧ Blk wz g 266 [.slice A nb cb, .slice (some ⟨b9, o9, none⟩) nb c9, .slice (some ⟨go, 0, none⟩) nb co, .slice (some ⟨gc, 0, none⟩) nb nb, .slice (some ⟨gu, 0, none⟩) nb nb, .slice (some ⟨gr, 0, none⟩) (nb + 1) (nb + 1), .int .i64 0] ∧ (fun wy => Y wy ∧ Blk wy g1 268 [.string c, .int .i64 ((sp : Nat) : Int), .int .i64 ((mm : Nat) : Int)]) wz ∧ (SlOld bkEnc 6 92 w0.heap.size none A nb l) wz ∧ (fun wy => SlT csnEnc 1 269 wy (some ⟨b9, o9, none⟩) nb cx) wz ∧ (fun wy => Chs 268 cx wy) wz ∧ (Y) wz ∧ wz.ownsRow w0.heap.size 9 1 (.slice (some ⟨gc, 0, none⟩) nb nb) nb ((ce).flatMap sgEnc) ∧ wz.ownsRow w0.heap.size 3 1 (.slice (some ⟨gu, 0, none⟩) nb nb) nb ((ue).flatMap iEnc) ∧ wz.ownsRow w0.heap.size 3 1 (.slice (some ⟨go, 0, none⟩) nb co) nb ((List.range nb).flatMap nEnc) ∧ wz.ownsRow w0.heap.size 3 1 (.slice (some ⟨gr, 0, none⟩) (nb + 1) (nb + 1)) (nb + 1) (re.flatMap iEnc) ∧ True) mixed (fun _ hm => ⟨hm.bl 0, hm.bl 1, hm.fa 0, hm.fa 1, hm.fa 2, hm.fa 3, hm.fa 4, hm.ownI 0 rfl, hm.ownI 1 rfl, hm.ownI 2 rfl, hm.ownI 3 rfl, trivial⟩) fun z => ?_
  refine wt 0 21 1 rfl z (ov_field fo268_1 rfl rfl) ?_
  refine wt 1 21 3 rfl z (ov_load (v := .int .i64 ((sp : Nat) : Int)) sc3 rfl (fun _ hm => (hm.2.2.1).2) rfl) ?_
  refine wt 2 21 7 rfl z (ov_move rfl) ?_
  refine wt 3 21 15 rfl z (ov_nilcheck rfl) ?_
  refine wt 4 21 31 rfl z (ov_field fo266_5 rfl rfl) ?_
  refine wt 5 21 63 rfl z (ov_load sc22 rfl (fun _ hm => hm.2.1) rfl) ?_
  refine wt 6 21 127 rfl z (ov_move rfl) ?_
  refine wt 7 21 255 rfl z (ov_add rfl rfl (by omega) (by omega)) ?_
  refine wa_set 47 (v' := .int .i64 ((i + 1 : Nat) : Int)) rfl (congrArg (Value.int .i64) (by omega)) ?_
  refine wt 8 21 511 rfl z (ov_index (j := i + 1) es22 rfl rfl (by omega)) ?_
  refine wt 9 21 1023 rfl z (ov_elem1 (k := 0) (v := .int .i64 ((r1 : Nat) : Int)) sc3 rfl (fun _ hm => (SlT.ofOwn i_len (hm.2.2.2.2.2.2.2.2.2.2.1) hrl)) hrg1 rfl rfl) ?_
  refine wt 10 21 2047 rfl z (ov_add rfl rfl (by omega) (by omega)) ?_
  refine wt 11 21 4095 rfl z (ov_move rfl) ?_
  refine wt 12 21 8191 rfl z (ov_gtr rfl rfl) ?_
  refine wt 13 21 16383 rfl z (ov_move rfl) ?_
  rcases Bool.eq_false_or_eq_true (decide (((left : Nat) : Int) < ((sp : Nat) : Int) + ((r1 : Nat) : Int))) with hb1 | hb1
  ·refine wa_set 53 rfl (congrArg Value.bool hb1) ?_
   replace hb1 := of_decide_eq_true hb1
   rw [unE_big (by rw [hss, ← hr1]; dsimp only; omega)] at hUj
   refine wtf 14 21 32767 rfl rfl rfl z ?_
   refine wtf 15 21 65535 rfl rfl rfl z ?_
   refine wtf 16 21 131071 rfl rfl rfl z ?_
   refine wtf 17 21 262143 rfl rfl rfl z ?_
   refine wtf 18 21 524287 rfl rfl rfl z ?_
   refine wtf 19 21 1048575 rfl rfl rfl z ?_
   refine wt 20 21 2097151 rfl z (ov_pick_t rfl rfl) ?_
   refine wa_done (by kernel_rfl) ?_
   refine nx_then (ct_ rfl ?_)
   refine gw_exit ?_
   refine nx_then_exit ?_
   refine nx_blk_here ?_
   refine nx_then (gw_region (ad_ rfl rfl (mv_ rfl (wl_nil ?_))))
   exact nx_round (j + 1, ce, ue) ⟨by dsimp only; omega, hce, hue, hso, hUj⟩ (by dsimp only; omega) ⟨rfl, rfl, rfl, rfl, rfl, (some_int (by omega)), trivial⟩ (fun _ hm => hm.pick [1] [0, 1, 2, 3] [1, 2, 3, 4] rfl rfl)
  refine wa_set 53 rfl (congrArg Value.bool hb1) ?_
  replace hb1 := of_decide_eq_false hb1
  refine wto 14 21 32767 rfl rfl rfl z (ov_move rfl) ?_
  refine wto 15 21 65535 rfl rfl rfl z (ov_move rfl) ?_
  refine wto 16 21 131071 rfl rfl rfl z (ov_move rfl) ?_
  refine wto 17 21 262143 rfl rfl rfl z (ov_loads (vs := [.string c, .int .i64 ((sp : Nat) : Int), .int .i64 ((mm : Nat) : Int)]) rz268 rfl (fun _ hm => (hm.2.2.1).2) rfl rfl) ?_
  refine wa1 18 rfl ?_
  refine wl_guard_on rfl rfl rfl ?_
  refine wl_callv (v := .bool RF) rfl cb282 rfl rfl (fun wx hm => (by rw [hRF]; have h := fits_any l A nb cb (some ⟨go, 0, none⟩) co (List.range nb) (some ⟨gc, 0, none⟩) nb ce _ _ _ _ g i i c sp mm wx (hm.blkI 1 rfl) (hm.fact 1 rfl).1 (SlT.ofOwn n_len (hm.ownI 2 rfl) (by simp)) (SlT.ofOwn sg_len (hm.ownI 0 rfl) hce) hi hin hn hco (fun j hj => List.mem_range.1 hj) htm; rw [List.take_range, Nat.min_eq_left (by omega), ← hss, pl_st hso (by omega), hss, hbk, ← hxw] at h; exact h)) ?_
  refine wl_nil ?_
  refine nw 21 524287 (fun _ hm => ⟨hm.bl 0, hm.bl 1, hm.fa 0, hm.fa 1, hm.fa 2, hm.fa 3, hm.fa 4, hm.ownI 0 rfl, hm.ownI 1 rfl, hm.ownI 2 rfl, hm.ownI 3 rfl, trivial⟩) fun z => ?_
  refine wto 19 21 1048575 rfl rfl rfl z (ov_un_not rfl) ?_
  refine wt 20 21 2097151 rfl z (ov_pick_f rfl rfl) ?_
  refine wa_done (by kernel_rfl) ?_
  refine nx_then ?_
  refine gw_cond rfl (fun hh => ?_) (fun hh => ?_)
  ·have hrf : RF = false := by simpa using hh
   clear hh
   refine gw_exit ?_
   refine nx_then_exit ?_
   refine nx_blk_here ?_
   refine nx_then (gw_region ?_)
   have hno : RF = false := by simpa using hrf
   rw [unE_no (by rw [hss, ← hr1]; dsimp only; omega) (hRF.symm.trans hno)] at hUj
   refine ad_ rfl rfl (mv_ rfl (wl_nil ?_))
   exact nx_round (j + 1, ce, ue) ⟨by dsimp only; omega, hce, hue, hso, hUj⟩ (by dsimp only; omega) ⟨rfl, rfl, rfl, rfl, rfl, (some_int (by omega)), trivial⟩ (fun _ hm => hm.pick [1] [0, 1, 2, 3] [1, 2, 3, 4] rfl rfl)
  have hrf : RF = true := by simpa using hh
  clear hh
  refine gw_skip (nx_then (sr_ ?_))
  have hyes : RF = true := by simpa using hrf
  obtain ⟨MM, hMM⟩ : ∃ z, z = min (higW ss c + 1) mm := ⟨_, rfl⟩
  obtain ⟨UC, hUC⟩ : ∃ z, z = unE cs sl l ss xw left (c, sp, mm) := ⟨_, rfl⟩
  rw [← hUC] at hUj
  have hUC1 : UC = fsU (unF cs sl l ss xw left (c, sp, mm)) 1 MM := by rw [hUC, hMM]; exact unE_go (by rw [hss, ← hr1]; dsimp only; omega) (hRF.symm.trans hyes)
  have hhb := hig_le (c := c) hsb
  refine sg_ rfl (nn_ (gw_seq (sr_ (mv_ rfl (mv_ rfl (nn_ (gw_block ?_)))))))
  refine gw_loop (γ := Nat) (fun (q : Nat) => q ≤ i) (fun (q : Nat) => [(0, .pointer (some ⟨g, 0, none⟩)), (1, .int .i64 ((i : Nat) : Int)), (2, .int .i64 ((left : Nat) : Int)), (8, .pointer (some ⟨g1, 0, none⟩)), (9, .int .i64 ((higW (ss.take q) c : Nat) : Int)), (34, .slice (some ⟨bi, oi, none⟩) ni ci), (35, .int .i64 ((ni : Nat) : Int)), (36, .int .i64 ((j : Nat) : Int)), (61, .int .i64 ((i : Nat) : Int)), (62, .int .i64 ((q : Nat) : Int))]) (fun (q : Nat) => fun _ => True) (fun (q : Nat) => [(g, 266, [.slice A nb cb, .slice (some ⟨b9, o9, none⟩) nb c9, .slice (some ⟨go, 0, none⟩) nb co, .slice (some ⟨gc, 0, none⟩) nb nb, .slice (some ⟨gu, 0, none⟩) nb nb, .slice (some ⟨gr, 0, none⟩) (nb + 1) (nb + 1), .int .i64 0])]) (fun (q : Nat) => [⟨.slice (some ⟨gc, 0, none⟩) nb nb, 9, 1, nb, (ce).flatMap sgEnc⟩, ⟨.slice (some ⟨gu, 0, none⟩) nb nb, 3, 1, nb, (ue).flatMap iEnc⟩, ⟨.slice (some ⟨go, 0, none⟩) nb co, 3, 1, nb, (List.range nb).flatMap nEnc⟩, ⟨.slice (some ⟨gr, 0, none⟩) (nb + 1) (nb + 1), 3, 1, nb + 1, re.flatMap iEnc⟩]) (fun (q : Nat) => [fun wy => Y wy ∧ Blk wy g1 268 [.string c, .int .i64 ((sp : Nat) : Int), .int .i64 ((mm : Nat) : Int)], SlOld bkEnc 6 92 w0.heap.size none A nb l, fun wy => SlT csnEnc 1 269 wy (some ⟨b9, o9, none⟩) nb cx, fun wy => Chs 268 cx wy, Y]) (fun (q : Nat) => i - q) 0 (Nat.zero_le _) ⟨rfl, rfl, rfl, rfl, rfl, rfl, rfl, rfl, rfl, rfl, trivial⟩ (fun _ hm => hm.pick [1] [0, 1, 2, 3] [0, 1, 2, 3, 4] rfl rfl) ?_
  intro q hinv
  replace hinv : q ≤ i := hinv
  refine sr_ (wl_ov (ov_lss rfl rfl) rfl (nn_ (gw_seq ?_)))
  refine gw_cond rfl (fun hh => ?_) (fun hh => ?_)
  ·have hq1 : ((q : Nat) : Int) < ((i : Nat) : Int) := by simpa using hh
   clear hh
   refine gw_skip (nx_then (gw_seq (gw_block (sr_ ?_))))
   obtain ⟨p, hp⟩ : ∃ x, ss[q]? = some x := ⟨_, List.getElem?_eq_getElem (by omega)⟩
   obtain ⟨hcp, hup⟩ := hso.at hp
   have hha := hig_at (c := c) hp
   obtain ⟨p1, p2⟩ := p
   dsimp only at hcp hup hha
   have hpb := hsb _ (List.mem_of_getElem? hp)
   have hqb := hig_le (M := 1000) (st := ss.take q) (c := c) (fun p hp => hsb p (List.mem_of_mem_take hp))
   refine mv_ rfl (sg_ rfl (nn_ (gw_seq ?_)))
   refine gd (fun wz => Blk wz g 266 [.slice A nb cb, .slice (some ⟨b9, o9, none⟩) nb c9, .slice (some ⟨go, 0, none⟩) nb co, .slice (some ⟨gc, 0, none⟩) nb nb, .slice (some ⟨gu, 0, none⟩) nb nb, .slice (some ⟨gr, 0, none⟩) (nb + 1) (nb + 1), .int .i64 0] ∧ (fun wy => Y wy ∧ Blk wy g1 268 [.string c, .int .i64 ((sp : Nat) : Int), .int .i64 ((mm : Nat) : Int)]) wz ∧ (SlOld bkEnc 6 92 w0.heap.size none A nb l) wz ∧ (fun wy => SlT csnEnc 1 269 wy (some ⟨b9, o9, none⟩) nb cx) wz ∧ (fun wy => Chs 268 cx wy) wz ∧ (Y) wz ∧ wz.ownsRow w0.heap.size 9 1 (.slice (some ⟨gc, 0, none⟩) nb nb) nb ((ce).flatMap sgEnc) ∧ wz.ownsRow w0.heap.size 3 1 (.slice (some ⟨gu, 0, none⟩) nb nb) nb ((ue).flatMap iEnc) ∧ wz.ownsRow w0.heap.size 3 1 (.slice (some ⟨go, 0, none⟩) nb co) nb ((List.range nb).flatMap nEnc) ∧ wz.ownsRow w0.heap.size 3 1 (.slice (some ⟨gr, 0, none⟩) (nb + 1) (nb + 1)) (nb + 1) (re.flatMap iEnc) ∧ True) mixed (fun _ hm => ⟨hm.bl 0, hm.fa 0, hm.fa 1, hm.fa 2, hm.fa 3, hm.fa 4, hm.ownI 0 rfl, hm.ownI 1 rfl, hm.ownI 2 rfl, hm.ownI 3 rfl, trivial⟩) fun z => ?_
   refine wt 0 10 1 rfl z (ov_move rfl) ?_
   refine wt 1 10 3 rfl z (ov_nilcheck rfl) ?_
   refine wt 2 10 7 rfl z (ov_field fo266_3 rfl rfl) ?_
   refine wt 3 10 15 rfl z (ov_load sc103 rfl (fun _ hm => hm.1) rfl) ?_
   refine wt 4 10 31 rfl z (ov_move rfl) ?_
   refine wt 5 10 63 rfl z (ov_index (j := q) es103 rfl rfl (by omega)) ?_
   refine wt 6 10 127 rfl z (ov_elem1 (k := 0) (v := .string p1) sc9 rfl (fun _ hm => (SlT.ofOwn sg_len (hm.2.2.2.2.2.2.1) hce)) hcp rfl rfl) ?_
   refine wt 7 10 255 rfl z (ov_field fo268_0 rfl rfl) ?_
   refine wt 8 10 511 rfl z (ov_load (v := .string c) sc9 rfl (fun _ hm => (hm.2.1).2) rfl) ?_
   refine wt 9 10 1023 rfl z (ov_seql rfl rfl) ?_
   refine wa_done (by kernel_rfl) ?_
   refine nx_then ?_
   refine gw_cond rfl (fun hh => ?_) (fun hh => ?_)
   ·have he : (p1.toList == c.toList) = true := by simpa using hh
    clear hh
    refine gw_region ?_
    rw [if_pos (ba_ext (by simpa using he))] at hha
    refine mv_ rfl (mv_ rfl (wl_ov (ov_nilcheck rfl) rfl (fd_ fo266_4 rfl rfl (lk_ sc22 0 rfl rfl rfl (mv_ rfl ?_)))))
    refine wl_ov (ov_index (j := q) es22 rfl rfl (by omega)) rfl ?_
    refine wl_ov (ov_elem1 (k := 0) (v := .int .i64 ((p2 : Nat) : Int)) sc3 rfl (fun _ hm => (SlT.ofOwn i_len (hm.ownI 1 rfl) hue)) hup rfl rfl) rfl ?_
    refine wl_ov (ov_max rfl rfl) rfl ?_
    refine sg_ rfl (wl_nil (nx_blk_nrm (nx_then (gw_region (ad_ rfl rfl (mv_ rfl (wl_nil ?_)))))))
    exact nx_round (q + 1) (by omega) (by omega) ⟨rfl, rfl, rfl, rfl, (congrArg (fun z => some (Value.int .i64 z)) (by rw [hha]; omega)), rfl, rfl, rfl, rfl, (some_int (by omega)), trivial⟩ (fun _ hm => hm.pick [0] [0, 1, 2, 3] [0, 1, 2, 3, 4] rfl rfl)
   have he : (p1.toList == c.toList) = false := by simpa using hh
   clear hh
   refine gw_skip (nx_blk_nrm (nx_then (gw_region ?_)))
   rw [if_neg (fun e => by rw [e] at he; simp at he)] at hha
   refine ad_ rfl rfl (mv_ rfl (wl_nil ?_))
   exact nx_round (q + 1) (by omega) (by omega) ⟨rfl, rfl, rfl, rfl, (congrArg (fun z => some (Value.int .i64 z)) (by rw [hha])), rfl, rfl, rfl, rfl, (some_int (by omega)), trivial⟩ (fun _ hm => hm.pick [0] [0, 1, 2, 3] [0, 1, 2, 3, 4] rfl rfl)
  have hq1 : ¬ (((q : Nat) : Int) < ((i : Nat) : Int)) := by simpa using hh
  clear hh
  refine gw_exit ?_
  refine nx_then_exit (nx_then_exit ?_)
  refine nx_blk_here ?_
  refine nx_then (sr_ ?_)
  have hqi : ss.take q = ss := List.take_of_length_le (by omega)
  rw [hqi]
  refine sg_ rfl (nn_ (gw_block ?_))
  refine gw_loop (γ := Nat × List ByteArray × List Int) (fun (gz : Nat × List ByteArray × List Int) => (1 ≤ gz.1 ∧ gz.1 ≤ MM + 1) ∧ gz.2.1.length = nb ∧ gz.2.2.length = nb ∧ RwOk gz.2.1 gz.2.2 ss ∧ UC = fsU (unF cs sl l ss xw left (c, sp, mm)) gz.1 MM) (fun (gz : Nat × List ByteArray × List Int) => [(0, .pointer (some ⟨g, 0, none⟩)), (1, .int .i64 ((i : Nat) : Int)), (2, .int .i64 ((left : Nat) : Int)), (8, .pointer (some ⟨g1, 0, none⟩)), (9, .int .i64 ((higW ss c : Nat) : Int)), (11, .int .i64 ((gz.1 : Nat) : Int)), (34, .slice (some ⟨bi, oi, none⟩) ni ci), (35, .int .i64 ((ni : Nat) : Int)), (36, .int .i64 ((j : Nat) : Int))]) (fun (gz : Nat × List ByteArray × List Int) => fun _ => True) (fun (gz : Nat × List ByteArray × List Int) => [(g, 266, [.slice A nb cb, .slice (some ⟨b9, o9, none⟩) nb c9, .slice (some ⟨go, 0, none⟩) nb co, .slice (some ⟨gc, 0, none⟩) nb nb, .slice (some ⟨gu, 0, none⟩) nb nb, .slice (some ⟨gr, 0, none⟩) (nb + 1) (nb + 1), .int .i64 0])]) (fun (gz : Nat × List ByteArray × List Int) => [⟨.slice (some ⟨gc, 0, none⟩) nb nb, 9, 1, nb, (gz.2.1).flatMap sgEnc⟩, ⟨.slice (some ⟨gu, 0, none⟩) nb nb, 3, 1, nb, (gz.2.2).flatMap iEnc⟩, ⟨.slice (some ⟨go, 0, none⟩) nb co, 3, 1, nb, (List.range nb).flatMap nEnc⟩, ⟨.slice (some ⟨gr, 0, none⟩) (nb + 1) (nb + 1), 3, 1, nb + 1, re.flatMap iEnc⟩]) (fun (gz : Nat × List ByteArray × List Int) => [fun wy => Y wy ∧ Blk wy g1 268 [.string c, .int .i64 ((sp : Nat) : Int), .int .i64 ((mm : Nat) : Int)], SlOld bkEnc 6 92 w0.heap.size none A nb l, fun wy => SlT csnEnc 1 269 wy (some ⟨b9, o9, none⟩) nb cx, fun wy => Chs 268 cx wy, Y]) (fun (gz : Nat × List ByteArray × List Int) => MM + 1 - gz.1) (1, ce, ue) ⟨⟨Nat.le_refl _, by dsimp only; omega⟩, hce, hue, hso, hUC1⟩ ⟨rfl, rfl, rfl, rfl, rfl, rfl, rfl, rfl, rfl, trivial⟩ (fun _ hm => hm.pick [0] [0, 1, 2, 3] [0, 1, 2, 3, 4] rfl rfl) ?_
  rintro ⟨u, c5, u5⟩ hinv
  replace hinv : (1 ≤ u ∧ u ≤ MM + 1) ∧ c5.length = nb ∧ u5.length = nb ∧ RwOk c5 u5 ss ∧ UC = fsU (unF cs sl l ss xw left (c, sp, mm)) u MM := hinv
  dsimp only
  refine gw_seq (sr_ ?_)
  obtain ⟨⟨hu1, hu2⟩, hc5, hu5, hs5, hUu⟩ := hinv
  refine mv_ rfl (mv_ rfl (ad_ rfl rfl (fd_ fo268_2 rfl rfl ?_)))
  refine wl_ov (ov_load (v := .int .i64 ((mm : Nat) : Int)) sc3 rfl (fun _ hm => (hm.fact 0 rfl).2) rfl) rfl ?_
  refine wl_ov (ov_min rfl rfl) rfl ?_
  refine wl_ov (ov_leq rfl rfl) rfl (nn_ ?_)
  refine gw_cond rfl (fun hh => ?_) (fun hh => ?_)
  ·have hum : ((u : Nat) : Int) ≤ min (((higW ss c : Nat) : Int) + 1) ((mm : Nat) : Int) := by simpa using hh
   clear hh
   refine gw_skip (nx_then (gw_seq (gw_block (gw_seq (sr_ ?_)))))
   have hum2 : u ≤ MM := by omega
   rw [fsU_at hum2] at hUu
   obtain ⟨TK, hTK⟩ : ∃ z, z = tknW (l.map wnB) ss xw c u := ⟨_, rfl⟩
   refine mv_ rfl (mv_ rfl (fd_ fo268_0 rfl rfl ?_))
   refine wl_ov (ov_load (v := .string c) sc9 rfl (fun _ hm => (hm.fact 0 rfl).2) rfl) rfl ?_
   refine mv_ rfl ?_
   refine wl_callv (v := .bool TK) rfl cb283 rfl rfl (fun wx hm => (by rw [hTK]; have h := taken_any l A nb cb (some ⟨gc, 0, none⟩) nb c5 (some ⟨gu, 0, none⟩) nb u5 _ _ _ _ g i u c ss wx (hm.blkI 0 rfl) (hm.fact 1 rfl).1 (SlT.ofOwn sg_len (hm.ownI 0 rfl) hc5) (SlT.ofOwn i_len (hm.ownI 1 rfl) hu5) hs5 hss hin hn; rw [hbk, ← hxw] at h; exact h)) ?_
   refine nn_ ?_
   refine gw_cond rfl (fun hh => ?_) (fun hh => ?_)
   ·have htk : TK = true := by simpa using hh
    clear hh
    refine gw_exit ?_
    refine nx_then_exit ?_
    refine nx_blk_here ?_
    refine nx_then (gw_region ?_)
    rw [unF_tk (hTK.symm.trans htk)] at hUu
    dsimp only at hUu
    refine mv_ rfl (ad_ rfl rfl (sg_ rfl (wl_nil ?_)))
    exact nx_round (u + 1, c5, u5) ⟨⟨by dsimp only; omega, by dsimp only; omega⟩, hc5, hu5, hs5, hUu⟩ (by dsimp only; omega) ⟨rfl, rfl, rfl, rfl, rfl, (some_int (by omega)), rfl, rfl, rfl, trivial⟩ (fun _ hm => hm.pick [0] [0, 1, 2, 3] [0, 1, 2, 3, 4] rfl rfl)
   have htk : TK = false := by simpa using hh
   clear hh
   refine gw_skip (nx_then (gw_seq ?_))
   rw [unF_go (hTK.symm.trans htk)] at hUu
   obtain ⟨V, hV⟩ : ∃ z, z = unD cs sl l (ss ++ [(c, u)]) (left - sp) := ⟨_, rfl⟩
   dsimp only at hUu
   rw [← hV] at hUu
   obtain ⟨c0, hc0⟩ : ∃ x, c5[i]? = some x := ⟨_, List.getElem?_eq_getElem (by omega)⟩
   obtain ⟨u0, hu0⟩ : ∃ x, u5[i]? = some x := ⟨_, List.getElem?_eq_getElem (by omega)⟩
   have hsn := hs5.snoc (x := c) (u := u) (by omega) (by omega)
   rw [hss] at hsn
   have hmm5 : u ≤ 1000 := by omega
   refine gd (fun wz => Blk wz g 266 [.slice A nb cb, .slice (some ⟨b9, o9, none⟩) nb c9, .slice (some ⟨go, 0, none⟩) nb co, .slice (some ⟨gc, 0, none⟩) nb nb, .slice (some ⟨gu, 0, none⟩) nb nb, .slice (some ⟨gr, 0, none⟩) (nb + 1) (nb + 1), .int .i64 0] ∧ (fun wy => Y wy ∧ Blk wy g1 268 [.string c, .int .i64 ((sp : Nat) : Int), .int .i64 ((mm : Nat) : Int)]) wz ∧ (SlOld bkEnc 6 92 w0.heap.size none A nb l) wz ∧ (fun wy => SlT csnEnc 1 269 wy (some ⟨b9, o9, none⟩) nb cx) wz ∧ (fun wy => Chs 268 cx wy) wz ∧ (Y) wz ∧ True) mixed (fun _ hm => ⟨hm.bl 0, hm.fa 0, hm.fa 1, hm.fa 2, hm.fa 3, hm.fa 4, trivial⟩) fun z => ?_
   refine wt 0 17 1 rfl z (ov_move rfl) ?_
   refine wt 1 17 3 rfl z (ov_nilcheck rfl) ?_
   refine wt 2 17 7 rfl z (ov_field fo266_3 rfl rfl) ?_
   refine wt 3 17 15 rfl z (ov_load sc103 rfl (fun _ hm => hm.1) rfl) ?_
   refine wt 4 17 31 rfl z (ov_move rfl) ?_
   refine wt 5 17 63 rfl z (ov_move rfl) ?_
   refine wt 6 17 127 rfl z (ov_nilcheck rfl) ?_
   refine wt 7 17 255 rfl z (ov_field fo266_4 rfl rfl) ?_
   refine wt 8 17 511 rfl z (ov_load sc22 rfl (fun _ hm => hm.1) rfl) ?_
   refine wt 9 17 1023 rfl z (ov_move rfl) ?_
   refine wt 10 17 2047 rfl z (ov_field fo268_0 rfl rfl) ?_
   refine wt 11 17 4095 rfl z (ov_load (v := .string c) sc9 rfl (fun _ hm => (hm.2.1).2) rfl) ?_
   refine wt 12 17 8191 rfl z (ov_move rfl) ?_
   refine wt 13 17 16383 rfl z (ov_index (j := i) es103 rfl rfl (by omega)) ?_
   refine wa1 14 rfl ?_
   refine wl_storeE (l := c5) (j := i) (r := 0) (el := c0) (el' := c) 0 sc9 rfl rfl rfl rfl sg_len rfl hc0 hc5 (show 0 < 1 by decide) rfl rfl ?_
   refine wl_nil ?_
   refine nw 17 32767 (fun _ hm => ⟨hm.bl 0, hm.fa 0, hm.fa 1, hm.fa 2, hm.fa 3, hm.fa 4, trivial⟩) fun z => ?_
   refine wt 15 17 65535 rfl z (ov_index (j := i) es22 rfl rfl (by omega)) ?_
   refine wa1 16 rfl ?_
   refine wl_storeE (l := u5) (j := i) (r := 0) (el := u0) (el' := ((u : Nat) : Int)) 1 sc3 rfl rfl rfl rfl i_len rfl hu0 hu5 (show 0 < 1 by decide) rfl rfl ?_
   refine wl_nil ?_
   refine nw 17 131071 (fun _ hm => ⟨hm.bl 0, hm.fa 0, hm.fa 1, hm.fa 2, hm.fa 3, hm.fa 4, trivial⟩) fun z => ?_
   refine wa_done (by kernel_rfl) ?_
   refine nx_then (gw_seq (sr_ (mv_ rfl (mv_ rfl (ad_ rfl rfl ?_)))))
   refine wl_set 117 (v' := .int .i64 ((i + 1 : Nat) : Int)) rfl (congrArg (Value.int .i64) (by omega)) ?_
   refine mv_ rfl (fd_ fo268_1 rfl rfl ?_)
   refine wl_ov (ov_load (v := .int .i64 ((sp : Nat) : Int)) sc3 rfl (fun _ hm => (hm.fact 0 rfl).2) rfl) rfl ?_
   refine wl_ov (ov_sub rfl rfl (by omega) (by omega)) rfl ?_
   refine wl_set 121 (v' := .int .i64 ((left - sp : Nat) : Int)) rfl (congrArg (Value.int .i64) (by omega)) ?_
   refine wl_callG (γ := List ByteArray × List Int) (val := fun _ => .bool V.isSome) (φ := fun gg => gg.1.length = nb ∧ gg.2.length = nb ∧ (∀ o, V = some o → RwOk gg.1 gg.2 o) ∧ (V = none → RwOk gg.1 gg.2 (ss ++ [(c, u)]))) (K' := fun _ => fun _ => True) (L' := fun _ => [(g, 266, [.slice A nb cb, .slice (some ⟨b9, o9, none⟩) nb c9, .slice (some ⟨go, 0, none⟩) nb co, .slice (some ⟨gc, 0, none⟩) nb nb, .slice (some ⟨gu, 0, none⟩) nb nb, .slice (some ⟨gr, 0, none⟩) (nb + 1) (nb + 1), .int .i64 0])]) (O' := fun gg => [⟨.slice (some ⟨gc, 0, none⟩) nb nb, 9, 1, nb, (gg.1).flatMap sgEnc⟩, ⟨.slice (some ⟨gu, 0, none⟩) nb nb, 3, 1, nb, (gg.2).flatMap iEnc⟩, ⟨.slice (some ⟨go, 0, none⟩) nb co, 3, 1, nb, (List.range nb).flatMap nEnc⟩, ⟨.slice (some ⟨gr, 0, none⟩) (nb + 1) (nb + 1), 3, 1, nb + 1, re.flatMap iEnc⟩]) (X' := fun _ => [SlOld bkEnc 6 92 w0.heap.size none A nb l, fun wy => SlT csnEnc 1 269 wy (some ⟨b9, o9, none⟩) nb cx, fun wy => Chs 268 cx wy, fun wy => Y wy ∧ Blk wy g1 268 [.string c, .int .i64 ((sp : Nat) : Int), .int .i64 ((mm : Nat) : Int)]]) rfl cb221 rfl rfl (fun wx hm => by
    have h := ih hin (left - sp) (c5.set i c) (u5.set i ((u : Nat) : Int)) (ss ++ [(c, u)]) (fun wy => Y wy ∧ Blk wy g1 268 [.string c, .int .i64 ((sp : Nat) : Int), .int .i64 ((mm : Nat) : Int)]) wx (by rw [List.length_append, hss]; rfl) (by rw [List.length_set]; exact hc5) (by rw [List.length_set]; exact hu5) hsn (fun p hp => by
     rcases List.mem_append.1 hp with hp | hp
     ·exact hsb p hp
     rw [List.mem_singleton.1 hp]; exact hmm5) (by omega) ((hm.pick [0] [0, 1, 2, 3] [1, 2, 3, 0] rfl rfl).cx)
    rw [← hV] at h
    exact h.mono fun _ _ ⟨c7, u7, he, h1, h2, h3, h4, hm2⟩ => ⟨(c7, u7), he, ⟨h1, h2, h3, h4⟩, hm2.cx⟩) ?_
   rintro ⟨c7, u7⟩ ⟨hc7, hu7, hvs, hvn⟩
   dsimp only at hc7 hu7 hvs hvn ⊢
   refine wl_also (Y := Y) (LastsY) (fun wx hm => (hm.fact 3 rfl).1) ?_
   refine nn_ ?_
   refine gw_cond rfl (fun hh => ?_) (fun hh => ?_)
   ·have hvv : V.isSome = true := by simpa using hh
    clear hh
    refine sr_ ?_
    obtain ⟨o, hvo⟩ := Option.isSome_iff_exists.1 hvv
    rw [hvo] at hUu
    dsimp only at hUu
    rw [hUu] at hUj
    dsimp only at hUj
    rw [hUj]
    refine sg_ rfl (nn_ ?_)
    refine gw_ret ?_
    refine nx_then_ret (nx_blk_ret (nx_then_ret (nx_then_ret (nx_blk_ret (nx_blk_ret (nx_then_ret (nx_then_ret (nx_blk_ret (nx_then_ret ?_)))))))))
    refine nx_ret1 rfl rfl fun wx hm => ?_
    exact ⟨c7, u7, rfl, hc7, hu7, (fun o2 h => (by cases h; exact hvs o hvo)), (fun h => (by cases h)), (hm.pick [0] [0, 1, 2, 3] [1, 2, 3, 0] rfl rfl).cx⟩
   have hvv : V.isSome = false := by simpa using hh
   clear hh
   refine gw_skip (nx_then ?_)
   have hvno : V = none := by simpa using hvv
   rw [hvno] at hUu
   dsimp only at hUu
   have hpre := (hvn hvno).pre
   obtain ⟨c8, hc8⟩ : ∃ x, c7[i]? = some x := ⟨_, List.getElem?_eq_getElem (by omega)⟩
   obtain ⟨u8, hu8⟩ : ∃ x, u7[i]? = some x := ⟨_, List.getElem?_eq_getElem (by omega)⟩
   refine gd (fun wz => Blk wz g 266 [.slice A nb cb, .slice (some ⟨b9, o9, none⟩) nb c9, .slice (some ⟨go, 0, none⟩) nb co, .slice (some ⟨gc, 0, none⟩) nb nb, .slice (some ⟨gu, 0, none⟩) nb nb, .slice (some ⟨gr, 0, none⟩) (nb + 1) (nb + 1), .int .i64 0] ∧ (Y) wz ∧ (SlOld bkEnc 6 92 w0.heap.size none A nb l) wz ∧ (fun wy => SlT csnEnc 1 269 wy (some ⟨b9, o9, none⟩) nb cx) wz ∧ (fun wy => Chs 268 cx wy) wz ∧ (fun wy => Y wy ∧ Blk wy g1 268 [.string c, .int .i64 ((sp : Nat) : Int), .int .i64 ((mm : Nat) : Int)]) wz ∧ True) mixed (fun _ hm => ⟨hm.bl 0, hm.fa 0, hm.fa 1, hm.fa 2, hm.fa 3, hm.fa 4, trivial⟩) fun z => ?_
   refine wt 0 14 1 rfl z (ov_move rfl) ?_
   refine wt 1 14 3 rfl z (ov_nilcheck rfl) ?_
   refine wt 2 14 7 rfl z (ov_field fo266_3 rfl rfl) ?_
   refine wt 3 14 15 rfl z (ov_load sc103 rfl (fun _ hm => hm.1) rfl) ?_
   refine wt 4 14 31 rfl z (ov_move rfl) ?_
   refine wt 5 14 63 rfl z (ov_move rfl) ?_
   refine wt 6 14 127 rfl z (ov_nilcheck rfl) ?_
   refine wt 7 14 255 rfl z (ov_field fo266_4 rfl rfl) ?_
   refine wt 8 14 511 rfl z (ov_load sc22 rfl (fun _ hm => hm.1) rfl) ?_
   refine wt 9 14 1023 rfl z (ov_move rfl) ?_
   refine wt 10 14 2047 rfl z (ov_index (j := i) es103 rfl rfl (by omega)) ?_
   refine wa1 11 rfl ?_
   refine wl_storeE (l := c7) (j := i) (r := 0) (el := c8) (el' := ⟨#[]⟩) 0 sc9 rfl rfl rfl rfl sg_len rfl hc8 hc7 (show 0 < 1 by decide) rfl rfl ?_
   refine wl_nil ?_
   refine nw 14 4095 (fun _ hm => ⟨hm.bl 0, hm.fa 0, hm.fa 1, hm.fa 2, hm.fa 3, hm.fa 4, trivial⟩) fun z => ?_
   refine wt 12 14 8191 rfl z (ov_index (j := i) es22 rfl rfl (by omega)) ?_
   refine wa1 13 rfl ?_
   refine wl_storeE (l := u7) (j := i) (r := 0) (el := u8) (el' := 0) 1 sc3 rfl rfl rfl rfl i_len rfl hu8 hu7 (show 0 < 1 by decide) rfl rfl ?_
   refine wl_nil ?_
   refine nw 14 16383 (fun _ hm => ⟨hm.bl 0, hm.fa 0, hm.fa 1, hm.fa 2, hm.fa 3, hm.fa 4, trivial⟩) fun z => ?_
   refine wa_done (by kernel_rfl) ?_
   refine nx_blk_nrm (nx_then (gw_region (mv_ rfl (ad_ rfl rfl (sg_ rfl (wl_nil ?_))))))
   exact nx_round (u + 1, c7.set i ⟨#[]⟩, u7.set i 0) ⟨⟨by dsimp only; omega, by dsimp only; omega⟩, by dsimp only; rw [List.length_set]; exact hc7, by dsimp only; rw [List.length_set]; exact hu7, hpre.set (by omega) _ _, hUu⟩ (by dsimp only; omega) ⟨rfl, rfl, rfl, rfl, rfl, (some_int (by omega)), rfl, rfl, rfl, trivial⟩ (fun _ hm => hm.pick [0] [0, 1, 2, 3] [4, 1, 2, 3, 0] rfl rfl)
  have hum : ¬ (((u : Nat) : Int) ≤ min (((higW ss c : Nat) : Int) + 1) ((mm : Nat) : Int)) := by simpa using hh
  clear hh
  refine gw_exit ?_
  refine nx_then_exit (nx_then_exit ?_)
  refine nx_blk_here ?_
  refine nx_blk_nrm (nx_then (gw_region ?_))
  rw [fsU_end (by omega)] at hUu
  rw [hUu] at hUj
  dsimp only at hUj
  refine ad_ rfl rfl (mv_ rfl (wl_nil ?_))
  exact nx_round (j + 1, c5, u5) ⟨by dsimp only; omega, hc5, hu5, hs5, hUj⟩ (by dsimp only; omega) ⟨rfl, rfl, rfl, rfl, rfl, (some_int (by omega)), trivial⟩ (fun _ hm => hm.pick [0] [0, 1, 2, 3] [1, 2, 3, 4] rfl rfl)
 have hj : ¬ (((j : Nat) : Int) < ((ni : Nat) : Int)) := by simpa using hh
 clear hh
 refine gw_exit ?_
 refine nx_then_exit (nx_then_exit ?_)
 refine nx_blk_here ?_
 refine nx_then (sr_ ?_)
 rw [fs_end (by omega)] at hUj
 rw [hUj]
 refine sg_ rfl (nn_ ?_)
 refine gw_ret ?_
 refine nx_ret1 rfl rfl fun wx hm => ?_
 exact ⟨ce, ue, rfl, hce, hue, (fun o h => (by cases h)), fun _ => hso, (hm.pick [0] [0, 1, 2, 3] [0, 1, 2, 3] rfl rfl).cx⟩
theorem uf_all (w0 : World) (l : List Bk) (A : Option Addr) (nb cb : Nat) (cs : List Cs) (sl : List Sk) (A9 : Option Addr) (c9 : Nat) (cx : List ChS) (Ao : Option Addr) (co : Nat) (re : List Int) (g gc gu gr : Nat) (hn : nb ≤ 1000) (hco : nb ≤ co) (hrl : re.length = nb + 1) (htm : BkTim l) (hcx : cx.map ChS.l = l.map (chB cs sl)) (hstp : ∀ b ∈ l, ∀ q ∈ chB cs sl b, q.2.1 ≤ 1000 ∧ q.2.2 ≤ 1000) (hchl : ∀ b ∈ l, (chB cs sl b).length ≤ 1000) (hrest : ∀ k, restB cs sl l k ≤ 1000000) (hre : ∀ k, k ≤ nb → re[k]? = some ((restB cs sl l k : Nat) : Int)) : ∀ (d i : Nat), i + d = nb → UfSpec w0 l A nb cb cs sl A9 c9 cx Ao co re g gc gu gr i
  | 0, i, h => uf_step w0 l A nb cb cs sl A9 c9 cx Ao co re g gc gu gr i (fun h2 => absurd h2 (by omega)) (by omega) hn hco hrl htm hcx hstp hchl hrest hre
  | d + 1, i, h => uf_step w0 l A nb cb cs sl A9 c9 cx Ao co re g gc gu gr i (fun _ => uf_all w0 l A nb cb cs sl A9 c9 cx Ao co re g gc gu gr hn hco hrl htm hcx hstp hchl hrest hre d (i + 1) (by omega)) (by omega) hn hco hrl htm hcx hstp hchl hrest hre
end Go.Proofs.YtempjmpfdniecaaGreatDoor
namespace Go.Proofs.YtempjmpfdniecaaGreatDoor
open Go.RowKit
theorem ch_many {cs : List Cs} {sl : List Sk} {b : Bk} (hcl : Closed cs) (hlo : loopB cs cs.length = false) (hk : 0 ≤ ixP (csP b.cls) cs 0) (hm : ∀ k, manyV sl k ≤ 100) : ∀ q ∈ chB cs sl b, q.2.2 ≤ 1000 := fun q hq => by
  have h1 := (ch_ok (many := capB sl) (path_nodup hcl hlo hk)).1 q hq
  have h2 := hm q.1
  unfold capB at h1
  omega
theorem asg_some {cs : List Cs} {sl : List Sk} {l : List Bk} {o : List (ByteArray × Nat)} (hcl : Closed cs) (hlo : loopB cs cs.length = false) (hk : ∀ b ∈ l, 0 ≤ ixP (csP b.cls) cs 0) (ht : BkTim l) (h : asgO cs sl l = some o) : ∀ b ∈ l, chB cs sl b ≠ [] := fun b hb e => by
  have := asg_empty (sl := sl) hcl hlo hk (fun b hb => (ht b hb).2.1) (List.mem_map.2 ⟨b, hb, e⟩)
  rw [this] at h; cases h
theorem unD_nil {cs : List Cs} {sl : List Sk} {l : List Bk} {k : Nat} : unD cs sl l [] k = unitsW (l.map wnB) (roomU (l.map wnB)) (l.map (chB cs sl)) [] k := rfl
theorem restB_W {cs : List Cs} {sl : List Sk} {l : List Bk} {k : Nat} : restB cs sl l k = restW ((l.map (chB cs sl)).drop k) := by
  unfold restB
  rw [List.map_drop]
theorem restB_le {cs : List Cs} {sl : List Sk} {l : List Bk} (hs : ∀ b ∈ l, ∀ q ∈ chB cs sl b, q.2.1 ≤ 1000) (k : Nat) : restB cs sl l k ≤ l.length * 1000 := by
  have h := restW_le (M := 1000) (css := (l.drop k).map (chB cs sl)) fun c hc q hq => by
    obtain ⟨b, hb, rfl⟩ := List.mem_map.1 hc
    exact hs b (List.mem_of_mem_drop hb) q hq
  rw [List.length_map, List.length_drop] at h
  exact Nat.le_trans h (Nat.mul_le_mul_right _ (by omega))
theorem gvO_get {l : List Bk} {o : List (ByteArray × Nat)} {i : Nat} {b : Bk} {p : ByteArray × Nat} (h1 : l[i]? = some b) (h2 : o[i]? = some p) : (gvO l o)[i]? = some ⟨b.key, p.1, (p.2 : Int)⟩ := by
  unfold gvO
  rw [List.getElem?_map, zip_at h1 h2]; rfl
theorem assign_any (cs : List Cs) (A0 : Option Addr) (n0 c0 : Nat) (sl : List Sk) (A1 : Option Addr) (n1 c1 : Nat) (l : List Bk) (A : Option Addr) (n c : Nat) (w : World) (hcs : SlT csEnc 2 158 w A0 n0 cs) (hco : ∀ x ∈ cs, CsOk x) (hn0 : n0 ≤ 1000) (hs : SlT skEnc 2 211 w A1 n1 sl) (hso : ∀ x ∈ sl, SkOk x) (hn1 : n1 ≤ 1000) (hl : SlT bkEnc 6 92 w A n l) (hn : n ≤ 12) (hmany : ∀ k, manyV sl k ≤ 100) (hcl : Closed cs) (hlo : loopB cs cs.length = false) (h30 : cs.length ≤ 30) (hkeys : ∀ b ∈ l, keysE cs [b.cls] = 0) (htm : BkTim l) :
  Calls Tryz.prog 125 #[.slice A0 n0 c0, .slice A1 n1 c1, .slice A n c] w (fun e w' => ((asgO cs sl l = none ∧ e = .returned (.tuple #[.slice none 0 0, .bool false])) ∨ ∃ (o : List (ByteArray × Nat)) (A' : Option Addr) (c' : Nat), asgO cs sl l = some o ∧ e = .returned (.tuple #[.slice A' n c', .bool true]) ∧ SlT gvEnc 3 90 w' A' n (gvO l o)) ∧ w.grownBy w' none) := by
 refine gw_enter ⟨119, w, none, [269, 268]⟩ Tryz.func125 rfl Tryz.ntmps125 rfl (mem0 (X := [SlOld csEnc 2 158 w.heap.size none A0 n0 cs, SlOld skEnc 2 211 w.heap.size none A1 n1 sl, SlOld bkEnc 6 92 w.heap.size none A n l]) (allF_cons hcs.old (allF_cons hs.old (allF_cons hl.old allF_nil))) (allL_cons SlOld.lasts (allL_cons SlOld.lasts (allL_cons SlOld.lasts allL_nil)))) ?_
 refine sr_ ?_
 have hlen := hl.len
 have hix := keys_ix hkeys
 have hstp : ∀ b ∈ l, ∀ q ∈ chB cs sl b, q.2.1 ≤ 1000 := fun b hb => ch_steps hcl hlo h30 (hix b hb)
 have hstm : ∀ b ∈ l, ∀ q ∈ chB cs sl b, q.2.1 ≤ 1000 ∧ q.2.2 ≤ 1000 := fun b hb q hq => ⟨hstp b hb q hq, ch_many hcl hlo (hix b hb) hmany q hq⟩
 have hchl : ∀ b ∈ l, (chB cs sl b).length ≤ 1000 := fun b hb => ch_short hcl hlo h30 (hix b hb)
 refine sg_ rfl (sg_ rfl (nn_ (sr_ (mv_ rfl (mv_ rfl (mv_ rfl ?_))))))
 refine wl_callx (γ := Int) (val := (fun g => .int .i64 g)) (φ := (fun g => FwOk cs sl l g)) (Y := (fun g => fun _ => True)) rfl cb134 rfl rfl (fun wx hm => (fewest_any cs A0 n0 c0 sl A1 n1 c1 l A n c wx (hm.fact 0 rfl).1 hco hn0 (hm.fact 1 rfl).1 hso hn1 (hm.fact 2 rfl).1 hn hcl hlo h30 hkeys htm).mono fun _ _ ⟨v, he, hv, hg⟩ => ⟨v, he, hv, hg, trivial⟩) (fun _ => Lasts2.true_) ?_
 rintro v hv
 refine sg_ rfl (nn_ (gw_seq (sr_ (mv_ rfl (wl_ov (ov_lss rfl rfl) rfl (nn_ ?_))))))
 refine gw_cond rfl (fun hh => ?_) (fun hh => ?_)
 ·have hvn : v < 0 := by simpa using hh
  clear hh
  refine sr_ (sg_ rfl (sg_ rfl (nn_ ?_)))
  refine gw_ret ?_
  refine nx_then_ret ?_
  have hnone : asgO cs sl l = none := by
   rcases hv with ⟨_, h9⟩ | ⟨k, o, rfl, _⟩
   ·exact h9
   exact absurd hvn (by omega)
  refine nx_ret2 rfl rfl rfl fun wx hm => ?_
  exact ⟨.inl ⟨hnone, rfl⟩, hm.g⟩
 have hvn : ¬ (v < 0) := by simpa using hh
 clear hh
 refine gw_skip (nx_then ?_)
 obtain ⟨k, o, rfl, hao, huo, hkl⟩ : ∃ (k : Nat) (o : List (ByteArray × Nat)), v = (k : Int) ∧ asgO cs sl l = some o ∧ unitsW (l.map wnB) (roomU (l.map wnB)) (l.map (chB cs sl)) [] k = some o ∧ k ≤ l.length * cs.length := by
  rcases hv with ⟨rfl, _⟩ | h
  ·exact absurd hvn (by decide)
  exact h
 have hol := asgO_len hao
 have hnz := asg_some hcl hlo hix htm hao
 rw [← unD_nil] at huo
 have hk6 : k ≤ 1000000 := Nat.le_trans hkl (Nat.le_trans (Nat.mul_le_mul (by omega : l.length ≤ 1000) h30) (by decide))
 refine gw_cut (γ := Option Addr × Nat × List ChS × Nat × Nat × Nat × Nat) (I := (fun g => g.2.2.1.map ChS.l = l.map (chB cs sl))) (S' := (fun g => [(2, .slice A n c), (6, .slice none 0 0), (7, .bool false), (8, .int .i64 ((k : Nat) : Int)), (9, .pointer (some ⟨g.2.2.2.1, 0, none⟩))])) (K' := (fun g => fun _ => True)) (L' := (fun g => [(g.2.2.2.1, 266, [.slice A n c, .slice g.1 n g.2.1, .slice none 0 0, .slice (some ⟨g.2.2.2.2.1, 0, none⟩) n n, .slice (some ⟨g.2.2.2.2.2.1, 0, none⟩) n n, .slice (some ⟨g.2.2.2.2.2.2, 0, none⟩) (n + 1) (n + 1), .int .i64 0])])) (O' := (fun g => [⟨.slice (some ⟨g.2.2.2.2.1, 0, none⟩) n n, 9, 1, n, (List.replicate (n) (⟨#[]⟩ : ByteArray)).flatMap sgEnc⟩, ⟨.slice (some ⟨g.2.2.2.2.2.1, 0, none⟩) n n, 3, 1, n, (List.replicate (n) (0 : Int)).flatMap iEnc⟩, ⟨.slice (some ⟨g.2.2.2.2.2.2, 0, none⟩) (n + 1) (n + 1), 3, 1, (n + 1), (List.replicate (n + 1) (0 : Int)).flatMap iEnc⟩])) (X' := (fun g => [SlOld csEnc 2 158 w.heap.size none A0 n0 cs, SlOld skEnc 2 211 w.heap.size none A1 n1 sl, SlOld bkEnc 6 92 w.heap.size none A n l, fun wy => SlT csnEnc 1 269 wy g.1 n g.2.2.1, fun wy => Chs 268 g.2.2.1 wy, fun _ => True])) ?_ ?_
 ·refine gd (fun wz => (fun _ => True) wz ∧ (SlOld csEnc 2 158 w.heap.size none A0 n0 cs) wz ∧ (SlOld skEnc 2 211 w.heap.size none A1 n1 sl) wz ∧ (SlOld bkEnc 6 92 w.heap.size none A n l) wz ∧ True) mixed (fun _ hm => ⟨hm.fa 0, hm.fa 1, hm.fa 2, hm.fa 3, trivial⟩) fun z => ?_
  refine wt 0 18 1 rfl z (ov_move rfl) ?_
  refine wt 1 18 3 rfl z (ov_move rfl) ?_
  refine wt 2 18 7 rfl z (ov_move rfl) ?_
  refine wt 3 18 15 rfl z (ov_move rfl) ?_
  refine wt 5 18 47 rfl z (ov_move rfl) ?_
  refine wt 6 18 111 rfl z (ov_len es76 rfl) ?_
  refine wt 8 18 367 rfl z (ov_move rfl) ?_
  refine wt 9 18 879 rfl z (ov_len es76 rfl) ?_
  refine wt 11 18 2927 rfl z (ov_move rfl) ?_
  refine wt 12 18 7023 rfl z (ov_len es76 rfl) ?_
  refine wt 13 18 15215 rfl z (ov_add rfl rfl (by omega) (by omega)) ?_
  refine wa_set 34 (v' := .int .i64 ((n + 1 : Nat) : Int)) rfl (congrArg (Value.int .i64) (by omega)) ?_
  refine wa_all [4, 7, 10, 14] (by kernel_rfl) rfl ⟨⟨_, rfl, ?_⟩, ⟨_, rfl, ?_⟩, ⟨_, rfl, ?_⟩, ⟨_, rfl, ?_⟩, trivial⟩
  ·refine wl_callx (γ := Option Addr × Nat × List ChS) (val := (fun g => .slice g.1 n g.2.1)) (φ := (fun g => g.2.2.map ChS.l = l.map (chB cs sl))) (Y := (fun g => fun wy => SlT csnEnc 1 269 wy g.1 n g.2.2 ∧ Chs 268 g.2.2 wy)) rfl cb220 rfl rfl (fun wx hm => (choicesP_any cs A0 n0 c0 sl A1 n1 c1 l A n c wx (hm.fact 1 rfl).1 hco (by omega) (hm.fact 2 rfl).1 hso (by omega) (hm.fact 3 rfl).1 (by omega) hkeys).mono fun _ _ ⟨A9, c9, cx, he, h1, h2, h3, hg⟩ => ⟨(A9, c9, cx), he, h3, hg, ⟨h1, h2⟩⟩) (fun _ => (SlT.lasts2 rfl).and_ (Chs.lasts rfl)) ?_
   rintro ⟨A9, c9, cx⟩ hcx
   dsimp only at hcx ⊢
   refine wl_nil ?_
   refine nw 18 15231 (fun _ hm => ⟨hm.fa 1, hm.fa 2, hm.fa 3, hm.fa 4, trivial⟩) fun z => ?_
   refine wa_all [7, 10, 14] (by kernel_rfl) rfl ⟨⟨_, rfl, ?_⟩, ⟨_, rfl, ?_⟩, ⟨_, rfl, ?_⟩, trivial⟩
   ·refine wl_makeO (n := n) (sz := 1) (e := 9) (by_ := 16) (z := .string ⟨#[]⟩) (by kernel_rfl) (by kernel_rfl) rfl rfl (by omega) (by omega) (by omega) (by unfold maxLen; omega) (made_flat (enc := sgEnc) (x := (⟨#[]⟩ : ByteArray)) rfl rfl (by decide) (n)) rfl fun g2 => ?_
    refine wl_nil ?_
    refine nw 18 15359 (fun _ hm => ⟨hm.fa 1, hm.fa 2, hm.fa 3, hm.fa 4, trivial⟩) fun z => ?_
    refine wa_all [10, 14] (by kernel_rfl) rfl ⟨⟨_, rfl, ?_⟩, ⟨_, rfl, ?_⟩, trivial⟩
    ·refine wl_makeO (n := n) (sz := 1) (e := 3) (by_ := 8) (z := .int .i64 0) (by kernel_rfl) (by kernel_rfl) rfl rfl (by omega) (by omega) (by omega) (by unfold maxLen; omega) (made_flat (enc := iEnc) (x := (0 : Int)) rfl rfl (by decide) (n)) rfl fun g3 => ?_
     refine wl_nil ?_
     refine nw 18 16383 (fun _ hm => ⟨hm.fa 1, hm.fa 2, hm.fa 3, hm.fa 4, trivial⟩) fun z => ?_
     refine wa1 14 rfl ?_
     refine wl_makeO (n := (n + 1)) (sz := 1) (e := 3) (by_ := 8) (z := .int .i64 0) (by kernel_rfl) (by kernel_rfl) rfl rfl (by omega) (by omega) (by omega) (by unfold maxLen; omega) (made_flat (enc := iEnc) (x := (0 : Int)) rfl rfl (by decide) (n + 1)) rfl fun g4 => ?_
     refine wl_nil ?_
     refine nw 18 32767 (fun _ hm => ⟨hm.fa 1, hm.fa 2, hm.fa 3, hm.fa 4, trivial⟩) fun z => ?_
     refine wt 15 18 65535 rfl z (ov_build (cs := [.slice A n c, .slice A9 n c9, .slice none 0 0, .slice (some ⟨g2, 0, none⟩) n n, .slice (some ⟨g3, 0, none⟩) n n, .slice (some ⟨g4, 0, none⟩) (n + 1) (n + 1), .int .i64 0]) rfl (by kernel_rfl)) ?_
     refine wa1 16 rfl ?_
     refine wl_box rfl rfl rfl fun g5 => ?_
     refine wl_nil ?_
     refine nw 18 131071 (fun _ hm => ⟨hm.fa 1, hm.fa 2, hm.fa 3, hm.fa 4, trivial⟩) fun z => ?_
     refine wt 17 18 262143 rfl z (ov_assign rfl) ?_
     refine wa_done (by kernel_rfl) ?_
     refine nx_also (Y := fun wy => SlT csnEnc 1 269 wy A9 n cx) (SlT.lasts2 rfl) (fun wx hm => (hm.fact 0 rfl).1) ?_
     refine nx_also (Y := fun wy => Chs 268 cx wy) (Chs.lasts rfl) (fun wx hm => (hm.fact 1 rfl).2) ?_
     refine nx_also (Y := fun _ => True) (Lasts2.true_) (fun wx hm => trivial) ?_
     exact nx_meet (A9, c9, cx, g5, g2, g3, g4) hcx ⟨rfl, rfl, rfl, rfl, rfl, trivial⟩ (fun _ hm => hm.pick [0] [2, 1, 0] [5, 6, 7, 2, 1, 0] rfl rfl)
    refine wl_makeO (n := (n + 1)) (sz := 1) (e := 3) (by_ := 8) (z := .int .i64 0) (by kernel_rfl) (by kernel_rfl) rfl rfl (by omega) (by omega) (by omega) (by unfold maxLen; omega) (made_flat (enc := iEnc) (x := (0 : Int)) rfl rfl (by decide) (n + 1)) rfl fun g6 => ?_
    refine wl_nil ?_
    refine nw 18 31743 (fun _ hm => ⟨hm.fa 1, hm.fa 2, hm.fa 3, hm.fa 4, trivial⟩) fun z => ?_
    refine wa1 10 rfl ?_
    refine wl_makeO (n := n) (sz := 1) (e := 3) (by_ := 8) (z := .int .i64 0) (by kernel_rfl) (by kernel_rfl) rfl rfl (by omega) (by omega) (by omega) (by unfold maxLen; omega) (made_flat (enc := iEnc) (x := (0 : Int)) rfl rfl (by decide) (n)) rfl fun g7 => ?_
    refine wl_nil ?_
    refine nw 18 32767 (fun _ hm => ⟨hm.fa 1, hm.fa 2, hm.fa 3, hm.fa 4, trivial⟩) fun z => ?_
    refine wt 15 18 65535 rfl z (ov_build (cs := [.slice A n c, .slice A9 n c9, .slice none 0 0, .slice (some ⟨g2, 0, none⟩) n n, .slice (some ⟨g7, 0, none⟩) n n, .slice (some ⟨g6, 0, none⟩) (n + 1) (n + 1), .int .i64 0]) rfl (by kernel_rfl)) ?_
    refine wa1 16 rfl ?_
    refine wl_box rfl rfl rfl fun g8 => ?_
    refine wl_nil ?_
    refine nw 18 131071 (fun _ hm => ⟨hm.fa 1, hm.fa 2, hm.fa 3, hm.fa 4, trivial⟩) fun z => ?_
    refine wt 17 18 262143 rfl z (ov_assign rfl) ?_
    refine wa_done (by kernel_rfl) ?_
    refine nx_also (Y := fun wy => SlT csnEnc 1 269 wy A9 n cx) (SlT.lasts2 rfl) (fun wx hm => (hm.fact 0 rfl).1) ?_
    refine nx_also (Y := fun wy => Chs 268 cx wy) (Chs.lasts rfl) (fun wx hm => (hm.fact 1 rfl).2) ?_
    refine nx_also (Y := fun _ => True) (Lasts2.true_) (fun wx hm => trivial) ?_
    exact nx_meet (A9, c9, cx, g8, g2, g7, g6) hcx ⟨rfl, rfl, rfl, rfl, rfl, trivial⟩ (fun _ hm => hm.pick [0] [2, 0, 1] [5, 6, 7, 2, 1, 0] rfl rfl)
   ·refine wl_makeO (n := n) (sz := 1) (e := 3) (by_ := 8) (z := .int .i64 0) (by kernel_rfl) (by kernel_rfl) rfl rfl (by omega) (by omega) (by omega) (by unfold maxLen; omega) (made_flat (enc := iEnc) (x := (0 : Int)) rfl rfl (by decide) (n)) rfl fun g9 => ?_
    refine wl_nil ?_
    refine nw 18 16255 (fun _ hm => ⟨hm.fa 1, hm.fa 2, hm.fa 3, hm.fa 4, trivial⟩) fun z => ?_
    refine wa_all [7, 14] (by kernel_rfl) rfl ⟨⟨_, rfl, ?_⟩, ⟨_, rfl, ?_⟩, trivial⟩
    ·refine wl_makeO (n := n) (sz := 1) (e := 9) (by_ := 16) (z := .string ⟨#[]⟩) (by kernel_rfl) (by kernel_rfl) rfl rfl (by omega) (by omega) (by omega) (by unfold maxLen; omega) (made_flat (enc := sgEnc) (x := (⟨#[]⟩ : ByteArray)) rfl rfl (by decide) (n)) rfl fun g10 => ?_
     refine wl_nil ?_
     refine nw 18 16383 (fun _ hm => ⟨hm.fa 1, hm.fa 2, hm.fa 3, hm.fa 4, trivial⟩) fun z => ?_
     refine wa1 14 rfl ?_
     refine wl_makeO (n := (n + 1)) (sz := 1) (e := 3) (by_ := 8) (z := .int .i64 0) (by kernel_rfl) (by kernel_rfl) rfl rfl (by omega) (by omega) (by omega) (by unfold maxLen; omega) (made_flat (enc := iEnc) (x := (0 : Int)) rfl rfl (by decide) (n + 1)) rfl fun g11 => ?_
     refine wl_nil ?_
     refine nw 18 32767 (fun _ hm => ⟨hm.fa 1, hm.fa 2, hm.fa 3, hm.fa 4, trivial⟩) fun z => ?_
     refine wt 15 18 65535 rfl z (ov_build (cs := [.slice A n c, .slice A9 n c9, .slice none 0 0, .slice (some ⟨g10, 0, none⟩) n n, .slice (some ⟨g9, 0, none⟩) n n, .slice (some ⟨g11, 0, none⟩) (n + 1) (n + 1), .int .i64 0]) rfl (by kernel_rfl)) ?_
     refine wa1 16 rfl ?_
     refine wl_box rfl rfl rfl fun g12 => ?_
     refine wl_nil ?_
     refine nw 18 131071 (fun _ hm => ⟨hm.fa 1, hm.fa 2, hm.fa 3, hm.fa 4, trivial⟩) fun z => ?_
     refine wt 17 18 262143 rfl z (ov_assign rfl) ?_
     refine wa_done (by kernel_rfl) ?_
     refine nx_also (Y := fun wy => SlT csnEnc 1 269 wy A9 n cx) (SlT.lasts2 rfl) (fun wx hm => (hm.fact 0 rfl).1) ?_
     refine nx_also (Y := fun wy => Chs 268 cx wy) (Chs.lasts rfl) (fun wx hm => (hm.fact 1 rfl).2) ?_
     refine nx_also (Y := fun _ => True) (Lasts2.true_) (fun wx hm => trivial) ?_
     exact nx_meet (A9, c9, cx, g12, g10, g9, g11) hcx ⟨rfl, rfl, rfl, rfl, rfl, trivial⟩ (fun _ hm => hm.pick [0] [1, 2, 0] [5, 6, 7, 2, 1, 0] rfl rfl)
    refine wl_makeO (n := (n + 1)) (sz := 1) (e := 3) (by_ := 8) (z := .int .i64 0) (by kernel_rfl) (by kernel_rfl) rfl rfl (by omega) (by omega) (by omega) (by unfold maxLen; omega) (made_flat (enc := iEnc) (x := (0 : Int)) rfl rfl (by decide) (n + 1)) rfl fun g13 => ?_
    refine wl_nil ?_
    refine nw 18 32639 (fun _ hm => ⟨hm.fa 1, hm.fa 2, hm.fa 3, hm.fa 4, trivial⟩) fun z => ?_
    refine wa1 7 rfl ?_
    refine wl_makeO (n := n) (sz := 1) (e := 9) (by_ := 16) (z := .string ⟨#[]⟩) (by kernel_rfl) (by kernel_rfl) rfl rfl (by omega) (by omega) (by omega) (by unfold maxLen; omega) (made_flat (enc := sgEnc) (x := (⟨#[]⟩ : ByteArray)) rfl rfl (by decide) (n)) rfl fun g14 => ?_
    refine wl_nil ?_
    refine nw 18 32767 (fun _ hm => ⟨hm.fa 1, hm.fa 2, hm.fa 3, hm.fa 4, trivial⟩) fun z => ?_
    refine wt 15 18 65535 rfl z (ov_build (cs := [.slice A n c, .slice A9 n c9, .slice none 0 0, .slice (some ⟨g14, 0, none⟩) n n, .slice (some ⟨g9, 0, none⟩) n n, .slice (some ⟨g13, 0, none⟩) (n + 1) (n + 1), .int .i64 0]) rfl (by kernel_rfl)) ?_
    refine wa1 16 rfl ?_
    refine wl_box rfl rfl rfl fun g15 => ?_
    refine wl_nil ?_
    refine nw 18 131071 (fun _ hm => ⟨hm.fa 1, hm.fa 2, hm.fa 3, hm.fa 4, trivial⟩) fun z => ?_
    refine wt 17 18 262143 rfl z (ov_assign rfl) ?_
    refine wa_done (by kernel_rfl) ?_
    refine nx_also (Y := fun wy => SlT csnEnc 1 269 wy A9 n cx) (SlT.lasts2 rfl) (fun wx hm => (hm.fact 0 rfl).1) ?_
    refine nx_also (Y := fun wy => Chs 268 cx wy) (Chs.lasts rfl) (fun wx hm => (hm.fact 1 rfl).2) ?_
    refine nx_also (Y := fun _ => True) (Lasts2.true_) (fun wx hm => trivial) ?_
    exact nx_meet (A9, c9, cx, g15, g14, g9, g13) hcx ⟨rfl, rfl, rfl, rfl, rfl, trivial⟩ (fun _ hm => hm.pick [0] [0, 2, 1] [5, 6, 7, 2, 1, 0] rfl rfl)
   refine wl_makeO (n := (n + 1)) (sz := 1) (e := 3) (by_ := 8) (z := .int .i64 0) (by kernel_rfl) (by kernel_rfl) rfl rfl (by omega) (by omega) (by omega) (by unfold maxLen; omega) (made_flat (enc := iEnc) (x := (0 : Int)) rfl rfl (by decide) (n + 1)) rfl fun g16 => ?_
   refine wl_nil ?_
   refine nw 18 31615 (fun _ hm => ⟨hm.fa 1, hm.fa 2, hm.fa 3, hm.fa 4, trivial⟩) fun z => ?_
   refine wa_all [7, 10] (by kernel_rfl) rfl ⟨⟨_, rfl, ?_⟩, ⟨_, rfl, ?_⟩, trivial⟩
   ·refine wl_makeO (n := n) (sz := 1) (e := 9) (by_ := 16) (z := .string ⟨#[]⟩) (by kernel_rfl) (by kernel_rfl) rfl rfl (by omega) (by omega) (by omega) (by unfold maxLen; omega) (made_flat (enc := sgEnc) (x := (⟨#[]⟩ : ByteArray)) rfl rfl (by decide) (n)) rfl fun g17 => ?_
    refine wl_nil ?_
    refine nw 18 31743 (fun _ hm => ⟨hm.fa 1, hm.fa 2, hm.fa 3, hm.fa 4, trivial⟩) fun z => ?_
    refine wa1 10 rfl ?_
    refine wl_makeO (n := n) (sz := 1) (e := 3) (by_ := 8) (z := .int .i64 0) (by kernel_rfl) (by kernel_rfl) rfl rfl (by omega) (by omega) (by omega) (by unfold maxLen; omega) (made_flat (enc := iEnc) (x := (0 : Int)) rfl rfl (by decide) (n)) rfl fun g18 => ?_
    refine wl_nil ?_
    refine nw 18 32767 (fun _ hm => ⟨hm.fa 1, hm.fa 2, hm.fa 3, hm.fa 4, trivial⟩) fun z => ?_
    refine wt 15 18 65535 rfl z (ov_build (cs := [.slice A n c, .slice A9 n c9, .slice none 0 0, .slice (some ⟨g17, 0, none⟩) n n, .slice (some ⟨g18, 0, none⟩) n n, .slice (some ⟨g16, 0, none⟩) (n + 1) (n + 1), .int .i64 0]) rfl (by kernel_rfl)) ?_
    refine wa1 16 rfl ?_
    refine wl_box rfl rfl rfl fun g19 => ?_
    refine wl_nil ?_
    refine nw 18 131071 (fun _ hm => ⟨hm.fa 1, hm.fa 2, hm.fa 3, hm.fa 4, trivial⟩) fun z => ?_
    refine wt 17 18 262143 rfl z (ov_assign rfl) ?_
    refine wa_done (by kernel_rfl) ?_
    refine nx_also (Y := fun wy => SlT csnEnc 1 269 wy A9 n cx) (SlT.lasts2 rfl) (fun wx hm => (hm.fact 0 rfl).1) ?_
    refine nx_also (Y := fun wy => Chs 268 cx wy) (Chs.lasts rfl) (fun wx hm => (hm.fact 1 rfl).2) ?_
    refine nx_also (Y := fun _ => True) (Lasts2.true_) (fun wx hm => trivial) ?_
    exact nx_meet (A9, c9, cx, g19, g17, g18, g16) hcx ⟨rfl, rfl, rfl, rfl, rfl, trivial⟩ (fun _ hm => hm.pick [0] [1, 0, 2] [5, 6, 7, 2, 1, 0] rfl rfl)
   refine wl_makeO (n := n) (sz := 1) (e := 3) (by_ := 8) (z := .int .i64 0) (by kernel_rfl) (by kernel_rfl) rfl rfl (by omega) (by omega) (by omega) (by unfold maxLen; omega) (made_flat (enc := iEnc) (x := (0 : Int)) rfl rfl (by decide) (n)) rfl fun g20 => ?_
   refine wl_nil ?_
   refine nw 18 32639 (fun _ hm => ⟨hm.fa 1, hm.fa 2, hm.fa 3, hm.fa 4, trivial⟩) fun z => ?_
   refine wa1 7 rfl ?_
   refine wl_makeO (n := n) (sz := 1) (e := 9) (by_ := 16) (z := .string ⟨#[]⟩) (by kernel_rfl) (by kernel_rfl) rfl rfl (by omega) (by omega) (by omega) (by unfold maxLen; omega) (made_flat (enc := sgEnc) (x := (⟨#[]⟩ : ByteArray)) rfl rfl (by decide) (n)) rfl fun g21 => ?_
   refine wl_nil ?_
   refine nw 18 32767 (fun _ hm => ⟨hm.fa 1, hm.fa 2, hm.fa 3, hm.fa 4, trivial⟩) fun z => ?_
   refine wt 15 18 65535 rfl z (ov_build (cs := [.slice A n c, .slice A9 n c9, .slice none 0 0, .slice (some ⟨g21, 0, none⟩) n n, .slice (some ⟨g20, 0, none⟩) n n, .slice (some ⟨g16, 0, none⟩) (n + 1) (n + 1), .int .i64 0]) rfl (by kernel_rfl)) ?_
   refine wa1 16 rfl ?_
   refine wl_box rfl rfl rfl fun g22 => ?_
   refine wl_nil ?_
   refine nw 18 131071 (fun _ hm => ⟨hm.fa 1, hm.fa 2, hm.fa 3, hm.fa 4, trivial⟩) fun z => ?_
   refine wt 17 18 262143 rfl z (ov_assign rfl) ?_
   refine wa_done (by kernel_rfl) ?_
   refine nx_also (Y := fun wy => SlT csnEnc 1 269 wy A9 n cx) (SlT.lasts2 rfl) (fun wx hm => (hm.fact 0 rfl).1) ?_
   refine nx_also (Y := fun wy => Chs 268 cx wy) (Chs.lasts rfl) (fun wx hm => (hm.fact 1 rfl).2) ?_
   refine nx_also (Y := fun _ => True) (Lasts2.true_) (fun wx hm => trivial) ?_
   exact nx_meet (A9, c9, cx, g22, g21, g20, g16) hcx ⟨rfl, rfl, rfl, rfl, rfl, trivial⟩ (fun _ hm => hm.pick [0] [0, 1, 2] [5, 6, 7, 2, 1, 0] rfl rfl)
  ·refine wl_makeO (n := n) (sz := 1) (e := 9) (by_ := 16) (z := .string ⟨#[]⟩) (by kernel_rfl) (by kernel_rfl) rfl rfl (by omega) (by omega) (by omega) (by unfold maxLen; omega) (made_flat (enc := sgEnc) (x := (⟨#[]⟩ : ByteArray)) rfl rfl (by decide) (n)) rfl fun g23 => ?_
   refine wl_nil ?_
   refine nw 18 15343 (fun _ hm => ⟨hm.fa 0, hm.fa 1, hm.fa 2, hm.fa 3, trivial⟩) fun z => ?_
   refine wa_all [4, 10, 14] (by kernel_rfl) rfl ⟨⟨_, rfl, ?_⟩, ⟨_, rfl, ?_⟩, ⟨_, rfl, ?_⟩, trivial⟩
   ·refine wl_callx (γ := Option Addr × Nat × List ChS) (val := (fun g => .slice g.1 n g.2.1)) (φ := (fun g => g.2.2.map ChS.l = l.map (chB cs sl))) (Y := (fun g => fun wy => SlT csnEnc 1 269 wy g.1 n g.2.2 ∧ Chs 268 g.2.2 wy)) rfl cb220 rfl rfl (fun wx hm => (choicesP_any cs A0 n0 c0 sl A1 n1 c1 l A n c wx (hm.fact 1 rfl).1 hco (by omega) (hm.fact 2 rfl).1 hso (by omega) (hm.fact 3 rfl).1 (by omega) hkeys).mono fun _ _ ⟨A9, c9, cx, he, h1, h2, h3, hg⟩ => ⟨(A9, c9, cx), he, h3, hg, ⟨h1, h2⟩⟩) (fun _ => (SlT.lasts2 rfl).and_ (Chs.lasts rfl)) ?_
    rintro ⟨A9, c9, cx⟩ hcx
    dsimp only at hcx ⊢
    refine wl_nil ?_
    refine nw 18 15359 (fun _ hm => ⟨hm.fa 1, hm.fa 2, hm.fa 3, hm.fa 4, trivial⟩) fun z => ?_
    refine wa_all [10, 14] (by kernel_rfl) rfl ⟨⟨_, rfl, ?_⟩, ⟨_, rfl, ?_⟩, trivial⟩
    ·refine wl_makeO (n := n) (sz := 1) (e := 3) (by_ := 8) (z := .int .i64 0) (by kernel_rfl) (by kernel_rfl) rfl rfl (by omega) (by omega) (by omega) (by unfold maxLen; omega) (made_flat (enc := iEnc) (x := (0 : Int)) rfl rfl (by decide) (n)) rfl fun g24 => ?_
     refine wl_nil ?_
     refine nw 18 16383 (fun _ hm => ⟨hm.fa 1, hm.fa 2, hm.fa 3, hm.fa 4, trivial⟩) fun z => ?_
     refine wa1 14 rfl ?_
     refine wl_makeO (n := (n + 1)) (sz := 1) (e := 3) (by_ := 8) (z := .int .i64 0) (by kernel_rfl) (by kernel_rfl) rfl rfl (by omega) (by omega) (by omega) (by unfold maxLen; omega) (made_flat (enc := iEnc) (x := (0 : Int)) rfl rfl (by decide) (n + 1)) rfl fun g25 => ?_
     refine wl_nil ?_
     refine nw 18 32767 (fun _ hm => ⟨hm.fa 1, hm.fa 2, hm.fa 3, hm.fa 4, trivial⟩) fun z => ?_
     refine wt 15 18 65535 rfl z (ov_build (cs := [.slice A n c, .slice A9 n c9, .slice none 0 0, .slice (some ⟨g23, 0, none⟩) n n, .slice (some ⟨g24, 0, none⟩) n n, .slice (some ⟨g25, 0, none⟩) (n + 1) (n + 1), .int .i64 0]) rfl (by kernel_rfl)) ?_
     refine wa1 16 rfl ?_
     refine wl_box rfl rfl rfl fun g26 => ?_
     refine wl_nil ?_
     refine nw 18 131071 (fun _ hm => ⟨hm.fa 1, hm.fa 2, hm.fa 3, hm.fa 4, trivial⟩) fun z => ?_
     refine wt 17 18 262143 rfl z (ov_assign rfl) ?_
     refine wa_done (by kernel_rfl) ?_
     refine nx_also (Y := fun wy => SlT csnEnc 1 269 wy A9 n cx) (SlT.lasts2 rfl) (fun wx hm => (hm.fact 0 rfl).1) ?_
     refine nx_also (Y := fun wy => Chs 268 cx wy) (Chs.lasts rfl) (fun wx hm => (hm.fact 1 rfl).2) ?_
     refine nx_also (Y := fun _ => True) (Lasts2.true_) (fun wx hm => trivial) ?_
     exact nx_meet (A9, c9, cx, g26, g23, g24, g25) hcx ⟨rfl, rfl, rfl, rfl, rfl, trivial⟩ (fun _ hm => hm.pick [0] [2, 1, 0] [5, 6, 7, 2, 1, 0] rfl rfl)
    refine wl_makeO (n := (n + 1)) (sz := 1) (e := 3) (by_ := 8) (z := .int .i64 0) (by kernel_rfl) (by kernel_rfl) rfl rfl (by omega) (by omega) (by omega) (by unfold maxLen; omega) (made_flat (enc := iEnc) (x := (0 : Int)) rfl rfl (by decide) (n + 1)) rfl fun g27 => ?_
    refine wl_nil ?_
    refine nw 18 31743 (fun _ hm => ⟨hm.fa 1, hm.fa 2, hm.fa 3, hm.fa 4, trivial⟩) fun z => ?_
    refine wa1 10 rfl ?_
    refine wl_makeO (n := n) (sz := 1) (e := 3) (by_ := 8) (z := .int .i64 0) (by kernel_rfl) (by kernel_rfl) rfl rfl (by omega) (by omega) (by omega) (by unfold maxLen; omega) (made_flat (enc := iEnc) (x := (0 : Int)) rfl rfl (by decide) (n)) rfl fun g28 => ?_
    refine wl_nil ?_
    refine nw 18 32767 (fun _ hm => ⟨hm.fa 1, hm.fa 2, hm.fa 3, hm.fa 4, trivial⟩) fun z => ?_
    refine wt 15 18 65535 rfl z (ov_build (cs := [.slice A n c, .slice A9 n c9, .slice none 0 0, .slice (some ⟨g23, 0, none⟩) n n, .slice (some ⟨g28, 0, none⟩) n n, .slice (some ⟨g27, 0, none⟩) (n + 1) (n + 1), .int .i64 0]) rfl (by kernel_rfl)) ?_
    refine wa1 16 rfl ?_
    refine wl_box rfl rfl rfl fun g29 => ?_
    refine wl_nil ?_
    refine nw 18 131071 (fun _ hm => ⟨hm.fa 1, hm.fa 2, hm.fa 3, hm.fa 4, trivial⟩) fun z => ?_
    refine wt 17 18 262143 rfl z (ov_assign rfl) ?_
    refine wa_done (by kernel_rfl) ?_
    refine nx_also (Y := fun wy => SlT csnEnc 1 269 wy A9 n cx) (SlT.lasts2 rfl) (fun wx hm => (hm.fact 0 rfl).1) ?_
    refine nx_also (Y := fun wy => Chs 268 cx wy) (Chs.lasts rfl) (fun wx hm => (hm.fact 1 rfl).2) ?_
    refine nx_also (Y := fun _ => True) (Lasts2.true_) (fun wx hm => trivial) ?_
    exact nx_meet (A9, c9, cx, g29, g23, g28, g27) hcx ⟨rfl, rfl, rfl, rfl, rfl, trivial⟩ (fun _ hm => hm.pick [0] [2, 0, 1] [5, 6, 7, 2, 1, 0] rfl rfl)
   ·refine wl_makeO (n := n) (sz := 1) (e := 3) (by_ := 8) (z := .int .i64 0) (by kernel_rfl) (by kernel_rfl) rfl rfl (by omega) (by omega) (by omega) (by unfold maxLen; omega) (made_flat (enc := iEnc) (x := (0 : Int)) rfl rfl (by decide) (n)) rfl fun g30 => ?_
    refine wl_nil ?_
    refine nw 18 16367 (fun _ hm => ⟨hm.fa 0, hm.fa 1, hm.fa 2, hm.fa 3, trivial⟩) fun z => ?_
    refine wa_all [4, 14] (by kernel_rfl) rfl ⟨⟨_, rfl, ?_⟩, ⟨_, rfl, ?_⟩, trivial⟩
    ·refine wl_callx (γ := Option Addr × Nat × List ChS) (val := (fun g => .slice g.1 n g.2.1)) (φ := (fun g => g.2.2.map ChS.l = l.map (chB cs sl))) (Y := (fun g => fun wy => SlT csnEnc 1 269 wy g.1 n g.2.2 ∧ Chs 268 g.2.2 wy)) rfl cb220 rfl rfl (fun wx hm => (choicesP_any cs A0 n0 c0 sl A1 n1 c1 l A n c wx (hm.fact 1 rfl).1 hco (by omega) (hm.fact 2 rfl).1 hso (by omega) (hm.fact 3 rfl).1 (by omega) hkeys).mono fun _ _ ⟨A9, c9, cx, he, h1, h2, h3, hg⟩ => ⟨(A9, c9, cx), he, h3, hg, ⟨h1, h2⟩⟩) (fun _ => (SlT.lasts2 rfl).and_ (Chs.lasts rfl)) ?_
     rintro ⟨A9, c9, cx⟩ hcx
     dsimp only at hcx ⊢
     refine wl_nil ?_
     refine nw 18 16383 (fun _ hm => ⟨hm.fa 1, hm.fa 2, hm.fa 3, hm.fa 4, trivial⟩) fun z => ?_
     refine wa1 14 rfl ?_
     refine wl_makeO (n := (n + 1)) (sz := 1) (e := 3) (by_ := 8) (z := .int .i64 0) (by kernel_rfl) (by kernel_rfl) rfl rfl (by omega) (by omega) (by omega) (by unfold maxLen; omega) (made_flat (enc := iEnc) (x := (0 : Int)) rfl rfl (by decide) (n + 1)) rfl fun g31 => ?_
     refine wl_nil ?_
     refine nw 18 32767 (fun _ hm => ⟨hm.fa 1, hm.fa 2, hm.fa 3, hm.fa 4, trivial⟩) fun z => ?_
     refine wt 15 18 65535 rfl z (ov_build (cs := [.slice A n c, .slice A9 n c9, .slice none 0 0, .slice (some ⟨g23, 0, none⟩) n n, .slice (some ⟨g30, 0, none⟩) n n, .slice (some ⟨g31, 0, none⟩) (n + 1) (n + 1), .int .i64 0]) rfl (by kernel_rfl)) ?_
     refine wa1 16 rfl ?_
     refine wl_box rfl rfl rfl fun g32 => ?_
     refine wl_nil ?_
     refine nw 18 131071 (fun _ hm => ⟨hm.fa 1, hm.fa 2, hm.fa 3, hm.fa 4, trivial⟩) fun z => ?_
     refine wt 17 18 262143 rfl z (ov_assign rfl) ?_
     refine wa_done (by kernel_rfl) ?_
     refine nx_also (Y := fun wy => SlT csnEnc 1 269 wy A9 n cx) (SlT.lasts2 rfl) (fun wx hm => (hm.fact 0 rfl).1) ?_
     refine nx_also (Y := fun wy => Chs 268 cx wy) (Chs.lasts rfl) (fun wx hm => (hm.fact 1 rfl).2) ?_
     refine nx_also (Y := fun _ => True) (Lasts2.true_) (fun wx hm => trivial) ?_
     exact nx_meet (A9, c9, cx, g32, g23, g30, g31) hcx ⟨rfl, rfl, rfl, rfl, rfl, trivial⟩ (fun _ hm => hm.pick [0] [2, 1, 0] [5, 6, 7, 2, 1, 0] rfl rfl)
    refine wl_makeO (n := (n + 1)) (sz := 1) (e := 3) (by_ := 8) (z := .int .i64 0) (by kernel_rfl) (by kernel_rfl) rfl rfl (by omega) (by omega) (by omega) (by unfold maxLen; omega) (made_flat (enc := iEnc) (x := (0 : Int)) rfl rfl (by decide) (n + 1)) rfl fun g33 => ?_
    refine wl_nil ?_
    refine nw 18 32751 (fun _ hm => ⟨hm.fa 0, hm.fa 1, hm.fa 2, hm.fa 3, trivial⟩) fun z => ?_
    refine wa1 4 rfl ?_
    refine wl_callx (γ := Option Addr × Nat × List ChS) (val := (fun g => .slice g.1 n g.2.1)) (φ := (fun g => g.2.2.map ChS.l = l.map (chB cs sl))) (Y := (fun g => fun wy => SlT csnEnc 1 269 wy g.1 n g.2.2 ∧ Chs 268 g.2.2 wy)) rfl cb220 rfl rfl (fun wx hm => (choicesP_any cs A0 n0 c0 sl A1 n1 c1 l A n c wx (hm.fact 1 rfl).1 hco (by omega) (hm.fact 2 rfl).1 hso (by omega) (hm.fact 3 rfl).1 (by omega) hkeys).mono fun _ _ ⟨A9, c9, cx, he, h1, h2, h3, hg⟩ => ⟨(A9, c9, cx), he, h3, hg, ⟨h1, h2⟩⟩) (fun _ => (SlT.lasts2 rfl).and_ (Chs.lasts rfl)) ?_
    rintro ⟨A9, c9, cx⟩ hcx
    dsimp only at hcx ⊢
    refine wl_nil ?_
    refine nw 18 32767 (fun _ hm => ⟨hm.fa 1, hm.fa 2, hm.fa 3, hm.fa 4, trivial⟩) fun z => ?_
    refine wt 15 18 65535 rfl z (ov_build (cs := [.slice A n c, .slice A9 n c9, .slice none 0 0, .slice (some ⟨g23, 0, none⟩) n n, .slice (some ⟨g30, 0, none⟩) n n, .slice (some ⟨g33, 0, none⟩) (n + 1) (n + 1), .int .i64 0]) rfl (by kernel_rfl)) ?_
    refine wa1 16 rfl ?_
    refine wl_box rfl rfl rfl fun g34 => ?_
    refine wl_nil ?_
    refine nw 18 131071 (fun _ hm => ⟨hm.fa 1, hm.fa 2, hm.fa 3, hm.fa 4, trivial⟩) fun z => ?_
    refine wt 17 18 262143 rfl z (ov_assign rfl) ?_
    refine wa_done (by kernel_rfl) ?_
    refine nx_also (Y := fun wy => SlT csnEnc 1 269 wy A9 n cx) (SlT.lasts2 rfl) (fun wx hm => (hm.fact 0 rfl).1) ?_
    refine nx_also (Y := fun wy => Chs 268 cx wy) (Chs.lasts rfl) (fun wx hm => (hm.fact 1 rfl).2) ?_
    refine nx_also (Y := fun _ => True) (Lasts2.true_) (fun wx hm => trivial) ?_
    exact nx_meet (A9, c9, cx, g34, g23, g30, g33) hcx ⟨rfl, rfl, rfl, rfl, rfl, trivial⟩ (fun _ hm => hm.pick [0] [2, 1, 0] [5, 6, 7, 2, 1, 0] rfl rfl)
   refine wl_makeO (n := (n + 1)) (sz := 1) (e := 3) (by_ := 8) (z := .int .i64 0) (by kernel_rfl) (by kernel_rfl) rfl rfl (by omega) (by omega) (by omega) (by unfold maxLen; omega) (made_flat (enc := iEnc) (x := (0 : Int)) rfl rfl (by decide) (n + 1)) rfl fun g35 => ?_
   refine wl_nil ?_
   refine nw 18 31727 (fun _ hm => ⟨hm.fa 0, hm.fa 1, hm.fa 2, hm.fa 3, trivial⟩) fun z => ?_
   refine wa_all [4, 10] (by kernel_rfl) rfl ⟨⟨_, rfl, ?_⟩, ⟨_, rfl, ?_⟩, trivial⟩
   ·refine wl_callx (γ := Option Addr × Nat × List ChS) (val := (fun g => .slice g.1 n g.2.1)) (φ := (fun g => g.2.2.map ChS.l = l.map (chB cs sl))) (Y := (fun g => fun wy => SlT csnEnc 1 269 wy g.1 n g.2.2 ∧ Chs 268 g.2.2 wy)) rfl cb220 rfl rfl (fun wx hm => (choicesP_any cs A0 n0 c0 sl A1 n1 c1 l A n c wx (hm.fact 1 rfl).1 hco (by omega) (hm.fact 2 rfl).1 hso (by omega) (hm.fact 3 rfl).1 (by omega) hkeys).mono fun _ _ ⟨A9, c9, cx, he, h1, h2, h3, hg⟩ => ⟨(A9, c9, cx), he, h3, hg, ⟨h1, h2⟩⟩) (fun _ => (SlT.lasts2 rfl).and_ (Chs.lasts rfl)) ?_
    rintro ⟨A9, c9, cx⟩ hcx
    dsimp only at hcx ⊢
    refine wl_nil ?_
    refine nw 18 31743 (fun _ hm => ⟨hm.fa 1, hm.fa 2, hm.fa 3, hm.fa 4, trivial⟩) fun z => ?_
    refine wa1 10 rfl ?_
    refine wl_makeO (n := n) (sz := 1) (e := 3) (by_ := 8) (z := .int .i64 0) (by kernel_rfl) (by kernel_rfl) rfl rfl (by omega) (by omega) (by omega) (by unfold maxLen; omega) (made_flat (enc := iEnc) (x := (0 : Int)) rfl rfl (by decide) (n)) rfl fun g36 => ?_
    refine wl_nil ?_
    refine nw 18 32767 (fun _ hm => ⟨hm.fa 1, hm.fa 2, hm.fa 3, hm.fa 4, trivial⟩) fun z => ?_
    refine wt 15 18 65535 rfl z (ov_build (cs := [.slice A n c, .slice A9 n c9, .slice none 0 0, .slice (some ⟨g23, 0, none⟩) n n, .slice (some ⟨g36, 0, none⟩) n n, .slice (some ⟨g35, 0, none⟩) (n + 1) (n + 1), .int .i64 0]) rfl (by kernel_rfl)) ?_
    refine wa1 16 rfl ?_
    refine wl_box rfl rfl rfl fun g37 => ?_
    refine wl_nil ?_
    refine nw 18 131071 (fun _ hm => ⟨hm.fa 1, hm.fa 2, hm.fa 3, hm.fa 4, trivial⟩) fun z => ?_
    refine wt 17 18 262143 rfl z (ov_assign rfl) ?_
    refine wa_done (by kernel_rfl) ?_
    refine nx_also (Y := fun wy => SlT csnEnc 1 269 wy A9 n cx) (SlT.lasts2 rfl) (fun wx hm => (hm.fact 0 rfl).1) ?_
    refine nx_also (Y := fun wy => Chs 268 cx wy) (Chs.lasts rfl) (fun wx hm => (hm.fact 1 rfl).2) ?_
    refine nx_also (Y := fun _ => True) (Lasts2.true_) (fun wx hm => trivial) ?_
    exact nx_meet (A9, c9, cx, g37, g23, g36, g35) hcx ⟨rfl, rfl, rfl, rfl, rfl, trivial⟩ (fun _ hm => hm.pick [0] [2, 0, 1] [5, 6, 7, 2, 1, 0] rfl rfl)
   refine wl_makeO (n := n) (sz := 1) (e := 3) (by_ := 8) (z := .int .i64 0) (by kernel_rfl) (by kernel_rfl) rfl rfl (by omega) (by omega) (by omega) (by unfold maxLen; omega) (made_flat (enc := iEnc) (x := (0 : Int)) rfl rfl (by decide) (n)) rfl fun g38 => ?_
   refine wl_nil ?_
   refine nw 18 32751 (fun _ hm => ⟨hm.fa 0, hm.fa 1, hm.fa 2, hm.fa 3, trivial⟩) fun z => ?_
   refine wa1 4 rfl ?_
   refine wl_callx (γ := Option Addr × Nat × List ChS) (val := (fun g => .slice g.1 n g.2.1)) (φ := (fun g => g.2.2.map ChS.l = l.map (chB cs sl))) (Y := (fun g => fun wy => SlT csnEnc 1 269 wy g.1 n g.2.2 ∧ Chs 268 g.2.2 wy)) rfl cb220 rfl rfl (fun wx hm => (choicesP_any cs A0 n0 c0 sl A1 n1 c1 l A n c wx (hm.fact 1 rfl).1 hco (by omega) (hm.fact 2 rfl).1 hso (by omega) (hm.fact 3 rfl).1 (by omega) hkeys).mono fun _ _ ⟨A9, c9, cx, he, h1, h2, h3, hg⟩ => ⟨(A9, c9, cx), he, h3, hg, ⟨h1, h2⟩⟩) (fun _ => (SlT.lasts2 rfl).and_ (Chs.lasts rfl)) ?_
   rintro ⟨A9, c9, cx⟩ hcx
   dsimp only at hcx ⊢
   refine wl_nil ?_
   refine nw 18 32767 (fun _ hm => ⟨hm.fa 1, hm.fa 2, hm.fa 3, hm.fa 4, trivial⟩) fun z => ?_
   refine wt 15 18 65535 rfl z (ov_build (cs := [.slice A n c, .slice A9 n c9, .slice none 0 0, .slice (some ⟨g23, 0, none⟩) n n, .slice (some ⟨g38, 0, none⟩) n n, .slice (some ⟨g35, 0, none⟩) (n + 1) (n + 1), .int .i64 0]) rfl (by kernel_rfl)) ?_
   refine wa1 16 rfl ?_
   refine wl_box rfl rfl rfl fun g39 => ?_
   refine wl_nil ?_
   refine nw 18 131071 (fun _ hm => ⟨hm.fa 1, hm.fa 2, hm.fa 3, hm.fa 4, trivial⟩) fun z => ?_
   refine wt 17 18 262143 rfl z (ov_assign rfl) ?_
   refine wa_done (by kernel_rfl) ?_
   refine nx_also (Y := fun wy => SlT csnEnc 1 269 wy A9 n cx) (SlT.lasts2 rfl) (fun wx hm => (hm.fact 0 rfl).1) ?_
   refine nx_also (Y := fun wy => Chs 268 cx wy) (Chs.lasts rfl) (fun wx hm => (hm.fact 1 rfl).2) ?_
   refine nx_also (Y := fun _ => True) (Lasts2.true_) (fun wx hm => trivial) ?_
   exact nx_meet (A9, c9, cx, g39, g23, g38, g35) hcx ⟨rfl, rfl, rfl, rfl, rfl, trivial⟩ (fun _ hm => hm.pick [0] [2, 0, 1] [5, 6, 7, 2, 1, 0] rfl rfl)
  ·refine wl_makeO (n := n) (sz := 1) (e := 3) (by_ := 8) (z := .int .i64 0) (by kernel_rfl) (by kernel_rfl) rfl rfl (by omega) (by omega) (by omega) (by unfold maxLen; omega) (made_flat (enc := iEnc) (x := (0 : Int)) rfl rfl (by decide) (n)) rfl fun g40 => ?_
   refine wl_nil ?_
   refine nw 18 16239 (fun _ hm => ⟨hm.fa 0, hm.fa 1, hm.fa 2, hm.fa 3, trivial⟩) fun z => ?_
   refine wa_all [4, 7, 14] (by kernel_rfl) rfl ⟨⟨_, rfl, ?_⟩, ⟨_, rfl, ?_⟩, ⟨_, rfl, ?_⟩, trivial⟩
   ·refine wl_callx (γ := Option Addr × Nat × List ChS) (val := (fun g => .slice g.1 n g.2.1)) (φ := (fun g => g.2.2.map ChS.l = l.map (chB cs sl))) (Y := (fun g => fun wy => SlT csnEnc 1 269 wy g.1 n g.2.2 ∧ Chs 268 g.2.2 wy)) rfl cb220 rfl rfl (fun wx hm => (choicesP_any cs A0 n0 c0 sl A1 n1 c1 l A n c wx (hm.fact 1 rfl).1 hco (by omega) (hm.fact 2 rfl).1 hso (by omega) (hm.fact 3 rfl).1 (by omega) hkeys).mono fun _ _ ⟨A9, c9, cx, he, h1, h2, h3, hg⟩ => ⟨(A9, c9, cx), he, h3, hg, ⟨h1, h2⟩⟩) (fun _ => (SlT.lasts2 rfl).and_ (Chs.lasts rfl)) ?_
    rintro ⟨A9, c9, cx⟩ hcx
    dsimp only at hcx ⊢
    refine wl_nil ?_
    refine nw 18 16255 (fun _ hm => ⟨hm.fa 1, hm.fa 2, hm.fa 3, hm.fa 4, trivial⟩) fun z => ?_
    refine wa_all [7, 14] (by kernel_rfl) rfl ⟨⟨_, rfl, ?_⟩, ⟨_, rfl, ?_⟩, trivial⟩
    ·refine wl_makeO (n := n) (sz := 1) (e := 9) (by_ := 16) (z := .string ⟨#[]⟩) (by kernel_rfl) (by kernel_rfl) rfl rfl (by omega) (by omega) (by omega) (by unfold maxLen; omega) (made_flat (enc := sgEnc) (x := (⟨#[]⟩ : ByteArray)) rfl rfl (by decide) (n)) rfl fun g41 => ?_
     refine wl_nil ?_
     refine nw 18 16383 (fun _ hm => ⟨hm.fa 1, hm.fa 2, hm.fa 3, hm.fa 4, trivial⟩) fun z => ?_
     refine wa1 14 rfl ?_
     refine wl_makeO (n := (n + 1)) (sz := 1) (e := 3) (by_ := 8) (z := .int .i64 0) (by kernel_rfl) (by kernel_rfl) rfl rfl (by omega) (by omega) (by omega) (by unfold maxLen; omega) (made_flat (enc := iEnc) (x := (0 : Int)) rfl rfl (by decide) (n + 1)) rfl fun g42 => ?_
     refine wl_nil ?_
     refine nw 18 32767 (fun _ hm => ⟨hm.fa 1, hm.fa 2, hm.fa 3, hm.fa 4, trivial⟩) fun z => ?_
     refine wt 15 18 65535 rfl z (ov_build (cs := [.slice A n c, .slice A9 n c9, .slice none 0 0, .slice (some ⟨g41, 0, none⟩) n n, .slice (some ⟨g40, 0, none⟩) n n, .slice (some ⟨g42, 0, none⟩) (n + 1) (n + 1), .int .i64 0]) rfl (by kernel_rfl)) ?_
     refine wa1 16 rfl ?_
     refine wl_box rfl rfl rfl fun g43 => ?_
     refine wl_nil ?_
     refine nw 18 131071 (fun _ hm => ⟨hm.fa 1, hm.fa 2, hm.fa 3, hm.fa 4, trivial⟩) fun z => ?_
     refine wt 17 18 262143 rfl z (ov_assign rfl) ?_
     refine wa_done (by kernel_rfl) ?_
     refine nx_also (Y := fun wy => SlT csnEnc 1 269 wy A9 n cx) (SlT.lasts2 rfl) (fun wx hm => (hm.fact 0 rfl).1) ?_
     refine nx_also (Y := fun wy => Chs 268 cx wy) (Chs.lasts rfl) (fun wx hm => (hm.fact 1 rfl).2) ?_
     refine nx_also (Y := fun _ => True) (Lasts2.true_) (fun wx hm => trivial) ?_
     exact nx_meet (A9, c9, cx, g43, g41, g40, g42) hcx ⟨rfl, rfl, rfl, rfl, rfl, trivial⟩ (fun _ hm => hm.pick [0] [1, 2, 0] [5, 6, 7, 2, 1, 0] rfl rfl)
    refine wl_makeO (n := (n + 1)) (sz := 1) (e := 3) (by_ := 8) (z := .int .i64 0) (by kernel_rfl) (by kernel_rfl) rfl rfl (by omega) (by omega) (by omega) (by unfold maxLen; omega) (made_flat (enc := iEnc) (x := (0 : Int)) rfl rfl (by decide) (n + 1)) rfl fun g44 => ?_
    refine wl_nil ?_
    refine nw 18 32639 (fun _ hm => ⟨hm.fa 1, hm.fa 2, hm.fa 3, hm.fa 4, trivial⟩) fun z => ?_
    refine wa1 7 rfl ?_
    refine wl_makeO (n := n) (sz := 1) (e := 9) (by_ := 16) (z := .string ⟨#[]⟩) (by kernel_rfl) (by kernel_rfl) rfl rfl (by omega) (by omega) (by omega) (by unfold maxLen; omega) (made_flat (enc := sgEnc) (x := (⟨#[]⟩ : ByteArray)) rfl rfl (by decide) (n)) rfl fun g45 => ?_
    refine wl_nil ?_
    refine nw 18 32767 (fun _ hm => ⟨hm.fa 1, hm.fa 2, hm.fa 3, hm.fa 4, trivial⟩) fun z => ?_
    refine wt 15 18 65535 rfl z (ov_build (cs := [.slice A n c, .slice A9 n c9, .slice none 0 0, .slice (some ⟨g45, 0, none⟩) n n, .slice (some ⟨g40, 0, none⟩) n n, .slice (some ⟨g44, 0, none⟩) (n + 1) (n + 1), .int .i64 0]) rfl (by kernel_rfl)) ?_
    refine wa1 16 rfl ?_
    refine wl_box rfl rfl rfl fun g46 => ?_
    refine wl_nil ?_
    refine nw 18 131071 (fun _ hm => ⟨hm.fa 1, hm.fa 2, hm.fa 3, hm.fa 4, trivial⟩) fun z => ?_
    refine wt 17 18 262143 rfl z (ov_assign rfl) ?_
    refine wa_done (by kernel_rfl) ?_
    refine nx_also (Y := fun wy => SlT csnEnc 1 269 wy A9 n cx) (SlT.lasts2 rfl) (fun wx hm => (hm.fact 0 rfl).1) ?_
    refine nx_also (Y := fun wy => Chs 268 cx wy) (Chs.lasts rfl) (fun wx hm => (hm.fact 1 rfl).2) ?_
    refine nx_also (Y := fun _ => True) (Lasts2.true_) (fun wx hm => trivial) ?_
    exact nx_meet (A9, c9, cx, g46, g45, g40, g44) hcx ⟨rfl, rfl, rfl, rfl, rfl, trivial⟩ (fun _ hm => hm.pick [0] [0, 2, 1] [5, 6, 7, 2, 1, 0] rfl rfl)
   ·refine wl_makeO (n := n) (sz := 1) (e := 9) (by_ := 16) (z := .string ⟨#[]⟩) (by kernel_rfl) (by kernel_rfl) rfl rfl (by omega) (by omega) (by omega) (by unfold maxLen; omega) (made_flat (enc := sgEnc) (x := (⟨#[]⟩ : ByteArray)) rfl rfl (by decide) (n)) rfl fun g47 => ?_
    refine wl_nil ?_
    refine nw 18 16367 (fun _ hm => ⟨hm.fa 0, hm.fa 1, hm.fa 2, hm.fa 3, trivial⟩) fun z => ?_
    refine wa_all [4, 14] (by kernel_rfl) rfl ⟨⟨_, rfl, ?_⟩, ⟨_, rfl, ?_⟩, trivial⟩
    ·refine wl_callx (γ := Option Addr × Nat × List ChS) (val := (fun g => .slice g.1 n g.2.1)) (φ := (fun g => g.2.2.map ChS.l = l.map (chB cs sl))) (Y := (fun g => fun wy => SlT csnEnc 1 269 wy g.1 n g.2.2 ∧ Chs 268 g.2.2 wy)) rfl cb220 rfl rfl (fun wx hm => (choicesP_any cs A0 n0 c0 sl A1 n1 c1 l A n c wx (hm.fact 1 rfl).1 hco (by omega) (hm.fact 2 rfl).1 hso (by omega) (hm.fact 3 rfl).1 (by omega) hkeys).mono fun _ _ ⟨A9, c9, cx, he, h1, h2, h3, hg⟩ => ⟨(A9, c9, cx), he, h3, hg, ⟨h1, h2⟩⟩) (fun _ => (SlT.lasts2 rfl).and_ (Chs.lasts rfl)) ?_
     rintro ⟨A9, c9, cx⟩ hcx
     dsimp only at hcx ⊢
     refine wl_nil ?_
     refine nw 18 16383 (fun _ hm => ⟨hm.fa 1, hm.fa 2, hm.fa 3, hm.fa 4, trivial⟩) fun z => ?_
     refine wa1 14 rfl ?_
     refine wl_makeO (n := (n + 1)) (sz := 1) (e := 3) (by_ := 8) (z := .int .i64 0) (by kernel_rfl) (by kernel_rfl) rfl rfl (by omega) (by omega) (by omega) (by unfold maxLen; omega) (made_flat (enc := iEnc) (x := (0 : Int)) rfl rfl (by decide) (n + 1)) rfl fun g48 => ?_
     refine wl_nil ?_
     refine nw 18 32767 (fun _ hm => ⟨hm.fa 1, hm.fa 2, hm.fa 3, hm.fa 4, trivial⟩) fun z => ?_
     refine wt 15 18 65535 rfl z (ov_build (cs := [.slice A n c, .slice A9 n c9, .slice none 0 0, .slice (some ⟨g47, 0, none⟩) n n, .slice (some ⟨g40, 0, none⟩) n n, .slice (some ⟨g48, 0, none⟩) (n + 1) (n + 1), .int .i64 0]) rfl (by kernel_rfl)) ?_
     refine wa1 16 rfl ?_
     refine wl_box rfl rfl rfl fun g49 => ?_
     refine wl_nil ?_
     refine nw 18 131071 (fun _ hm => ⟨hm.fa 1, hm.fa 2, hm.fa 3, hm.fa 4, trivial⟩) fun z => ?_
     refine wt 17 18 262143 rfl z (ov_assign rfl) ?_
     refine wa_done (by kernel_rfl) ?_
     refine nx_also (Y := fun wy => SlT csnEnc 1 269 wy A9 n cx) (SlT.lasts2 rfl) (fun wx hm => (hm.fact 0 rfl).1) ?_
     refine nx_also (Y := fun wy => Chs 268 cx wy) (Chs.lasts rfl) (fun wx hm => (hm.fact 1 rfl).2) ?_
     refine nx_also (Y := fun _ => True) (Lasts2.true_) (fun wx hm => trivial) ?_
     exact nx_meet (A9, c9, cx, g49, g47, g40, g48) hcx ⟨rfl, rfl, rfl, rfl, rfl, trivial⟩ (fun _ hm => hm.pick [0] [1, 2, 0] [5, 6, 7, 2, 1, 0] rfl rfl)
    refine wl_makeO (n := (n + 1)) (sz := 1) (e := 3) (by_ := 8) (z := .int .i64 0) (by kernel_rfl) (by kernel_rfl) rfl rfl (by omega) (by omega) (by omega) (by unfold maxLen; omega) (made_flat (enc := iEnc) (x := (0 : Int)) rfl rfl (by decide) (n + 1)) rfl fun g50 => ?_
    refine wl_nil ?_
    refine nw 18 32751 (fun _ hm => ⟨hm.fa 0, hm.fa 1, hm.fa 2, hm.fa 3, trivial⟩) fun z => ?_
    refine wa1 4 rfl ?_
    refine wl_callx (γ := Option Addr × Nat × List ChS) (val := (fun g => .slice g.1 n g.2.1)) (φ := (fun g => g.2.2.map ChS.l = l.map (chB cs sl))) (Y := (fun g => fun wy => SlT csnEnc 1 269 wy g.1 n g.2.2 ∧ Chs 268 g.2.2 wy)) rfl cb220 rfl rfl (fun wx hm => (choicesP_any cs A0 n0 c0 sl A1 n1 c1 l A n c wx (hm.fact 1 rfl).1 hco (by omega) (hm.fact 2 rfl).1 hso (by omega) (hm.fact 3 rfl).1 (by omega) hkeys).mono fun _ _ ⟨A9, c9, cx, he, h1, h2, h3, hg⟩ => ⟨(A9, c9, cx), he, h3, hg, ⟨h1, h2⟩⟩) (fun _ => (SlT.lasts2 rfl).and_ (Chs.lasts rfl)) ?_
    rintro ⟨A9, c9, cx⟩ hcx
    dsimp only at hcx ⊢
    refine wl_nil ?_
    refine nw 18 32767 (fun _ hm => ⟨hm.fa 1, hm.fa 2, hm.fa 3, hm.fa 4, trivial⟩) fun z => ?_
    refine wt 15 18 65535 rfl z (ov_build (cs := [.slice A n c, .slice A9 n c9, .slice none 0 0, .slice (some ⟨g47, 0, none⟩) n n, .slice (some ⟨g40, 0, none⟩) n n, .slice (some ⟨g50, 0, none⟩) (n + 1) (n + 1), .int .i64 0]) rfl (by kernel_rfl)) ?_
    refine wa1 16 rfl ?_
    refine wl_box rfl rfl rfl fun g51 => ?_
    refine wl_nil ?_
    refine nw 18 131071 (fun _ hm => ⟨hm.fa 1, hm.fa 2, hm.fa 3, hm.fa 4, trivial⟩) fun z => ?_
    refine wt 17 18 262143 rfl z (ov_assign rfl) ?_
    refine wa_done (by kernel_rfl) ?_
    refine nx_also (Y := fun wy => SlT csnEnc 1 269 wy A9 n cx) (SlT.lasts2 rfl) (fun wx hm => (hm.fact 0 rfl).1) ?_
    refine nx_also (Y := fun wy => Chs 268 cx wy) (Chs.lasts rfl) (fun wx hm => (hm.fact 1 rfl).2) ?_
    refine nx_also (Y := fun _ => True) (Lasts2.true_) (fun wx hm => trivial) ?_
    exact nx_meet (A9, c9, cx, g51, g47, g40, g50) hcx ⟨rfl, rfl, rfl, rfl, rfl, trivial⟩ (fun _ hm => hm.pick [0] [1, 2, 0] [5, 6, 7, 2, 1, 0] rfl rfl)
   refine wl_makeO (n := (n + 1)) (sz := 1) (e := 3) (by_ := 8) (z := .int .i64 0) (by kernel_rfl) (by kernel_rfl) rfl rfl (by omega) (by omega) (by omega) (by unfold maxLen; omega) (made_flat (enc := iEnc) (x := (0 : Int)) rfl rfl (by decide) (n + 1)) rfl fun g52 => ?_
   refine wl_nil ?_
   refine nw 18 32623 (fun _ hm => ⟨hm.fa 0, hm.fa 1, hm.fa 2, hm.fa 3, trivial⟩) fun z => ?_
   refine wa_all [4, 7] (by kernel_rfl) rfl ⟨⟨_, rfl, ?_⟩, ⟨_, rfl, ?_⟩, trivial⟩
   ·refine wl_callx (γ := Option Addr × Nat × List ChS) (val := (fun g => .slice g.1 n g.2.1)) (φ := (fun g => g.2.2.map ChS.l = l.map (chB cs sl))) (Y := (fun g => fun wy => SlT csnEnc 1 269 wy g.1 n g.2.2 ∧ Chs 268 g.2.2 wy)) rfl cb220 rfl rfl (fun wx hm => (choicesP_any cs A0 n0 c0 sl A1 n1 c1 l A n c wx (hm.fact 1 rfl).1 hco (by omega) (hm.fact 2 rfl).1 hso (by omega) (hm.fact 3 rfl).1 (by omega) hkeys).mono fun _ _ ⟨A9, c9, cx, he, h1, h2, h3, hg⟩ => ⟨(A9, c9, cx), he, h3, hg, ⟨h1, h2⟩⟩) (fun _ => (SlT.lasts2 rfl).and_ (Chs.lasts rfl)) ?_
    rintro ⟨A9, c9, cx⟩ hcx
    dsimp only at hcx ⊢
    refine wl_nil ?_
    refine nw 18 32639 (fun _ hm => ⟨hm.fa 1, hm.fa 2, hm.fa 3, hm.fa 4, trivial⟩) fun z => ?_
    refine wa1 7 rfl ?_
    refine wl_makeO (n := n) (sz := 1) (e := 9) (by_ := 16) (z := .string ⟨#[]⟩) (by kernel_rfl) (by kernel_rfl) rfl rfl (by omega) (by omega) (by omega) (by unfold maxLen; omega) (made_flat (enc := sgEnc) (x := (⟨#[]⟩ : ByteArray)) rfl rfl (by decide) (n)) rfl fun g53 => ?_
    refine wl_nil ?_
    refine nw 18 32767 (fun _ hm => ⟨hm.fa 1, hm.fa 2, hm.fa 3, hm.fa 4, trivial⟩) fun z => ?_
    refine wt 15 18 65535 rfl z (ov_build (cs := [.slice A n c, .slice A9 n c9, .slice none 0 0, .slice (some ⟨g53, 0, none⟩) n n, .slice (some ⟨g40, 0, none⟩) n n, .slice (some ⟨g52, 0, none⟩) (n + 1) (n + 1), .int .i64 0]) rfl (by kernel_rfl)) ?_
    refine wa1 16 rfl ?_
    refine wl_box rfl rfl rfl fun g54 => ?_
    refine wl_nil ?_
    refine nw 18 131071 (fun _ hm => ⟨hm.fa 1, hm.fa 2, hm.fa 3, hm.fa 4, trivial⟩) fun z => ?_
    refine wt 17 18 262143 rfl z (ov_assign rfl) ?_
    refine wa_done (by kernel_rfl) ?_
    refine nx_also (Y := fun wy => SlT csnEnc 1 269 wy A9 n cx) (SlT.lasts2 rfl) (fun wx hm => (hm.fact 0 rfl).1) ?_
    refine nx_also (Y := fun wy => Chs 268 cx wy) (Chs.lasts rfl) (fun wx hm => (hm.fact 1 rfl).2) ?_
    refine nx_also (Y := fun _ => True) (Lasts2.true_) (fun wx hm => trivial) ?_
    exact nx_meet (A9, c9, cx, g54, g53, g40, g52) hcx ⟨rfl, rfl, rfl, rfl, rfl, trivial⟩ (fun _ hm => hm.pick [0] [0, 2, 1] [5, 6, 7, 2, 1, 0] rfl rfl)
   refine wl_makeO (n := n) (sz := 1) (e := 9) (by_ := 16) (z := .string ⟨#[]⟩) (by kernel_rfl) (by kernel_rfl) rfl rfl (by omega) (by omega) (by omega) (by unfold maxLen; omega) (made_flat (enc := sgEnc) (x := (⟨#[]⟩ : ByteArray)) rfl rfl (by decide) (n)) rfl fun g55 => ?_
   refine wl_nil ?_
   refine nw 18 32751 (fun _ hm => ⟨hm.fa 0, hm.fa 1, hm.fa 2, hm.fa 3, trivial⟩) fun z => ?_
   refine wa1 4 rfl ?_
   refine wl_callx (γ := Option Addr × Nat × List ChS) (val := (fun g => .slice g.1 n g.2.1)) (φ := (fun g => g.2.2.map ChS.l = l.map (chB cs sl))) (Y := (fun g => fun wy => SlT csnEnc 1 269 wy g.1 n g.2.2 ∧ Chs 268 g.2.2 wy)) rfl cb220 rfl rfl (fun wx hm => (choicesP_any cs A0 n0 c0 sl A1 n1 c1 l A n c wx (hm.fact 1 rfl).1 hco (by omega) (hm.fact 2 rfl).1 hso (by omega) (hm.fact 3 rfl).1 (by omega) hkeys).mono fun _ _ ⟨A9, c9, cx, he, h1, h2, h3, hg⟩ => ⟨(A9, c9, cx), he, h3, hg, ⟨h1, h2⟩⟩) (fun _ => (SlT.lasts2 rfl).and_ (Chs.lasts rfl)) ?_
   rintro ⟨A9, c9, cx⟩ hcx
   dsimp only at hcx ⊢
   refine wl_nil ?_
   refine nw 18 32767 (fun _ hm => ⟨hm.fa 1, hm.fa 2, hm.fa 3, hm.fa 4, trivial⟩) fun z => ?_
   refine wt 15 18 65535 rfl z (ov_build (cs := [.slice A n c, .slice A9 n c9, .slice none 0 0, .slice (some ⟨g55, 0, none⟩) n n, .slice (some ⟨g40, 0, none⟩) n n, .slice (some ⟨g52, 0, none⟩) (n + 1) (n + 1), .int .i64 0]) rfl (by kernel_rfl)) ?_
   refine wa1 16 rfl ?_
   refine wl_box rfl rfl rfl fun g56 => ?_
   refine wl_nil ?_
   refine nw 18 131071 (fun _ hm => ⟨hm.fa 1, hm.fa 2, hm.fa 3, hm.fa 4, trivial⟩) fun z => ?_
   refine wt 17 18 262143 rfl z (ov_assign rfl) ?_
   refine wa_done (by kernel_rfl) ?_
   refine nx_also (Y := fun wy => SlT csnEnc 1 269 wy A9 n cx) (SlT.lasts2 rfl) (fun wx hm => (hm.fact 0 rfl).1) ?_
   refine nx_also (Y := fun wy => Chs 268 cx wy) (Chs.lasts rfl) (fun wx hm => (hm.fact 1 rfl).2) ?_
   refine nx_also (Y := fun _ => True) (Lasts2.true_) (fun wx hm => trivial) ?_
   exact nx_meet (A9, c9, cx, g56, g55, g40, g52) hcx ⟨rfl, rfl, rfl, rfl, rfl, trivial⟩ (fun _ hm => hm.pick [0] [0, 2, 1] [5, 6, 7, 2, 1, 0] rfl rfl)
  refine wl_makeO (n := (n + 1)) (sz := 1) (e := 3) (by_ := 8) (z := .int .i64 0) (by kernel_rfl) (by kernel_rfl) rfl rfl (by omega) (by omega) (by omega) (by unfold maxLen; omega) (made_flat (enc := iEnc) (x := (0 : Int)) rfl rfl (by decide) (n + 1)) rfl fun g57 => ?_
  refine wl_nil ?_
  refine nw 18 31599 (fun _ hm => ⟨hm.fa 0, hm.fa 1, hm.fa 2, hm.fa 3, trivial⟩) fun z => ?_
  refine wa_all [4, 7, 10] (by kernel_rfl) rfl ⟨⟨_, rfl, ?_⟩, ⟨_, rfl, ?_⟩, ⟨_, rfl, ?_⟩, trivial⟩
  ·refine wl_callx (γ := Option Addr × Nat × List ChS) (val := (fun g => .slice g.1 n g.2.1)) (φ := (fun g => g.2.2.map ChS.l = l.map (chB cs sl))) (Y := (fun g => fun wy => SlT csnEnc 1 269 wy g.1 n g.2.2 ∧ Chs 268 g.2.2 wy)) rfl cb220 rfl rfl (fun wx hm => (choicesP_any cs A0 n0 c0 sl A1 n1 c1 l A n c wx (hm.fact 1 rfl).1 hco (by omega) (hm.fact 2 rfl).1 hso (by omega) (hm.fact 3 rfl).1 (by omega) hkeys).mono fun _ _ ⟨A9, c9, cx, he, h1, h2, h3, hg⟩ => ⟨(A9, c9, cx), he, h3, hg, ⟨h1, h2⟩⟩) (fun _ => (SlT.lasts2 rfl).and_ (Chs.lasts rfl)) ?_
   rintro ⟨A9, c9, cx⟩ hcx
   dsimp only at hcx ⊢
   refine wl_nil ?_
   refine nw 18 31615 (fun _ hm => ⟨hm.fa 1, hm.fa 2, hm.fa 3, hm.fa 4, trivial⟩) fun z => ?_
   refine wa_all [7, 10] (by kernel_rfl) rfl ⟨⟨_, rfl, ?_⟩, ⟨_, rfl, ?_⟩, trivial⟩
   ·refine wl_makeO (n := n) (sz := 1) (e := 9) (by_ := 16) (z := .string ⟨#[]⟩) (by kernel_rfl) (by kernel_rfl) rfl rfl (by omega) (by omega) (by omega) (by unfold maxLen; omega) (made_flat (enc := sgEnc) (x := (⟨#[]⟩ : ByteArray)) rfl rfl (by decide) (n)) rfl fun g58 => ?_
    refine wl_nil ?_
    refine nw 18 31743 (fun _ hm => ⟨hm.fa 1, hm.fa 2, hm.fa 3, hm.fa 4, trivial⟩) fun z => ?_
    refine wa1 10 rfl ?_
    refine wl_makeO (n := n) (sz := 1) (e := 3) (by_ := 8) (z := .int .i64 0) (by kernel_rfl) (by kernel_rfl) rfl rfl (by omega) (by omega) (by omega) (by unfold maxLen; omega) (made_flat (enc := iEnc) (x := (0 : Int)) rfl rfl (by decide) (n)) rfl fun g59 => ?_
    refine wl_nil ?_
    refine nw 18 32767 (fun _ hm => ⟨hm.fa 1, hm.fa 2, hm.fa 3, hm.fa 4, trivial⟩) fun z => ?_
    refine wt 15 18 65535 rfl z (ov_build (cs := [.slice A n c, .slice A9 n c9, .slice none 0 0, .slice (some ⟨g58, 0, none⟩) n n, .slice (some ⟨g59, 0, none⟩) n n, .slice (some ⟨g57, 0, none⟩) (n + 1) (n + 1), .int .i64 0]) rfl (by kernel_rfl)) ?_
    refine wa1 16 rfl ?_
    refine wl_box rfl rfl rfl fun g60 => ?_
    refine wl_nil ?_
    refine nw 18 131071 (fun _ hm => ⟨hm.fa 1, hm.fa 2, hm.fa 3, hm.fa 4, trivial⟩) fun z => ?_
    refine wt 17 18 262143 rfl z (ov_assign rfl) ?_
    refine wa_done (by kernel_rfl) ?_
    refine nx_also (Y := fun wy => SlT csnEnc 1 269 wy A9 n cx) (SlT.lasts2 rfl) (fun wx hm => (hm.fact 0 rfl).1) ?_
    refine nx_also (Y := fun wy => Chs 268 cx wy) (Chs.lasts rfl) (fun wx hm => (hm.fact 1 rfl).2) ?_
    refine nx_also (Y := fun _ => True) (Lasts2.true_) (fun wx hm => trivial) ?_
    exact nx_meet (A9, c9, cx, g60, g58, g59, g57) hcx ⟨rfl, rfl, rfl, rfl, rfl, trivial⟩ (fun _ hm => hm.pick [0] [1, 0, 2] [5, 6, 7, 2, 1, 0] rfl rfl)
   refine wl_makeO (n := n) (sz := 1) (e := 3) (by_ := 8) (z := .int .i64 0) (by kernel_rfl) (by kernel_rfl) rfl rfl (by omega) (by omega) (by omega) (by unfold maxLen; omega) (made_flat (enc := iEnc) (x := (0 : Int)) rfl rfl (by decide) (n)) rfl fun g61 => ?_
   refine wl_nil ?_
   refine nw 18 32639 (fun _ hm => ⟨hm.fa 1, hm.fa 2, hm.fa 3, hm.fa 4, trivial⟩) fun z => ?_
   refine wa1 7 rfl ?_
   refine wl_makeO (n := n) (sz := 1) (e := 9) (by_ := 16) (z := .string ⟨#[]⟩) (by kernel_rfl) (by kernel_rfl) rfl rfl (by omega) (by omega) (by omega) (by unfold maxLen; omega) (made_flat (enc := sgEnc) (x := (⟨#[]⟩ : ByteArray)) rfl rfl (by decide) (n)) rfl fun g62 => ?_
   refine wl_nil ?_
   refine nw 18 32767 (fun _ hm => ⟨hm.fa 1, hm.fa 2, hm.fa 3, hm.fa 4, trivial⟩) fun z => ?_
   refine wt 15 18 65535 rfl z (ov_build (cs := [.slice A n c, .slice A9 n c9, .slice none 0 0, .slice (some ⟨g62, 0, none⟩) n n, .slice (some ⟨g61, 0, none⟩) n n, .slice (some ⟨g57, 0, none⟩) (n + 1) (n + 1), .int .i64 0]) rfl (by kernel_rfl)) ?_
   refine wa1 16 rfl ?_
   refine wl_box rfl rfl rfl fun g63 => ?_
   refine wl_nil ?_
   refine nw 18 131071 (fun _ hm => ⟨hm.fa 1, hm.fa 2, hm.fa 3, hm.fa 4, trivial⟩) fun z => ?_
   refine wt 17 18 262143 rfl z (ov_assign rfl) ?_
   refine wa_done (by kernel_rfl) ?_
   refine nx_also (Y := fun wy => SlT csnEnc 1 269 wy A9 n cx) (SlT.lasts2 rfl) (fun wx hm => (hm.fact 0 rfl).1) ?_
   refine nx_also (Y := fun wy => Chs 268 cx wy) (Chs.lasts rfl) (fun wx hm => (hm.fact 1 rfl).2) ?_
   refine nx_also (Y := fun _ => True) (Lasts2.true_) (fun wx hm => trivial) ?_
   exact nx_meet (A9, c9, cx, g63, g62, g61, g57) hcx ⟨rfl, rfl, rfl, rfl, rfl, trivial⟩ (fun _ hm => hm.pick [0] [0, 1, 2] [5, 6, 7, 2, 1, 0] rfl rfl)
  ·refine wl_makeO (n := n) (sz := 1) (e := 9) (by_ := 16) (z := .string ⟨#[]⟩) (by kernel_rfl) (by kernel_rfl) rfl rfl (by omega) (by omega) (by omega) (by unfold maxLen; omega) (made_flat (enc := sgEnc) (x := (⟨#[]⟩ : ByteArray)) rfl rfl (by decide) (n)) rfl fun g64 => ?_
   refine wl_nil ?_
   refine nw 18 31727 (fun _ hm => ⟨hm.fa 0, hm.fa 1, hm.fa 2, hm.fa 3, trivial⟩) fun z => ?_
   refine wa_all [4, 10] (by kernel_rfl) rfl ⟨⟨_, rfl, ?_⟩, ⟨_, rfl, ?_⟩, trivial⟩
   ·refine wl_callx (γ := Option Addr × Nat × List ChS) (val := (fun g => .slice g.1 n g.2.1)) (φ := (fun g => g.2.2.map ChS.l = l.map (chB cs sl))) (Y := (fun g => fun wy => SlT csnEnc 1 269 wy g.1 n g.2.2 ∧ Chs 268 g.2.2 wy)) rfl cb220 rfl rfl (fun wx hm => (choicesP_any cs A0 n0 c0 sl A1 n1 c1 l A n c wx (hm.fact 1 rfl).1 hco (by omega) (hm.fact 2 rfl).1 hso (by omega) (hm.fact 3 rfl).1 (by omega) hkeys).mono fun _ _ ⟨A9, c9, cx, he, h1, h2, h3, hg⟩ => ⟨(A9, c9, cx), he, h3, hg, ⟨h1, h2⟩⟩) (fun _ => (SlT.lasts2 rfl).and_ (Chs.lasts rfl)) ?_
    rintro ⟨A9, c9, cx⟩ hcx
    dsimp only at hcx ⊢
    refine wl_nil ?_
    refine nw 18 31743 (fun _ hm => ⟨hm.fa 1, hm.fa 2, hm.fa 3, hm.fa 4, trivial⟩) fun z => ?_
    refine wa1 10 rfl ?_
    refine wl_makeO (n := n) (sz := 1) (e := 3) (by_ := 8) (z := .int .i64 0) (by kernel_rfl) (by kernel_rfl) rfl rfl (by omega) (by omega) (by omega) (by unfold maxLen; omega) (made_flat (enc := iEnc) (x := (0 : Int)) rfl rfl (by decide) (n)) rfl fun g65 => ?_
    refine wl_nil ?_
    refine nw 18 32767 (fun _ hm => ⟨hm.fa 1, hm.fa 2, hm.fa 3, hm.fa 4, trivial⟩) fun z => ?_
    refine wt 15 18 65535 rfl z (ov_build (cs := [.slice A n c, .slice A9 n c9, .slice none 0 0, .slice (some ⟨g64, 0, none⟩) n n, .slice (some ⟨g65, 0, none⟩) n n, .slice (some ⟨g57, 0, none⟩) (n + 1) (n + 1), .int .i64 0]) rfl (by kernel_rfl)) ?_
    refine wa1 16 rfl ?_
    refine wl_box rfl rfl rfl fun g66 => ?_
    refine wl_nil ?_
    refine nw 18 131071 (fun _ hm => ⟨hm.fa 1, hm.fa 2, hm.fa 3, hm.fa 4, trivial⟩) fun z => ?_
    refine wt 17 18 262143 rfl z (ov_assign rfl) ?_
    refine wa_done (by kernel_rfl) ?_
    refine nx_also (Y := fun wy => SlT csnEnc 1 269 wy A9 n cx) (SlT.lasts2 rfl) (fun wx hm => (hm.fact 0 rfl).1) ?_
    refine nx_also (Y := fun wy => Chs 268 cx wy) (Chs.lasts rfl) (fun wx hm => (hm.fact 1 rfl).2) ?_
    refine nx_also (Y := fun _ => True) (Lasts2.true_) (fun wx hm => trivial) ?_
    exact nx_meet (A9, c9, cx, g66, g64, g65, g57) hcx ⟨rfl, rfl, rfl, rfl, rfl, trivial⟩ (fun _ hm => hm.pick [0] [1, 0, 2] [5, 6, 7, 2, 1, 0] rfl rfl)
   refine wl_makeO (n := n) (sz := 1) (e := 3) (by_ := 8) (z := .int .i64 0) (by kernel_rfl) (by kernel_rfl) rfl rfl (by omega) (by omega) (by omega) (by unfold maxLen; omega) (made_flat (enc := iEnc) (x := (0 : Int)) rfl rfl (by decide) (n)) rfl fun g67 => ?_
   refine wl_nil ?_
   refine nw 18 32751 (fun _ hm => ⟨hm.fa 0, hm.fa 1, hm.fa 2, hm.fa 3, trivial⟩) fun z => ?_
   refine wa1 4 rfl ?_
   refine wl_callx (γ := Option Addr × Nat × List ChS) (val := (fun g => .slice g.1 n g.2.1)) (φ := (fun g => g.2.2.map ChS.l = l.map (chB cs sl))) (Y := (fun g => fun wy => SlT csnEnc 1 269 wy g.1 n g.2.2 ∧ Chs 268 g.2.2 wy)) rfl cb220 rfl rfl (fun wx hm => (choicesP_any cs A0 n0 c0 sl A1 n1 c1 l A n c wx (hm.fact 1 rfl).1 hco (by omega) (hm.fact 2 rfl).1 hso (by omega) (hm.fact 3 rfl).1 (by omega) hkeys).mono fun _ _ ⟨A9, c9, cx, he, h1, h2, h3, hg⟩ => ⟨(A9, c9, cx), he, h3, hg, ⟨h1, h2⟩⟩) (fun _ => (SlT.lasts2 rfl).and_ (Chs.lasts rfl)) ?_
   rintro ⟨A9, c9, cx⟩ hcx
   dsimp only at hcx ⊢
   refine wl_nil ?_
   refine nw 18 32767 (fun _ hm => ⟨hm.fa 1, hm.fa 2, hm.fa 3, hm.fa 4, trivial⟩) fun z => ?_
   refine wt 15 18 65535 rfl z (ov_build (cs := [.slice A n c, .slice A9 n c9, .slice none 0 0, .slice (some ⟨g64, 0, none⟩) n n, .slice (some ⟨g67, 0, none⟩) n n, .slice (some ⟨g57, 0, none⟩) (n + 1) (n + 1), .int .i64 0]) rfl (by kernel_rfl)) ?_
   refine wa1 16 rfl ?_
   refine wl_box rfl rfl rfl fun g68 => ?_
   refine wl_nil ?_
   refine nw 18 131071 (fun _ hm => ⟨hm.fa 1, hm.fa 2, hm.fa 3, hm.fa 4, trivial⟩) fun z => ?_
   refine wt 17 18 262143 rfl z (ov_assign rfl) ?_
   refine wa_done (by kernel_rfl) ?_
   refine nx_also (Y := fun wy => SlT csnEnc 1 269 wy A9 n cx) (SlT.lasts2 rfl) (fun wx hm => (hm.fact 0 rfl).1) ?_
   refine nx_also (Y := fun wy => Chs 268 cx wy) (Chs.lasts rfl) (fun wx hm => (hm.fact 1 rfl).2) ?_
   refine nx_also (Y := fun _ => True) (Lasts2.true_) (fun wx hm => trivial) ?_
   exact nx_meet (A9, c9, cx, g68, g64, g67, g57) hcx ⟨rfl, rfl, rfl, rfl, rfl, trivial⟩ (fun _ hm => hm.pick [0] [1, 0, 2] [5, 6, 7, 2, 1, 0] rfl rfl)
  refine wl_makeO (n := n) (sz := 1) (e := 3) (by_ := 8) (z := .int .i64 0) (by kernel_rfl) (by kernel_rfl) rfl rfl (by omega) (by omega) (by omega) (by unfold maxLen; omega) (made_flat (enc := iEnc) (x := (0 : Int)) rfl rfl (by decide) (n)) rfl fun g69 => ?_
  refine wl_nil ?_
  refine nw 18 32623 (fun _ hm => ⟨hm.fa 0, hm.fa 1, hm.fa 2, hm.fa 3, trivial⟩) fun z => ?_
  refine wa_all [4, 7] (by kernel_rfl) rfl ⟨⟨_, rfl, ?_⟩, ⟨_, rfl, ?_⟩, trivial⟩
  ·refine wl_callx (γ := Option Addr × Nat × List ChS) (val := (fun g => .slice g.1 n g.2.1)) (φ := (fun g => g.2.2.map ChS.l = l.map (chB cs sl))) (Y := (fun g => fun wy => SlT csnEnc 1 269 wy g.1 n g.2.2 ∧ Chs 268 g.2.2 wy)) rfl cb220 rfl rfl (fun wx hm => (choicesP_any cs A0 n0 c0 sl A1 n1 c1 l A n c wx (hm.fact 1 rfl).1 hco (by omega) (hm.fact 2 rfl).1 hso (by omega) (hm.fact 3 rfl).1 (by omega) hkeys).mono fun _ _ ⟨A9, c9, cx, he, h1, h2, h3, hg⟩ => ⟨(A9, c9, cx), he, h3, hg, ⟨h1, h2⟩⟩) (fun _ => (SlT.lasts2 rfl).and_ (Chs.lasts rfl)) ?_
   rintro ⟨A9, c9, cx⟩ hcx
   dsimp only at hcx ⊢
   refine wl_nil ?_
   refine nw 18 32639 (fun _ hm => ⟨hm.fa 1, hm.fa 2, hm.fa 3, hm.fa 4, trivial⟩) fun z => ?_
   refine wa1 7 rfl ?_
   refine wl_makeO (n := n) (sz := 1) (e := 9) (by_ := 16) (z := .string ⟨#[]⟩) (by kernel_rfl) (by kernel_rfl) rfl rfl (by omega) (by omega) (by omega) (by unfold maxLen; omega) (made_flat (enc := sgEnc) (x := (⟨#[]⟩ : ByteArray)) rfl rfl (by decide) (n)) rfl fun g70 => ?_
   refine wl_nil ?_
   refine nw 18 32767 (fun _ hm => ⟨hm.fa 1, hm.fa 2, hm.fa 3, hm.fa 4, trivial⟩) fun z => ?_
   refine wt 15 18 65535 rfl z (ov_build (cs := [.slice A n c, .slice A9 n c9, .slice none 0 0, .slice (some ⟨g70, 0, none⟩) n n, .slice (some ⟨g69, 0, none⟩) n n, .slice (some ⟨g57, 0, none⟩) (n + 1) (n + 1), .int .i64 0]) rfl (by kernel_rfl)) ?_
   refine wa1 16 rfl ?_
   refine wl_box rfl rfl rfl fun g71 => ?_
   refine wl_nil ?_
   refine nw 18 131071 (fun _ hm => ⟨hm.fa 1, hm.fa 2, hm.fa 3, hm.fa 4, trivial⟩) fun z => ?_
   refine wt 17 18 262143 rfl z (ov_assign rfl) ?_
   refine wa_done (by kernel_rfl) ?_
   refine nx_also (Y := fun wy => SlT csnEnc 1 269 wy A9 n cx) (SlT.lasts2 rfl) (fun wx hm => (hm.fact 0 rfl).1) ?_
   refine nx_also (Y := fun wy => Chs 268 cx wy) (Chs.lasts rfl) (fun wx hm => (hm.fact 1 rfl).2) ?_
   refine nx_also (Y := fun _ => True) (Lasts2.true_) (fun wx hm => trivial) ?_
   exact nx_meet (A9, c9, cx, g71, g70, g69, g57) hcx ⟨rfl, rfl, rfl, rfl, rfl, trivial⟩ (fun _ hm => hm.pick [0] [0, 1, 2] [5, 6, 7, 2, 1, 0] rfl rfl)
  refine wl_makeO (n := n) (sz := 1) (e := 9) (by_ := 16) (z := .string ⟨#[]⟩) (by kernel_rfl) (by kernel_rfl) rfl rfl (by omega) (by omega) (by omega) (by unfold maxLen; omega) (made_flat (enc := sgEnc) (x := (⟨#[]⟩ : ByteArray)) rfl rfl (by decide) (n)) rfl fun g72 => ?_
  refine wl_nil ?_
  refine nw 18 32751 (fun _ hm => ⟨hm.fa 0, hm.fa 1, hm.fa 2, hm.fa 3, trivial⟩) fun z => ?_
  refine wa1 4 rfl ?_
  refine wl_callx (γ := Option Addr × Nat × List ChS) (val := (fun g => .slice g.1 n g.2.1)) (φ := (fun g => g.2.2.map ChS.l = l.map (chB cs sl))) (Y := (fun g => fun wy => SlT csnEnc 1 269 wy g.1 n g.2.2 ∧ Chs 268 g.2.2 wy)) rfl cb220 rfl rfl (fun wx hm => (choicesP_any cs A0 n0 c0 sl A1 n1 c1 l A n c wx (hm.fact 1 rfl).1 hco (by omega) (hm.fact 2 rfl).1 hso (by omega) (hm.fact 3 rfl).1 (by omega) hkeys).mono fun _ _ ⟨A9, c9, cx, he, h1, h2, h3, hg⟩ => ⟨(A9, c9, cx), he, h3, hg, ⟨h1, h2⟩⟩) (fun _ => (SlT.lasts2 rfl).and_ (Chs.lasts rfl)) ?_
  rintro ⟨A9, c9, cx⟩ hcx
  dsimp only at hcx ⊢
  refine wl_nil ?_
  refine nw 18 32767 (fun _ hm => ⟨hm.fa 1, hm.fa 2, hm.fa 3, hm.fa 4, trivial⟩) fun z => ?_
  refine wt 15 18 65535 rfl z (ov_build (cs := [.slice A n c, .slice A9 n c9, .slice none 0 0, .slice (some ⟨g72, 0, none⟩) n n, .slice (some ⟨g69, 0, none⟩) n n, .slice (some ⟨g57, 0, none⟩) (n + 1) (n + 1), .int .i64 0]) rfl (by kernel_rfl)) ?_
  refine wa1 16 rfl ?_
  refine wl_box rfl rfl rfl fun g73 => ?_
  refine wl_nil ?_
  refine nw 18 131071 (fun _ hm => ⟨hm.fa 1, hm.fa 2, hm.fa 3, hm.fa 4, trivial⟩) fun z => ?_
  refine wt 17 18 262143 rfl z (ov_assign rfl) ?_
  refine wa_done (by kernel_rfl) ?_
  refine nx_also (Y := fun wy => SlT csnEnc 1 269 wy A9 n cx) (SlT.lasts2 rfl) (fun wx hm => (hm.fact 0 rfl).1) ?_
  refine nx_also (Y := fun wy => Chs 268 cx wy) (Chs.lasts rfl) (fun wx hm => (hm.fact 1 rfl).2) ?_
  refine nx_also (Y := fun _ => True) (Lasts2.true_) (fun wx hm => trivial) ?_
  exact nx_meet (A9, c9, cx, g73, g72, g69, g57) hcx ⟨rfl, rfl, rfl, rfl, rfl, trivial⟩ (fun _ hm => hm.pick [0] [0, 1, 2] [5, 6, 7, 2, 1, 0] rfl rfl)
 rintro ⟨A9, c9, cx, gx, gc, gu, gr⟩ hinv
 replace hinv : cx.map ChS.l = l.map (chB cs sl) := hinv
 dsimp only
 refine gw_seq (sr_ ?_)
 have hcx : cx.map ChS.l = l.map (chB cs sl) := hinv
 have hcxl : cx.length = n := by have h := congrArg List.length hcx; rw [List.length_map, List.length_map] at h; omega
 refine wl_look (R := (∀ x ∈ cx, x.l.length = x.n) ∧ (0 < n → ∃ b9 o9, A9 = some ⟨b9, o9, none⟩) ∧ ∀ x ∈ cx, 0 < x.n → ∃ bi oi, x.A = some ⟨bi, oi, none⟩) (fun wx hm => ⟨fun x hx => ((hm.fact 4 rfl) x hx).len, fun h0 => by
  obtain ⟨b9, o9, e, _⟩ := (hm.fact 3 rfl).get h0
  exact ⟨b9, o9, e⟩, fun x hx h0 => by
  obtain ⟨b9, o9, e, _⟩ := ((hm.fact 4 rfl) x hx).get h0
  exact ⟨b9, o9, e⟩⟩) ?_
 rintro ⟨hcn, h9, hin⟩
 refine wl_nilOwn 3 1 ?_
 refine mv_ rfl (wl_ov (ov_len es76 rfl) rfl (mv_ rfl (nn_ (gw_block ?_))))
 refine gw_loop (γ := Nat × Value) (fun g => g.1 ≤ n) (fun g => [(2, .slice A n c), (6, .slice none 0 0), (7, .bool false), (8, .int .i64 ((k : Nat) : Int)), (9, .pointer (some ⟨gx, 0, none⟩)), (39, .int .i64 ((n : Nat) : Int)), (40, .int .i64 ((g.1 : Nat) : Int))]) (fun g => fun _ => True) (fun g => [(gx, 266, [.slice A n c, .slice A9 n c9, g.2, .slice (some ⟨gc, 0, none⟩) n n, .slice (some ⟨gu, 0, none⟩) n n, .slice (some ⟨gr, 0, none⟩) (n + 1) (n + 1), .int .i64 0])]) (fun g => [⟨g.2, 3, 1, g.1, (List.range g.1).flatMap nEnc⟩, ⟨.slice (some ⟨gc, 0, none⟩) n n, 9, 1, n, (List.replicate (n) (⟨#[]⟩ : ByteArray)).flatMap sgEnc⟩, ⟨.slice (some ⟨gu, 0, none⟩) n n, 3, 1, n, (List.replicate (n) (0 : Int)).flatMap iEnc⟩, ⟨.slice (some ⟨gr, 0, none⟩) (n + 1) (n + 1), 3, 1, (n + 1), (List.replicate (n + 1) (0 : Int)).flatMap iEnc⟩]) (fun g => [SlOld csEnc 2 158 w.heap.size none A0 n0 cs, SlOld skEnc 2 211 w.heap.size none A1 n1 sl, SlOld bkEnc 6 92 w.heap.size none A n l, fun wy => SlT csnEnc 1 269 wy A9 n cx, fun wy => Chs 268 cx wy, fun _ => True]) (fun g => n - g.1) (0, .slice none 0 0) (Nat.zero_le _) ⟨rfl, rfl, rfl, rfl, rfl, rfl, rfl, trivial⟩ (fun _ hm => hm.pick [0] [0, 1, 2, 3] [0, 1, 2, 3, 4, 5] rfl rfl) ?_
 rintro ⟨i, v⟩ hinv
 replace hinv : i ≤ n := hinv
 dsimp only
 refine sr_ (wl_ov (ov_lss rfl rfl) rfl (nn_ (gw_seq ?_)))
 refine gw_cond rfl (fun hh => ?_) (fun hh => ?_)
 ·have hi : ((i : Nat) : Int) < ((n : Nat) : Int) := by simpa using hh
  clear hh
  refine gw_skip (nx_then (gw_seq (gw_block (sr_ (mv_ rfl (sg_ rfl (nn_ (gw_region (mv_ rfl (mv_ rfl (wl_ov (ov_nilcheck rfl) rfl ?_)))))))))))
  refine fd_ fo266_2 rfl rfl (lk_ sc22 0 rfl rfl rfl (mv_ rfl ?_))
  refine wl_buildSlice (e := 3) (cs := [.int .i64 ((i : Nat) : Int)]) rfl (by kernel_rfl) rfl fun g74 => ?_
  refine wl_append (news := [.int .i64 ((i : Nat) : Int)]) 0 0 ap22 rfl rfl rfl rfl rfl rfl rfl (by omega) (by unfold maxLen; omega) rfl rfl fun v2 hv2 => ?_
  rw [show (List.range i).flatMap nEnc ++ ([.int .i64 ((i : Nat) : Int)] : List Value) = (List.range (i + 1)).flatMap nEnc from by rw [List.range_succ, List.flatMap_append]; simp [nEnc]]
  refine wl_look (R := ∃ A cc, v2 = .slice A (i + 1) cc) (fun wx hm => own_slice (hm.ownI 0 rfl)) ?_
  rintro ⟨Ao, co, rfl⟩
  refine wl_ov (ov_nilcheck rfl) rfl (fd_ fo266_2 rfl rfl ?_)
  refine wl_store 1 sc22 rfl rfl rfl rfl rfl rfl ?_
  refine wl_nil (nx_blk_nrm (nx_then (gw_region (ad_ rfl rfl (mv_ rfl (wl_nil ?_))))))
  exact nx_round (i + 1, .slice Ao (i + 1) co) (by dsimp only; omega) (by dsimp only; omega) ⟨rfl, rfl, rfl, rfl, rfl, rfl, (some_int (by omega)), trivial⟩ (fun _ hm => hm.pick [1] [0, 1, 2, 3] [0, 1, 2, 3, 4, 5] rfl rfl)
 have hi : ¬ (((i : Nat) : Int) < ((n : Nat) : Int)) := by simpa using hh
 clear hh
 refine gw_exit ?_
 refine nx_then_exit (nx_then_exit ?_)
 refine nx_blk_here ?_
 refine nx_then (gw_seq (sr_ ?_))
 have hin2 : i = n := by omega
 subst hin2
 refine wl_look (R := ∃ A cc, v = .slice A i cc) (fun wx hm => own_slice (hm.ownI 0 rfl)) ?_
 rintro ⟨Ao, co, rfl⟩
 obtain ⟨CO, hCO⟩ : ∃ z, z = l.map (chB cs sl) := ⟨_, rfl⟩
 have hCl : CO.length = i := by rw [hCO, List.length_map]; exact hlen
 rw [show (List.replicate (i + 1) (0 : Int)).flatMap iEnc = (restL CO i).flatMap iEnc from by rw [show restL CO i = List.replicate (i + 1) 0 from by have := restL_zero CO; rw [hCl] at this; exact this]]
 refine mv_ rfl (wl_ov (ov_len es76 rfl) rfl ?_)
 refine wl_ov (ov_sub rfl rfl (by omega) (by omega)) rfl ?_
 refine sg_ rfl (nn_ (gw_block ?_))
 refine gw_loop (γ := Nat) (fun (j : Nat) => j ≤ i) (fun (j : Nat) => [(2, .slice A i c), (6, .slice none 0 0), (7, .bool false), (8, .int .i64 ((k : Nat) : Int)), (9, .pointer (some ⟨gx, 0, none⟩)), (11, .int .i64 (((j : Nat) : Int) - 1))]) (fun (j : Nat) => fun _ => True) (fun (j : Nat) => [(gx, 266, [.slice A i c, .slice A9 i c9, .slice Ao i co, .slice (some ⟨gc, 0, none⟩) i i, .slice (some ⟨gu, 0, none⟩) i i, .slice (some ⟨gr, 0, none⟩) (i + 1) (i + 1), .int .i64 0])]) (fun (j : Nat) => [⟨.slice (some ⟨gr, 0, none⟩) (i + 1) (i + 1), 3, 1, (i + 1), (restL CO j).flatMap iEnc⟩, ⟨.slice Ao i co, 3, 1, i, (List.range i).flatMap nEnc⟩, ⟨.slice (some ⟨gc, 0, none⟩) i i, 9, 1, i, (List.replicate (i) (⟨#[]⟩ : ByteArray)).flatMap sgEnc⟩, ⟨.slice (some ⟨gu, 0, none⟩) i i, 3, 1, i, (List.replicate (i) (0 : Int)).flatMap iEnc⟩]) (fun (j : Nat) => [SlOld csEnc 2 158 w.heap.size none A0 n0 cs, SlOld skEnc 2 211 w.heap.size none A1 n1 sl, SlOld bkEnc 6 92 w.heap.size none A i l, fun wy => SlT csnEnc 1 269 wy A9 i cx, fun wy => Chs 268 cx wy, fun _ => True]) (fun (j : Nat) => j) i (Nat.le_refl _) ⟨rfl, rfl, rfl, rfl, rfl, rfl, trivial⟩ (fun _ hm => hm.pick [0] [3, 0, 1, 2] [0, 1, 2, 3, 4, 5] rfl rfl) ?_
 intro j hinv
 replace hinv : j ≤ i := hinv
 refine gw_seq (sr_ (mv_ rfl ?_))
 refine wl_ov (ov_geq rfl rfl) rfl ?_
 refine nn_ ?_
 refine gw_cond rfl (fun hh => ?_) (fun hh => ?_)
 ·have hj : 0 ≤ ((j : Nat) : Int) - 1 := by simpa using hh
  clear hh
  refine gw_skip (nx_then (gw_seq (gw_block ?_)))
  obtain ⟨k2, rfl⟩ : ∃ k2, j = k2 + 1 := ⟨j - 1, by omega⟩
  have ek : (((k2 + 1 : Nat) : Int) - 1) = ((k2 : Nat) : Int) := by omega
  have hki : k2 < i := by omega
  refine gw_set 11 (v' := .int .i64 ((k2 : Nat) : Int)) rfl (congrArg (Value.int .i64) ek) ?_
  obtain ⟨b9, o9, rfl⟩ := h9 (by omega)
  obtain ⟨x9, hx9⟩ : ∃ x, cx[k2]? = some x := ⟨_, List.getElem?_eq_getElem (by omega)⟩
  obtain ⟨b0, hb0⟩ : ∃ x, l[k2]? = some x := ⟨_, List.getElem?_eq_getElem (by omega)⟩
  have hx9m := List.mem_of_getElem? hx9
  have hxl := cx_at hcx hx9
  rw [bkAt_get hb0] at hxl
  have hnil := hnz b0 (List.mem_of_getElem? hb0)
  have hlil := hcn _ hx9m
  have hnp : 0 < x9.n := by
   rcases Nat.eq_zero_or_pos x9.n with h | h
   ·exact absurd (hxl.symm.trans (List.length_eq_zero_iff.1 (hlil.trans h))) hnil
   exact h
  obtain ⟨bi, oi, hAi⟩ := hin _ hx9m hnp
  obtain ⟨Ai, ni, ci, li⟩ := x9
  dsimp only at hxl hAi hlil hnp
  subst hAi
  obtain ⟨e0, he0⟩ : ∃ x, li[0]? = some x := ⟨_, List.getElem?_eq_getElem (by omega)⟩
  have hco2 : CO[k2]? = some li := by rw [hCO, List.getElem?_map, hb0, hxl]; rfl
  have hrw := restW_at hco2
  rw [head_at he0] at hrw
  obtain ⟨e1, e2, e3⟩ := e0
  dsimp only at hrw
  obtain ⟨r1, hr1⟩ : ∃ z, z = restW (CO.drop (k2 + 1)) := ⟨_, rfl⟩
  obtain ⟨r0, hr0⟩ : ∃ z, z = restW (CO.drop k2) := ⟨_, rfl⟩
  have hrb := restB_le (cs := cs) (sl := sl) hstp k2
  rw [restB_W, ← hCO, ← hr0] at hrb
  rw [← hr0, ← hr1] at hrw
  have hg1 : (restL CO (k2 + 1))[k2 + 1]? = some ((r1 : Nat) : Int) := by rw [restL_at (by omega), hr1]; unfold restR; rw [if_pos (Nat.le_refl _)]
  have hg0 : (restL CO (k2 + 1))[k2]? = some (restR CO (k2 + 1) k2) := restL_at (by omega)
  refine gd (fun wz => Blk wz gx 266 [.slice A i c, .slice (some ⟨b9, o9, none⟩) i c9, .slice Ao i co, .slice (some ⟨gc, 0, none⟩) i i, .slice (some ⟨gu, 0, none⟩) i i, .slice (some ⟨gr, 0, none⟩) (i + 1) (i + 1), .int .i64 0] ∧ (SlOld csEnc 2 158 w.heap.size none A0 n0 cs) wz ∧ (SlOld skEnc 2 211 w.heap.size none A1 n1 sl) wz ∧ (SlOld bkEnc 6 92 w.heap.size none A i l) wz ∧ (fun wy => SlT csnEnc 1 269 wy (some ⟨b9, o9, none⟩) i cx) wz ∧ (fun wy => Chs 268 cx wy) wz ∧ (fun _ => True) wz ∧ wz.ownsRow w.heap.size 3 1 (.slice Ao i co) i ((List.range i).flatMap nEnc) ∧ wz.ownsRow w.heap.size 9 1 (.slice (some ⟨gc, 0, none⟩) i i) i ((List.replicate (i) (⟨#[]⟩ : ByteArray)).flatMap sgEnc) ∧ wz.ownsRow w.heap.size 3 1 (.slice (some ⟨gu, 0, none⟩) i i) i ((List.replicate (i) (0 : Int)).flatMap iEnc) ∧ True) mixed (fun _ hm => ⟨hm.bl 0, hm.fa 0, hm.fa 1, hm.fa 2, hm.fa 3, hm.fa 4, hm.fa 5, hm.ownI 1 rfl, hm.ownI 2 rfl, hm.ownI 3 rfl, trivial⟩) fun z => ?_
  refine wt 0 26 1 rfl z (ov_move rfl) ?_
  refine wt 1 26 3 rfl z (ov_nilcheck rfl) ?_
  refine wt 2 26 7 rfl z (ov_field fo266_5 rfl rfl) ?_
  refine wt 3 26 15 rfl z (ov_load sc22 rfl (fun _ hm => hm.1) rfl) ?_
  refine wt 4 26 31 rfl z (ov_move rfl) ?_
  refine wt 5 26 63 rfl z (ov_move rfl) ?_
  refine wt 6 26 127 rfl z (ov_nilcheck rfl) ?_
  refine wt 7 26 255 rfl z (ov_field fo266_5 rfl rfl) ?_
  refine wt 8 26 511 rfl z (ov_load sc22 rfl (fun _ hm => hm.1) rfl) ?_
  refine wt 9 26 1023 rfl z (ov_move rfl) ?_
  refine wt 10 26 2047 rfl z (ov_add rfl rfl (by omega) (by omega)) ?_
  refine wa_set 71 (v' := .int .i64 ((k2 + 1 : Nat) : Int)) rfl (congrArg (Value.int .i64) (by omega)) ?_
  refine wt 11 26 4095 rfl z (ov_index (j := k2 + 1) es22 rfl rfl (by omega)) ?_
  refine wt 13 26 12287 rfl z (ov_move rfl) ?_
  refine wt 14 26 28671 rfl z (ov_nilcheck rfl) ?_
  refine wt 15 26 61439 rfl z (ov_field fo266_1 rfl rfl) ?_
  refine wt 16 26 126975 rfl z (ov_load sc263 rfl (fun _ hm => hm.1) rfl) ?_
  refine wt 17 26 258047 rfl z (ov_move rfl) ?_
  refine wt 18 26 520191 rfl z (ov_index (j := k2) es263 rfl rfl (by omega)) ?_
  refine wt 19 26 1044479 rfl z (ov_elem1 (k := 0) (v := .slice (some ⟨bi, oi, none⟩) ni ci) sc269 rfl (fun _ hm => (hm.2.2.2.2.1)) hx9 rfl rfl) ?_
  refine wt 20 26 2093055 rfl z (ov_index (j := 0) es269 rfl rfl (by omega)) ?_
  refine wt 21 26 4190207 rfl z (ov_field fo268_1 rfl rfl) ?_
  refine wt 22 26 8384511 rfl z (ov_elem1 (k := 1) (v := .int .i64 ((e2 : Nat) : Int)) sc3 rfl (fun _ hm => ((hm.2.2.2.2.2.1) _ hx9m)) he0 rfl rfl) ?_
  refine wa1 12 rfl ?_
  refine wl_ov (ov_elem1 (k := 0) (v := .int .i64 ((r1 : Nat) : Int)) sc3 rfl (fun _ hm => (SlT.ofOwn i_len (hm.ownI 0 rfl) (by rw [restL_len]; omega))) hg1 rfl rfl) rfl ?_
  refine wl_nil ?_
  refine nw 26 8388607 (fun _ hm => ⟨hm.bl 0, hm.fa 0, hm.fa 1, hm.fa 2, hm.fa 3, hm.fa 4, hm.fa 5, hm.ownI 1 rfl, hm.ownI 2 rfl, hm.ownI 3 rfl, trivial⟩) fun z => ?_
  refine wt 23 26 16777215 rfl z (ov_add rfl rfl (by omega) (by omega)) ?_
  refine wa_set 84 (v' := .int .i64 ((r0 : Nat) : Int)) rfl (congrArg (Value.int .i64) (by omega)) ?_
  refine wt 24 26 33554431 rfl z (ov_index (j := k2) es22 rfl rfl (by omega)) ?_
  refine wa1 25 rfl ?_
  refine wl_storeE (l := (restL CO (k2 + 1))) (j := k2) (r := 0) (el := (restR CO (k2 + 1) k2)) (el' := ((r0 : Nat) : Int)) 0 sc3 rfl rfl rfl rfl i_len rfl hg0 (by rw [restL_len]; omega) (show 0 < 1 by decide) rfl rfl ?_
  rw [show ((restL CO (k2 + 1)).set k2 ((r0 : Nat) : Int)).flatMap iEnc = (restL CO k2).flatMap iEnc from by rw [hr0, restL_set (by omega)]]
  refine wl_nil ?_
  refine nw 26 67108863 (fun _ hm => ⟨hm.bl 0, hm.fa 0, hm.fa 1, hm.fa 2, hm.fa 3, hm.fa 4, hm.fa 5, hm.ownI 1 rfl, hm.ownI 2 rfl, hm.ownI 3 rfl, trivial⟩) fun z => ?_
  refine wa_done (by kernel_rfl) ?_
  refine nx_blk_nrm (nx_then (gw_region (mv_ rfl ?_)))
  refine wl_ov (ov_sub rfl rfl (by omega) (by omega)) rfl ?_
  refine sg_ rfl (wl_nil ?_)
  exact nx_round k2 (by omega) (by omega) ⟨rfl, rfl, rfl, rfl, rfl, rfl, trivial⟩ (fun _ hm => hm.pick [0] [0, 1, 2, 3] [0, 1, 2, 3, 4, 5] rfl rfl)
 have hj : ¬ (0 ≤ ((j : Nat) : Int) - 1) := by simpa using hh
 clear hh
 refine gw_exit ?_
 refine nx_then_exit (nx_then_exit ?_)
 refine nx_blk_here ?_
 refine nx_then (gw_seq (sr_ ?_))
 have hj0 : j = 0 := by omega
 subst hj0
 refine mv_ rfl (mv_ rfl ?_)
 refine wl_callG (γ := List ByteArray × List Int) (val := fun _ => .bool true) (φ := fun gg => gg.1.length = i ∧ gg.2.length = i ∧ RwOk gg.1 gg.2 o) (K' := fun _ => fun _ => True) (L' := fun _ => [(gx, 266, [.slice A i c, .slice A9 i c9, .slice Ao i co, .slice (some ⟨gc, 0, none⟩) i i, .slice (some ⟨gu, 0, none⟩) i i, .slice (some ⟨gr, 0, none⟩) (i + 1) (i + 1), .int .i64 0])]) (O' := fun gg => [⟨.slice (some ⟨gc, 0, none⟩) i i, 9, 1, i, gg.1.flatMap sgEnc⟩, ⟨.slice (some ⟨gu, 0, none⟩) i i, 3, 1, i, gg.2.flatMap iEnc⟩, ⟨.slice Ao i co, 3, 1, i, (List.range i).flatMap nEnc⟩, ⟨.slice (some ⟨gr, 0, none⟩) (i + 1) (i + 1), 3, 1, (i + 1), (restL CO 0).flatMap iEnc⟩]) (X' := fun _ => [SlOld bkEnc 6 92 w.heap.size none A i l]) rfl cb221 rfl rfl (fun wx hm => by
  have h := uf_all w l A i c cs sl A9 c9 cx Ao co (restL CO 0) gx gc gu gr (by omega) (own_cap (hm.ownI 1 rfl)) (by rw [restL_len, hCl]) htm hcx hstm hchl (fun k => Nat.le_trans (restB_le hstp k) (by omega)) (fun k hk => by rw [restB_W, ← hCO, restL_at (by omega)]; rfl) i 0 (by omega) k (List.replicate (i) (⟨#[]⟩ : ByteArray)) (List.replicate (i) (0 : Int)) [] (fun _ => True) wx rfl (by rw [List.length_replicate]) (by rw [List.length_replicate]) (RwOk.nil _ _) (fun p hp => by cases hp) hk6 (hm.pick [0] [2, 3, 1, 0] [2, 3, 4, 5] rfl rfl).cx
  rw [huo] at h
  exact h.mono fun _ _ ⟨c7, u7, he, h1, h2, h3, _, hm2⟩ => ⟨(c7, u7), he, ⟨h1, h2, h3 o rfl⟩, (hm2.cx.pick [0] [0, 1, 2, 3] [0] rfl rfl)⟩) ?_
 rintro ⟨c7, u7⟩ ⟨hc7, hu7, hst⟩
 dsimp only at hc7 hu7 hst ⊢
 obtain ⟨hce, hue⟩ := hst.all (by omega) (by omega)
 refine wl_nilOwn 90 3 ?_
 refine wl_ov (ov_un_not rfl) rfl ?_
 refine wl_set 89 (v' := .bool false) rfl (congrArg Value.bool (by decide)) ?_
 refine nn_ (cf_ rfl (gw_skip (nx_then (sr_ (sg_ rfl (nn_ (gw_seq (sr_ (mv_ rfl ?_)))))))))
 refine wl_ov (ov_len es76 rfl) rfl (mv_ rfl (nn_ (gw_block ?_)))
 have hgl : (gvO l o).length = i := by rw [gvO_len (by omega)]; omega
 refine gw_loop (γ := Nat × Value) (fun g => g.1 ≤ i) (fun g => [(6, .slice none 0 0), (7, .bool false), (9, .pointer (some ⟨gx, 0, none⟩)), (12, g.2), (90, .slice A i c), (91, .int .i64 ((i : Nat) : Int)), (92, .int .i64 ((g.1 : Nat) : Int))]) (fun g => fun _ => True) (fun g => [(gx, 266, [.slice A i c, .slice A9 i c9, .slice Ao i co, .slice (some ⟨gc, 0, none⟩) i i, .slice (some ⟨gu, 0, none⟩) i i, .slice (some ⟨gr, 0, none⟩) (i + 1) (i + 1), .int .i64 0])]) (fun g => [⟨g.2, 90, 3, g.1, ((gvO l o).take g.1).flatMap gvEnc⟩, ⟨.slice (some ⟨gc, 0, none⟩) i i, 9, 1, i, c7.flatMap sgEnc⟩, ⟨.slice (some ⟨gu, 0, none⟩) i i, 3, 1, i, u7.flatMap iEnc⟩]) (fun g => [SlOld bkEnc 6 92 w.heap.size none A i l]) (fun g => i - g.1) (0, .slice none 0 0) (Nat.zero_le _) ⟨rfl, rfl, rfl, rfl, rfl, rfl, rfl, trivial⟩ (fun _ hm => hm.pick [0] [0, 1, 2] [0] rfl rfl) ?_
 rintro ⟨q, v⟩ hinv
 replace hinv : q ≤ i := hinv
 dsimp only
 refine sr_ (wl_ov (ov_lss rfl rfl) rfl (nn_ (gw_seq ?_)))
 refine gw_cond rfl (fun hh => ?_) (fun hh => ?_)
 ·have hq : ((q : Nat) : Int) < ((i : Nat) : Int) := by simpa using hh
  clear hh
  refine gw_skip (nx_then (gw_seq (gw_block (sr_ ?_))))
  obtain ⟨b, off, hA, _, _⟩ := hl.get (by omega)
  subst hA
  obtain ⟨x, hx⟩ : ∃ x, l[q]? = some x := ⟨_, List.getElem?_eq_getElem (by omega)⟩
  obtain ⟨x0, x1, x2, x3, x4, x5⟩ := x
  obtain ⟨p, hp⟩ : ∃ x, o[q]? = some x := ⟨_, List.getElem?_eq_getElem (by omega)⟩
  obtain ⟨hcp, hup⟩ := hst.at hp
  have hgo := gvO_get hx hp
  obtain ⟨p1, p2⟩ := p
  dsimp only at hcp hup hgo
  refine mv_ rfl ?_
  refine wl_ov (ov_index (j := q) es76 rfl rfl (by omega)) rfl ?_
  refine wl_ov (ov_elem (vs := [.string x0, .string x1, .int .i64 x2, .int .i64 x3, .int .i64 x4, .int .i64 x5]) rz92 rfl (fun _ hm => (hm.fact 0 rfl).1) hx rfl rfl) rfl ?_
  refine wl_alloc zc92 rfl fun g75 => ?_
  refine sg_ rfl ?_
  refine wl_stores (cs' := [.string x0, .string x1, .int .i64 x2, .int .i64 x3, .int .i64 x4, .int .i64 x5]) 0 rz92 rfl rfl rfl rfl rfl rfl rfl rfl ?_
  refine nn_ ?_
  refine gd (fun wz => Blk wz g75 92 [.string x0, .string x1, .int .i64 x2, .int .i64 x3, .int .i64 x4, .int .i64 x5] ∧ Blk wz gx 266 [.slice (some ⟨b, off, none⟩) i c, .slice A9 i c9, .slice Ao i co, .slice (some ⟨gc, 0, none⟩) i i, .slice (some ⟨gu, 0, none⟩) i i, .slice (some ⟨gr, 0, none⟩) (i + 1) (i + 1), .int .i64 0] ∧ (SlOld bkEnc 6 92 w.heap.size none (some ⟨b, off, none⟩) i l) wz ∧ True) mixed (fun _ hm => ⟨hm.bl 0, hm.bl 1, hm.fa 0, trivial⟩) fun z => ?_
  refine wt 0 21 1 rfl z (ov_move rfl) ?_
  refine wt 1 21 3 rfl z (ov_field fo92_0 rfl rfl) ?_
  refine wt 2 21 7 rfl z (ov_load sc9 rfl (fun _ hm => hm.1) rfl) ?_
  refine wt 3 21 15 rfl z (ov_move rfl) ?_
  refine wt 4 21 31 rfl z (ov_nilcheck rfl) ?_
  refine wt 5 21 63 rfl z (ov_field fo266_3 rfl rfl) ?_
  refine wt 6 21 127 rfl z (ov_load sc103 rfl (fun _ hm => hm.2.1) rfl) ?_
  refine wt 7 21 255 rfl z (ov_move rfl) ?_
  refine wt 8 21 511 rfl z (ov_index (j := q) es103 rfl rfl (by omega)) ?_
  refine wt 10 21 1535 rfl z (ov_move rfl) ?_
  refine wt 11 21 3583 rfl z (ov_nilcheck rfl) ?_
  refine wt 12 21 7679 rfl z (ov_field fo266_4 rfl rfl) ?_
  refine wt 13 21 15871 rfl z (ov_load sc22 rfl (fun _ hm => hm.2.1) rfl) ?_
  refine wt 14 21 32255 rfl z (ov_move rfl) ?_
  refine wt 15 21 65023 rfl z (ov_index (j := q) es22 rfl rfl (by omega)) ?_
  refine wa_all [9, 16] (by kernel_rfl) rfl ⟨⟨_, rfl, ?_⟩, ⟨_, rfl, ?_⟩, trivial⟩
  ·refine wl_ov (ov_elem1 (k := 0) (v := .string p1) sc9 rfl (fun _ hm => (SlT.ofOwn sg_len (hm.ownI 1 rfl) hc7)) hcp rfl rfl) rfl ?_
   refine wl_nil ?_
   refine nw 21 65535 (fun _ hm => ⟨hm.bl 0, hm.bl 1, hm.fa 0, trivial⟩) fun z => ?_
   refine wa1 16 rfl ?_
   refine wl_ov (ov_elem1 (k := 0) (v := .int .i64 ((p2 : Nat) : Int)) sc3 rfl (fun _ hm => (SlT.ofOwn i_len (hm.ownI 2 rfl) hu7)) hup rfl rfl) rfl ?_
   refine wl_nil ?_
   refine nw 21 131071 (fun _ hm => ⟨hm.bl 0, hm.bl 1, hm.fa 0, trivial⟩) fun z => ?_
   refine wt 17 21 262143 rfl z (ov_build (cs := [.string x0, .string p1, .int .i64 ((p2 : Nat) : Int)]) rfl (by kernel_rfl)) ?_
   refine wa1 18 rfl ?_
   refine wl_buildSlice (e := 90) (cs := [.string x0, .string p1, .int .i64 ((p2 : Nat) : Int)]) rfl (by kernel_rfl) rfl fun g76 => ?_
   refine wl_nil ?_
   refine nw 21 524287 (fun _ hm => ⟨hm.bl 1, hm.bl 2, hm.fa 0, trivial⟩) fun z => ?_
   refine wa1 19 rfl ?_
   refine wl_append (news := [.string x0, .string p1, .int .i64 ((p2 : Nat) : Int)]) 0 0 ap80 rfl rfl rfl rfl rfl rfl rfl (by omega) (by unfold maxLen; omega) rfl rfl fun v2 hv2 => ?_
   rw [show ((gvO l o).take q).flatMap gvEnc ++ ([.string x0, .string p1, .int .i64 ((p2 : Nat) : Int)] : List Value) = ((gvO l o).take (q + 1)).flatMap gvEnc from by rw [List.take_add_one, hgo]; simp [gvEnc]]
   refine wl_nil ?_
   refine nw 21 1048575 (fun _ hm => ⟨hm.bl 1, hm.bl 2, hm.fa 0, trivial⟩) fun z => ?_
   refine wt 20 21 2097151 rfl z (ov_assign rfl) ?_
   refine wa_done (by kernel_rfl) ?_
   refine nx_blk_nrm (nx_then (gw_region (ad_ rfl rfl (mv_ rfl (wl_nil ?_)))))
   exact nx_round (q + 1, v2) (by dsimp only; omega) (by dsimp only; omega) ⟨rfl, rfl, rfl, rfl, rfl, rfl, (some_int (by omega)), trivial⟩ (fun _ hm => hm.pick [2] [0, 1, 2] [0] rfl rfl)
  refine wl_ov (ov_elem1 (k := 0) (v := .int .i64 ((p2 : Nat) : Int)) sc3 rfl (fun _ hm => (SlT.ofOwn i_len (hm.ownI 2 rfl) hu7)) hup rfl rfl) rfl ?_
  refine wl_nil ?_
  refine nw 21 130559 (fun _ hm => ⟨hm.bl 0, hm.bl 1, hm.fa 0, trivial⟩) fun z => ?_
  refine wa1 9 rfl ?_
  refine wl_ov (ov_elem1 (k := 0) (v := .string p1) sc9 rfl (fun _ hm => (SlT.ofOwn sg_len (hm.ownI 1 rfl) hc7)) hcp rfl rfl) rfl ?_
  refine wl_nil ?_
  refine nw 21 131071 (fun _ hm => ⟨hm.bl 0, hm.bl 1, hm.fa 0, trivial⟩) fun z => ?_
  refine wt 17 21 262143 rfl z (ov_build (cs := [.string x0, .string p1, .int .i64 ((p2 : Nat) : Int)]) rfl (by kernel_rfl)) ?_
  refine wa1 18 rfl ?_
  refine wl_buildSlice (e := 90) (cs := [.string x0, .string p1, .int .i64 ((p2 : Nat) : Int)]) rfl (by kernel_rfl) rfl fun g77 => ?_
  refine wl_nil ?_
  refine nw 21 524287 (fun _ hm => ⟨hm.bl 1, hm.bl 2, hm.fa 0, trivial⟩) fun z => ?_
  refine wa1 19 rfl ?_
  refine wl_append (news := [.string x0, .string p1, .int .i64 ((p2 : Nat) : Int)]) 0 0 ap80 rfl rfl rfl rfl rfl rfl rfl (by omega) (by unfold maxLen; omega) rfl rfl fun v2 hv2 => ?_
  rw [show ((gvO l o).take q).flatMap gvEnc ++ ([.string x0, .string p1, .int .i64 ((p2 : Nat) : Int)] : List Value) = ((gvO l o).take (q + 1)).flatMap gvEnc from by rw [List.take_add_one, hgo]; simp [gvEnc]]
  refine wl_nil ?_
  refine nw 21 1048575 (fun _ hm => ⟨hm.bl 1, hm.bl 2, hm.fa 0, trivial⟩) fun z => ?_
  refine wt 20 21 2097151 rfl z (ov_assign rfl) ?_
  refine wa_done (by kernel_rfl) ?_
  refine nx_blk_nrm (nx_then (gw_region (ad_ rfl rfl (mv_ rfl (wl_nil ?_)))))
  exact nx_round (q + 1, v2) (by dsimp only; omega) (by dsimp only; omega) ⟨rfl, rfl, rfl, rfl, rfl, rfl, (some_int (by omega)), trivial⟩ (fun _ hm => hm.pick [2] [0, 1, 2] [0] rfl rfl)
 have hq : ¬ (((q : Nat) : Int) < ((i : Nat) : Int)) := by simpa using hh
 clear hh
 refine gw_exit ?_
 refine nx_then_exit (nx_then_exit ?_)
 refine nx_blk_here ?_
 refine nx_then (sr_ ?_)
 have hqi : q = i := by omega
 rw [show ((gvO l o).take q) = gvO l o from List.take_of_length_le (by omega)]
 subst hqi
 refine wl_look (R := ∃ A cc, v = .slice A q cc) (fun wx hm => own_slice (hm.ownI 0 rfl)) ?_
 rintro ⟨Az, cz, rfl⟩
 refine mv_ rfl (sg_ rfl (sg_ rfl (nn_ ?_)))
 refine gw_ret ?_
 refine nx_ret2 rfl rfl rfl fun wx hm => ?_
 exact ⟨.inr ⟨o, Az, cz, hao, rfl, SlT.ofOwn gv_len (hm.ownI 0 rfl) hgl⟩, hm.g⟩
def asE (cs : List Cs) (sl : List Sk) (l : List Bk) : Int := firstE [firstE [stockE cs sl, checkE cs l], whenE (decide (7 < ((l.length : Nat) : Int))) 2]
theorem asE_ok {cs : List Cs} {sl : List Sk} {l : List Bk} (h : asE cs sl l = 0) : firstE [stockE cs sl, checkE cs l] = 0 ∧ l.length ≤ 7 := by
  obtain ⟨h1, h2⟩ := firstE_two h
  refine ⟨h1, ?_⟩
  unfold whenE at h2
  by_cases h3 : 7 < ((l.length : Nat) : Int)
  · rw [decide_eq_true h3] at h2; simp at h2
  · omega
/-- What right bookings have. -/
theorem right_has {cs : List Cs} {sl : List Sk} {l : List Bk} (h : firstE [stockE cs sl, checkE cs l] = 0) : (cs.length ≤ 30 ∧ Closed cs ∧ loopB cs cs.length = false) ∧ (∀ k, manyV sl k ≤ 100) ∧ (∀ b ∈ l, keysE cs [b.cls] = 0) ∧ BkTim l ∧ formE l = 0 := by
  obtain ⟨h1, h2⟩ := firstE_two h
  obtain ⟨hc0, hf0, hk⟩ := gcheckE_ok h2
  exact ⟨classesE_ok hc0, many_le h1, hk, form_tim hf0, hf0⟩
theorem assignA_bad (cs : List Cs) (A0 : Option Addr) (n0 c0 : Nat) (sl : List Sk) (A1 : Option Addr) (n1 c1 : Nat) (l : List Bk) (A : Option Addr) (n c : Nat) (w : World) (hcs : SlT csEnc 2 158 w A0 n0 cs) (hco : ∀ x ∈ cs, CsOk x) (hn0 : n0 ≤ 1000) (hs : SlT skEnc 2 211 w A1 n1 sl) (hso : ∀ x ∈ sl, SkOk x) (hn1 : n1 ≤ 1000) (hl : SlT bkEnc 6 92 w A n l) (hok : ∀ x ∈ l, BkOk x) (hn : n ≤ 12) (h0 : asE cs sl l ≠ 0) :
  Calls Tryz.prog 35 #[.slice A0 n0 c0, .slice A1 n1 c1, .slice A n c] w (fun e w' => e = .returned (.tuple #[.slice none 0 0, .int .i64 (asE cs sl l)]) ∧ w.grownBy w' none) := by
 refine gw_enter ⟨34, w, none, [90]⟩ Tryz.func35 rfl Tryz.ntmps35 rfl (mem0 (X := [SlOld csEnc 2 158 w.heap.size none A0 n0 cs, SlOld skEnc 2 211 w.heap.size none A1 n1 sl, SlOld bkEnc 6 92 w.heap.size none A n l]) (allF_cons hcs.old (allF_cons hs.old (allF_cons hl.old allF_nil))) (allL_cons SlOld.lasts (allL_cons SlOld.lasts (allL_cons SlOld.lasts allL_nil)))) ?_
 refine sr_ ?_
 have hlen := hl.len
 obtain ⟨E1, hE1⟩ : ∃ z, z = firstE [stockE cs sl, checkE cs l] := ⟨_, rfl⟩
 have hEE : asE cs sl l = firstE [E1, whenE (decide (7 < ((n : Nat) : Int))) 2] := by rw [hE1, ← hlen]; rfl
 rw [hEE] at h0 ⊢
 refine sg_ rfl (sg_ rfl (nn_ (gw_seq (sr_ (mv_ rfl (mv_ rfl (mv_ rfl ?_)))))))
 refine wl_callv (v := .int .i64 E1) rfl cb124 rfl rfl (fun wx hm => (by rw [hE1]; exact checkAll_any cs A0 n0 c0 sl A1 n1 c1 l A n c wx (hm.fact 0 rfl).1 hco (by omega) (hm.fact 1 rfl).1 hso (by omega) (hm.fact 2 rfl).1 hok (by omega))) ?_
 refine mv_ rfl (wl_ov (ov_len es76 rfl) rfl ?_)
 refine wl_ov (ov_gtr rfl rfl) rfl ?_
 refine wl_callw rfl cb68 rfl rfl (fun wx hm => (when_any _ _ wx)) ?_
 refine wl_buildSlice (e := 33) (cs := [.int .i64 E1, .int .i64 (whenE (decide (7 < ((n : Nat) : Int))) 2)]) rfl (by kernel_rfl) rfl fun g1 => ?_
 refine wl_callw rfl cb67 rfl rfl (fun wx hm => (first_any [E1, whenE (decide (7 < ((n : Nat) : Int))) 2] _ _ _ wx (hm.blkI 0 rfl) (by simp))) ?_
 refine sg_ rfl (nn_ (sr_ (mv_ rfl (wl_ov (ov_neq rfl rfl) rfl (nn_ ?_)))))
 refine gw_cond rfl (fun hh => ?_) (fun hh => ?_)
 ·have h1 : ¬ (firstE [E1, whenE (decide (7 < ((n : Nat) : Int))) 2] = 0) := by simpa using hh
  clear hh
  refine sr_ (mv_ rfl (sg_ rfl (sg_ rfl (nn_ ?_))))
  refine gw_ret ?_
  refine nx_then_ret ?_
  refine nx_ret2 rfl rfl rfl fun wx hm => ?_
  exact ⟨rfl, hm.g⟩
 have h1 : firstE [E1, whenE (decide (7 < ((n : Nat) : Int))) 2] = 0 := by simpa using hh
 clear hh
 refine gw_skip (nx_then (sr_ ?_))
 exact absurd (by simpa using h1) h0
theorem assignA_right (cs : List Cs) (A0 : Option Addr) (n0 c0 : Nat) (sl : List Sk) (A1 : Option Addr) (n1 c1 : Nat) (l : List Bk) (A : Option Addr) (n c : Nat) (w : World) (hcs : SlT csEnc 2 158 w A0 n0 cs) (hco : ∀ x ∈ cs, CsOk x) (hn0 : n0 ≤ 1000) (hs : SlT skEnc 2 211 w A1 n1 sl) (hso : ∀ x ∈ sl, SkOk x) (hn1 : n1 ≤ 1000) (hl : SlT bkEnc 6 92 w A n l) (hok : ∀ x ∈ l, BkOk x) (hn : n ≤ 12) (h0 : asE cs sl l = 0) :
  Calls Tryz.prog 35 #[.slice A0 n0 c0, .slice A1 n1 c1, .slice A n c] w (fun e w' => ((asgO cs sl l = none ∧ e = .returned (.tuple #[.slice none 0 0, .int .i64 12])) ∨ ∃ (o : List (ByteArray × Nat)) (A' : Option Addr) (c' : Nat), asgO cs sl l = some o ∧ e = .returned (.tuple #[.slice A' n c', .int .i64 0]) ∧ SlT gvEnc 3 90 w' A' n (gvO l o)) ∧ w.grownBy w' none) := by
 refine gw_enter ⟨34, w, none, [90]⟩ Tryz.func35 rfl Tryz.ntmps35 rfl (mem0 (X := [SlOld csEnc 2 158 w.heap.size none A0 n0 cs, SlOld skEnc 2 211 w.heap.size none A1 n1 sl, SlOld bkEnc 6 92 w.heap.size none A n l]) (allF_cons hcs.old (allF_cons hs.old (allF_cons hl.old allF_nil))) (allL_cons SlOld.lasts (allL_cons SlOld.lasts (allL_cons SlOld.lasts allL_nil)))) ?_
 refine sr_ ?_
 have hlen := hl.len
 obtain ⟨E1, hE1⟩ : ∃ z, z = firstE [stockE cs sl, checkE cs l] := ⟨_, rfl⟩
 have hEE : asE cs sl l = firstE [E1, whenE (decide (7 < ((n : Nat) : Int))) 2] := by rw [hE1, ← hlen]; rfl
 rw [hEE] at h0
 refine sg_ rfl (sg_ rfl (nn_ (gw_seq (sr_ (mv_ rfl (mv_ rfl (mv_ rfl ?_)))))))
 refine wl_callv (v := .int .i64 E1) rfl cb124 rfl rfl (fun wx hm => (by rw [hE1]; exact checkAll_any cs A0 n0 c0 sl A1 n1 c1 l A n c wx (hm.fact 0 rfl).1 hco (by omega) (hm.fact 1 rfl).1 hso (by omega) (hm.fact 2 rfl).1 hok (by omega))) ?_
 refine mv_ rfl (wl_ov (ov_len es76 rfl) rfl ?_)
 refine wl_ov (ov_gtr rfl rfl) rfl ?_
 refine wl_callw rfl cb68 rfl rfl (fun wx hm => (when_any _ _ wx)) ?_
 refine wl_buildSlice (e := 33) (cs := [.int .i64 E1, .int .i64 (whenE (decide (7 < ((n : Nat) : Int))) 2)]) rfl (by kernel_rfl) rfl fun g1 => ?_
 refine wl_callw rfl cb67 rfl rfl (fun wx hm => (first_any [E1, whenE (decide (7 < ((n : Nat) : Int))) 2] _ _ _ wx (hm.blkI 0 rfl) (by simp))) ?_
 refine sg_ rfl (nn_ (sr_ (mv_ rfl (wl_ov (ov_neq rfl rfl) rfl (nn_ ?_)))))
 refine gw_cond rfl (fun hh => ?_) (fun hh => ?_)
 ·have h1 : ¬ (firstE [E1, whenE (decide (7 < ((n : Nat) : Int))) 2] = 0) := by simpa using hh
  clear hh
  refine sr_ ?_
  exact absurd h0 (by simpa using h1)
 have h1 : firstE [E1, whenE (decide (7 < ((n : Nat) : Int))) 2] = 0 := by simpa using hh
 clear hh
 refine gw_skip (nx_then (sr_ (mv_ rfl (mv_ rfl (mv_ rfl ?_)))))
 obtain ⟨hr1, hr7⟩ := asE_ok (hEE.trans h0)
 obtain ⟨⟨h30, hcl, hlo⟩, hmany, hkeys, htm, _⟩ := right_has hr1
 rcases hao : asgO cs sl l with _ | o
 ·refine wl_callv rfl cb125 rfl rfl (fun wx hm => ((assign_any cs A0 n0 c0 sl A1 n1 c1 l A n c wx (hm.fact 0 rfl).1 hco hn0 (hm.fact 1 rfl).1 hso hn1 (hm.fact 2 rfl).1 hn hmany hcl hlo h30 hkeys htm).mono fun _ _ ⟨h, hg⟩ => by
   rcases h with ⟨_, he⟩ | ⟨o, A2, c2, h2, _⟩
   ·exact ⟨he, hg⟩
   rw [hao] at h2; cases h2)) ?_
  refine mv_ rfl (wl_ov (ov_extract rfl rfl) rfl (wl_ov (ov_extract rfl rfl) rfl (sg_ rfl (sg_ rfl (nn_ (gw_seq (sr_ (mv_ rfl (wl_ov (ov_un_not rfl) rfl ?_)))))))))
  refine wl_set 32 (v' := .bool true) rfl (congrArg Value.bool (by decide)) ?_
  refine nn_ (ct_ rfl (sr_ (sg_ rfl (sg_ rfl (nn_ ?_)))))
  refine gw_ret ?_
  refine nx_then_ret ?_
  refine nx_ret2 rfl rfl rfl fun wx hm => ?_
  exact ⟨.inl ⟨rfl, rfl⟩, hm.g⟩
 refine wl_callx (γ := Option Addr × Nat) (val := (fun g => .tuple #[.slice g.1 n g.2, .bool true])) (φ := (fun g => True)) (Y := (fun g => fun wy => SlT gvEnc 3 90 wy g.1 n (gvO l o))) rfl cb125 rfl rfl (fun wx hm => (assign_any cs A0 n0 c0 sl A1 n1 c1 l A n c wx (hm.fact 0 rfl).1 hco hn0 (hm.fact 1 rfl).1 hso hn1 (hm.fact 2 rfl).1 hn hmany hcl hlo h30 hkeys htm).mono fun _ _ ⟨h, hg⟩ => by
  rcases h with ⟨h2, _⟩ | ⟨o2, A2, c2, h2, he, hs⟩
  ·rw [hao] at h2; cases h2
  rw [hao] at h2; cases h2; exact ⟨(A2, c2), he, trivial, hg, hs⟩) (fun _ => SlT.lasts2 rfl) ?_
 rintro ⟨A2, c2⟩ hphi
 dsimp only
 clear hphi
 refine mv_ rfl (wl_ov (ov_extract rfl rfl) rfl (wl_ov (ov_extract rfl rfl) rfl (sg_ rfl (sg_ rfl (nn_ (gw_seq (sr_ (mv_ rfl (wl_ov (ov_un_not rfl) rfl ?_)))))))))
 refine wl_set 32 (v' := .bool false) rfl (congrArg Value.bool (by decide)) ?_
 refine nn_ (cf_ rfl (gw_skip (nx_then (sr_ (mv_ rfl (sg_ rfl (sg_ rfl (nn_ ?_))))))))
 refine gw_ret ?_
 refine nx_ret2 rfl rfl rfl fun wx hm => ?_
 exact ⟨.inr ⟨o, A2, c2, rfl, rfl, (hm.fact 0 rfl)⟩, hm.g⟩
end Go.Proofs.YtempjmpfdniecaaGreatDoor
namespace Go.Proofs.YtempjmpfdniecaaGreatDoor
open Go.RowKit
theorem choicesW_any (cs : List Cs) (A0 : Option Addr) (n0 c0 : Nat) (sl : List Sk) (A1 : Option Addr) (n1 c1 : Nat) (had : List Bk) (giv : List Gv) (H G : Option Addr) (hN gn hc gc : Nat) (x0 x1 : ByteArray) (x2 x3 x4 x5 : Int) (w : World) (hcs : SlT csEnc 2 158 w A0 n0 cs) (hco : ∀ x ∈ cs, CsOk x) (hn0 : n0 ≤ 30) (hcl : Closed cs) (hlo : loopB cs cs.length = false) (hs : SlT skEnc 2 211 w A1 n1 sl) (hso : ∀ x ∈ sl, SkOk x) (hn1 : n1 ≤ 1000) (hmany : ∀ k, manyV sl k ≤ 100) (hh : SlT bkEnc 6 92 w H hN had) (hg : SlT gvEnc 3 90 w G gn giv) (hgh : gn ≤ hN) (hgn : gn ≤ 1000) (hhad : ∀ b ∈ had, b.fr < b.to_) (hb : x2 < x3) :
  Calls Tryz.prog 127 #[.slice A0 n0 c0, .slice A1 n1 c1, .slice H hN hc, .slice G gn gc, .agg #[.string x0, .string x1, .int .i64 x2, .int .i64 x3, .int .i64 x4, .int .i64 x5]] w (fun e w' => ∃ (A8 : Option Addr) (k c8 : Nat), e = .returned (.slice A8 k c8) ∧ w'.ownsRow w.heap.size 90 3 (.slice A8 k c8) k ((chF had giv (⟨x0, x1, x2, x3, x4, x5⟩ : Bk) (cdB cs sl (⟨x0, x1, x2, x3, x4, x5⟩ : Bk))).flatMap gvEnc) ∧ (chF had giv (⟨x0, x1, x2, x3, x4, x5⟩ : Bk) (cdB cs sl (⟨x0, x1, x2, x3, x4, x5⟩ : Bk))).length = k ∧ k ≤ 3100 ∧ w.grownBy w' none) := by
 refine gw_enter ⟨81, w, none, []⟩ Tryz.func127 rfl Tryz.ntmps127 rfl (mem0 (X := [SlOld csEnc 2 158 w.heap.size none A0 n0 cs, SlOld skEnc 2 211 w.heap.size none A1 n1 sl, SlOld bkEnc 6 92 w.heap.size none H hN had, SlOld gvEnc 3 90 w.heap.size none G gn giv]) (allF_cons hcs.old (allF_cons hs.old (allF_cons hh.old (allF_cons hg.old allF_nil)))) (allL_cons SlOld.lasts (allL_cons SlOld.lasts (allL_cons SlOld.lasts (allL_cons SlOld.lasts allL_nil))))) ?_
 refine sr_ ?_
 have hlen0 := hcs.len
 have hlenh := hh.len
 have hleng := hg.len
 obtain ⟨KS, hKS⟩ : ∃ z, z = clsF cs (⟨x0, x1, x2, x3, x4, x5⟩ : Bk) := ⟨_, rfl⟩
 have hks : ([.string x1] : List Value) ++ (pathN cs (n0 + 1) x1).flatMap sgEnc = KS.flatMap sgEnc := by
  rw [hKS]
  show _ = (x1 :: pathN cs cs.length x1).flatMap sgEnc
  rw [← path_same hcl hlo, hlen0]; rfl
 have hkl : KS.length = 1 + (pathN cs (n0 + 1) x1).length := by
  rw [hKS]
  show (x1 :: pathN cs cs.length x1).length = _
  rw [← path_same hcl hlo, hlen0, List.length_cons]; omega
 have hkl2 : KS.length ≤ 31 := by
  rw [hKS]
  show (x1 :: pathN cs cs.length x1).length ≤ 31
  have := pathN_len cs cs.length x1
  rw [List.length_cons]; omega
 obtain ⟨T, hT⟩ : ∃ z, z = chF had giv (⟨x0, x1, x2, x3, x4, x5⟩ : Bk) (candsF sl KS) := ⟨_, rfl⟩
 have hTT : chF had giv (⟨x0, x1, x2, x3, x4, x5⟩ : Bk) (cdB cs sl (⟨x0, x1, x2, x3, x4, x5⟩ : Bk)) = T := by rw [hT, hKS]; rfl
 rw [hTT]
 refine wl_box rfl rfl rfl fun g1 => ?_
 refine sg_ rfl (nn_ (sr_ (sg_ rfl (nn_ (gw_seq ?_)))))
 refine gw_cut (γ := Option Addr × Nat × Nat) (I := (fun g => KS.length = g.2.1)) (S' := (fun g => [(1, .slice A1 n1 c1), (2, .slice H hN hc), (3, .slice G gn gc), (9, .pointer (some ⟨g1, 0, none⟩)), (10, .slice none 0 0), (11, .slice none 0 0), (25, .slice g.1 g.2.1 g.2.2), (26, .int .i64 ((g.2.1 : Nat) : Int)), (27, .int .i64 0)])) (K' := (fun g => fun _ => True)) (L' := (fun g => [(g1, 92, [.string x0, .string x1, .int .i64 x2, .int .i64 x3, .int .i64 x4, .int .i64 x5])])) (O' := (fun g => [⟨.slice g.1 g.2.1 g.2.2, 9, 1, g.2.1, KS.flatMap sgEnc⟩])) (X' := (fun g => [SlOld csEnc 2 158 w.heap.size none A0 n0 cs, SlOld skEnc 2 211 w.heap.size none A1 n1 sl, SlOld bkEnc 6 92 w.heap.size none H hN had, SlOld gvEnc 3 90 w.heap.size none G gn giv])) ?_ ?_
 ·refine gd (fun wz => Blk wz g1 92 [.string x0, .string x1, .int .i64 x2, .int .i64 x3, .int .i64 x4, .int .i64 x5] ∧ (SlOld csEnc 2 158 w.heap.size none A0 n0 cs) wz ∧ (SlOld skEnc 2 211 w.heap.size none A1 n1 sl) wz ∧ (SlOld bkEnc 6 92 w.heap.size none H hN had) wz ∧ (SlOld gvEnc 3 90 w.heap.size none G gn giv) wz ∧ True) mixed (fun _ hm => ⟨hm.bl 0, hm.fa 0, hm.fa 1, hm.fa 2, hm.fa 3, trivial⟩) fun z => ?_
  refine wt 0 10 1 rfl z (ov_field fo92_1 rfl rfl) ?_
  refine wt 1 10 3 rfl z (ov_load sc9 rfl (fun _ hm => hm.1) rfl) ?_
  refine wt 3 10 11 rfl z (ov_move rfl) ?_
  refine wt 4 10 27 rfl z (ov_field fo92_1 rfl rfl) ?_
  refine wt 5 10 59 rfl z (ov_load sc9 rfl (fun _ hm => hm.1) rfl) ?_
  refine wt 9 10 571 rfl z (ov_move rfl) ?_
  refine wa_all [2, 6] (by kernel_rfl) rfl ⟨⟨_, rfl, ?_⟩, ⟨_, rfl, ?_⟩, trivial⟩
  ·refine wl_buildSlice (e := 9) (cs := [.string x1]) rfl (by kernel_rfl) rfl fun g2 => ?_
   refine wl_nil ?_
   refine nw 10 575 (fun _ hm => ⟨hm.bl 1, hm.fa 0, hm.fa 1, hm.fa 2, hm.fa 3, trivial⟩) fun z => ?_
   refine wa1 6 rfl ?_
   refine wl_callgo (γ := Option Addr × Nat × Nat) (val := (fun g => .slice g.1 g.2.1 g.2.2)) (φ := (fun g => (pathN cs (n0 + 1) x1).length = g.2.1)) (fun g => ⟨.slice g.1 g.2.1 g.2.2, 9, 1, g.2.1, (pathN cs (n0 + 1) x1).flatMap sgEnc⟩) rfl cb222 rfl rfl (fun wx hm => (ups_any cs A0 n0 c0 x1 wx (hm.fact 0 rfl).1 hco (by omega)).mono fun _ _ ⟨A2, n2, c2, he, ho, hl2, hg⟩ => ⟨(A2, n2, c2), he, hl2, ho, hg⟩) ?_
   rintro ⟨A2, n2, c2⟩ hpl
   dsimp only at hpl ⊢
   refine wl_nil ?_
   refine nw 10 639 (fun _ hm => ⟨hm.bl 1, hm.fa 0, hm.fa 1, hm.fa 2, hm.fa 3, trivial⟩) fun z => ?_
   refine wa1 7 rfl ?_
   refine wl_toOwn (sz := 1) (n := 1) 0 [1] rfl rfl rfl (by unfold maxLen; omega) ?_
   refine wl_appendO 0 1 ap103 rfl rfl rfl rfl (flat_one sgEnc sg_one _) (by omega) (by unfold maxLen; omega) rfl rfl fun v2 hv => ?_
   rw [hks]
   refine wl_look (R := ∃ A cc, v2 = .slice A (1 + n2) cc) (fun wx hm => own_slice (hm.ownI 0 rfl)) ?_
   rintro ⟨A5, c5, rfl⟩
   refine wl_nil ?_
   refine nw 10 767 (fun _ hm => ⟨hm.bl 0, hm.fa 0, hm.fa 1, hm.fa 2, hm.fa 3, trivial⟩) fun z => ?_
   refine wt 8 10 1023 rfl z (ov_len es103 rfl) ?_
   refine wa_done (by kernel_rfl) ?_
   exact nx_meet (A5, 1 + n2, c5) (by rw [hkl, hpl]) ⟨rfl, rfl, rfl, rfl, rfl, rfl, rfl, rfl, rfl, trivial⟩ (fun _ hm => hm.pick [0] [0] [0, 1, 2, 3] rfl rfl)
  refine wl_callgo (γ := Option Addr × Nat × Nat) (val := (fun g => .slice g.1 g.2.1 g.2.2)) (φ := (fun g => (pathN cs (n0 + 1) x1).length = g.2.1)) (fun g => ⟨.slice g.1 g.2.1 g.2.2, 9, 1, g.2.1, (pathN cs (n0 + 1) x1).flatMap sgEnc⟩) rfl cb222 rfl rfl (fun wx hm => (ups_any cs A0 n0 c0 x1 wx (hm.fact 0 rfl).1 hco (by omega)).mono fun _ _ ⟨A2, n2, c2, he, ho, hl2, hg⟩ => ⟨(A2, n2, c2), he, hl2, ho, hg⟩) ?_
  rintro ⟨A2, n2, c2⟩ hpl
  dsimp only at hpl ⊢
  refine wl_nil ?_
  refine nw 10 635 (fun _ hm => ⟨hm.bl 0, hm.fa 0, hm.fa 1, hm.fa 2, hm.fa 3, trivial⟩) fun z => ?_
  refine wa1 2 rfl ?_
  refine wl_buildSlice (e := 9) (cs := [.string x1]) rfl (by kernel_rfl) rfl fun g3 => ?_
  refine wl_nil ?_
  refine nw 10 639 (fun _ hm => ⟨hm.bl 1, hm.fa 0, hm.fa 1, hm.fa 2, hm.fa 3, trivial⟩) fun z => ?_
  refine wa1 7 rfl ?_
  refine wl_toOwn (sz := 1) (n := 1) 0 [1] rfl rfl rfl (by unfold maxLen; omega) ?_
  refine wl_appendO 0 1 ap103 rfl rfl rfl rfl (flat_one sgEnc sg_one _) (by omega) (by unfold maxLen; omega) rfl rfl fun v2 hv => ?_
  rw [hks]
  refine wl_look (R := ∃ A cc, v2 = .slice A (1 + n2) cc) (fun wx hm => own_slice (hm.ownI 0 rfl)) ?_
  rintro ⟨A5, c5, rfl⟩
  refine wl_nil ?_
  refine nw 10 767 (fun _ hm => ⟨hm.bl 0, hm.fa 0, hm.fa 1, hm.fa 2, hm.fa 3, trivial⟩) fun z => ?_
  refine wt 8 10 1023 rfl z (ov_len es103 rfl) ?_
  refine wa_done (by kernel_rfl) ?_
  exact nx_meet (A5, 1 + n2, c5) (by rw [hkl, hpl]) ⟨rfl, rfl, rfl, rfl, rfl, rfl, rfl, rfl, rfl, trivial⟩ (fun _ hm => hm.pick [0] [0] [0, 1, 2, 3] rfl rfl)
 rintro ⟨A7, n7, c7⟩ hinv
 replace hinv : KS.length = n7 := hinv
 dsimp only
 refine gw_block ?_
 have hn7 : KS.length = n7 := hinv
 refine gw_nilOwn 90 3 ?_
 refine gw_loop (γ := Nat × Nat × Value × List Gv) (fun g => g.1 ≤ n7 ∧ g.2.2.2.length = g.2.1 ∧ g.2.1 ≤ 100 * g.1 ∧ g.2.2.2 ++ chF had giv (⟨x0, x1, x2, x3, x4, x5⟩ : Bk) (candsF sl (KS.drop g.1)) = T) (fun g => [(1, .slice A1 n1 c1), (2, .slice H hN hc), (3, .slice G gn gc), (9, .pointer (some ⟨g1, 0, none⟩)), (10, .slice none 0 0), (11, g.2.2.1), (25, .slice A7 n7 c7), (26, .int .i64 ((n7 : Nat) : Int)), (27, .int .i64 ((g.1 : Nat) : Int))]) (fun g => fun _ => True) (fun g => [(g1, 92, [.string x0, .string x1, .int .i64 x2, .int .i64 x3, .int .i64 x4, .int .i64 x5])]) (fun g => [⟨.slice A7 n7 c7, 9, 1, n7, KS.flatMap sgEnc⟩, ⟨g.2.2.1, 90, 3, g.2.1, g.2.2.2.flatMap gvEnc⟩]) (fun g => [SlOld csEnc 2 158 w.heap.size none A0 n0 cs, SlOld skEnc 2 211 w.heap.size none A1 n1 sl, SlOld bkEnc 6 92 w.heap.size none H hN had, SlOld gvEnc 3 90 w.heap.size none G gn giv]) (fun g => n7 - g.1) (0, 0, .slice none 0 0, []) ⟨Nat.zero_le _, rfl, Nat.zero_le _, hT.symm⟩ ⟨rfl, rfl, rfl, rfl, rfl, rfl, rfl, rfl, rfl, trivial⟩ (fun _ hm => hm.pick [0] [1, 0] [0, 1, 2, 3] rfl rfl) ?_
 rintro ⟨i, k, v, acc⟩ hinv
 replace hinv : i ≤ n7 ∧ acc.length = k ∧ k ≤ 100 * i ∧ acc ++ chF had giv (⟨x0, x1, x2, x3, x4, x5⟩ : Bk) (candsF sl (KS.drop i)) = T := hinv
 dsimp only
 refine sr_ ?_
 obtain ⟨hi0, hk, hki, hT1⟩ := hinv
 refine wl_ov (ov_lss rfl rfl) rfl (nn_ (gw_seq ?_))
 refine gw_cond rfl (fun hh => ?_) (fun hh => ?_)
 ·have hi : ((i : Nat) : Int) < ((n7 : Nat) : Int) := by simpa using hh
  clear hh
  refine gw_skip (nx_then (gw_seq (gw_block (sr_ ?_))))
  refine wl_look (R := ∃ g, A7 = some ⟨g, 0, none⟩) (fun wx hm => own_addr (hm.ownI 0 rfl) (by omega)) ?_
  rintro ⟨g7, rfl⟩
  obtain ⟨cl, hx⟩ : ∃ x, KS[i]? = some x := ⟨_, List.getElem?_eq_getElem (by omega)⟩
  refine wl_ov (ov_index (j := i) es103 rfl rfl (by omega)) rfl ?_
  refine wl_ov (ov_elem1 (k := 0) (v := .string cl) sc9 rfl (fun _ hm => (SlT.ofOwn sg_len (hm.ownI 0 rfl) hn7)) hx rfl rfl) rfl ?_
  refine sg_ rfl (nn_ (sr_ (sg_ rfl (nn_ (gw_block ?_)))))
  have hT2 : acc ++ chF had giv (⟨x0, x1, x2, x3, x4, x5⟩ : Bk) (unitsF sl cl 0) ++ chF had giv (⟨x0, x1, x2, x3, x4, x5⟩ : Bk) (candsF sl (KS.drop (i + 1))) = T := by rw [← hT1, candsF_at hx, chF_app, List.append_assoc]
  refine gw_loop (γ := Nat × Nat × Value × List Gv) (fun gg => gg.1 ≤ 100 ∧ gg.2.2.2.length = gg.2.1 ∧ gg.2.1 ≤ 100 * i + gg.1 ∧ gg.2.2.2 ++ chF had giv (⟨x0, x1, x2, x3, x4, x5⟩ : Bk) (unitsF sl cl gg.1) ++ chF had giv (⟨x0, x1, x2, x3, x4, x5⟩ : Bk) (candsF sl (KS.drop (i + 1))) = T) (fun gg => [(1, .slice A1 n1 c1), (2, .slice H hN hc), (3, .slice G gn gc), (9, .pointer (some ⟨g1, 0, none⟩)), (10, .slice none 0 0), (11, gg.2.2.1), (13, .string cl), (14, .int .i64 ((gg.1 + 1 : Nat) : Int)), (25, .slice (some ⟨g7, 0, none⟩) n7 c7), (26, .int .i64 ((n7 : Nat) : Int)), (27, .int .i64 ((i : Nat) : Int))]) (fun gg => fun _ => True) (fun gg => [(g1, 92, [.string x0, .string x1, .int .i64 x2, .int .i64 x3, .int .i64 x4, .int .i64 x5])]) (fun gg => [⟨.slice (some ⟨g7, 0, none⟩) n7 c7, 9, 1, n7, KS.flatMap sgEnc⟩, ⟨gg.2.2.1, 90, 3, gg.2.1, gg.2.2.2.flatMap gvEnc⟩]) (fun gg => [SlOld csEnc 2 158 w.heap.size none A0 n0 cs, SlOld skEnc 2 211 w.heap.size none A1 n1 sl, SlOld bkEnc 6 92 w.heap.size none H hN had, SlOld gvEnc 3 90 w.heap.size none G gn giv]) (fun gg => 100 - gg.1) (0, k, v, acc) ⟨Nat.zero_le _, hk, by dsimp only; omega, hT2⟩ ⟨rfl, rfl, rfl, rfl, rfl, rfl, rfl, (some_int (by omega)), rfl, rfl, rfl, trivial⟩ (fun _ hm => hm.pick [0] [0, 1] [0, 1, 2, 3] rfl rfl) ?_
  rintro ⟨u, k1, v1, ac1⟩ hinv
  replace hinv : u ≤ 100 ∧ ac1.length = k1 ∧ k1 ≤ 100 * i + u ∧ ac1 ++ chF had giv (⟨x0, x1, x2, x3, x4, x5⟩ : Bk) (unitsF sl cl u) ++ chF had giv (⟨x0, x1, x2, x3, x4, x5⟩ : Bk) (candsF sl (KS.drop (i + 1))) = T := hinv
  dsimp only
  refine gw_seq (sr_ ?_)
  obtain ⟨hu0, hk1, hku, hT3⟩ := hinv
  have hmb := hmany cl
  refine mv_ rfl (mv_ rfl (mv_ rfl ?_))
  refine wl_callv rfl cb223 rfl rfl (fun wx hm => (manyOf_any sl A1 n1 c1 cl wx (hm.fact 1 rfl).1 hso (by omega))) ?_
  refine wl_ov (ov_leq rfl rfl) rfl (nn_ ?_)
  refine gw_cond rfl (fun hh => ?_) (fun hh => ?_)
  ·have hu : ((u + 1 : Nat) : Int) ≤ manyV sl cl := by simpa using hh
   clear hh
   refine gw_skip (nx_then (gw_seq (gw_block (sr_ (sg_ rfl (nn_ (gw_seq (sr_ (mv_ rfl (wl_ov (ov_len es80 rfl) rfl ?_))))))))))
   refine mv_ rfl (nn_ (gw_block ?_))
   refine gw_loop (γ := Nat) (fun (j : Nat) => j ≤ gn) (fun (j : Nat) => [(1, .slice A1 n1 c1), (2, .slice H hN hc), (3, .slice G gn gc), (9, .pointer (some ⟨g1, 0, none⟩)), (10, .slice none 0 0), (11, v1), (13, .string cl), (14, .int .i64 ((u + 1 : Nat) : Int)), (15, .bool (((had.zip giv).take j).any (takP (⟨x0, x1, x2, x3, x4, x5⟩ : Bk) cl ((u + 1 : Nat) : Int)))), (25, .slice (some ⟨g7, 0, none⟩) n7 c7), (26, .int .i64 ((n7 : Nat) : Int)), (27, .int .i64 ((i : Nat) : Int)), (38, .slice G gn gc), (39, .int .i64 ((gn : Nat) : Int)), (40, .int .i64 ((j : Nat) : Int))]) (fun (j : Nat) => fun _ => True) (fun (j : Nat) => [(g1, 92, [.string x0, .string x1, .int .i64 x2, .int .i64 x3, .int .i64 x4, .int .i64 x5])]) (fun (j : Nat) => [⟨.slice (some ⟨g7, 0, none⟩) n7 c7, 9, 1, n7, KS.flatMap sgEnc⟩, ⟨v1, 90, 3, k1, ac1.flatMap gvEnc⟩]) (fun (j : Nat) => [SlOld csEnc 2 158 w.heap.size none A0 n0 cs, SlOld skEnc 2 211 w.heap.size none A1 n1 sl, SlOld bkEnc 6 92 w.heap.size none H hN had, SlOld gvEnc 3 90 w.heap.size none G gn giv]) (fun (j : Nat) => gn - j) 0 (Nat.zero_le _) ⟨rfl, rfl, rfl, rfl, rfl, rfl, rfl, rfl, (congrArg (fun z => some (Value.bool z)) (by rw [List.take_zero]; rfl)), rfl, rfl, rfl, rfl, rfl, rfl, trivial⟩ (fun _ hm => hm.pick [0] [0, 1] [0, 1, 2, 3] rfl rfl) ?_
   intro j hinv
   replace hinv : j ≤ gn := hinv
   refine sr_ (wl_ov (ov_lss rfl rfl) rfl (nn_ (gw_seq ?_)))
   refine gw_cond rfl (fun hh => ?_) (fun hh => ?_)
   ·have hj : ((j : Nat) : Int) < ((gn : Nat) : Int) := by simpa using hh
    clear hh
    refine gw_skip (nx_then (gw_seq (gw_block (sr_ ?_))))
    obtain ⟨bh, oh, hA, _, _⟩ := hh.get (by omega)
    subst hA
    obtain ⟨y, hy⟩ : ∃ x, had[j]? = some x := ⟨_, List.getElem?_eq_getElem (by omega)⟩
    obtain ⟨y0, y1, y2, y3, y4, y5⟩ := y
    obtain ⟨bg, og, hA, _, _⟩ := hg.get (by omega)
    subst hA
    obtain ⟨z, hz⟩ : ∃ x, giv[j]? = some x := ⟨_, List.getElem?_eq_getElem (by omega)⟩
    obtain ⟨z0, z1, z2⟩ := z
    have htm := hhad _ (List.mem_of_getElem? hy)
    dsimp only at htm
    have hat := takP_at (b := (⟨x0, x1, x2, x3, x4, x5⟩ : Bk)) (k := cl) (u := ((u + 1 : Nat) : Int)) hy hz
    dsimp only at hat
    refine mv_ rfl ?_
    refine wl_ov (ov_index (j := j) es80 rfl rfl (by omega)) rfl ?_
    refine wl_ov (ov_elem (vs := [.string z0, .string z1, .int .i64 z2]) rz90 rfl (fun _ hm => (hm.fact 3 rfl).1) hz rfl rfl) rfl ?_
    refine wl_alloc zc90 rfl fun g4 => ?_
    refine sg_ rfl ?_
    refine wl_stores (cs' := [.string z0, .string z1, .int .i64 z2]) 0 rz90 rfl rfl rfl rfl rfl rfl rfl rfl ?_
    refine nn_ ?_
    refine gd (fun wz => Blk wz g4 90 [.string z0, .string z1, .int .i64 z2] ∧ Blk wz g1 92 [.string x0, .string x1, .int .i64 x2, .int .i64 x3, .int .i64 x4, .int .i64 x5] ∧ (SlOld csEnc 2 158 w.heap.size none A0 n0 cs) wz ∧ (SlOld skEnc 2 211 w.heap.size none A1 n1 sl) wz ∧ (SlOld bkEnc 6 92 w.heap.size none (some ⟨bh, oh, none⟩) hN had) wz ∧ (SlOld gvEnc 3 90 w.heap.size none (some ⟨bg, og, none⟩) gn giv) wz ∧ True) mixed (fun _ hm => ⟨hm.bl 0, hm.bl 1, hm.fa 0, hm.fa 1, hm.fa 2, hm.fa 3, trivial⟩) fun z => ?_
    refine wt 0 24 1 rfl z (ov_move rfl) ?_
    refine wt 1 24 3 rfl z (ov_move rfl) ?_
    rcases Bool.eq_false_or_eq_true (((had.zip giv).take j).any (takP (⟨x0, x1, x2, x3, x4, x5⟩ : Bk) cl ((u + 1 : Nat) : Int))) with hb5 | hb5
    ·refine wa_set 46 rfl (congrArg Value.bool hb5) ?_
     refine wtf 2 24 7 rfl rfl rfl z ?_
     refine wtf 3 24 15 rfl rfl rfl z ?_
     refine wtf 4 24 31 rfl rfl rfl z ?_
     refine wtf 5 24 63 rfl rfl rfl z ?_
     refine wtf 6 24 127 rfl rfl rfl z ?_
     refine wtu 7 24 255 rfl rfl rfl z ?_
     refine wtu 8 24 511 rfl rfl rfl z ?_
     refine wtu 9 24 1023 rfl rfl rfl z ?_
     refine wtu 10 24 2047 rfl rfl rfl z ?_
     refine wtf 11 24 4095 rfl rfl rfl z ?_
     refine wtf 12 24 8191 rfl rfl rfl z ?_
     refine wtu 13 24 16383 rfl rfl rfl z ?_
     refine wtu 14 24 32767 rfl rfl rfl z ?_
     refine wtu 15 24 65535 rfl rfl rfl z ?_
     refine wtu 16 24 131071 rfl rfl rfl z ?_
     refine wtu 17 24 262143 rfl rfl rfl z ?_
     refine wtu 18 24 524287 rfl rfl rfl z ?_
     refine wtu 19 24 1048575 rfl rfl rfl z ?_
     refine wtu 20 24 2097151 rfl rfl rfl z ?_
     refine wtf 21 24 4194303 rfl rfl rfl z ?_
     refine wt 22 24 8388607 rfl z (ov_pick_t rfl rfl) ?_
     refine wt 23 24 16777215 rfl z (ov_assign rfl) ?_
     refine wa_done (by kernel_rfl) ?_
     refine nx_blk_nrm (nx_then (gw_region (ad_ rfl rfl (mv_ rfl (wl_nil ?_)))))
     exact nx_round (j + 1) (by omega) (by omega) ⟨rfl, rfl, rfl, rfl, rfl, rfl, rfl, rfl, (congrArg (fun z => some (Value.bool z)) (by have h9 := hat; rw [hb5] at h9; exact h9.symm)), rfl, rfl, rfl, rfl, rfl, (some_int (by omega)), trivial⟩ (fun _ hm => hm.pick [1] [0, 1] [0, 1, 2, 3] rfl rfl)
    refine wa_set 46 rfl (congrArg Value.bool hb5) ?_
    refine wto 2 24 7 rfl rfl rfl z (ov_field fo90_1 rfl rfl) ?_
    refine wto 3 24 15 rfl rfl rfl z (ov_load sc9 rfl (fun _ hm => hm.1) rfl) ?_
    refine wto 4 24 31 rfl rfl rfl z (ov_move rfl) ?_
    refine wto 5 24 63 rfl rfl rfl z (ov_seql rfl rfl) ?_
    refine wto 6 24 127 rfl rfl rfl z (ov_move rfl) ?_
    rcases Bool.eq_false_or_eq_true (z1.toList == cl.toList) with hb6 | hb6
    ·refine wa_set 51 rfl (congrArg Value.bool hb6) ?_
     refine wto 7 24 255 rfl rfl rfl z (ov_field fo90_2 rfl rfl) ?_
     refine wto 8 24 511 rfl rfl rfl z (ov_load sc3 rfl (fun _ hm => hm.1) rfl) ?_
     refine wto 9 24 1023 rfl rfl rfl z (ov_move rfl) ?_
     refine wto 10 24 2047 rfl rfl rfl z (ov_eql rfl rfl) ?_
     refine wto 11 24 4095 rfl rfl rfl z (ov_pick_t rfl rfl) ?_
     refine wto 12 24 8191 rfl rfl rfl z (ov_move rfl) ?_
     rcases Bool.eq_false_or_eq_true (decide (z2 = ((u + 1 : Nat) : Int))) with hb7 | hb7
     ·refine wa_set 57 rfl (congrArg Value.bool hb7) ?_
      refine wto 13 24 16383 rfl rfl rfl z (ov_move rfl) ?_
      refine wto 14 24 32767 rfl rfl rfl z (ov_move rfl) ?_
      refine wto 15 24 65535 rfl rfl rfl z (ov_index (j := j) es76 rfl rfl (by omega)) ?_
      refine wto 16 24 131071 rfl rfl rfl z (ov_field fo92_2 rfl rfl) ?_
      refine wto 17 24 262143 rfl rfl rfl z (ov_elemN (k := 2) (vs := [.int .i64 y2, .int .i64 y3]) rz27 rfl (fun _ hm => (hm.2.2.2.2.1).1) hy rfl rfl rfl) ?_
      refine wto 18 24 524287 rfl rfl rfl z (ov_field fo92_2 rfl rfl) ?_
      refine wto 19 24 1048575 rfl rfl rfl z (ov_loads rz27 rfl (fun _ hm => hm.2.1) rfl rfl) ?_
      refine wa1 20 rfl ?_
      refine wl_guard_on rfl rfl rfl ?_
      refine wl_callv rfl cb224 rfl rfl (fun wx hm => (rmeet_any y2 y3 x2 x3 wx (by omega) (by omega))) ?_
      refine wl_nil ?_
      refine nw 24 2097151 (fun _ hm => ⟨hm.bl 0, hm.bl 1, hm.fa 0, hm.fa 1, hm.fa 2, hm.fa 3, trivial⟩) fun z => ?_
      refine wto 21 24 4194303 rfl rfl rfl z (ov_pick_t rfl rfl) ?_
      refine wt 22 24 8388607 rfl z (ov_pick_f rfl rfl) ?_
      refine wt 23 24 16777215 rfl z (ov_assign rfl) ?_
      refine wa_done (by kernel_rfl) ?_
      refine nx_blk_nrm (nx_then (gw_region (ad_ rfl rfl (mv_ rfl (wl_nil ?_)))))
      exact nx_round (j + 1) (by omega) (by omega) ⟨rfl, rfl, rfl, rfl, rfl, rfl, rfl, rfl, (congrArg (fun z => some (Value.bool z)) (by have h9 := hat; rw [hb5, hb6, hb7] at h9; exact h9.symm)), rfl, rfl, rfl, rfl, rfl, (some_int (by omega)), trivial⟩ (fun _ hm => hm.pick [1] [0, 1] [0, 1, 2, 3] rfl rfl)
     refine wa_set 57 rfl (congrArg Value.bool hb7) ?_
     refine wtf 13 24 16383 rfl rfl rfl z ?_
     refine wtf 14 24 32767 rfl rfl rfl z ?_
     refine wtf 15 24 65535 rfl rfl rfl z ?_
     refine wtf 16 24 131071 rfl rfl rfl z ?_
     refine wtf 17 24 262143 rfl rfl rfl z ?_
     refine wtf 18 24 524287 rfl rfl rfl z ?_
     refine wtf 19 24 1048575 rfl rfl rfl z ?_
     refine wtf 20 24 2097151 rfl rfl rfl z ?_
     refine wto 21 24 4194303 rfl rfl rfl z (ov_pick_f rfl rfl) ?_
     refine wt 22 24 8388607 rfl z (ov_pick_f rfl rfl) ?_
     refine wt 23 24 16777215 rfl z (ov_assign rfl) ?_
     refine wa_done (by kernel_rfl) ?_
     refine nx_blk_nrm (nx_then (gw_region (ad_ rfl rfl (mv_ rfl (wl_nil ?_)))))
     exact nx_round (j + 1) (by omega) (by omega) ⟨rfl, rfl, rfl, rfl, rfl, rfl, rfl, rfl, (congrArg (fun z => some (Value.bool z)) (by have h9 := hat; rw [hb5, hb6, hb7] at h9; exact h9.symm)), rfl, rfl, rfl, rfl, rfl, (some_int (by omega)), trivial⟩ (fun _ hm => hm.pick [1] [0, 1] [0, 1, 2, 3] rfl rfl)
    refine wa_set 51 rfl (congrArg Value.bool hb6) ?_
    refine wtf 7 24 255 rfl rfl rfl z ?_
    refine wtf 8 24 511 rfl rfl rfl z ?_
    refine wtf 9 24 1023 rfl rfl rfl z ?_
    refine wtf 10 24 2047 rfl rfl rfl z ?_
    refine wto 11 24 4095 rfl rfl rfl z (ov_pick_f rfl rfl) ?_
    refine wto 12 24 8191 rfl rfl rfl z (ov_move rfl) ?_
    refine wtf 13 24 16383 rfl rfl rfl z ?_
    refine wtf 14 24 32767 rfl rfl rfl z ?_
    refine wtf 15 24 65535 rfl rfl rfl z ?_
    refine wtf 16 24 131071 rfl rfl rfl z ?_
    refine wtf 17 24 262143 rfl rfl rfl z ?_
    refine wtf 18 24 524287 rfl rfl rfl z ?_
    refine wtf 19 24 1048575 rfl rfl rfl z ?_
    refine wtf 20 24 2097151 rfl rfl rfl z ?_
    refine wto 21 24 4194303 rfl rfl rfl z (ov_pick_f rfl rfl) ?_
    refine wt 22 24 8388607 rfl z (ov_pick_f rfl rfl) ?_
    refine wt 23 24 16777215 rfl z (ov_assign rfl) ?_
    refine wa_done (by kernel_rfl) ?_
    refine nx_blk_nrm (nx_then (gw_region (ad_ rfl rfl (mv_ rfl (wl_nil ?_)))))
    exact nx_round (j + 1) (by omega) (by omega) ⟨rfl, rfl, rfl, rfl, rfl, rfl, rfl, rfl, (congrArg (fun z => some (Value.bool z)) (by have h9 := hat; rw [hb5, hb6] at h9; exact h9.symm)), rfl, rfl, rfl, rfl, rfl, (some_int (by omega)), trivial⟩ (fun _ hm => hm.pick [1] [0, 1] [0, 1, 2, 3] rfl rfl)
   have hj : ¬ (((j : Nat) : Int) < ((gn : Nat) : Int)) := by simpa using hh
   clear hh
   refine gw_exit ?_
   refine nx_then_exit (nx_then_exit ?_)
   refine nx_blk_here ?_
   refine nx_then (sr_ ?_)
   have hall : (had.zip giv).take j = (had.zip giv) := List.take_of_length_le (by rw [List.length_zip]; omega)
   rw [hall]
   refine mv_ rfl (wl_ov (ov_un_not rfl) rfl (nn_ ?_))
   refine gw_cond rfl (fun hh => ?_) (fun hh => ?_)
   ·have htk : ((had.zip giv).any (takP (⟨x0, x1, x2, x3, x4, x5⟩ : Bk) cl ((u + 1 : Nat) : Int))) = false := by simpa using hh
    clear hh
    refine gw_region (mv_ rfl (fd_ fo92_0 rfl rfl (lk_ sc9 0 rfl rfl rfl (mv_ rfl (mv_ rfl ?_)))))
    refine wl_ov (ov_build (cs := [.string x0, .string cl, .int .i64 ((u + 1 : Nat) : Int)]) rfl (by kernel_rfl)) rfl ?_
    refine wl_buildSlice (e := 90) (cs := [.string x0, .string cl, .int .i64 ((u + 1 : Nat) : Int)]) rfl (by kernel_rfl) rfl fun g8 => ?_
    refine wl_append (news := [.string x0, .string cl, .int .i64 ((u + 1 : Nat) : Int)]) 1 0 ap80 rfl rfl rfl rfl rfl rfl rfl (by omega) (by unfold maxLen; omega) rfl rfl fun v2 hv2 => ?_
    rw [show ac1.flatMap gvEnc ++ ([.string x0, .string cl, .int .i64 ((u + 1 : Nat) : Int)] : List Value) = (ac1 ++ [(⟨x0, cl, ((u + 1 : Nat) : Int)⟩ : Gv)]).flatMap gvEnc from by simp [gvEnc]]
    refine sg_ rfl (wl_nil (nx_blk_nrm (nx_then (gw_region (mv_ rfl (ad_ rfl rfl (sg_ rfl (wl_nil ?_))))))))
    have htk2 : takenR had giv (⟨x0, x1, x2, x3, x4, x5⟩ : Bk) (cl, ((u + 1 : Nat) : Int)) = false := htk
    exact nx_round (u + 1, k1 + 1, v2, ac1 ++ [(⟨x0, cl, ((u + 1 : Nat) : Int)⟩ : Gv)]) ⟨by dsimp only; omega, by simp [hk1], by dsimp only; omega, by rw [← hT3, unitsF_more hu, chF_no htk2]; simp⟩ (by dsimp only; omega) ⟨rfl, rfl, rfl, rfl, rfl, rfl, rfl, (some_int (by omega)), rfl, rfl, rfl, trivial⟩ (fun _ hm => hm.pick [1] [0, 1] [0, 1, 2, 3] rfl rfl)
   have htk : ((had.zip giv).any (takP (⟨x0, x1, x2, x3, x4, x5⟩ : Bk) cl ((u + 1 : Nat) : Int))) = true := by simpa using hh
   clear hh
   refine gw_skip (nx_blk_nrm (nx_then (gw_region (mv_ rfl (ad_ rfl rfl (sg_ rfl (wl_nil ?_)))))))
   have htk2 : takenR had giv (⟨x0, x1, x2, x3, x4, x5⟩ : Bk) (cl, ((u + 1 : Nat) : Int)) = true := htk
   exact nx_round (u + 1, k1, v1, ac1) ⟨by dsimp only; omega, hk1, by dsimp only; omega, by rw [← hT3, unitsF_more hu, chF_yes htk2]⟩ (by dsimp only; omega) ⟨rfl, rfl, rfl, rfl, rfl, rfl, rfl, (some_int (by omega)), rfl, rfl, rfl, trivial⟩ (fun _ hm => hm.pick [0] [0, 1] [0, 1, 2, 3] rfl rfl)
  have hu : ¬ (((u + 1 : Nat) : Int) ≤ manyV sl cl) := by simpa using hh
  clear hh
  refine gw_exit ?_
  refine nx_then_exit (nx_then_exit ?_)
  refine nx_blk_here ?_
  refine nx_blk_nrm (nx_then (gw_region (ad_ rfl rfl (mv_ rfl (wl_nil ?_)))))
  exact nx_round (i + 1, k1, v1, ac1) ⟨by dsimp only; omega, hk1, by dsimp only; omega, by rw [← hT3, unitsF_end hu]; simp [chF]⟩ (by dsimp only; omega) ⟨rfl, rfl, rfl, rfl, rfl, rfl, rfl, rfl, (some_int (by omega)), trivial⟩ (fun _ hm => hm.pick [0] [0, 1] [0, 1, 2, 3] rfl rfl)
 have hi : ¬ (((i : Nat) : Int) < ((n7 : Nat) : Int)) := by simpa using hh
 clear hh
 refine gw_exit ?_
 refine nx_then_exit (nx_then_exit ?_)
 refine nx_blk_here ?_
 refine nx_then (sr_ ?_)
 refine wl_look (R := ∃ A cc, v = .slice A k cc) (fun wx hm => own_slice (hm.ownI 1 rfl)) ?_
 rintro ⟨A8, c8, rfl⟩
 refine mv_ rfl (sg_ rfl (nn_ ?_))
 refine gw_ret ?_
 have hfin : acc = T := by rw [← hT1, candsF_end (by omega)]; simp [chF]
 rw [← hfin]
 refine nx_ret1 rfl rfl fun wx hm => ?_
 exact ⟨A8, k, c8, rfl, (hm.ownI 1 rfl), hk, by omega, hm.g⟩
end Go.Proofs.YtempjmpfdniecaaGreatDoor
namespace Go.Proofs.YtempjmpfdniecaaGreatDoor
open Go.RowKit
theorem given_info : ∃ i z, Tryz.prog.info? 90 = some i ∧ i.zero = some z ∧ i.size = 3 ∧ i.bytes = 40 ∧ z.cells.size = 3 := info_parts (by kernel_rfl)
set_option maxRecDepth 100000 in
set_option maxHeartbeats 1000000 in
theorem cloneGvs_pos (l : List Gv) (A : Option Addr) (n c : Nat) (w : World) (hl : SlT gvEnc 3 90 w A n l) (hn0 : 0 < n) (hn : n ≤ 1000000) :
    Calls Tryz.prog 131 #[.slice A n c] w (fun e w' => ∃ A' c', e = .returned (.slice A' n c') ∧ w'.ownsRow w.heap.size 90 3 (.slice A' n c') n (l.flatMap gvEnc) ∧ w.grownBy w' none) := by
  obtain ⟨b, off, rfl, hbl, hfl⟩ := hl.flat gv_len hn0
  have hlen := hl.len
  obtain ⟨i0, z0, hi, hz, hsz, hby, hzs⟩ := given_info
  have hnews : ∀ (o : Obj) j u, (l.flatMap gvEnc)[j]? = some u → (w.alloc o).cell? ((⟨b, off, none⟩ : Addr).add j) = some u := fun o j u hj =>
    (World.cell?_of_block (Below.heap_alloc w o _ (by unfold Addr.add; split <;> exact hbl))).trans (hfl j u hj)
  have hone := flat_one gvEnc gv_one l
  have hll := flat_len gvEnc 3 gv_len l
  rw [hlen] at hll
  clear hfl hl
  have Hnews := Lib.hid hnews
  clear hnews
  have he : ∀ w : World, (binOp .eql 80 (.slice (some ⟨b, off, none⟩) n c) (.slice none 0 0)).run Tryz.prog w = .ok (.bool false) w := fun _ => rfl
  go_enter Tryz.func131, Tryz.ntmps131
  go_wp2_with (at_builtin; refine wpList_append_own_at _ rfl _ _ 80 rfl w.heap.size 90 i0 z0 3 40 Tryz.underlying80 hi hz hsz hby hzs (by decide) (.slice (some ⟨w.heap.size, 0, none⟩) 0 0) 0 [] rfl ⟨rfl, .inr ⟨w.heap.size, 0, #[], rfl, Nat.le_refl _, heap_alloc_new w _, Nat.le_refl _, by decide, rfl, rfl⟩⟩ ⟨b, off, none⟩ n c (l.flatMap gvEnc) rfl hll (Hnews.out _) hone (by unfold maxLen; omega) (by omega) (by simp) ?_; intro v' w' hown hgrow hnil hat)
  rw [Nat.zero_add, List.nil_append] at hown
  have hown2 := hown
  obtain ⟨_, ho⟩ := hown2
  rcases ho with ⟨_, h0⟩ | ⟨g, cap, cur, rfl, hg, _⟩
  · omega
  · go_ret
    exact ⟨some ⟨g, 0, none⟩, cap, rfl, hown, grow_own (grow_alloc (World.grownBy.refl _ _) _) hgrow (fun k h => by cases h; exact Nat.le_refl _)⟩
set_option maxRecDepth 100000 in
set_option maxHeartbeats 1000000 in
theorem cloneGvs_empty (a : Addr) (c : Nat) (w : World) :
    Calls Tryz.prog 131 #[.slice (some a) 0 c] w (fun e w' => ∃ A' c', e = .returned (.slice A' 0 c') ∧ w'.ownsRow w.heap.size 90 3 (.slice A' 0 c') 0 [] ∧ w.grownBy w' none) := by
  obtain ⟨i0, z0, hi, hz, hsz, hby, hzs⟩ := given_info
  have he : ∀ w : World, (binOp .eql 80 (.slice (some a) 0 c) (.slice none 0 0)).run Tryz.prog w = .ok (.bool false) w := fun _ => rfl
  go_enter Tryz.func131, Tryz.ntmps131
  go_wp2_with (at_builtin; refine wpList_append_own_at _ rfl _ _ 80 rfl w.heap.size 90 i0 z0 3 40 Tryz.underlying80 hi hz hsz hby hzs (by decide) (.slice (some ⟨w.heap.size, 0, none⟩) 0 0) 0 [] rfl ⟨rfl, .inr ⟨w.heap.size, 0, #[], rfl, Nat.le_refl _, heap_alloc_new w _, Nat.le_refl _, by decide, rfl, rfl⟩⟩ a 0 c [] rfl rfl (fun j u hj => by simp at hj) (fun v hv => by cases hv) (by unfold maxLen; omega) (by omega) (by simp) ?_; intro v' w' hown hgrow hnil hat)
  rw [Nat.zero_add, List.nil_append] at hown
  have hown2 := hown
  obtain ⟨_, ho⟩ := hown2
  rcases ho with ⟨rfl, _⟩ | ⟨g, cap, cur, rfl, hg, _⟩
  · go_ret
    exact ⟨none, 0, rfl, hown, grow_own (grow_alloc (World.grownBy.refl _ _) _) hgrow (fun k h => by cases h; exact Nat.le_refl _)⟩
  · go_ret
    exact ⟨some ⟨g, 0, none⟩, cap, rfl, hown, grow_own (grow_alloc (World.grownBy.refl _ _) _) hgrow (fun k h => by cases h; exact Nat.le_refl _)⟩
set_option maxRecDepth 100000 in
set_option maxHeartbeats 400000 in
theorem cloneGvs_nil (c : Nat) (w : World) : Calls Tryz.prog 131 #[.slice none 0 c] w (fun e w' => e = .returned (.slice none 0 0) ∧ w = w') := by
  have he : ∀ w : World, (binOp .eql 80 (.slice none 0 c) (.slice none 0 0)).run Tryz.prog w = .ok (.bool true) w := fun _ => rfl
  go_enter Tryz.func131, Tryz.ntmps131
  go_wp2_with fail
  go_ret
  exact ⟨rfl, rfl⟩
theorem cloneGvs_any (l : List Gv) (A : Option Addr) (n c : Nat) (w : World) (hl : SlT gvEnc 3 90 w A n l) (hn : n ≤ 1000000) :
    Calls Tryz.prog 131 #[.slice A n c] w (fun e w' => ∃ A' c', e = .returned (.slice A' n c') ∧ w'.ownsRow w.heap.size 90 3 (.slice A' n c') n (l.flatMap gvEnc) ∧ w.grownBy w' none) := by
  by_cases h0 : n = 0
  · subst h0
    have hl0 : l = [] := List.length_eq_zero_iff.1 hl.len
    subst hl0
    cases A with
    | none => exact (cloneGvs_nil c w).mono fun e w' ⟨he, hw⟩ => ⟨none, 0, he, ⟨rfl, .inl ⟨rfl, rfl⟩⟩, hw ▸ World.grownBy.refl _ _⟩
    | some a => exact cloneGvs_empty a c w
  · exact cloneGvs_pos l A n c w hl (by omega) hn
end Go.Proofs.YtempjmpfdniecaaGreatDoor
