/- Several texts as one: Lgd Bq Td Ry Fcb -/
import Derived.Test.YtempjmpfdniecaaGreatDoorN2f
import Derived.Test.YtempjmpfdniecaaGreatDoorN2c
import Derived.Test.YtempjmpfdniecaaGreatDoorN2a
import Derived.Test.YtempjmpfdniecaaGreatDoorN2b
import Derived.Test.YtempjmpfdniecaaGreatDoorN2e
set_option maxRecDepth 100000
set_option maxHeartbeats 4000000
namespace Go.Proofs.YtempjmpfdniecaaGreatDoor
open Go.RowKit
theorem lgWl_any (t : ByteArray) (g : Nat) (w : World) (hts : t.size <= 200000) (hb : Blk w g 39 [.slice none 0 0]) (htx : TxtO w.heap.size (some g) w) :
  Calls Tryz.prog 75 #[.string t, .func (.func 117) #[] #[.pointer (some ⟨g, 0, none⟩)]] w (fun e w' => ∃ v n, e = .returned (.tuple #[.int .i64 (lgR t).1, .bool (lgR t).2.1]) /\ Blk w' g 39 [v] /\ w'.ownsRow w.heap.size 45 5 v n ((lgR t).2.2.flatMap evEnc) /\ w.grownBy w' (some g)) := by
 refine gw_enter ⟨30, w, (some g), [9, 3]⟩ Tryz.func75 rfl Tryz.ntmps75 rfl (memR (X := [TxtO w.heap.size (some g)]) (blkRow1 hb) (allF_cons htx allF_nil) (allL_cons TxtO.lasts allL_nil)) ?_
 refine sr_ (sg_ rfl (sg_ rfl (nn_ (gw_seq (sr_ (sg_ rfl (nn_ (gw_block ?_))))))))
 refine gw_nilOwn 45 5 ?_
 refine gw_loop (γ := Nat × ByteArray × Int × Value × List Ev) (fun (gz : Nat × ByteArray × Int × Value × List Ev) => gz.2.1.size < gz.1 /\ gz.2.1.size <= t.size /\ lgR t = linesF lgStep gz.1 gz.2.1 gz.2.2.1 gz.2.2.2.2 /\ 0 <= gz.2.2.1 /\ gz.2.2.1 + gz.2.1.size <= t.size /\ gz.2.2.2.2.length + gz.2.1.size <= t.size) (fun (gz : Nat × ByteArray × Int × Value × List Ev) => [(0, .string gz.2.1), (1, .func (.func 117) #[] #[.pointer (some ⟨g, 0, none⟩)]), (6, .int .i64 gz.2.2.1)]) (fun (gz : Nat × ByteArray × Int × Value × List Ev) => RowK 0 39 1 1 1 g ([gz.2.2.2.1].flatMap svEnc)) (fun (gz : Nat × ByteArray × Int × Value × List Ev) => []) (fun (gz : Nat × ByteArray × Int × Value × List Ev) => [⟨gz.2.2.2.1, 45, 5, gz.2.2.2.2.length, gz.2.2.2.2.flatMap evEnc⟩]) (fun (gz : Nat × ByteArray × Int × Value × List Ev) => [TxtO w.heap.size (some g)]) (fun (gz : Nat × ByteArray × Int × Value × List Ev) => gz.1) (t.size + 1, t, 0, .slice none 0 0, []) ⟨Nat.lt_succ_self _, Nat.le_refl _, rfl, Int.le_refl _, by dsimp only; omega, by simp⟩ ⟨rfl, rfl, rfl, trivial⟩ (fun _ hm => hm.pick [] [0] [0] rfl rfl) ?_
 rintro ⟨f, u, at_, v, acc⟩ hinv
 replace hinv : u.size < f /\ u.size <= t.size /\ lgR t = linesF lgStep f u at_ acc /\ 0 <= at_ /\ at_ + u.size <= t.size /\ acc.length + u.size <= t.size := hinv
 dsimp only
 refine gw_seq (sr_ ?_)
 obtain ⟨hf, hu, hR, ha0, ha1, hacc⟩ := hinv
 refine mv_ rfl (wl_ov (ov_sneq rfl rfl) rfl (nn_ ?_))
 refine gw_cond rfl (fun hh => ?_) (fun hh => ?_)
 ·have he : (u.toList == (⟨#[]⟩ : ByteArray).toList) = false := by simpa using hh
  clear hh
  refine gw_skip (nx_then (gw_seq (gw_block (sr_ ?_))))
  replace he : (u.toList == (⟨#[]⟩ : ByteArray).toList) = false := by simpa using he
  have hu1 := size_pos he
  obtain ⟨⟨c1, c2, cf⟩, hcut⟩ : ∃ z, cutS u nlS = z := ⟨_, rfl⟩
  have hsz := cut_sz u nlS (by decide)
  rw [hcut] at hsz
  obtain ⟨hs1, hs2, hs3⟩ := hsz
  have hs1 : c1.size <= u.size := hs1
  have hs2 : cf = true -> 1 <= u.size -> c2.size + 1 <= u.size := hs2
  refine mv_ rfl ?_
  refine wl_callv (v := .tuple #[.string c1, .string c2, .bool cf]) rfl cb178 rfl rfl (fun wx hm => (by have h := cut_any u nlS wx (hm.fact 0 rfl).1 (by omega); rw [hcut] at h; exact h)) ?_
  refine mv_ rfl (wl_ov (ov_extract rfl rfl) rfl (wl_ov (ov_extract rfl rfl) rfl (wl_ov (ov_extract rfl rfl) rfl (sg_ rfl (sg_ rfl (sg_ rfl (nn_ (gw_seq (sr_ (mv_ rfl (wl_ov (ov_un_not rfl) rfl ?_)))))))))))
  refine mv_ rfl ?_
  rcases Bool.eq_false_or_eq_true (!cf) with hcf | hcf
  ·refine wl_set 22 rfl (congrArg Value.bool hcf) ?_
   replace hcf : cf = false := by simpa using hcf
   subst hcf
   refine goff rfl rfl rfl (goff rfl rfl rfl (goff rfl rfl rfl (goff rfl rfl rfl (pt_ rfl rfl (nn_ (ct_ rfl (sr_ (mv_ rfl (sg_ rfl (sg_ rfl (wl_nil ?_)))))))))))
   refine nx_then ?_
   refine gw_ret ?_
   refine nx_then_ret (nx_blk_ret (nx_then_ret (nx_then_ret (nx_blk_ret (nx_then_ret ?_)))))
   refine nx_ret2 rfl rfl rfl fun wx hm => ?_
   have hR2 := hR.trans (lns_open hf he hcut)
   rw [hR2]
   exact ⟨_, _, rfl, rowBlk1 hm.k, hm.ownI 0 rfl, hm.g⟩
  refine wl_set 22 rfl (congrArg Value.bool hcf) ?_
  replace hcf : cf = true := by simpa using hcf
  subst hcf
  have hs2 := hs2 rfl hu1
  refine wl_guard_on rfl rfl rfl (mv_ rfl (wl_guard_on rfl rfl rfl (mv_ rfl (wl_guard_on rfl rfl rfl ?_))))
  refine wl_callG (γ := Value) (val := fun _ => .bool (lgRdB c1)) (φ := fun _ => True) (K' := fun z => RowK 0 39 1 1 1 g ([z].flatMap svEnc)) (L' := fun _ => []) (O' := fun z => [⟨z, 45, 5, (lgRdA c1 acc).length, (lgRdA c1 acc).flatMap evEnc⟩]) (X' := fun _ => [TxtO w.heap.size (some g)]) rfl cb117 rfl rfl (fun wx hm => (lgRead1_any c1 w wx g acc.length v acc (by omega) (by omega) (hm.pick [] [0] [0] rfl rfl).cx).mono fun e w' ⟨v', n', he, hM⟩ => by
   obtain rfl : n' = (lgRdA c1 acc).length := lgOwn_n (hM.ownI 0 rfl)
   exact ⟨v', he, trivial, hM.cx⟩) ?_
  rintro v1 _
  have hrl := lgRdA_len c1 acc
  refine wl_guard_on rfl rfl rfl (wl_ov (ov_un_not rfl) rfl (pf_ rfl rfl (nn_ ?_)))
  refine gw_cond rfl (fun hh => ?_) (fun hh => ?_)
  ·have hr : (lgRdB c1) = false := by simpa using hh
   clear hh
   refine sr_ ?_
   replace hr : lgRdB c1 = false := by simpa using hr
   refine mv_ rfl (sg_ rfl (sg_ rfl (nn_ ?_)))
   refine gw_ret ?_
   refine nx_then_ret (nx_blk_ret (nx_then_ret (nx_then_ret (nx_blk_ret (nx_then_ret ?_)))))
   refine nx_ret2 rfl rfl rfl fun wx hm => ?_
   have hR2 := hR.trans (lns_no hf he hcut hr)
   rw [hR2]
   exact ⟨_, _, rfl, rowBlk1 hm.k, hm.ownI 0 rfl, hm.g⟩
  have hr : (lgRdB c1) = true := by simpa using hh
  clear hh
  refine gw_skip (nx_then (gw_region ?_))
  replace hr : lgRdB c1 = true := by simpa using hr
  refine mv_ rfl (sg_ rfl (wl_nil (nx_blk_nrm (nx_then (gw_region (mv_ rfl (ad_ rfl rfl (sg_ rfl (wl_nil ?_)))))))))
  exact nx_round (f - 1, c2, at_ + 1, v1, lgRdA c1 acc) ⟨by dsimp only; omega, by dsimp only; omega, hR.trans (lns_go hf he hcut hr), by dsimp only; omega, by dsimp only; omega, by dsimp only; omega⟩ (by dsimp only; omega) ⟨rfl, rfl, rfl, trivial⟩ (fun _ hm => hm.pick [] [0] [0] rfl rfl)
 have he : (u.toList == (⟨#[]⟩ : ByteArray).toList) = true := by simpa using hh
 clear hh
 refine gw_exit ?_
 refine nx_then_exit (nx_then_exit ?_)
 refine nx_blk_here ?_
 refine nx_then (sr_ (sg_ rfl (sg_ rfl (nn_ ?_))))
 refine gw_ret ?_
 refine nx_ret2 rfl rfl rfl fun wx hm => ?_
 have hR2 := hR.trans (lns_nil hf (by simpa using he))
 rw [hR2]
 exact ⟨_, _, rfl, rowBlk1 hm.k, hm.ownI 0 rfl, hm.g⟩
theorem first_when {p : Prop} [Decidable p] (h : p) : firstE [0, whenE (decide p) 2] = 2 := by rw [decide_eq_true h]; rfl
theorem first_unless {p : Prop} [Decidable p] (h : ¬ p) : firstE [0, whenE (decide p) 2] = 0 := by rw [decide_eq_false h]; rfl
theorem lgRead_right (sl : List St) (cl : List Cs) (vl : List Vh) (pl : List Pl) (sA cA vA pA : Option Addr) (sn sc cn cc vn vc pn pc : Nat) (t : ByteArray) (w : World) (hs : SlT stEnc 15 152 w sA sn sl) (hc : SlT csEnc 2 158 w cA cn cl) (hv : SlT vhEnc 2 160 w vA vn vl) (hp : SlT plEnc 3 162 w pA pn pl) (hsok : ∀ x ∈ sl, StOk x) (hcok : ∀ x ∈ cl, CsOk x) (hvok : ∀ x ∈ vl, VhOk x) (hpok : ∀ x ∈ pl, PlOk x) (hsn : sn <= 1000000) (hcn : cn <= 1000000) (hvn : vn <= 1000000) (hpn : pn <= 1000000) (htx : TxtW w) (hts : t.size <= 1000000000) (h0 : fleetE sl cl vl pl = 0) :
  Calls Tryz.prog 31 #[.agg #[.slice sA sn sc, .slice cA cn cc, .slice vA vn vc, .slice pA pn pc], .string t] w (lgReadK sl vl t w) := by
 refine gw_enter ⟨39, w, none, []⟩ Tryz.func31 rfl Tryz.ntmps31 rfl (mem0 (X := [SlOld stEnc 15 152 w.heap.size none sA sn sl, SlOld csEnc 2 158 w.heap.size none cA cn cl, SlOld vhEnc 2 160 w.heap.size none vA vn vl, SlOld plEnc 3 162 w.heap.size none pA pn pl, TxtO w.heap.size none]) (allF_cons hs.old (allF_cons hc.old (allF_cons hv.old (allF_cons hp.old (allF_cons htx.old allF_nil))))) (allL_cons SlOld.lasts (allL_cons SlOld.lasts (allL_cons SlOld.lasts (allL_cons SlOld.lasts (allL_cons TxtO.lasts allL_nil)))))) ?_
 refine sr_ ?_
 have hrise := fleet_rise h0
 obtain ⟨FE, hFE⟩ : ∃ z, z = fleetE sl cl vl pl := ⟨_, rfl⟩
 obtain rfl : FE = 0 := hFE.trans h0
 refine wl_box rfl rfl rfl fun g1 => ?_
 refine sg_ rfl (sg_ rfl (sg_ rfl (nn_ (gw_seq (sr_ ?_)))))
 refine wl_ov (ov_loads rz62 rfl (fun _ hm => hm.blkI 0 rfl) rfl rfl) rfl ?_
 refine wl_callv (v := .int .i64 0) rfl cb106 rfl rfl (fun wx hm => (by rw [hFE]; exact checkFleet_any sl cl vl pl sA cA vA pA sn sc cn cc vn vc pn pc wx (hm.fact 0 rfl).1 (hm.fact 1 rfl).1 (hm.fact 2 rfl).1 (hm.fact 3 rfl).1 hsok hcok hvok hpok hsn hcn hvn hpn)) ?_
 refine mv_ rfl ?_
 refine wl_ov (ov_lens us9 rfl) rfl ?_
 refine wl_ov (ov_gtr rfl rfl) rfl ?_
 refine wl_callw rfl cb68 rfl rfl (fun wx hm => (when_any _ _ wx)) ?_
 refine wl_buildSlice (e := 33) (cs := [.int .i64 0, .int .i64 (whenE (decide (200000 < ((t).size : Int))) 2)]) rfl (by kernel_rfl) rfl fun g2 => ?_
 refine wl_callw rfl cb67 rfl rfl (fun wx hm => (first_any [0, whenE (decide (200000 < ((t).size : Int))) 2] _ _ _ wx (hm.blkI 0 rfl) (by simp))) ?_
 refine sg_ rfl (nn_ (sr_ (mv_ rfl (wl_ov (ov_neq rfl rfl) rfl (nn_ ?_)))))
 by_cases hbig : 200000 < ((t).size : Int)
 ·have hF := first_when hbig
  refine gw_cond rfl (fun hh => ?_) (fun hh => ?_)
  ·have h1 : ¬ (firstE [0, whenE (decide (200000 < ((t).size : Int))) 2] = 0) := by simpa using hh
   clear hh
   refine sr_ (mv_ rfl (sg_ rfl (sg_ rfl (sg_ rfl (nn_ ?_)))))
   refine gw_ret ?_
   refine nx_then_ret ?_
   refine nx_ret3 rfl rfl rfl rfl fun wx hm => ?_
   have hz := lg_big (sl := sl) (vl := vl) (t := t) (by omega)
   exact lgReadK.nil ⟨hz.1.trans hF.symm, hz.2.1, hz.2.2⟩ hm.g
  have h1 : firstE [0, whenE (decide (200000 < ((t).size : Int))) 2] = 0 := by simpa using hh
  clear hh
  refine gw_skip (nx_then (sr_ ?_))
  exact absurd (by simpa using h1) (by rw [hF]; decide)
 have hF := first_unless hbig
 refine gw_cond rfl (fun hh => ?_) (fun hh => ?_)
 ·have h1 : ¬ (firstE [0, whenE (decide (200000 < ((t).size : Int))) 2] = 0) := by simpa using hh
  clear hh
  refine sr_ ?_
  exact absurd hF (by simpa using h1)
 have h1 : firstE [0, whenE (decide (200000 < ((t).size : Int))) 2] = 0 := by simpa using hh
 clear hh
 refine gw_skip (nx_then (sr_ ?_))
 have hb : ¬ 200000 < t.size := by omega
 obtain ⟨hok, hll⟩ := lgR_all (t := t) (by omega)
 refine wl_alloc zc39 rfl fun g3 => ?_
 refine nn_ (sr_ (mv_ rfl (wl_ov (ov_makeFunc rfl rfl) rfl ?_)))
 refine wl_callG (γ := Value) (val := fun _ => .tuple #[.int .i64 (lgR t).1, .bool (lgR t).2.1]) (φ := fun _ => True) (K' := fun _ => (fun _ => True)) (L' := fun z => [(g3, 39, [z]), (g2, 33, [.int .i64 0, .int .i64 (whenE (decide (200000 < ((t).size : Int))) 2)]), (g1, 62, [.slice sA sn sc, .slice cA cn cc, .slice vA vn vc, .slice pA pn pc])]) (O' := fun z => [⟨z, 45, 5, (lgR t).2.2.length, (lgR t).2.2.flatMap evEnc⟩]) (X' := fun _ => [SlOld stEnc 15 152 w.heap.size none sA sn sl, SlOld csEnc 2 158 w.heap.size none cA cn cl, SlOld vhEnc 2 160 w.heap.size none vA vn vl, SlOld plEnc 3 162 w.heap.size none pA pn pl, TxtO w.heap.size none]) rfl cb75 rfl rfl (fun wx hm => (lgWl_any t g3 wx (by omega) (hm.blkI 0 rfl) ((hm.fact 4 rfl).here (hm.b _ (List.mem_of_getElem? (i := 0) rfl)).1)).mono fun e w' ⟨v', n', he, hb, ho, hg⟩ => by
  obtain rfl : n' = (lgR t).2.2.length := lgOwn_n ho
  exact ⟨v', he, trivial, hm.handedK (i := 0) rfl hg hb ho (farX_cons (i := 0) SlOld.far' rfl (farX_cons (i := 1) SlOld.far' rfl (farX_cons (i := 2) SlOld.far' rfl (farX_cons (i := 3) SlOld.far' rfl (farX_cons (i := 4) TxtO.far rfl farX_nil)))))⟩) ?_
 rintro v1 _
 refine wl_look (R := ∃ A cc, v1 = .slice A ((lgR t).2.2.length) cc) (fun wx hm => own_slice (hm.ownI 0 rfl)) ?_
 rintro ⟨EA, ecc, rfl⟩
 refine mv_ rfl (wl_ov (ov_extract rfl rfl) rfl (wl_ov (ov_extract rfl rfl) rfl (sg_ rfl (sg_ rfl (nn_ (gw_seq (sr_ (mv_ rfl (wl_ov (ov_un_not rfl) rfl (nn_ ?_))))))))))
 refine gw_cond rfl (fun hh => ?_) (fun hh => ?_)
 ·have ho : ((lgR t).2.1) = false := by simpa using hh
  clear hh
  refine sr_ ?_
  replace ho : (lgR t).2.1 = false := by simpa using ho
  refine mv_ rfl (sg_ rfl (sg_ rfl (sg_ rfl (nn_ ?_))))
  refine gw_ret ?_
  refine nx_then_ret ?_
  refine nx_ret3 rfl rfl rfl rfl fun wx hm => ?_
  exact lgReadK.nil (lg_syn hb ho) hm.g
 have ho : ((lgR t).2.1) = true := by simpa using hh
 clear hh
 refine gw_skip (nx_then (gw_seq (sr_ ?_)))
 replace ho : (lgR t).2.1 = true := by simpa using ho
 refine wl_ov (ov_loads rz62 rfl (fun _ hm => hm.blkI 2 rfl) rfl rfl) rfl ?_
 refine lk_ sc39 0 rfl rfl rfl ?_
 obtain ⟨EL, hEL⟩ : ∃ z, z = (lgR t).2.2 := ⟨_, rfl⟩
 rw [<- hEL] at hok hll ⊢
 obtain ⟨LE, hLE⟩ : ∃ z, z = logE sl vl EL := ⟨_, rfl⟩
 refine wl_callv (v := .int .i64 LE) rfl cb120 rfl rfl (fun wx hm => (by rw [hLE]; exact check_any sl vl sA cA vA pA sn sc cn cc vn vc pn pc EL EA _ ecc wx (hm.fact 0 rfl).1 (hm.fact 2 rfl).1 hsok hsn hvn (SlT.ofOwn ev_len (hm.ownI 0 rfl) rfl) hok (by omega) hrise)) ?_
 refine sg_ rfl (nn_ (sr_ (mv_ rfl (wl_ov (ov_neq rfl rfl) rfl (nn_ ?_)))))
 refine gw_cond rfl (fun hh => ?_) (fun hh => ?_)
 ·have hf : ¬ (LE = 0) := by simpa using hh
  clear hh
  refine sr_ ?_
  have hf2 : ¬ logE sl vl (lgR t).2.2 = 0 := by rw [<- hEL, <- hLE]; simpa using hf
  refine mv_ rfl (sg_ rfl (sg_ rfl (sg_ rfl (nn_ ?_))))
  refine gw_ret ?_
  refine nx_then_ret ?_
  refine nx_ret3 rfl rfl rfl rfl fun wx hm => ?_
  rw [hLE, hEL]
  exact lgReadK.nil (lg_form hb ho hf2) hm.g
 have hf : LE = 0 := by simpa using hh
 clear hh
 refine gw_skip (nx_then (sr_ ?_))
 have hR := lg_right (sl := sl) (vl := vl) hb ho (by rw [<- hEL, <- hLE]; simpa using hf)
 refine lk_ sc39 0 rfl rfl rfl (sg_ rfl (sg_ rfl (sg_ rfl (nn_ ?_))))
 refine gw_ret ?_
 refine nx_ret3 rfl rfl rfl rfl fun wx hm => ?_
 exact ⟨EA, _, ecc, by rw [hR.1, hR.2.1], by rw [hR.2.2, <- hEL]; exact SlT.ofOwn ev_len (hm.ownI 0 rfl) rfl, hm.g⟩
end Go.Proofs.YtempjmpfdniecaaGreatDoor
namespace Go.Proofs.YtempjmpfdniecaaGreatDoor
open Go.RowKit
set_option maxHeartbeats 400000 in
theorem formed_nil (w : World) : Calls Tryz.prog 253 #[.slice none 0 0] w (GotE w 0) := by
 go_enter Tryz.func253, Tryz.ntmps253
 go_wp2_with fail
 go_loopw [10] (fun i wr => i = .int .i64 0 /\ wr = w) (fun _ _ => 0)
 case atStart => exact ⟨rfl, rfl⟩
 case round =>
  obtain ⟨rfl, rfl⟩ := hrel
  go_wp2_with fail
  go_ret
  exact ⟨rfl, World.grownBy.refl _ _⟩
set_option maxHeartbeats 400000 in
theorem checkOdds_nil (w : World) : Calls Tryz.prog 191 #[.slice none 0 0] w (GotE w 0) := by
 go_enter Tryz.func191, Tryz.ntmps191
 go_wp2_with fail
 refine (formed_nil _).mono ?_
 rintro e w1 ⟨rfl, hg1⟩
 go_wp2_with fail
 refine (when_any _ _ _).mono ?_
 rintro e w2 ⟨rfl, rfl⟩
 go_wp2_with fail
 refine (first_any [0, whenE false 2] _ _ _ _ (Blk.at_ _ rfl _ _) (by simp)).mono ?_
 rintro e w6 ⟨rfl, rfl⟩
 go_wp2_with fail
 go_ret
 exact ⟨rfl, grow_alloc hg1 _⟩
set_option maxHeartbeats 400000 in
theorem spread_nil (w : World) : Calls Tryz.prog 192 #[.slice none 0 0] w (fun e w' => ∃ g c, e = .returned (.tuple #[.slice (some ⟨g, 0, none⟩) 1 c, .int .i64 1]) /\ g < w'.heap.size /\ w'.cell? ⟨g, 0, none⟩ = some (.int .i64 1) /\ w.grownBy w' none) := by
 go_enter Tryz.func192, Tryz.ntmps192
 go_wp2_with fail
 go_loopw [4, 5, 14] (fun s n i wr => s = .slice (some ⟨w.heap.size, 0, none⟩) 1 1 /\ n = .int .i64 1 /\ i = .int .i64 0 /\ wr = w.alloc (.cells #[.int .i64 1] 3)) (fun _ _ _ _ => 0)
 case atStart => exact ⟨rfl, rfl, rfl, rfl⟩
 case round =>
  obtain ⟨rfl, rfl, rfl, rfl⟩ := hrel
  go_wp2_with fail
  go_ret2
  exact ⟨_, _, rfl, by simp, (Blk.at_ w rfl 3 [.int .i64 1]).cell_of rfl, grow_alloc (World.grownBy.refl _ _) _⟩
theorem info_fr : (Tryz.prog.info? 196).map (·.size) = some 2 := by kernel_rfl
set_option maxRecDepth 100000 in
set_option maxHeartbeats 400000 in
theorem lowest_one (w : World) : Calls Tryz.prog 193 #[.int .i64 1, .int .i64 1] w (fun e w' => e = .returned (.agg #[.int .i64 1, .int .i64 1]) /\ w.grownBy w' none) := by
  go_enter Tryz.func193, Tryz.ntmps193
  go_wp2_with fail
  go_loopw [5, 6] (fun a b wr => a = .int .i64 1 /\ (b = .int .i64 0 ∨ b = .int .i64 1) /\ w.grownBy wr none /\ Blk wr w.heap.size 196 [.int .i64 0, .int .i64 0]) (fun _ b _ => (intOf b).toNat)
  case atStart => exact ⟨rfl, .inr rfl, grow_alloc (World.grownBy.refl _ _) _, Blk.at_ w rfl _ _⟩
  case round =>
    obtain ⟨rfl, hk, hgr, hb⟩ := hrel
    rcases hk with rfl | rfl
    · go_wp2_with fail
      refine wp_region_still_tail 7 (by kernel_rfl) (by kernel_rfl) ?_
      change wpStill _ _ (World.drew _) _ _ _
      simp only [List.take_succ_cons, List.take_zero, List.drop_succ_cons, List.drop_zero]
      repeat still_step
      refine wpStill_nil ?_
      change wpList _ _ _ _ _ (World.drew _)
      go_wp2_with (with_reducible refine wpList_store_all rfl 196 (.tmp 4) (.tmp 24) rfl w.heap.size _ _ [.int .i64 1, .int .i64 1] hb.drew rfl rfl 2 info_fr rfl rfl (by simp [Value.oneCell']) ?_
                   intro w2 hb2 hg2)
      refine ret_blk (p := 4) (ty := 196) rfl w.heap.size _ _ _ hb2 rfl Tryz.underlying196 rfl 2 info_fr rfl rfl ?_
      exact ⟨rfl, grow_own (grow_drew hgr) hg2 (fun k h => by cases h; exact Nat.le_refl _)⟩
    · go_wp2_with fail
      go_quiet (fail)
      go_wp2_with fail
      go_roundw
      case rel => exact ⟨rfl, .inl rfl, grow_drewN hgr _, hb.drewN _⟩
      case measure => simp [intOf]
set_option maxRecDepth 100000 in
set_option maxHeartbeats 1000000 in
theorem bspread_nil (w : World) : Calls Tryz.prog 95 #[.slice none 0 0] w (fun e w' => ∃ A c, e = .returned (.tuple #[.slice A 1 c, .int .i64 0]) /\ w.grownBy w' none) := by
 go_enter Tryz.func95, Tryz.ntmps95
 go_wp2_with fail
 refine (checkOdds_nil _).mono ?_
 rintro e w1 ⟨rfl, hg1⟩
 go_wp2_with fail
 refine (spread_nil _).mono ?_
 rintro e w2 ⟨g, c, rfl, hlt, hc, hg2⟩
 have hgw : w.grownBy w2 none := grow_trans hg1 hg2
 clear hg1 hg2
 go_wp2_with fail
 go_loopw [7, 22] (fun s i wr => w2.grownBy wr none /\ ((i = .int .i64 0 /\ s = .slice none 0 0) ∨ (i = .int .i64 1 /\ ∃ A c, s = .slice A 1 c))) (fun _ i _ => 1 - (intOf i).toNat)
 case atStart => exact ⟨World.grownBy.refl _ _, .inl ⟨rfl, rfl⟩⟩
 case round =>
  obtain ⟨hgr, hs⟩ := hrel
  rcases hs with ⟨rfl, rfl⟩ | ⟨rfl, A, c', rfl⟩
  ·have hc1 : wr.cell? ⟨g, 0, none⟩ = some (.int .i64 1) := (World.cell?_of_block (hgr.block g hlt (by simp))).trans hc
   go_wp2_with fail
   refine (lowest_one _).mono ?_
   rintro e w3 ⟨rfl, hg3⟩
   go_wp2_with fail
   go_roundw
   case rel => exact ⟨grow_drew (grow_alloc (grow_alloc (grow_trans hgr hg3) _) _), .inr ⟨rfl, _, _, rfl⟩⟩
   case measure => simp [intOf]
  ·go_wp2_with fail
   go_ret2
   exact ⟨_, _, rfl, grow_trans hgw hgr⟩
end Go.Proofs.YtempjmpfdniecaaGreatDoor
namespace Go.Proofs.YtempjmpfdniecaaGreatDoor
open Go.RowKit
theorem timeE_okT {a b : Int} (h : timeE a b = 0) : 0 <= a /\ a < b /\ b <= 5761439 := by
 unfold timeE at h
 split at h
 ·cases h
 ·omega
theorem tdays_any (fr tt : Int) (w : World) :
  Calls Tryz.prog 93 #[.agg #[.int .i64 fr, .int .i64 tt]] w (fun e w' => e = .returned (.tuple #[.int .i64 (if timeE fr tt = 0 then daysV fr tt else 0), .int .i64 (timeE fr tt)]) /\ w.grownBy w' none) := by
 refine gw_enter ⟨12, w, none, []⟩ Tryz.func93 rfl Tryz.ntmps93 rfl (mem0 (X := []) allF_nil allL_nil) ?_
 refine sr_ ?_
 refine wl_box rfl rfl rfl fun g1 => ?_
 refine sg_ rfl (sg_ rfl (nn_ (gw_seq (sr_ ?_))))
 refine wl_ov (ov_loads rz27 rfl (fun _ hm => hm.blkI 0 rfl) rfl rfl) rfl ?_
 refine wl_callv rfl cb70 rfl rfl (fun wx hm => (time_any _ _ wx)) ?_
 refine sg_ rfl (nn_ (sr_ (mv_ rfl (wl_ov (ov_neq rfl rfl) rfl (nn_ ?_)))))
 refine gw_cond rfl (fun hh => ?_) (fun hh => ?_)
 ·have h1 : ¬ (timeE fr tt = 0) := by simpa using hh
  clear hh
  refine sr_ (mv_ rfl (sg_ rfl (sg_ rfl (nn_ ?_))))
  refine gw_ret ?_
  refine nx_then_ret ?_
  refine nx_ret2 rfl rfl rfl fun wx hm => ?_
  exact ⟨by rw [if_neg h1], hm.g⟩
 have h1 : timeE fr tt = 0 := by simpa using hh
 clear hh
 refine gw_skip (nx_then (sr_ ?_))
 obtain ⟨h2, h3, h4⟩ := timeE_okT h1
 refine wl_ov (ov_loads rz27 rfl (fun _ hm => hm.blkI 0 rfl) rfl rfl) rfl ?_
 refine wl_callv rfl cb173 rfl rfl (fun wx hm => (days_any _ _ wx (by omega) (by omega) (by omega))) ?_
 refine sg_ rfl (sg_ rfl (nn_ ?_))
 refine gw_ret ?_
 refine nx_ret2 rfl rfl rfl fun wx hm => ?_
 exact ⟨by rw [if_pos h1, h1], hm.g⟩
end Go.Proofs.YtempjmpfdniecaaGreatDoor
namespace Go.Proofs.YtempjmpfdniecaaGreatDoor
open Go.RowKit
theorem ready_open : isOpenV ⟨⟨#[115]⟩, [0, 9, 0, 0, 0, 0, 0, 0, 0, 0, 0, 0, 0, 0]⟩ 8 = true /\ isOpenE ⟨⟨#[115]⟩, [0, 9, 0, 0, 0, 0, 0, 0, 0, 0, 0, 0, 0, 0]⟩ 8 = 0 := ⟨by kernel_rfl, by kernel_rfl⟩
theorem ready_days : (if timeE 0 1441 = 0 then daysV 0 1441 else 0) = 2 /\ timeE 0 1441 = 0 := ⟨by decide +kernel, by decide +kernel⟩
theorem ready_hire : hireE ⟨⟨#[104]⟩, ⟨#[100]⟩, 5, 9, [startLeg ⟨#[118]⟩ ⟨5, ⟨#[115]⟩, 0, 0⟩]⟩ = 0 := by kernel_rfl
set_option maxRecDepth 100000 in
set_option maxHeartbeats 1000000 in
theorem ready_any (w : World) : Calls Tryz.prog 23 #[] w (fun e w' => e = .returned (.bool true) /\ w.grownBy w' none) := by
 have cD : ∀ w, Calls Tryz.prog 93 #[.agg #[.int .i64 0, .int .i64 1441]] w (fun e w' => e = .returned (.tuple #[.int .i64 2, .int .i64 0]) /\ w.grownBy w' none) := fun w => by
  have h := tdays_any 0 1441 w
  rw [ready_days.1, ready_days.2] at h
  exact h
 have cO : ∀ w, Calls Tryz.prog 94 #[.agg #[.string ⟨#[115]⟩, .int .i64 0, .int .i64 9, .int .i64 0, .int .i64 0, .int .i64 0, .int .i64 0, .int .i64 0, .int .i64 0, .int .i64 0, .int .i64 0, .int .i64 0, .int .i64 0, .int .i64 0, .int .i64 0], .int .i64 8] w (RetBE w true 0) := fun w => by
  have hs : ∀ h ∈ [0, 9, 0, 0, 0, 0, 0, 0, 0, 0, 0, 0, 0, (0 : Int)], 0 <= h /\ h <= 9 := by decide
  have h := lotOpen_any ⟨#[115]⟩ [0, 9, 0, 0, 0, 0, 0, 0, 0, 0, 0, 0, 0, 0] 8 w ⟨rfl, (by decide : (⟨#[115]⟩ : ByteArray).size <= 1000000), fun h hh => by have := hs h hh; omega⟩ (fun h hh => by have := hs h hh; omega)
  rw [ready_open.1, ready_open.2] at h
  exact h
 have cH : ∀ w, Calls Tryz.prog 96 #[.string ⟨#[104]⟩, .string ⟨#[100]⟩, .agg #[.int .i64 5, .int .i64 9], .string ⟨#[118]⟩, .agg #[.int .i64 5, .string ⟨#[115]⟩, .int .i64 0, .int .i64 0]] w (fun e w' => ∃ A, e = .returned (.tuple #[.agg #[.string ⟨#[104]⟩, .string ⟨#[100]⟩, .int .i64 5, .int .i64 9, .slice A 1 1], .int .i64 0]) /\ w.grownBy w' none) := fun w => by
  have h := start_any ⟨#[104]⟩ ⟨#[100]⟩ 5 9 ⟨#[118]⟩ ⟨5, ⟨#[115]⟩, 0, 0⟩ w (by decide) (by decide) (by decide) (by decide : (⟨#[115]⟩ : ByteArray).size <= 1000000)
  rw [ready_hire] at h
  exact h.mono fun e w' ⟨A, h1, _, h3⟩ => ⟨A, h1, h3⟩
 have CD := Lib.hid cD
 have CO := Lib.hid cO
 have CH := Lib.hid cH
 clear cD cO cH
 go_enter Tryz.func23, Tryz.ntmps23
 go_wp2_with fail
 refine (CD.out _).mono ?_
 rintro e w1 ⟨rfl, hg1⟩
 go_wp2_with fail
 refine (CO.out _).mono ?_
 rintro e w2 ⟨rfl, hg2⟩
 go_wp2_with fail
 refine (bspread_nil _).mono ?_
 rintro e w3 ⟨A3, c3, rfl, hg3⟩
 go_wp2_with fail
 refine (CH.out _).mono ?_
 rintro e w4 ⟨A4, rfl, hg4⟩
 go_wp2_with fail
 go_ret
 exact ⟨rfl, grow_alloc (grow_trans (grow_trans (grow_trans hg1 hg2) hg3) hg4) _⟩
end Go.Proofs.YtempjmpfdniecaaGreatDoor
namespace Go.Proofs.YtempjmpfdniecaaGreatDoor
open Go.RowKit
set_option maxRecDepth 100000 in
theorem same_event_neq (x0 : Int) (x1 : ByteArray) (x2 : ByteArray) (x3 : Int) (x4 : ByteArray) (w : World) : (binOp .neq 45 (.agg #[.int .i64 x0, .string x1, .string x2, .int .i64 x3, .string x4]) (.agg #[.int .i64 x0, .string x1, .string x2, .int .i64 x3, .string x4])).run Tryz.prog w = .ok (.bool false) w := by
 have hS : Tryz.prog.underlying 45 = some (.struct (Tryz.prog.fieldsOf 45)) := by kernel_rfl
 have hp : Tryz.prog.stoodInHeld 45 = false := by kernel_rfl
 rw [run_neq_struct, show (10000 : Nat) = 9999 + 1 from rfl, run_equalIn_agg w 9999 45 _ _ hS hp]
 simp only [Program.fieldsOf, Tryz.underlying45]
 have u3 := Tryz.underlying3
 have u9 := Tryz.underlying9
 clear hS hp
 go_simp
theorem guard_event : Tryz.prog.eqGuardType Tryz.prog.depth 45 = false := by kernel_rfl
theorem equal_event_any (l : List Ev) (A1 A2 : Option Addr) (n c1 c2 : Nat) (w : World) (h1 : SlT evEnc 5 45 w A1 n l) (h2 : SlT evEnc 5 45 w A2 n l) (hn : n <= 1000000) :
  Calls Tryz.prog 32 #[.slice A1 n c1, .slice A2 n c2] w (fun e w' => e = .returned (.bool true) /\ w.grownBy w' none) := by
 refine gw_enter ⟨26, w, none, []⟩ Tryz.func32 rfl Tryz.ntmps32 rfl (mem0 (X := [SlOld evEnc 5 45 w.heap.size none A1 n l, SlOld evEnc 5 45 w.heap.size none A2 n l]) (allF_cons h1.old (allF_cons h2.old allF_nil)) (allL_cons SlOld.lasts (allL_cons SlOld.lasts allL_nil))) ?_
 refine sr_ ?_
 have hlen := h1.len
 refine sg_ rfl (nn_ (gw_seq (sr_ (mv_ rfl (wl_ov (ov_len es39 rfl) rfl (mv_ rfl (wl_ov (ov_len es39 rfl) rfl (wl_ov (ov_neq rfl rfl) rfl ?_))))))))
 refine wl_set 10 (v' := .bool false) rfl (congrArg Value.bool (by simp)) ?_
 refine nn_ (cf_ rfl (gw_skip (nx_then (gw_seq (sr_ (mv_ rfl (wl_ov (ov_len es39 rfl) rfl (mv_ rfl (nn_ (gw_block ?_))))))))))
 refine gw_loop (γ := Nat) (fun (k : Nat) => k <= n) (fun (k : Nat) => [(0, .slice A1 n c1), (1, .slice A2 n c2), (12, .int .i64 ((n : Nat) : Int)), (13, .int .i64 ((k : Nat) : Int))]) (fun (k : Nat) => fun _ => True) (fun (k : Nat) => []) (fun (k : Nat) => []) (fun (k : Nat) => [SlOld evEnc 5 45 w.heap.size none A1 n l, SlOld evEnc 5 45 w.heap.size none A2 n l]) (fun (k : Nat) => n - k) 0 (Nat.zero_le _) ⟨rfl, rfl, rfl, rfl, trivial⟩ (fun _ hm => hm.pick [] [] [0, 1] rfl rfl) ?_
 intro k hinv
 replace hinv : k <= n := hinv
 refine sr_ (wl_ov (ov_lss rfl rfl) rfl (nn_ (gw_seq ?_)))
 refine gw_cond rfl (fun hh => ?_) (fun hh => ?_)
 ·have hk : ((k : Nat) : Int) < ((n : Nat) : Int) := by simpa using hh
  clear hh
  refine gw_skip (nx_then (gw_seq (gw_block (sr_ ?_))))
  obtain ⟨b1, o1, hA, _, _⟩ := h1.get (by omega)
  subst hA
  obtain ⟨b2, o2, hA, _, _⟩ := h2.get (by omega)
  subst hA
  obtain ⟨x, hx⟩ : ∃ x, l[k]? = some x := ⟨_, List.getElem?_eq_getElem (by omega)⟩
  obtain ⟨x0, x1, x2, x3, x4⟩ := x
  refine mv_ rfl (sg_ rfl (nn_ (gw_seq ?_)))
  refine gd (fun wz => (SlOld evEnc 5 45 w.heap.size none (some ⟨b1, o1, none⟩) n l) wz /\ (SlOld evEnc 5 45 w.heap.size none (some ⟨b2, o2, none⟩) n l) wz /\ True) mixed (fun _ hm => ⟨hm.fa 0, hm.fa 1, trivial⟩) fun z => ?_
  refine wt 0 9 1 rfl z (ov_move rfl) ?_
  refine wt 1 9 3 rfl z (ov_move rfl) ?_
  refine wt 2 9 7 rfl z (ov_index (j := k) es39 rfl rfl (by omega)) ?_
  refine wt 3 9 15 rfl z (ov_elem (vs := [.int .i64 x0, .string x1, .string x2, .int .i64 x3, .string x4]) rz45 rfl (fun _ hm => (hm.1).1) hx rfl rfl) ?_
  refine wt 4 9 31 rfl z (ov_move rfl) ?_
  refine wt 5 9 63 rfl z (ov_move rfl) ?_
  refine wt 6 9 127 rfl z (ov_index (j := k) es39 rfl rfl (by omega)) ?_
  refine wt 7 9 255 rfl z (ov_elem (vs := [.int .i64 x0, .string x1, .string x2, .int .i64 x3, .string x4]) rz45 rfl (fun _ hm => (hm.2.1).1) hx rfl rfl) ?_
  refine wt 8 9 511 rfl z (ov_bin rfl rfl (cmp_agg guard_event (fun wx => same_event_neq x0 x1 x2 x3 x4 wx))) ?_
  refine wa_done (by kernel_rfl) ?_
  refine nx_then (cf_ rfl (gw_skip (nx_blk_nrm (nx_then (gw_region (ad_ rfl rfl (mv_ rfl (wl_nil ?_))))))))
  exact nx_round (k + 1) (by omega) (by omega) ⟨rfl, rfl, rfl, (some_int (by omega)), trivial⟩ (fun _ hm => hm.pick [] [] [0, 1] rfl rfl)
 have hk : ¬ (((k : Nat) : Int) < ((n : Nat) : Int)) := by simpa using hh
 clear hh
 refine gw_exit ?_
 refine nx_then_exit (nx_then_exit ?_)
 refine nx_blk_here ?_
 refine nx_then (sr_ (sg_ rfl (nn_ ?_)))
 refine gw_ret ?_
 refine nx_ret1 rfl rfl fun wx hm => ?_
 exact ⟨rfl, hm.g⟩
theorem fleetsComeBack_walk (a0 : Option Addr) (len0 cap0 : Nat) (z0 : List Int) (w : World) (hR : RowIn w a0 len0 cap0 z0) (htx : TxtW w) :
  Calls Tryz.prog 4 #[.slice a0 len0 cap0] w fun e w' => e = .returned (.bool true) /\ Below w.heap.size w w' := by
 refine gw_enter ⟨98, w, none, []⟩ Tryz.func4 rfl Tryz.ntmps4 rfl (mem0 (X := []) allF_nil allL_nil) ?_
 refine sr_ (sg_ rfl (nn_ (sr_ (mv_ rfl ?_))))
 refine wl_ov (ov_build (cs := [.slice a0 len0 cap0, .int .i64 0]) rfl (by kernel_rfl)) rfl ?_
 refine wl_box rfl rfl rfl fun sb => ?_
 refine sg_ rfl (nn_ (sr_ (mv_ rfl ?_)))
 refine wl_law [152, 158, 160, 162, 45] hR 0 rfl fun w1 B hg1 hsb => ?_
 refine wl_also (Y := TxtO w1.heap.size (some sb)) (TxtO.lasts) (fun wx hm => txt_law htx hg1 hsb hm.g) ?_
 refine wl_calls (γ := Option Addr × Option Addr × Option Addr × Option Addr × Nat × Nat × Nat × Nat × Nat × Nat × Nat × List St × List Cs × List Vh × List Pl) (val := (fun g => .agg #[.slice g.1 g.2.2.2.2.1 g.2.2.2.2.2.1, .slice g.2.1 4 g.2.2.2.2.2.2.1, .slice g.2.2.1 g.2.2.2.2.2.2.2.1 g.2.2.2.2.2.2.2.2.1, .slice g.2.2.2.1 g.2.2.2.2.2.2.2.2.2.1 g.2.2.2.2.2.2.2.2.2.2.1])) (φ := (fun g => (RfOk g.2.2.2.2.2.2.2.2.2.2.2.1 g.2.2.2.2.2.2.2.2.2.2.2.2.1 g.2.2.2.2.2.2.2.2.2.2.2.2.2.1 g.2.2.2.2.2.2.2.2.2.2.2.2.2.2 g.2.2.2.2.1 g.2.2.2.2.2.2.2.1 g.2.2.2.2.2.2.2.2.2.1 /\ fleetE g.2.2.2.2.2.2.2.2.2.2.2.1 g.2.2.2.2.2.2.2.2.2.2.2.2.1 g.2.2.2.2.2.2.2.2.2.2.2.2.2.1 g.2.2.2.2.2.2.2.2.2.2.2.2.2.2 = 0) /\ g.2.2.2.2.2.2.2.2.2.1 <= g.2.2.2.2.2.2.2.2.2.2.1)) (Y := (fun g => fun wy => SlT stEnc 15 152 wy g.1 g.2.2.2.2.1 g.2.2.2.2.2.2.2.2.2.2.2.1 /\ SlT csEnc 2 158 wy g.2.1 4 g.2.2.2.2.2.2.2.2.2.2.2.2.1 /\ SlT vhEnc 2 160 wy g.2.2.1 g.2.2.2.2.2.2.2.1 g.2.2.2.2.2.2.2.2.2.2.2.2.2.1 /\ SlT plEnc 3 162 wy g.2.2.2.1 g.2.2.2.2.2.2.2.2.2.1 g.2.2.2.2.2.2.2.2.2.2.2.2.2.2)) (m' := 0 + 300) rfl cb24 rfl rfl rfl rfl (fun wx hm => (rightFleet_anyF wx B sb _ hm.k (by omega)).mono fun _ _ ⟨sA, cA, vA, pA, sn, sc, cc, vn, vc, pn, pc, sl, cl, vl, pl, he, ⟨hok, hz⟩, hS, hg, ho1, ho2, ho3, hc⟩ => ⟨(sA, cA, vA, pA, sn, sc, cc, vn, vc, pn, pc, sl, cl, vl, pl), he, ⟨⟨hok, hz⟩, own_cap ho3⟩, hS, hg, SlT.ofOwnL stEnc_lenL (fun x hx => stB_ok (hok.1.2.1 x hx)) ho1 hok.1.1, hc, SlT.ofOwn vh_len ho2 hok.2.2.1.1, SlT.ofOwn pl_len ho3 hok.2.2.2.1⟩) (fun _ => (SlT.lasts2 rfl).and_ ((SlT.lasts2 rfl).and_ ((SlT.lasts2 rfl).and_ (SlT.lasts2 rfl)))) ?_
 rintro ⟨sA, cA, vA, pA, sn, sc, cc, vn, vc, pn, pc, sl, cl, vl, pl⟩ hfl
 dsimp only at hfl ⊢
 obtain ⟨⟨⟨⟨hsl, hsB, hs1, hs3⟩, ⟨hcl4, hcok⟩, ⟨hvl, hvB, hvn4⟩, hpl, hpB, hpn5⟩, h0⟩, hpnc⟩ := hfl
 have hsok : ∀ x ∈ sl, StOk x := fun x hx => stB_ok (hsB x hx)
 have hvok : ∀ x ∈ vl, VhOk x := fun x hx => vhB_ok (hvB x hx)
 have hpok : ∀ x ∈ pl, PlOk x := fun x hx => plB_ok (hpB x hx)
 obtain ⟨hfb, hfc, hfd⟩ := fl_len (sl := sl) (cl := cl) (vl := vl) (pl := pl) (ftB_of h0) hsok
 have hmk := mkB_sz (flD sl cl vl pl)
 obtain ⟨hB1, la, hB2⟩ := fl_back h0 hsok (by omega)
 refine wl_alloc zc62 rfl fun g1 => ?_
 refine wl_stores (cs' := [.slice sA sn sc, .slice cA 4 cc, .slice vA vn vc, .slice pA pn pc]) 0 rz62 rfl rfl rfl rfl rfl rfl rfl rfl ?_
 refine nn_ (gw_seq ?_)
 refine gd (fun wz => Blk wz g1 62 [.slice sA sn sc, .slice cA 4 cc, .slice vA vn vc, .slice pA pn pc] /\ (fun wy => SlT stEnc 15 152 wy sA sn sl /\ SlT csEnc 2 158 wy cA 4 cl /\ SlT vhEnc 2 160 wy vA vn vl /\ SlT plEnc 3 162 wy pA pn pl) wz /\ (TxtO w1.heap.size (some sb)) wz /\ True) mixed (fun _ hm => ⟨hm.bl 0, hm.fa 0, hm.fa 1, trivial⟩) fun z => ?_
 refine wt 0 6 1 rfl z (ov_move rfl) ?_
 refine wt 1 6 3 rfl z (ov_loads rz62 rfl (fun _ hm => hm.1) rfl rfl) ?_
 refine wt 2 6 7 rfl z (ov_move rfl) ?_
 refine wa1 3 rfl ?_
 refine wl_got (γ := Int) (val := fun v => .int .i64 v) (φ := fun v => 0 <= v /\ (v <= 8 ∨ v = 0)) rfl cb26 rfl rfl rfl rfl (fun wx hm => (range_any _ _ wx B sb _ hm.k (by omega) (by omega) (by omega) (by omega) (by omega))) fun v2 hv2 => ?_
 obtain ⟨q, hq⟩ := Int.eq_ofNat_of_zero_le (show 0 <= v2 by omega)
 have hq8 : q <= 8 := by omega
 subst hq
 refine wl_nil ?_
 refine nw 6 15 (fun _ hm => ⟨hm.bl 0, hm.fa 0, hm.fa 1, trivial⟩) fun z => ?_
 refine wa1 4 rfl ?_
 refine wl_calls (γ := Option Addr × Nat × Nat × List Ev) (val := (fun g => .slice g.1 g.2.1 g.2.2.1)) (φ := (fun g => g.2.2.2.length = g.2.1 /\ (∀ x ∈ g.2.2.2, EvOk x) /\ g.2.1 <= q)) (Y := (fun g => fun wy => SlT evEnc 5 45 wy g.1 g.2.1 g.2.2.2)) (m' := 0 + 300 + 1 + (20 * q + 20)) rfl cb25 rfl rfl rfl rfl (fun wx hm => (glog_any sl vl sA cA vA pA sn sc 4 cc vn vc pn pc q wx B sb _ hm.k (by omega) (hm.fact 0 rfl).1 (hm.fact 0 rfl).2.2.1 hsok hvok (by omega) (by omega) (by omega)).mono fun _ _ ⟨A, n, c, l, he, ho, hl, hok, hn, hS, hg⟩ => ⟨(A, n, c, l), he, ⟨hl, hok, hn⟩, hS, hg, SlT.ofOwn ev_len ho hl⟩) (fun _ => SlT.lasts2 rfl) ?_
 rintro ⟨eA, en, ec, el⟩ hel
 dsimp only at hel ⊢
 obtain ⟨hell, heok, henq⟩ := hel
 obtain ⟨FE, hFE⟩ : ∃ z, z = evsE sl cl vl pl el := ⟨_, rfl⟩
 refine wl_nil ?_
 refine nw 6 31 (fun _ hm => ⟨hm.bl 0, hm.fa 1, hm.fa 2, trivial⟩) fun z => ?_
 refine wt 5 6 63 rfl z (ov_assign rfl) ?_
 refine wa_done (by kernel_rfl) ?_
 refine nx_then (sr_ ?_)
 refine wl_ov (ov_loads rz62 rfl (fun _ hm => hm.blkI 0 rfl) rfl rfl) rfl ?_
 refine wl_callv rfl cb27 rfl rfl (fun wx hm => (fText_right sl cl vl pl sA cA vA pA sn sc 4 cc vn vc pn pc wx (hm.fact 1 rfl).1 (hm.fact 1 rfl).2.1 (hm.fact 1 rfl).2.2.1 (hm.fact 1 rfl).2.2.2 hsok hcok hvok hpok (by omega) (by omega) (by omega) (by omega) (hm.fact 2 rfl).1 h0 (by omega) (by omega))) ?_
 refine mv_ rfl (wl_ov (ov_extract rfl rfl) rfl (wl_ov (ov_extract rfl rfl) rfl (sg_ rfl (sg_ rfl (nn_ (sr_ (mv_ rfl ?_)))))))
 refine wl_callx (γ := Option Addr × Option Addr × Option Addr × Option Addr × Nat × Nat × Nat × Nat × Nat × Nat × Nat × Nat) (val := (fun g => .tuple #[.agg #[.slice g.1 g.2.2.2.2.1 g.2.2.2.2.2.2.2.2.1, .slice g.2.1 g.2.2.2.2.2.1 g.2.2.2.2.2.2.2.2.2.1, .slice g.2.2.1 g.2.2.2.2.2.2.1 g.2.2.2.2.2.2.2.2.2.2.1, .slice g.2.2.2.1 g.2.2.2.2.2.2.2.1 g.2.2.2.2.2.2.2.2.2.2.2], .int .i64 (flAt (mkB (flD sl cl vl pl))), .int .i64 0])) (φ := (fun g => sn = g.2.2.2.2.1 /\ 4 = g.2.2.2.2.2.1 /\ vn = g.2.2.2.2.2.2.1 /\ pn = g.2.2.2.2.2.2.2.1)) (Y := (fun g => fun wy => SlT stEnc 15 152 wy g.1 g.2.2.2.2.1 (sl) /\ SlT csEnc 2 158 wy g.2.1 g.2.2.2.2.2.1 (cl) /\ SlT vhEnc 2 160 wy g.2.2.1 g.2.2.2.2.2.2.1 (vl) /\ SlT plEnc 3 162 wy g.2.2.2.1 g.2.2.2.2.2.2.2.1 (pl))) rfl cb28 rfl rfl (fun wx hm => (fRead_w (mkB (flD sl cl vl pl)) wx (hm.fact 2 rfl).1 (by omega)).mono fun _ _ h => by
  obtain ⟨A1, A2, A3, A4, n1, n2, n3, n4, c1, c2, c3, c4, he, hs, hg⟩ := h
  rw [hB1] at he
  rw [hB2] at hs
  exact ⟨(A1, A2, A3, A4, n1, n2, n3, n4, c1, c2, c3, c4), he, ⟨hsl.symm.trans hs.1.len, hcl4.symm.trans hs.2.1.len, hvl.symm.trans hs.2.2.1.len, hpl.symm.trans hs.2.2.2.len⟩, hg, hs⟩) (fun _ => (SlT.lasts2 rfl).and_ ((SlT.lasts2 rfl).and_ ((SlT.lasts2 rfl).and_ (SlT.lasts2 rfl)))) ?_
 rintro ⟨A0, A1, A2, A3, a_n0, a_n1, a_n2, a_n3, a_c0, a_c1, a_c2, a_c3⟩ hkA
 dsimp only at hkA ⊢
 obtain ⟨h1A, h2A, h3A, h4A⟩ := hkA
 subst h1A
 subst h2A
 subst h3A
 subst h4A
 refine mv_ rfl (wl_ov (ov_extract rfl rfl) rfl (wl_ov (ov_extract rfl rfl) rfl (wl_ov (ov_extract rfl rfl) rfl ?_)))
 refine wl_alloc zc62 rfl fun g3 => ?_
 refine wl_stores (cs' := [.slice A0 sn a_c0, .slice A1 4 a_c1, .slice A2 vn a_c2, .slice A3 pn a_c3]) 0 rz62 rfl rfl rfl rfl rfl rfl rfl rfl ?_
 refine sg_ rfl (sg_ rfl (nn_ (gw_seq (sr_ (mv_ rfl (wl_ov (ov_neq rfl rfl) rfl ?_))))))
 refine wl_set 38 (v' := .bool false) rfl (congrArg Value.bool (by decide)) ?_
 refine mv_ rfl (wl_guard_on rfl rfl rfl (mv_ rfl (wl_guard_on rfl rfl rfl (wl_ov (ov_neq rfl rfl) rfl ?_))))
 refine wl_set 41 (v' := .bool false) rfl (congrArg Value.bool (by decide)) ?_
 refine pf_ rfl rfl (mv_ rfl (wl_guard_on rfl rfl rfl ?_))
 refine wl_ov (ov_loads rz62 rfl (fun _ hm => hm.blkI 0 rfl) rfl rfl) rfl ?_
 refine wl_guard_on rfl rfl rfl ?_
 refine wl_ov (ov_loads rz62 rfl (fun _ hm => hm.blkI 1 rfl) rfl rfl) rfl ?_
 refine wl_guard_on rfl rfl rfl ?_
 refine wl_callv rfl cb29 rfl rfl (fun wx hm => (sameFleet_any sl cl vl pl A0 A1 A2 A3 sA cA vA pA sn 4 vn pn a_c0 a_c1 a_c2 a_c3 sc cc vc pc wx (hm.fact 0 rfl).1 (hm.fact 0 rfl).2.1 (hm.fact 0 rfl).2.2.1 (hm.fact 0 rfl).2.2.2 (hm.fact 2 rfl).1 (hm.fact 2 rfl).2.1 (hm.fact 2 rfl).2.2.1 (hm.fact 2 rfl).2.2.2 hsok (by omega) (by omega) (by omega) (by omega))) ?_
 refine wl_guard_on rfl rfl rfl (wl_ov (ov_un_not rfl) rfl ?_)
 refine wl_set 47 (v' := .bool false) rfl (congrArg Value.bool (by decide)) ?_
 refine pf_ rfl rfl (nn_ (cf_ rfl (gw_skip (nx_then ?_))))
 refine gw_cut (γ := Unit) (I := (fun (uu : Unit) => True)) (S' := (fun (uu : Unit) => [(3, .pointer (some ⟨sb, 0, none⟩)), (4, .pointer (some ⟨g1, 0, none⟩))])) (K' := (fun (uu : Unit) => fun w => Strm 25 w B sb (0 + 300 + 1 + (20 * q + 20)))) (L' := (fun (uu : Unit) => [(g1, 62, [.slice sA sn sc, .slice cA 4 cc, .slice vA vn vc, .slice pA pn pc])])) (O' := (fun (uu : Unit) => [])) (X' := (fun (uu : Unit) => [TxtO w1.heap.size (some sb)])) ?_ ?_
 ·refine sr_ ?_
  refine wl_ov (ov_loads rz62 rfl (fun _ hm => hm.blkI 1 rfl) rfl rfl) rfl ?_
  refine mv_ rfl ?_
  obtain ⟨TX, hTX⟩ : ∃ z, z = (if FE = 0 then lgTx el else (⟨#[]⟩ : ByteArray)) := ⟨_, rfl⟩
  refine wl_callv (v := .tuple #[.string TX, .int .i64 FE]) rfl cb30 rfl rfl (fun wx hm => (by exact if hFE0 : FE = 0 then (by rw [hTX, if_pos hFE0, hFE0]; exact lgText_right sl cl vl pl sA cA vA pA sn sc 4 cc vn vc pn pc el eA en ec wx (hm.fact 2 rfl).1 (hm.fact 2 rfl).2.1 (hm.fact 2 rfl).2.2.1 (hm.fact 2 rfl).2.2.2 hsok hcok hvok hpok (by omega) (by omega) (by omega) (by omega) (hm.fact 1 rfl) heok (by omega) (hm.fact 3 rfl).1 (hFE.symm.trans hFE0)) else (by rw [hTX, if_neg hFE0]; have h := lgText_bad sl cl vl pl sA cA vA pA sn sc 4 cc vn vc pn pc el eA en ec wx (hm.fact 2 rfl).1 (hm.fact 2 rfl).2.1 (hm.fact 2 rfl).2.2.1 (hm.fact 2 rfl).2.2.2 hsok hcok hvok hpok (by omega) (by omega) (by omega) (by omega) (hm.fact 1 rfl) heok (by omega) (by rw [<- hFE]; exact hFE0); rw [<- hFE] at h; exact h))) ?_
  refine mv_ rfl (wl_ov (ov_extract rfl rfl) rfl (wl_ov (ov_extract rfl rfl) rfl (sg_ rfl (sg_ rfl (nn_ (sr_ (mv_ rfl (wl_ov (ov_eql rfl rfl) rfl (nn_ ?_)))))))))
  refine gw_cond rfl (fun hh => ?_) (fun hh => ?_)
  ·have hFE0 : FE = 0 := by simpa using hh
   clear hh
   refine sr_ ?_
   subst hFE0
   rw [if_pos rfl] at hTX
   subst hTX
   obtain ⟨hf0, hl0⟩ := evs_ok hFE.symm
   have hB := evB_of hFE.symm
   have hts := lgTx_sz hB
   obtain ⟨hL1, hL2⟩ := lg_back hFE.symm (by omega)
   refine wl_ov (ov_loads rz62 rfl (fun _ hm => hm.blkI 1 rfl) rfl rfl) rfl ?_
   refine mv_ rfl ?_
   refine wl_callx (γ := Option Addr × Nat × Nat) (val := (fun g => .tuple #[.slice g.1 g.2.1 g.2.2, .int .i64 (lgAt (lgTx el)), .int .i64 0])) (φ := (fun g => g.2.1 = el.length)) (Y := (fun g => fun wy => SlT evEnc 5 45 wy g.1 g.2.1 el)) rfl cb31 rfl rfl (fun wx hm => (lgRead_right sl cl vl pl sA cA vA pA sn sc 4 cc vn vc pn pc (lgTx el) wx (hm.fact 2 rfl).1 (hm.fact 2 rfl).2.1 (hm.fact 2 rfl).2.2.1 (hm.fact 2 rfl).2.2.2 hsok hcok hvok hpok (by omega) (by omega) (by omega) (by omega) (hm.fact 3 rfl).1 (by omega) hf0).mono fun _ _ ⟨A, n, c, he, hsl, hg⟩ => by
    rw [hL1] at he
    rw [hL2] at hsl
    exact ⟨(A, n, c), he, hsl.len.symm, hg, hsl⟩) (fun _ => SlT.lasts2 rfl) ?_
   rintro ⟨yA, yn, yc⟩ hyn
   dsimp only at hyn ⊢
   subst hyn
   subst hell
   refine mv_ rfl (wl_ov (ov_extract rfl rfl) rfl (wl_ov (ov_extract rfl rfl) rfl (wl_ov (ov_extract rfl rfl) rfl (sg_ rfl (sg_ rfl (sg_ rfl (nn_ (sr_ (mv_ rfl (wl_ov (ov_neq rfl rfl) rfl ?_))))))))))
   refine wl_set 65 (v' := .bool false) rfl (congrArg Value.bool (by decide)) ?_
   refine mv_ rfl (wl_guard_on rfl rfl rfl (mv_ rfl (wl_guard_on rfl rfl rfl (mv_ rfl (wl_guard_on rfl rfl rfl ?_)))))
   refine wl_callv rfl cb32 rfl rfl (fun wx hm => (equal_event_any el eA yA _ ec yc wx (hm.fact 2 rfl) (hm.fact 0 rfl) (by omega))) ?_
   refine wl_guard_on rfl rfl rfl (wl_ov (ov_un_not rfl) rfl ?_)
   refine wl_set 70 (v' := .bool false) rfl (congrArg Value.bool (by decide)) ?_
   refine pf_ rfl rfl (nn_ (cf_ rfl (gw_skip ?_)))
   exact nx_meet () trivial ⟨rfl, rfl, trivial⟩ (fun _ hm => hm.pick [1] [] [4] rfl rfl)
  have hFE0 : ¬ (FE = 0) := by simpa using hh
  clear hh
  refine gw_skip ?_
  exact nx_meet () trivial ⟨rfl, rfl, trivial⟩ (fun _ hm => hm.pick [1] [] [3] rfl rfl)
 intro uu hinv
 replace hinv : True := hinv
 refine sr_ (mv_ rfl ?_)
 refine wl_calls (γ := ByteArray) (val := (fun g => .string g)) (φ := (fun g => g.size <= 30000)) (Y := (fun g => fun _ => True)) (m' := 0 + 300 + 1 + (20 * q + 20) + 1000) rfl cb33 rfl rfl rfl rfl (fun wx hm => (ftGen_any wx B sb _ hm.k (by omega) ((hm.fact 0 rfl).heap)).mono fun _ _ ⟨u, he, hu, hS, hg⟩ => ⟨u, he, hu, hS, hg, trivial⟩) (fun _ => Lasts2.true_) ?_
 rintro u hu
 obtain ⟨hQ, hMs⟩ := flF_all (t := u) (by omega)
 have hml : (flF u).sl.length + (flF u).cl.length + (flF u).vl.length + (flF u).pl.length <= u.size := hMs
 obtain ⟨F2, hF2⟩ : ∃ z, z = flE u := ⟨_, rfl⟩
 refine sg_ rfl (nn_ (gw_seq (sr_ (mv_ rfl ?_))))
 refine wl_callx (γ := Option Addr × Option Addr × Option Addr × Option Addr × Nat × Nat × Nat × Nat × Nat × Nat × Nat × Nat) (val := (fun g => .tuple #[.agg #[.slice g.1 g.2.2.2.2.1 g.2.2.2.2.2.2.2.2.1, .slice g.2.1 g.2.2.2.2.2.1 g.2.2.2.2.2.2.2.2.2.1, .slice g.2.2.1 g.2.2.2.2.2.2.1 g.2.2.2.2.2.2.2.2.2.2.1, .slice g.2.2.2.1 g.2.2.2.2.2.2.2.1 g.2.2.2.2.2.2.2.2.2.2.2], .int .i64 (flAt (u)), .int .i64 F2])) (φ := (fun g => ((flF u).sl).length = g.2.2.2.2.1 /\ ((flF u).cl).length = g.2.2.2.2.2.1 /\ ((flF u).vl).length = g.2.2.2.2.2.2.1 /\ ((flF u).pl).length = g.2.2.2.2.2.2.2.1)) (Y := (fun g => fun wy => SlT stEnc 15 152 wy g.1 g.2.2.2.2.1 ((flF u).sl) /\ SlT csEnc 2 158 wy g.2.1 g.2.2.2.2.2.1 ((flF u).cl) /\ SlT vhEnc 2 160 wy g.2.2.1 g.2.2.2.2.2.2.1 ((flF u).vl) /\ SlT plEnc 3 162 wy g.2.2.2.1 g.2.2.2.2.2.2.2.1 ((flF u).pl))) rfl cb28 rfl rfl (fun wx hm => (fRead_w (u) wx (hm.fact 1 rfl).1 (by omega)).mono fun _ _ h => by
  obtain ⟨A1, A2, A3, A4, n1, n2, n3, n4, c1, c2, c3, c4, he, hs, hg⟩ := h
  rw [<- hF2] at he
  exact ⟨(A1, A2, A3, A4, n1, n2, n3, n4, c1, c2, c3, c4), he, ⟨hs.1.len, hs.2.1.len, hs.2.2.1.len, hs.2.2.2.len⟩, hg, hs⟩) (fun _ => (SlT.lasts2 rfl).and_ ((SlT.lasts2 rfl).and_ ((SlT.lasts2 rfl).and_ (SlT.lasts2 rfl)))) ?_
 rintro ⟨B0, B1, B2, B3, b_n0, b_n1, b_n2, b_n3, b_c0, b_c1, b_c2, b_c3⟩ hkB
 dsimp only at hkB ⊢
 obtain ⟨h1B, h2B, h3B, h4B⟩ := hkB
 subst h1B
 subst h2B
 subst h3B
 subst h4B
 by_cases hF20 : F2 = 0
 ·subst hF20
  obtain ⟨hA1, hA2⟩ := fl_again hF2.symm
  replace hA2 : fleetE (flF u).sl (flF u).cl (flF u).vl (flF u).pl = 0 := hA2
  have hmu := mkB_sz (flD (flF u).sl (flF u).cl (flF u).vl (flF u).pl)
  rw [hA1] at hmu
  refine mv_ rfl (wl_ov (ov_extract rfl rfl) rfl (wl_ov (ov_extract rfl rfl) rfl (wl_ov (ov_extract rfl rfl) rfl ?_)))
  refine wl_stores (cs' := [.slice B0 (((flF u).sl).length) b_c0, .slice B1 (((flF u).cl).length) b_c1, .slice B2 (((flF u).vl).length) b_c2, .slice B3 (((flF u).pl).length) b_c3]) 0 rz62 rfl rfl rfl rfl rfl rfl rfl rfl ?_
  refine sg_ rfl (nn_ (sr_ (mv_ rfl (wl_ov (ov_eql rfl rfl) rfl ?_))))
  refine wl_set 81 (v' := .bool true) rfl (congrArg Value.bool (by decide)) ?_
  refine nn_ (ct_ rfl (sr_ ?_))
  refine wl_ov (ov_loads rz62 rfl (fun _ hm => hm.blkI 0 rfl) rfl rfl) rfl ?_
  refine wl_callv (v := .tuple #[.string u, .int .i64 0]) rfl cb27 rfl rfl (fun wx hm => (by have h := fText_right (flF u).sl (flF u).cl (flF u).vl (flF u).pl B0 B1 B2 B3 _ b_c0 _ b_c1 _ b_c2 _ b_c3 wx (hm.fact 0 rfl).1 (hm.fact 0 rfl).2.1 (hm.fact 0 rfl).2.2.1 (hm.fact 0 rfl).2.2.2 hQ.1 hQ.2.1 hQ.2.2.1 hQ.2.2.2 (by omega) (by omega) (by omega) (by omega) (hm.fact 2 rfl).1 hA2 (by omega) (by omega); rw [hA1] at h; exact h)) ?_
  refine mv_ rfl (wl_ov (ov_extract rfl rfl) rfl (wl_ov (ov_extract rfl rfl) rfl (sg_ rfl (sg_ rfl (nn_ (sr_ (mv_ rfl (wl_ov (ov_eql rfl rfl) rfl ?_))))))))
  refine wl_set 88 (v' := .bool true) rfl (congrArg Value.bool (by decide)) ?_
  refine mv_ rfl (wl_guard_on rfl rfl rfl (mv_ rfl (wl_guard_on rfl rfl rfl (mv_ rfl (wl_guard_on rfl rfl rfl (wl_ov (ov_seql rfl rfl) rfl ?_))))))
  refine wl_set 92 (v' := .bool true) rfl (congrArg Value.bool (beq_self_eq_true _)) ?_
  refine pt_ rfl rfl (mv_ rfl (wl_guard_on rfl rfl rfl ?_))
  refine wl_callv rfl cb23 rfl rfl (fun wx hm => (ready_any wx)) ?_
  refine pt_ rfl rfl (sg_ rfl (nn_ ?_))
  refine gw_ret ?_
  refine nx_then_ret ?_
  refine nx_ret1 rfl rfl fun wx hm => ?_
  exact ⟨rfl, law_end hg1 hsb hm.g⟩
 refine mv_ rfl (wl_ov (ov_extract rfl rfl) rfl (wl_ov (ov_extract rfl rfl) rfl (wl_ov (ov_extract rfl rfl) rfl ?_)))
 refine wl_stores (cs' := [.slice B0 (((flF u).sl).length) b_c0, .slice B1 (((flF u).cl).length) b_c1, .slice B2 (((flF u).vl).length) b_c2, .slice B3 (((flF u).pl).length) b_c3]) 0 rz62 rfl rfl rfl rfl rfl rfl rfl rfl ?_
 refine sg_ rfl (nn_ (sr_ (mv_ rfl (wl_ov (ov_eql rfl rfl) rfl (nn_ ?_)))))
 refine gw_set 81 (v' := .bool false) rfl (congrArg Value.bool (decide_eq_false hF20)) ?_
 refine cf_ rfl (gw_skip (nx_then (sr_ ?_)))
 refine wl_callv rfl cb23 rfl rfl (fun wx hm => (ready_any wx)) ?_
 refine sg_ rfl (nn_ ?_)
 refine gw_ret ?_
 refine nx_ret1 rfl rfl fun wx hm => ?_
 exact ⟨rfl, law_end hg1 hsb hm.g⟩
theorem fleetsComeBack_law {l : List (String × DataW Unit)} (y1 y2 : List UInt8) (a0 : Option Addr) (len0 cap0 : Nat) (z0 : List Int) (W : World) (hR : RowIn W a0 len0 cap0 z0) (hL : laidMet Tryz.prog l W) (hS : W.ShapedOpen Tryz.prog)
  (h1 : l.filter (fun x => x.1 == "internal/strconv.uint64pow10") = [("internal/strconv.uint64pow10", Lib.tabData .u64 Lib.pow10Tab)])
  (h2 : l.filter (fun x => x.1 == "strconv.ErrSyntax") = [("strconv.ErrSyntax", .iface "*errors.errorString" (.ptr (.agg [.lit (.string y1)])))])
  (h3 : l.filter (fun x => x.1 == "strconv.ErrRange") = [("strconv.ErrRange", .iface "*errors.errorString" (.ptr (.agg [.lit (.string y2)])))]) :
  Calls Tryz.prog 4 #[.slice a0 len0 cap0] W fun e w' => e = .returned (.bool true) /\ Below W.heap.size W w' :=
 fleetsComeBack_walk a0 len0 cap0 z0 W hR (txtW_of y1 y2 hL hS h1 h2 h3)
end Go.Proofs.YtempjmpfdniecaaGreatDoor
